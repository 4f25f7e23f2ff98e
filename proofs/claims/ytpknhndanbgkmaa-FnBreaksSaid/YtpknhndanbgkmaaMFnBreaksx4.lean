-- Written by this session's own program (wip/gen/myprint.py).
import Derived.Test.YtpknhndanbgkmaaMFnBreaksx0
import Derived.Test.YtpknhndanbgkmaaMFnBreaksx1
import Derived.Test.YtpknhndanbgkmaaMFnBreaksx2
import Derived.Test.YtpknhndanbgkmaaMFnBreaksx3
namespace Go.Proofs.Ytpknhndanbgkmaa.MFnBreaks
open Go.RowKit Go.Proofs.YtpknhndanbgkmaaW.PrintWords Go.Proofs.YtpknhndanbgkmaaW.PrintLast Go.Proofs.YtpknhndanbgkmaaW.PrintMore
attribute [local go_sem] max2_int min2_int max_two min_two max_three min_three max_four min_four   -- for this text's walks alone
set_option linter.unusedVariables false
set_option linter.unusedSimpArgs false

/-! ### impl_Breaks: function 22, by hand -/
def rul (a b : Int) : Int := (impl_ruled.f 8 a b).getD 0
theorem rul_all : ∀ a b : Fin 13, impl_ruled.f 8 (a.val : Int) (b.val : Int) = some (rul a.val b.val) := by decide +kernel
theorem rul_eq (a b : Nat) (ha : a < 13) (hb : b < 13) : impl_ruled.f 8 (a : Int) (b : Int) = some (rul a b) := rul_all ⟨a, ha⟩ ⟨b, hb⟩
def tblL : List Int := (List.range 169).map (fun i => rul ((i / 13 : Nat) : Int) ((i % 13 : Nat) : Int))
def tarr (k : Nat) : Array Value := ((tblL.take k ++ List.replicate (169 - k) 0).map (Value.int .i64)).toArray
theorem tarr_size (k : Nat) (h : k ≤ 169) : (tarr k).size = 169 := by
  simp [tarr, tblL]; omega
theorem tarr_at (k i : Nat) (h : k ≤ 169 ∧ i < 169) : (tarr k)[i]? = some ((tarr k)[i]'(by rw [tarr_size k h.1]; exact h.2)) := Array.getElem?_eq_getElem _
theorem tarr_step (k : Nat) (h : k < 169) : (tarr k).setIfInBounds k (.int .i64 (rul ((k / 13 : Nat) : Int) ((k % 13 : Nat) : Int))) = tarr (k + 1) := by
  apply Array.ext
  · rw [Array.size_setIfInBounds, tarr_size k (by omega), tarr_size (k + 1) (by omega)]
  intro i h1 h2
  rw [Array.size_setIfInBounds, tarr_size k (by omega)] at h1
  rw [Array.getElem_setIfInBounds (by rw [tarr_size k (by omega)]; exact h1)]
  have hl : tblL.length = 169 := by simp [tblL]
  simp only [tarr, List.getElem_toArray, List.getElem_map]
  by_cases c : k = i
  · subst c
    rw [if_pos rfl]
    refine congrArg _ ?_
    rw [List.getElem_append_left (by rw [List.length_take]; omega), List.getElem_take]
    simp [tblL]
  · rw [if_neg c]
    refine congrArg _ ?_
    by_cases d : i < k
    · rw [List.getElem_append_left (by rw [List.length_take]; omega), List.getElem_append_left (by rw [List.length_take]; omega), List.getElem_take, List.getElem_take]
    · rw [List.getElem_append_right (by rw [List.length_take]; omega), List.getElem_append_right (by rw [List.length_take]; omega), List.getElem_replicate, List.getElem_replicate]
theorem z89 : Try.zeroCells89 = tarr 0 := by kernel_rfl
theorem one89 (k : Nat) : (tarr k).all (·.oneCell') = true := by
  rw [Array.all_eq_true_iff_forall_mem]
  intro x hx
  simp only [tarr, List.mem_toArray, List.mem_map] at hx
  obtain ⟨y, _, rfl⟩ := hx
  rfl
set_option maxHeartbeats 8000000 in
set_option maxRecDepth 100000 in
theorem rules_calls (w : World) :
    Calls Try.prog 68 #[] w fun e w' => e = .returned (.agg (tarr 169)) ∧ Below w.heap.size w w' := by
  have hu88 := Try.underlying88
  have hu89 := Try.underlying89
  have HB := Aside0.mk (Below.refl w.heap.size w)
  have hst : (storeCells ⟨w.heap.size + 1, 0, none⟩ Try.zeroCells89.toList 0).run Try.prog ((w.alloc (.cells Try.zeroCells89 89)).alloc (.cells Try.zeroCells89 89)) = .ok () ((w.alloc (.cells Try.zeroCells89 89)).alloc (.cells Try.zeroCells89 89)) := by
    have h := run_storeCells_new (P := Try.prog) (w.alloc (.cells Try.zeroCells89 89)) 89 Try.zeroCells89 Try.zeroCells89 (by kernel_rfl) rfl (by rw [z89]; exact one89 0)
    rwa [show (w.alloc (.cells Try.zeroCells89 89)).heap.size = w.heap.size + 1 by simp] at h
  go_enter Try.func68, Try.ntmps68
  go_wp2
  clear hst
  generalize hw1 : ((w.alloc (.cells Try.zeroCells89 89)).alloc (.cells Try.zeroCells89 89)) = w1
  have HB1 : Aside0 (Below w.heap.size w w1) := ⟨by rw [← hw1]; exact below_alloc (below_alloc HB.out _) _⟩
  have HZ0 : Aside0 (w1.heap[w.heap.size]? = some (.cells (tarr 0) 89 (0, 0))) := ⟨by rw [← hw1, ← z89]; exact blk_alloc (blk_new _ _) _⟩
  have HZ1 : Aside0 (w1.heap[w.heap.size + 1]? = some (.cells (tarr 0) 89 (0, 0))) := ⟨by rw [← hw1, ← z89, show w.heap.size + 1 = (w.alloc (.cells Try.zeroCells89 89)).heap.size by simp]; exact blk_new _ _⟩
  clear hw1
  go_loopg [5] 13 (fun kq v5 w' => ∃ a : Nat, v5 = .int .i64 (a : Int) ∧ Aside0 (a + kq = 13) ∧ Aside0 (w'.heap[w.heap.size]? = some (.cells (tarr 0) 89 (0, 0))) ∧ Aside0 (w'.heap[w.heap.size + 1]? = some (.cells (tarr (13 * a)) 89 (0, 0))) ∧ Aside0 (Below w.heap.size w w'))
  case atStart => exact ⟨0, rfl, ⟨rfl⟩, HZ0, HZ1, HB1⟩
  case round =>
    clear HB1 HZ0 HZ1
    obtain ⟨a, rfl, HA, HZ0, HZ1, HB1⟩ := hrel
    by_cases c : a < 13
    · have c1 : decide ((a : Int) < 13) = true := decide_eq_true (by omega)
      have HC := Aside0.mk c
      have hk : gk ≠ 0 := by have := HA.out; omega
      obtain ⟨k1, rfl⟩ := Nat.exists_eq_succ_of_ne_zero hk
      clear hk c
      go_wp2
      go_loopg [8] 13 (fun kq v8 w' => ∃ b : Nat, v8 = .int .i64 (b : Int) ∧ Aside0 (b + kq = 13) ∧ Aside0 (w'.heap[w.heap.size]? = some (.cells (tarr 0) 89 (0, 0))) ∧ Aside0 (w'.heap[w.heap.size + 1]? = some (.cells (tarr (13 * a + b)) 89 (0, 0))) ∧ Aside0 (Below w.heap.size w w'))
      case atStart => exact ⟨0, rfl, ⟨rfl⟩, HZ0, HZ1, HB1⟩
      case round =>
        clear HB1 HZ0 HZ1
        obtain ⟨b, rfl, HA2, HZ0, HZ1, HB1⟩ := hrel
        by_cases c : b < 13
        · have c2 : decide ((b : Int) < 13) = true := decide_eq_true (by omega)
          have HC2 := Aside0.mk c
          have hk : gk ≠ 0 := by have := HA2.out; omega
          obtain ⟨k2, rfl⟩ := Nat.exists_eq_succ_of_ne_zero hk
          have HR := Aside0.mk (rul_eq a b HC.out c)
          clear hk c
          have hmod1 : 0 ≤ (a : Int) := by omega
          have hmod2 : 0 ≤ (b : Int) := by omega
          have hq1 : ((a : Int) < 13) = True := eq_true (by have := HC.out; omega)
          have hq2 : ((b : Int) < 13) = True := eq_true (by have := HC2.out; omega)
          go_wp2
          refine start_ (n := 8) (S := fun w' => w'.heap[w.heap.size + 1]? = some (.cells (tarr (13 * a + b)) 89 (0, 0))) (ds := [7]) #[false, false, false, false, false, false, false, false] (by kernel_rfl) rfl rfl (HZ1.out) (fun hHeld => ?_)
          generalize hW9 : wr.drew = w9 at hHeld ⊢
          refine pure_ (i := 0) (N := some 11) (v := ?_) (a' := ?_) #[true, false, false, false, false, false, false, false] rfl rfl (by kernel_rfl) (fun _ _ _ h => h) (Or.inl ⟨by rfl, ?_⟩) ?_ ?_
          rotate_left
          · intro w'
            go_simp
            with_reducible rfl
          rotate_left
          · simp only [Act.put, List.setIfInBounds_toArray, List.set_cons_zero, List.set_cons_succ, i64_w, i32_w]
            rfl
          refine pure_ (i := 1) (N := some 12) (v := ?_) (a' := ?_) #[true, true, false, false, false, false, false, false] rfl rfl (by kernel_rfl) (fun _ _ _ h => h) (Or.inl ⟨by rfl, ?_⟩) ?_ ?_
          rotate_left
          · intro w'
            go_simp
            with_reducible rfl
          rotate_left
          · simp only [Act.put, List.setIfInBounds_toArray, List.set_cons_zero, List.set_cons_succ, i64_w, i32_w]
            rfl
          refine pure_ (i := 2) (N := some 13) (v := ?_) (a' := ?_) #[true, true, true, false, false, false, false, false] rfl rfl (by kernel_rfl) (fun _ _ _ h => h) (Or.inl ⟨by rfl, ?_⟩) ?_ ?_
          rotate_left
          · intro w'
            go_simp
            with_reducible rfl
          rotate_left
          · simp only [Act.put, List.setIfInBounds_toArray, List.set_cons_zero, List.set_cons_succ, i64_w, i32_w]
            rfl
          refine pure_ (i := 3) (N := some 14) (v := ?_) (a' := ?_) #[true, true, true, true, false, false, false, false] rfl rfl (by kernel_rfl) (fun _ _ _ h => h) (Or.inl ⟨by rfl, ?_⟩) ?_ ?_
          rotate_left
          · intro w'
            go_simp
            with_reducible rfl
          rotate_left
          · simp only [Act.put, List.setIfInBounds_toArray, List.set_cons_zero, List.set_cons_succ, i64_w, i32_w]
            rfl
          refine pure_ (i := 5) (N := some 16) (v := ?_) (a' := ?_) #[true, true, true, true, false, true, false, false] rfl rfl (by kernel_rfl) (fun _ _ _ h => h) (Or.inl ⟨by rfl, ?_⟩) ?_ ?_
          rotate_left
          · intro w'
            go_simp
            with_reducible rfl
          rotate_left
          · simp only [Act.put, List.setIfInBounds_toArray, List.set_cons_zero, List.set_cons_succ, i64_w, i32_w]
            rfl
          refine one_ (i := 4) (N := some 15) #[true, true, true, true, true, true, false, false] rfl rfl (by kernel_rfl) (by decide) (fun K hK => ?_)
          refine goes_ Try.func106 (by kernel_rfl) rfl #[.int .i64 (a : Int), .int .i64 (b : Int)] (by rfl) rfl rfl (by simp only [List.map_toArray, List.map_cons, List.map_nil]; rfl) ?_
          with_reducible refine (impl_ruled.calls 8 (a : Int) (b : Int) (rul a b) _ HR.out).mono ?_
          rintro e w3 ⟨rfl, ⟨nd, rfl⟩⟩
          refine ⟨_, rfl, ?_⟩
          refine hK.out _ _ ((blk_drewN hHeld nd)) (fun hHeld => ?_)
          clear hK K
          refine norm_ (a' := ?_) ?_ ?_
          rotate_left
          · show Act.put _ (some 15) _ = _
            simp only [Act.put, List.setIfInBounds_toArray, List.set_cons_zero, List.set_cons_succ, i64_w, i32_w]
            rfl
          refine pure_ (i := 6) (N := some 17) (v := ?_) (a' := ?_) #[true, true, true, true, true, true, true, false] rfl rfl (by kernel_rfl) (fun _ _ _ h => h) (Or.inl ⟨by rfl, ?_⟩) ?_ ?_
          rotate_left
          · intro w'
            go_simp
            with_reducible rfl
          rotate_left
          · simp only [Act.put, List.setIfInBounds_toArray, List.set_cons_zero, List.set_cons_succ, i64_w, i32_w]
            rfl
          refine last_ (i := 7) (N := none) #[true, true, true, true, true, true, true, true] rfl rfl (by kernel_rfl) (by decide) (fun K hK => ?_)
          have hfz := blk_frozen hHeld (a * 13 + b)
          have hcl := (blk_cell hHeld (a * 13 + b)).trans (tarr_at _ _ (by have := HC.out; have := HC2.out; omega))
          refine skip_ (w1 := (w9.drewN nd).setCell ⟨w.heap.size + 1, a * 13 + b, none⟩ (.int .i64 (rul a b))) (by rfl) rfl ?_ ?_
          · go_simp
          refine hK.out _ _ ?_
          clear hK K
          refine done_ (by kernel_rfl) ?_
          have HB2 : Aside0 (Below w.heap.size w ((w9.drewN nd).setCell ⟨w.heap.size + 1, a * 13 + b, none⟩ (.int .i64 (rul a b)))) := ⟨below_set (pw_below_drewN (by rw [← hW9]; exact below_drew HB1.out) nd) (by omega)⟩
          have HY1 : Aside0 (((w9.drewN nd).setCell ⟨w.heap.size + 1, a * 13 + b, none⟩ (.int .i64 (rul a b))).heap[w.heap.size + 1]? = some (.cells (tarr (13 * a + (b + 1))) 89 (0, 0))) := ⟨blk_put hHeld (a * 13 + b) _ (by
            have h1 := HC.out
            have h2 := HC2.out
            have := tarr_step (13 * a + b) (by omega)
            rw [show (13 * a + b) / 13 = a by omega, show (13 * a + b) % 13 = b by omega] at this
            rw [show a * 13 + b = 13 * a + b by omega, this]; rfl)⟩
          have HY0 : Aside0 (((w9.drewN nd).setCell ⟨w.heap.size + 1, a * 13 + b, none⟩ (.int .i64 (rul a b))).heap[w.heap.size]? = some (.cells (tarr 0) 89 (0, 0))) := ⟨blk_far (blk_drewN (by rw [← hW9]; exact HZ0.out) nd) (by show w.heap.size ≠ w.heap.size + 1; omega) _⟩
          have hw : wrap64 ((b : Int) + 1) = ((b + 1 : Nat) : Int) := by have := HC2.out; unfold wrap64; omega
          replace hw := Aside0.mk hw
          clear hcl hfz
          clear hHeld HB1 HZ1 HZ0
          generalize (w9.drewN nd).setCell ⟨w.heap.size + 1, a * 13 + b, none⟩ (.int .i64 (rul a b)) = w10 at HB2 HY1 HY0 ⊢
          clear hW9
          try go_wp2
          go_roundg k2
          case measure => omega
          case rel => exact ⟨b + 1, congrArg (Value.int .i64) hw.out, ⟨by have := HA2.out; omega⟩, HY0, HY1, HB2⟩
        · have c2 : decide ((b : Int) < 13) = false := decide_eq_false (by omega)
          have hb : b = 13 := by have := HA2.out; omega
          rw [show 13 * a + b = 13 * (a + 1) by omega] at HZ1
          have hw : wrap64 ((a : Int) + 1) = ((a + 1 : Nat) : Int) := by have := HC.out; unfold wrap64; omega
          replace hw := Aside0.mk hw
          clear hb c
          go_wp2
          go_roundg k1
          case measure => omega
          case rel => exact ⟨a + 1, congrArg (Value.int .i64) hw.out, ⟨by have := HA.out; omega⟩, HZ0, HZ1, HB1⟩
    · have c1 : decide ((a : Int) < 13) = false := decide_eq_false (by omega)
      have ha : a = 13 := by have := HA.out; omega
      rw [show 13 * a = 169 by omega] at HZ1
      clear ha c
      have hld : (loadCellsFrom ⟨w.heap.size + 1, 0, none⟩ 0 169 #[]).run Try.prog wr = .ok (tarr 169) wr := by
        have h := run_loadCells_list (P := Try.prog) wr ⟨w.heap.size + 1, 0, none⟩ (tarr 169).toList (fun j v hv => by
          have hadd : (⟨w.heap.size + 1, 0, none⟩ : Addr).add j = ⟨w.heap.size + 1, j, none⟩ := by unfold Addr.add; split <;> simp_all
          rw [hadd, blk_cell HZ1.out j]
          simpa using hv)
        rw [show (tarr 169).toList.length = 169 by rw [Array.length_toList]; exact tarr_size 169 (by omega)] at h
        simpa [loadCells] using h
      have hst : (storeCells ⟨w.heap.size, 0, none⟩ (tarr 169).toList 0).run Try.prog wr = .ok () (wr.setRow w.heap.size (tarr 169)) := by
        have h := run_storeCells_from (P := Try.prog) w.heap.size 89 (tarr 169).toList 0 (tarr 0) wr HZ0.out (by rw [Array.length_toList, tarr_size 169 (by omega), tarr_size 0 (by omega)]) (fun v hv => Array.all_eq_true_iff_forall_mem.1 (one89 169) v (by simpa using hv))
        simpa using h
      have hlv : (loadVar 89 ⟨w.heap.size, 0, none⟩).run Try.prog (wr.setRow w.heap.size (tarr 169)) = .ok (.agg (tarr 169)) (wr.setRow w.heap.size (tarr 169)) :=
        run_loadVar_row _ _ 89 89 (tarr 169) (0, 0) _ (setRow_heap wr w.heap.size (tarr 0) (tarr 169) 89 (0, 0) HZ0.out) hu89 rfl (by rw [tarr_size 169 (by omega)]; kernel_rfl)
      have hsz : (tarr 169).size = 169 := tarr_size 169 (by omega)
      have HBE : Aside0 (Below w.heap.size w (wr.setRow w.heap.size (tarr 169))) := ⟨below_setRow HB1.out (Nat.le_refl _) _⟩
      go_wp2
      refine wp_load_mid 89 (.tmp 1) rfl (w.heap.size + 1) 0 rfl (tarr 169).toList _ (fun j v hv => by rw [Nat.zero_add, blk_cell HZ1.out j]; simpa using hv) hu89 rfl (by rw [Array.length_toList, hsz]; kernel_rfl) ?_
      rw [Array.toArray_toList]
      apply_assumption
      go_wp2
      exact bodyPost_ret (v := .agg (tarr 169)) (by simp [results, Try.results68, asAddr, hlv]) rfl ⟨rfl, HBE.out⟩
theorem ite_eq {α : Type} {c : Prop} [Decidable c] {x y z : α} (h1 : c → x = z) (h2 : ¬ c → y = z) : (if c then x else y) = z := by
  by_cases h : c
  · rw [if_pos h]; exact h1 h
  · rw [if_neg h]; exact h2 h
theorem between_in (a lo hi : Int) : impl_between.f a lo hi = some (decide (lo ≤ a ∧ a ≤ hi)) := by
  unfold impl_between.f
  split <;> simp <;> omega
def bcl (a : Int) : Int :=
  if a = 10 then 1 else
  if a = 32 ∨ a = 9 then 2 else
  if a = 8203 then 3 else
  if a = 160 ∨ a = 8239 ∨ a = 8288 then 4 else
  if (768 ≤ a ∧ a ≤ 879) ∨ a = 8205 then 5 else
  if a = 45 ∨ a = 8208 ∨ a = 173 then 6 else
  if a = 40 ∨ a = 91 ∨ a = 123 then 7 else
  if a = 41 ∨ a = 93 ∨ a = 125 then 8 else
  if a = 46 ∨ a = 44 ∨ a = 33 ∨ a = 63 ∨ a = 59 ∨ a = 58 ∨ a = 8230 then 9 else
  if a = 34 ∨ a = 39 then 10 else
  if (12352 ≤ a ∧ a ≤ 12543) ∨ (19968 ≤ a ∧ a ≤ 40959) then 11 else
  if 48 ≤ a ∧ a ≤ 57 then 12 else 0
theorem text_in (s : ByteArray) (Q : Int → Bool) (hq : ∀ n : Fin 128, 1 ≤ n.val → decide (Lib.indexByte s.data.toList (((n.val : Int) % 256).toNat.toUInt8) ≥ 0) = Q n.val) (hn : ∀ a : Int, ¬ (1 ≤ a ∧ a ≤ 127) → Q a = false) (a : Int) : impl_inText.f a s = some (Q a) := by
  unfold impl_inText.f strings_IndexByte.f stringslite_IndexByte.f
  rw [between_in]
  by_cases h : 1 ≤ a ∧ a ≤ 127
  · have e : decide (1 ≤ a ∧ a ≤ 127) = true := decide_eq_true h
    simp only [e, Option.bind_some, if_true]
    obtain ⟨n, rfl⟩ := Int.eq_ofNat_of_zero_le (show 0 ≤ a by omega)
    exact congrArg some (hq ⟨n, by omega⟩ (by simp; omega))
  · have e : decide (1 ≤ a ∧ a ≤ 127) = false := decide_eq_false h
    rw [hn a h]
    simp only [e, Option.bind_some, Bool.false_eq_true, if_false]
def isOpen (a : Int) : Bool := decide (a = 40 ∨ a = 91 ∨ a = 123)
def isClose (a : Int) : Bool := decide (a = 41 ∨ a = 93 ∨ a = 125)
def isStop (a : Int) : Bool := decide (a = 46 ∨ a = 44 ∨ a = 33 ∨ a = 63 ∨ a = 59 ∨ a = 58)
def isQuote (a : Int) : Bool := decide (a = 34 ∨ a = 39)
theorem in_open (a : Int) : impl_inText.f a (⟨#[40, 91, 123]⟩ : ByteArray) = some (isOpen a) :=
  text_in _ isOpen (by decide +kernel) (fun a h => decide_eq_false (by omega)) a
theorem in_close (a : Int) : impl_inText.f a (⟨#[41, 93, 125]⟩ : ByteArray) = some (isClose a) :=
  text_in _ isClose (by decide +kernel) (fun a h => decide_eq_false (by omega)) a
theorem in_stop (a : Int) : impl_inText.f a (⟨#[46, 44, 33, 63, 59, 58]⟩ : ByteArray) = some (isStop a) :=
  text_in _ isStop (by decide +kernel) (fun a h => decide_eq_false (by omega)) a
theorem in_quote (a : Int) : impl_inText.f a (⟨#[34, 39]⟩ : ByteArray) = some (isQuote a) :=
  text_in _ isQuote (by decide +kernel) (fun a h => decide_eq_false (by omega)) a
set_option maxHeartbeats 4000000 in
theorem bcl_impl (a : Int) : impl_classOf.f 8 a = some (bcl a) := by
  simp only [impl_classOf.f, impl_classOf.j0, impl_classOf.j1, impl_classOf.j2, impl_classOf.j3, impl_classOf.j4, impl_classOf.j5, between_in, in_open, in_close, in_stop, in_quote, isOpen, isClose, isStop, isQuote, Option.bind_some, decide_eq_true_eq, beq_iff_eq, if_true]
  repeat' refine ite_eq (fun _ => ?_) (fun _ => ?_)
  all_goals first
    | (exfalso; omega)
    | (unfold bcl; refine congrArg some ?_; repeat (first | rw [if_pos (by omega)] | rw [if_neg (by omega)]))
theorem class_ev (a : Int) : Ev (fun k => impl_classOf.f k a) (bcl a) := Ev.of (fun k => impl_classOf.mono a k) (bcl_impl a)

theorem rd_nat (xs : List Int) (i : Nat) (h : i < xs.length) : rd xs (i : Int) = xs[i] := by
  simp [rd, List.getElem?_eq_getElem h]
def bn (x : Int) : Nat := (bcl x).toNat
theorem bn_bcl (x : Int) : (bn x : Int) = bcl x ∧ bn x < 13 := by
  have h : 0 ≤ bcl x ∧ bcl x < 13 := by
    unfold bcl
    repeat (first | omega | split)
  unfold bn
  omega
theorem bn_impl (x : Int) : impl_classOf.f 8 x = some (bn x : Int) := by rw [(bn_bcl x).1]; exact bcl_impl x
def nextB (a : Nat) (x : Int) : List Int → Int
  | [] => if bn x = 1 then 2 else 1
  | y :: _ => rul a (bn y)
def brk (a : Nat) : List Int → List Int
  | [] => []
  | x :: xs => nextB (if bn x = 5 then a else bn x) x xs :: brk (if bn x = 5 then a else bn x) xs
theorem store89 (w : World) : (storeCells ⟨w.heap.size, 0, none⟩ (tarr 169).toList 0).run Try.prog (w.alloc (.cells Try.zeroCells89 89)) = .ok () (w.alloc (.cells (tarr 169) 89)) :=
  run_storeCells_new w 89 Try.zeroCells89 (tarr 169) (by rw [tarr_size 169 (by omega)]; kernel_rfl) (by rw [tarr_size 169 (by omega)]; rfl) (one89 169)
theorem tarr_rd (a c : Nat) (ha : a < 13) (hc : c < 13) : (tarr 169)[a * 13 + c]? = some (.int .i64 (rul a c)) := by
  have hl : tblL.length = 169 := by simp [tblL]
  simp only [tarr, List.getElem?_toArray, List.getElem?_map]
  rw [List.take_of_length_le (by omega), Nat.sub_self, List.replicate_zero, List.append_nil, List.getElem?_eq_getElem (by omega), Option.map_some]
  simp only [tblL, List.getElem_map, List.getElem_range]
  rw [show (a * 13 + c) / 13 = a by omega, show (a * 13 + c) % 13 = c by omega]
set_option maxHeartbeats 8000000 in
set_option maxRecDepth 100000 in
theorem breaks_calls (A0 : Option Addr) (c0 : Nat) (l0 : List Int) (w : World) (hr0 : Kd.C (Kd.int .i64) w A0 l0.length l0) (hc0 : l0.length ≤ c0) (hl : l0.length ≤ 17592186044415) :
    Calls Try.prog 22 #[.slice A0 l0.length c0] w fun e w' => ∃ v0_ : Value, e = .returned (v0_) ∧ Kd.R (Kd.int .i64) 3 w' w.heap.size (fun _ => True) v0_ (brk 0 l0) ∧ Below w.heap.size w w' := by
  have hu88 := Try.underlying88
  have hu89 := Try.underlying89
  have HR0 := Aside0.mk hr0
  have HC0 := Aside0.mk hc0
  have HL := Aside0.mk hl
  clear hr0 hc0 hl
  go_enter Try.func22, Try.ntmps22
  go_wp2_with (first | (go_at_call 68; refine (rules_calls _).mono ?_; rintro e w1 ⟨rfl, hb⟩; have hst := store89 w1; have HB := Aside0.mk hb; clear hb) | ((with_reducible refine gate_dst (N := 10) rfl ?_); clear hst; have HB' := Aside0.mk (below_alloc HB.out (.cells (tarr 169) 89)); have HT' := Aside0.mk (blk_new w1 (.cells (tarr 169) 89)); have HG := Aside0.mk HB.out.size; clear HB; generalize w1.alloc (.cells (tarr 169) 89) = w2 at HB' HT' ⊢; generalize w1.heap.size = gT at HT' HG ⊢; refine Kd.R_lit (Kd.int .i64) _ 3 ?hg (N := 10) ?hd (xs := ([] : List Int)) (inner := []) (ok := fun _ => True) (okp := fun _ => True) ?hr ?hp (fun _ hk => hk) trivial (Below.refl _ _) (Nat.le_refl _) (by simp) ?_; (case hd => rfl); (case hg => rfl); (case hr => first | (go_simp; done) | (go_simp; rfl)); (case hp => exact (Reps.none _ _)); intro v153 w3 ho3 hb hg_ hnew_; clear hg_ hnew_; have HO1 := Aside0.mk (Kd.R_lower ho3 (below_size HB'.out)); have HB := Aside0.mk (below_step HB'.out hb); have HT := Aside0.mk (blk_below HT'.out hb); clear HB' HT' hb ho3))
  trace_state
  go_loopg [4, 5, 13] l0.length (fun kq v4 v5 v13 w' => ∃ (n a : Nat) (ys : List Int), v5 = .int .i64 (a : Int) ∧ v13 = .int .i64 (n : Int) ∧ Aside0 (n + kq = l0.length) ∧ Aside0 (a < 13) ∧ Aside0 (ys.length = n ∧ ys ++ brk a (l0.drop n) = brk 0 l0) ∧ Aside0 (Kd.R (Kd.int .i64) 3 w' w.heap.size (fun _ => True) v4 ys) ∧ Aside0 (w'.heap[gT]? = some (.cells (tarr 169) 89 (0, 0))) ∧ Aside0 (Below w.heap.size w w'))
  case atStart => exact ⟨0, 0, [], rfl, rfl, ⟨by simp⟩, ⟨by omega⟩, ⟨rfl, by simp⟩, HO1, HT, HB⟩
  case round =>
    clear HO1 HT HB
    obtain ⟨n, a, ys, rfl, rfl, HN, HA, HY, HO, HT, HB⟩ := hrel
    by_cases c : n < l0.length
    · have c1 : decide ((n : Int) < (l0.length : Int)) = true := decide_eq_true (by omega)
      have p1 : 0 ≤ (n : Int) := by omega
      have q1 : (n : Int) < (l0.length : Int) := by omega
      obtain ⟨ad, eA, hx⟩ := Kd.at_int HR0.out (n : Int) p1 q1
      rw [Int.toNat_natCast, rd_nat l0 n c] at hx
      cases eA
      replace hx := (HB.out.cell (World.block_lt_of_cell? w _ hx)).trans hx
      replace p1 := eq_true p1
      replace q1 := eq_true q1
      have HE := HY.out.2
      rw [List.drop_eq_getElem_cons c, brk] at HE
      replace HE := Aside0.mk HE
      have HYL := Aside0.mk HY.out.1
      clear HY
      obtain ⟨x, hxx⟩ : ∃ x, x = l0[n] := ⟨_, rfl⟩
      rw [← hxx] at HE hx
      clear hxx
      have HCX := Aside0.mk (bn_impl x)
      have hk : gk ≠ 0 := by have := HN.out; omega
      obtain ⟨k1, rfl⟩ := Nat.exists_eq_succ_of_ne_zero hk
      clear hk
      have HC := Aside0.mk c
      clear c
      have HLn : Aside0 ((ys.length + 1) * 8 ≤ 140737488355328) := by
        have h1 := HL.out
        have h2 := HYL.out
        have h3 := HN.out
        exact ⟨by omega⟩
      obtain ⟨a', ha'⟩ : ∃ a', a' = if bn x = 5 then a else bn x := ⟨_, rfl⟩
      rw [← ha'] at HE
      have HA' : Aside0 (a' < 13) := ⟨by rw [ha']; have := HA.out; have := (bn_bcl x).2; split <;> omega⟩
      go_upto_if 21 with (first | ((with_reducible refine gate_callee (f := 69) rfl ?_); refine goesL_ (some 19) rfl rfl Try.func69 (by kernel_rfl) rfl #[.int .i64 (x)] rfl (by (try simp only [List.map_toArray, List.map_cons, List.map_nil]); first | done | rfl) ?_; (with_reducible refine (impl_classOf.calls 8 (x) (bn (x) : Int) _ HCX.out).mono ?_); rintro e w' ⟨rfl, ⟨nd, rfl⟩⟩; refine ⟨_, rfl, ?_⟩))
      (try simp only [Act.put, List.setIfInBounds_toArray, List.set_cons_zero, List.set_cons_succ])
      go_cut [5] (fun v5 wc => v5 = .int .i64 (a' : Int) ∧ Aside0 (Kd.R (Kd.int .i64) 3 wc w.heap.size (fun _ => True) u4 ys) ∧ Aside0 (wc.heap[gT]? = some (.cells (tarr 169) 89 (0, 0))) ∧ Aside0 (Below w.heap.size w wc))
      case first =>
        by_cases d : bn x = 5
        · rw [if_pos d] at ha'
          subst ha'
          have d1 : ((bn x : Int) != 5) = false := by simp [d]
          have d2 : ((bn x : Int) == 5) = true := by simp [d]
          clear d
          (first | rw [d1] | skip)
          go_wp2
          go_meet
          case rel => exact ⟨rfl, ⟨by (with_reducible repeat (first | apply Kd.R_alloc | apply Kd.R_drewN | apply Kd.R_drew)); exact HO.out⟩, ⟨by repeat (first | exact HT.out | apply blk_drewN)⟩, ⟨by repeat (first | (with_reducible first | exact HB.out | apply below_alloc | apply pw_below_drewN | apply below_drew1) | exact HB.out)⟩⟩
        · rw [if_neg d] at ha'
          subst ha'
          have d1 : ((bn x : Int) != 5) = true := by simp; omega
          have d2 : ((bn x : Int) == 5) = false := by simp; omega
          clear d
          (first | rw [d1] | skip)
          go_wp2
          go_meet
          case rel => exact ⟨rfl, ⟨by (with_reducible repeat (first | apply Kd.R_alloc | apply Kd.R_drewN | apply Kd.R_drew)); exact HO.out⟩, ⟨by repeat (first | exact HT.out | apply blk_drewN)⟩, ⟨by repeat (first | (with_reducible first | exact HB.out | apply below_alloc | apply pw_below_drewN | apply below_drew1) | exact HB.out)⟩⟩
      case rest =>
        clear HO HT HB hx p1 q1 c1 ha'
        obtain ⟨rfl, HO, HT, HB⟩ := hcut
        have hjn : wrap64 ((n : Int) + 1) = ((n + 1 : Nat) : Int) := by have := HC.out; have := HL.out; unfold wrap64; omega
        have hj := Aside0.mk hjn
        by_cases e : n + 1 < l0.length
        · have HE1 := HE.out
          rw [List.drop_eq_getElem_cons e, nextB, ← List.drop_eq_getElem_cons e] at HE1
          obtain ⟨ad2, eA, hx⟩ := Kd.at_int HR0.out ((n + 1 : Nat) : Int) (by omega) (by omega)
          rw [Int.toNat_natCast, rd_nat l0 (n + 1) e] at hx
          cases eA
          replace hx := (HB.out.cell (World.block_lt_of_cell? w _ hx)).trans hx
          obtain ⟨y, hyy⟩ : ∃ y, y = l0[n + 1] := ⟨_, rfl⟩
          rw [← hyy] at HE1 hx
          clear hyy
          have HE2 : Aside0 ((ys ++ [rul a' (bn y)]) ++ brk a' (l0.drop (n + 1)) = brk 0 l0) := ⟨by rw [List.append_assoc]; exact HE1⟩
          have HCY := Aside0.mk (bn_impl y)
          clear HE HE1
          obtain ⟨j, hjj⟩ : ∃ j : Int, j = ((n + 1 : Nat) : Int) := ⟨_, rfl⟩
          have HJ := Aside0.mk hjj
          rw [← hjj] at hjn
          have hjw : IntKind.i64.wrap ((n : Int) + 1) = j := (i64_w _).trans hjn
          have p2 : (0 ≤ j) = True := eq_true (by omega)
          have q2 : (j < (l0.length : Int)) = True := eq_true (by omega)
          have c2 : decide (j < (l0.length : Int)) = true := decide_eq_true (by omega)
          have hjt : j.toNat = n + 1 := by omega
          rw [← hjt] at hx
          have HX1 := Aside0.mk hx
          have HX2 : Aside0 (wc.cell? ⟨gT, a' * 13 + bn y, none⟩ = some (.int .i64 (rul a' (bn y)))) := ⟨(blk_cell HT.out _).trans (tarr_rd a' (bn y) HA'.out (bn_bcl y).2)⟩
          have hm1 : (0 ≤ (a' : Int)) = True := eq_true (by omega)
          have hm2 : ((a' : Int) < 13) = True := eq_true (by have := HA'.out; omega)
          have hm3 : (0 ≤ (bn y : Int)) = True := eq_true (by omega)
          have hm4 : ((bn y : Int) < 13) = True := eq_true (by have := (bn_bcl y).2; omega)
          clear hjj hjt e hx
          go_wp2
          refine start_ (n := 14) (S := fun w' => w'.cell? (ad.add j.toNat) = some (.int .i64 y) ∧ w'.cell? ⟨gT, a' * 13 + bn y, none⟩ = some (.int .i64 (rul a' (bn y)))) (ds := [12]) #[false, false, false, false, false, false, false, false, false, false, false, false, false, false] (by kernel_rfl) rfl rfl ⟨HX1.out, HX2.out⟩ (fun hHeld => ?_)
          replace HO := Aside0.mk (Kd.R_drew HO.out)
          replace HB := Aside0.mk (below_drew HB.out)
          replace HT := Aside0.mk (blk_drew HT.out)
          generalize hW9 : wc.drew = w9 at HO HB HT hHeld ⊢
          refine pure_ (i := 0) (N := some 32) (v := ?_) (a' := ?_) #[true, false, false, false, false, false, false, false, false, false, false, false, false, false] rfl rfl (by kernel_rfl) (fun _ _ _ h => h) (Or.inl ⟨by rfl, ?_⟩) ?_ ?_
          rotate_left
          · intro w'
            go_simp
            with_reducible rfl
          rotate_left
          · simp only [Act.put, List.setIfInBounds_toArray, List.set_cons_zero, List.set_cons_succ, i64_w, i32_w]
            rfl
          refine pure_ (i := 1) (N := some 33) (v := ?_) (a' := ?_) #[true, true, false, false, false, false, false, false, false, false, false, false, false, false] rfl rfl (by kernel_rfl) (fun _ _ _ h => h) (Or.inl ⟨by rfl, ?_⟩) ?_ ?_
          rotate_left
          · intro w'
            go_simp
            with_reducible rfl
          rotate_left
          · simp only [Act.put, List.setIfInBounds_toArray, List.set_cons_zero, List.set_cons_succ, i64_w, i32_w]
            rfl
          refine pure_ (i := 2) (N := some 34) (v := ?_) (a' := ?_) #[true, true, true, false, false, false, false, false, false, false, false, false, false, false] rfl rfl (by kernel_rfl) (fun _ _ _ h => h) (Or.inl ⟨by rfl, ?_⟩) ?_ ?_
          rotate_left
          · intro w'
            go_simp
            with_reducible rfl
          rotate_left
          · simp only [Act.put, List.setIfInBounds_toArray, List.set_cons_zero, List.set_cons_succ, i64_w, i32_w]
            rfl
          refine pure_ (i := 3) (N := some 35) (v := ?_) (a' := ?_) #[true, true, true, true, false, false, false, false, false, false, false, false, false, false] rfl rfl (by kernel_rfl) (fun _ _ _ h => h) (Or.inl ⟨by rfl, ?_⟩) ?_ ?_
          rotate_left
          · intro w'
            go_simp
            with_reducible rfl
          rotate_left
          · simp only [Act.put, List.setIfInBounds_toArray, List.set_cons_zero, List.set_cons_succ, i64_w, i32_w]
            rfl
          refine pure_ (i := 4) (N := some 36) (v := ?_) (a' := ?_) #[true, true, true, true, true, false, false, false, false, false, false, false, false, false] rfl rfl (by kernel_rfl) (fun _ _ _ h => h) (Or.inl ⟨by rfl, ?_⟩) ?_ ?_
          rotate_left
          · intro w'
            go_simp
            with_reducible rfl
          rotate_left
          · simp only [Act.put, List.setIfInBounds_toArray, List.set_cons_zero, List.set_cons_succ, i64_w, i32_w]
            rfl
          refine pure_ (i := 5) (N := some 37) (v := ?_) (a' := ?_) #[true, true, true, true, true, true, false, false, false, false, false, false, false, false] rfl rfl (by kernel_rfl) (fun _ _ _ h => h) (Or.inl ⟨by rfl, ?_⟩) ?_ ?_
          rotate_left
          · intro w'
            go_simp
            with_reducible rfl
          rotate_left
          · simp only [Act.put, List.setIfInBounds_toArray, List.set_cons_zero, List.set_cons_succ, i64_w, i32_w]
            rfl
          refine pure_ (i := 8) (N := some 40) (v := ?_) (a' := ?_) #[true, true, true, true, true, true, false, false, true, false, false, false, false, false] rfl rfl (by kernel_rfl) (fun _ _ _ h => h) (Or.inl ⟨by rfl, ?_⟩) ?_ ?_
          rotate_left
          · intro w'
            go_simp
            with_reducible rfl
          rotate_left
          · simp only [Act.put, List.setIfInBounds_toArray, List.set_cons_zero, List.set_cons_succ, i64_w, i32_w]
            rfl
          refine take_ (i := 6) (N := some 38) (v := ?_) (a' := ?_) #[true, true, true, true, true, true, true, false, true, false, false, false, false, false] rfl rfl (by kernel_rfl) (fun _ _ _ h => h) (Or.inl ⟨by rfl, ?_⟩) hHeld ?_ ?_
          rotate_left
          · rintro w' ⟨s0, s1⟩
            go_simp
            with_reducible rfl
          rotate_left
          · simp only [Act.put, List.setIfInBounds_toArray, List.set_cons_zero, List.set_cons_succ, i64_w, i32_w]
            rfl
          refine one_ (i := 7) (N := some 39) #[true, true, true, true, true, true, true, true, true, false, false, false, false, false] rfl rfl (by kernel_rfl) (by decide) (fun K hK => ?_)
          refine goes_ Try.func69 (by kernel_rfl) rfl #[.int .i64 y] (by rfl) rfl rfl (by simp only [List.map_toArray, List.map_cons, List.map_nil]; rfl) ?_
          with_reducible refine (impl_classOf.calls 8 y (bn y : Int) _ HCY.out).mono ?_
          rintro e w3 ⟨rfl, ⟨nd, rfl⟩⟩
          refine ⟨_, rfl, ?_⟩
          refine hK.out _ _ ⟨hHeld.1, hHeld.2⟩ (fun hHeld => ?_)
          clear hK K
          refine norm_ (a' := ?_) ?_ ?_
          rotate_left
          · show Act.put _ (some 39) _ = _
            simp only [Act.put, List.setIfInBounds_toArray, List.set_cons_zero, List.set_cons_succ, i64_w, i32_w]
            rfl
          refine pure_ (i := 9) (N := some 41) (v := ?_) (a' := ?_) #[true, true, true, true, true, true, true, true, true, true, false, false, false, false] rfl rfl (by kernel_rfl) (fun _ _ _ h => h) (Or.inl ⟨by rfl, ?_⟩) ?_ ?_
          rotate_left
          · intro w'
            go_simp
            with_reducible rfl
          rotate_left
          · simp only [Act.put, List.setIfInBounds_toArray, List.set_cons_zero, List.set_cons_succ, i64_w, i32_w]
            rfl
          refine take_ (i := 10) (N := some 42) (v := ?_) (a' := ?_) #[true, true, true, true, true, true, true, true, true, true, true, false, false, false] rfl rfl (by kernel_rfl) (fun _ _ _ h => h) (Or.inl ⟨by rfl, ?_⟩) hHeld ?_ ?_
          rotate_left
          · rintro w' ⟨s0, s1⟩
            go_simp
            with_reducible rfl
          rotate_left
          · simp only [Act.put, List.setIfInBounds_toArray, List.set_cons_zero, List.set_cons_succ, i64_w, i32_w]
            rfl
          refine one_ (i := 11) (N := some 43) #[true, true, true, true, true, true, true, true, true, true, true, true, false, false] rfl rfl (by kernel_rfl) (by decide) (fun K hK => ?_)
          refine value_ (w1 := ?_) (v := ?_) (by rfl) rfl ?_ ?_
          rotate_left 2
          · go_simp
            constructor
            · rfl
            · rfl
          refine hK.out _ _ ⟨pw_cell_below (below_alloc (Below.refl _ _) _) hHeld.1, pw_cell_below (below_alloc (Below.refl _ _) _) hHeld.2⟩ (fun hHeld => ?_)
          clear hK K
          refine norm_ (a' := ?_) ?_ ?_
          rotate_left
          · show Act.put _ (some 43) _ = _
            simp only [Act.put, List.setIfInBounds_toArray, List.set_cons_zero, List.set_cons_succ, i64_w, i32_w]
            rfl
          refine last_ (i := 12) (N := some 44) #[true, true, true, true, true, true, true, true, true, true, true, true, true, false] rfl rfl (by kernel_rfl) (by decide) (fun K hK => ?_)
          refine Kd.R_append_step (Kd.int .i64) (w0 := w) w.heap.size (by rfl) (.tmp 32) (.tmp 43) 22 3 (.int .i64 0) 8 rfl Try.underlying22 info3 rfl (by decide) (by omega) u4 ys (rul a' (bn y)) [.int .i64 (rul a' (bn y))] (fun _ => True) (fun _ => False) rfl rfl rfl (fun _ hk => hk.elim) (fun _ _ => trivial) (Kd.R_drewN HO.out nd) (pw_below_drewN HB.out nd) (below_size (pw_below_drewN HB.out nd)) (by have := HLn.out; omega) ?_
          intro v5 w5 ho hb hg hat
          refine hK.out _ _ ?_
          clear hK K
          refine norm_ (a' := ?_) ?_ ?_
          rotate_left
          · show Act.put _ (some 44) _ = _
            simp only [Act.put, List.setIfInBounds_toArray, List.set_cons_zero, List.set_cons_succ, i64_w, i32_w]
            rfl
          refine pure_ (i := 13) (N := some 4) (v := ?_) (a' := ?_) #[true, true, true, true, true, true, true, true, true, true, true, true, true, true] rfl rfl (by kernel_rfl) (fun _ _ _ h => h) (Or.inl ⟨by rfl, ?_⟩) ?_ ?_
          rotate_left
          · intro w'
            go_simp
            with_reducible rfl
          rotate_left
          · simp only [Act.put, List.setIfInBounds_toArray, List.set_cons_zero, List.set_cons_succ, i64_w, i32_w]
            rfl
          refine done_ (by kernel_rfl) ?_


          have HO2 := Aside0.mk ho
          have HB2 := Aside0.mk hb
          have HT2 : Aside0 (w5.heap[gT]? = some (.cells (tarr 169) 89 (0, 0))) := ⟨blk_grown (blk_drewN HT.out nd) hg (Kd.R_ne HO.out HT.out (by decide))⟩
          clear hHeld ho hb hg hat
          try go_wp2
          go_roundg k1
          case measure => omega
          case rel => exact ⟨n + 1, a', ys ++ [rul a' (bn y)], rfl, congrArg (Value.int .i64) HJ.out, ⟨by have := HN.out; omega⟩, HA', ⟨by have := HYL.out; simp; omega, HE2.out⟩, HO2, HT2, HB2⟩
        · have c2 : decide (wrap64 ((n : Int) + 1) < (l0.length : Int)) = false := decide_eq_false (by omega)
          have HE1 := HE.out
          rw [show l0.drop (n + 1) = [] from List.drop_of_length_le (by omega), nextB] at HE1
          clear HE hjn
          by_cases d : bn x = 1
          · rw [if_pos d] at HE1
            have HE2 : Aside0 ((ys ++ [2]) ++ brk a' (l0.drop (n + 1)) = brk 0 l0) := ⟨by rw [List.append_assoc, List.drop_of_length_le (by omega)]; exact HE1⟩
            have d1 : ((bn x : Int) == 1) = true := by simp [d]
            clear d HE1 e
            go_wp2_with (first | ((with_reducible refine gate_callee (f := 69) rfl ?_); refine goesL_ (some 47) rfl rfl Try.func69 (by kernel_rfl) rfl #[.int .i64 (x)] rfl (by (try simp only [List.map_toArray, List.map_cons, List.map_nil]); first | done | rfl) ?_; (with_reducible refine (impl_classOf.calls 8 (x) (bn (x) : Int) _ HCX.out).mono ?_); rintro e w' ⟨rfl, ⟨nd, rfl⟩⟩; refine ⟨_, rfl, ?_⟩) | ((with_reducible refine gate_builtin (b := .append) (xs := #[.tmp 49, .tmp 50]) rfl ?_); at_builtin; refine Kd.R_append (Kd.int .i64) (w0 := w) w.heap.size rfl (.tmp 49) (.tmp 50) 22 3 (.int .i64 0) 8 rfl Try.underlying22 info3 rfl (by decide) (by omega) u4 ys 2 [.int .i64 2] (fun _ => True) (fun _ => False) rfl rfl ?aP (fun _ hk => hk.elim) ?aF ?aO ?aB ?aS ?aL ?_; (case aP => exact rfl); (case aB => exact (by repeat (first | (with_reducible first | exact HB.out | apply below_alloc | apply pw_below_drewN | apply below_drew1) | exact HB.out))); (case aF => exact (fun _ _ => trivial)); (case aO => exact (by (with_reducible repeat (first | apply Kd.R_alloc | apply Kd.R_drewN | apply Kd.R_drew)); exact HO.out)); (case aS => exact (below_size (by repeat (first | (with_reducible first | exact HB.out | apply below_alloc | apply pw_below_drewN | apply below_drew1) | exact HB.out)))); (case aL => have := HLn.out; omega); intro v5 w5 ho hb hg hat; have HO2 := Aside0.mk ho; have HB2 := Aside0.mk hb; have HT2 : Aside0 (w5.heap[gT]? = some (.cells (tarr 169) 89 (0, 0))) := ⟨blk_grown (by repeat (first | exact HT.out | apply blk_alloc | apply blk_drewN)) hg (Kd.R_ne HO.out HT.out (by decide))⟩; clear hb ho hg hat))
            go_roundg k1
            case measure => omega
            case rel => exact ⟨n + 1, a', ys ++ [2], rfl, congrArg (Value.int .i64) hj.out, ⟨by have := HN.out; omega⟩, HA', ⟨by have := HYL.out; simp; omega, HE2.out⟩, HO2, HT2, HB2⟩
          · rw [if_neg d] at HE1
            have HE2 : Aside0 ((ys ++ [1]) ++ brk a' (l0.drop (n + 1)) = brk 0 l0) := ⟨by rw [List.append_assoc, List.drop_of_length_le (by omega)]; exact HE1⟩
            have d1 : ((bn x : Int) == 1) = false := by simp; omega
            clear d HE1 e
            go_wp2_with (first | ((with_reducible refine gate_callee (f := 69) rfl ?_); refine goesL_ (some 47) rfl rfl Try.func69 (by kernel_rfl) rfl #[.int .i64 (x)] rfl (by (try simp only [List.map_toArray, List.map_cons, List.map_nil]); first | done | rfl) ?_; (with_reducible refine (impl_classOf.calls 8 (x) (bn (x) : Int) _ HCX.out).mono ?_); rintro e w' ⟨rfl, ⟨nd, rfl⟩⟩; refine ⟨_, rfl, ?_⟩) | ((with_reducible refine gate_builtin (b := .append) (xs := #[.tmp 23, .tmp 24]) rfl ?_); at_builtin; refine Kd.R_append (Kd.int .i64) (w0 := w) w.heap.size rfl (.tmp 23) (.tmp 24) 22 3 (.int .i64 0) 8 rfl Try.underlying22 info3 rfl (by decide) (by omega) u4 ys 1 [.int .i64 1] (fun _ => True) (fun _ => False) rfl rfl ?aP (fun _ hk => hk.elim) ?aF ?aO ?aB ?aS ?aL ?_; (case aP => exact rfl); (case aB => exact (by repeat (first | (with_reducible first | exact HB.out | apply below_alloc | apply pw_below_drewN | apply below_drew1) | exact HB.out))); (case aF => exact (fun _ _ => trivial)); (case aO => exact (by (with_reducible repeat (first | apply Kd.R_alloc | apply Kd.R_drewN | apply Kd.R_drew)); exact HO.out)); (case aS => exact (below_size (by repeat (first | (with_reducible first | exact HB.out | apply below_alloc | apply pw_below_drewN | apply below_drew1) | exact HB.out)))); (case aL => have := HLn.out; omega); intro v5 w5 ho hb hg hat; have HO2 := Aside0.mk ho; have HB2 := Aside0.mk hb; have HT2 : Aside0 (w5.heap[gT]? = some (.cells (tarr 169) 89 (0, 0))) := ⟨blk_grown (by repeat (first | exact HT.out | apply blk_alloc | apply blk_drewN)) hg (Kd.R_ne HO.out HT.out (by decide))⟩; clear hb ho hg hat))
            go_roundg k1
            case measure => omega
            case rel => exact ⟨n + 1, a', ys ++ [1], rfl, congrArg (Value.int .i64) hj.out, ⟨by have := HN.out; omega⟩, HA', ⟨by have := HYL.out; simp; omega, HE2.out⟩, HO2, HT2, HB2⟩
    · have c1 : decide ((n : Int) < (l0.length : Int)) = false := decide_eq_false (by omega)
      have h1 := HY.out.2
      rw [List.drop_of_length_le (by omega), brk, List.append_nil] at h1
      subst h1
      go_wp2
      go_ret
      exact ⟨_, rfl, HO.out, HB.out⟩
def impl_Breaks.f (l0 : List Int) : Option (List Int) := if l0.length ≤ 17592186044415 then some (brk 0 l0) else none
theorem impl_Breaks.calls (A0 : Option Addr) (c0 : Nat) (l0 : List Int) (r : List Int) (w : World) (hr0 : Kd.C (Kd.int .i64) w A0 l0.length l0) (hc0 : l0.length ≤ c0) (h : impl_Breaks.f l0 = some r) :
    Calls Try.prog 22 #[.slice A0 l0.length c0] w fun e w' => ∃ v0_ : Value, e = .returned (v0_) ∧ Kd.R (Kd.int .i64) 3 w' w.heap.size (fun _ => True) v0_ r ∧ Below w.heap.size w w' := by
  unfold impl_Breaks.f at h
  by_cases c : l0.length ≤ 17592186044415
  · rw [if_pos c] at h
    obtain rfl := Option.some.inj h
    exact breaks_calls A0 c0 l0 w hr0 hc0 c
  · rw [if_neg c] at h
    cases h

/-! ### laws_sameInts: function 23 -/
def laws_sameInts.l0 : Nat → List Int → List Int → Int → Option (Bool)
  | 0, _, _, _ => none
  | k + 1, x0, x1, x5 => if x5 < (x0.length : Int) then (if 0 ≤ x5 then (if x5 < (x1.length : Int) then (if (rd x0 x5) = (rd x1 x5) then (laws_sameInts.l0 k x0 x1 (wrap64 (x5 + 1))) else (some false)) else (none)) else (none)) else (some true)
def laws_sameInts.f (k : Nat) (l0 : List Int) (l1 : List Int) : Option (Bool) := if (l0.length : Int) = (l1.length : Int) then (laws_sameInts.l0 k l0 l1 0) else (some false)
theorem laws_sameInts.mono_l : ∀ k, (∀ y0 y1 y2, LeO (laws_sameInts.l0 k y0 y1 y2) (laws_sameInts.l0 (k + 1) y0 y1 y2))
  | 0 => fun _ _ _ r h => by simp [laws_sameInts.l0] at h
  | k + 1 => by
    have ih0 := laws_sameInts.mono_l k
    · intro y0 y1 y2
      unfold laws_sameInts.l0
      repeat' first
      | (with_reducible exact ih0 _ _ _)
      | (with_reducible exact LeO.refl _)
      | (with_reducible exact LeO.none _)
      | (with_reducible refine LeO.ite ?_ ?_)
      | (with_reducible refine LeO.bind ?_ (fun _ => ?_))
      | exact ih0 _ _ _
      | exact LeO.none _
      | refine LeO.ite ?_ ?_
      | refine LeO.bind ?_ (fun _ => ?_)
theorem laws_sameInts.mono : ∀ a0 a1 k, LeO (laws_sameInts.f k a0 a1) (laws_sameInts.f (k + 1) a0 a1) := by
  intro a0 a1 k
  have ih0 := laws_sameInts.mono_l k
  unfold laws_sameInts.f
  repeat' first
      | (with_reducible exact ih0 _ _ _)
      | (with_reducible exact LeO.refl _)
      | (with_reducible exact LeO.none _)
      | (with_reducible refine LeO.ite ?_ ?_)
      | (with_reducible refine LeO.bind ?_ (fun _ => ?_))
      | exact ih0 _ _ _
      | exact LeO.none _
      | refine LeO.ite ?_ ?_
      | refine LeO.bind ?_ (fun _ => ?_)
set_option maxHeartbeats 8000000 in
set_option maxRecDepth 100000 in
theorem laws_sameInts.calls (k : Nat) (A0 : Option Addr) (c0 : Nat) (l0 : List Int) (A1 : Option Addr) (c1 : Nat) (l1 : List Int) (r : Bool) (w : World) (hr0 : Kd.C (Kd.int .i64) w A0 l0.length l0) (hc0 : l0.length ≤ c0) (hr1 : Kd.C (Kd.int .i64) w A1 l1.length l1) (hc1 : l1.length ≤ c1) (h : laws_sameInts.f k l0 l1 = some r) :
    Calls Try.prog 23 #[.slice A0 l0.length c0, .slice A1 l1.length c1] w fun e w' => e = .returned (.bool r) ∧ Drawn0 w w' := by
  have HR0 := Aside0.mk hr0
  have HC0 := Aside0.mk hc0
  clear hr0 hc0
  have HR1 := Aside0.mk hr1
  have HC1 := Aside0.mk hc1
  clear hr1 hc1
  have H : (if (l0.length : Int) = (l1.length : Int) then (laws_sameInts.l0 k l0 l1 0) else (some false)) = some r := h
  clear h
  by_cases c3 : (l0.length : Int) = (l1.length : Int)
  · rw [if_pos c3] at H
    have c3b0 : ((l0.length : Int) == (l1.length : Int)) = true := beq_iff_eq.mpr c3
    have c3b1 : ((l0.length : Int) != (l1.length : Int)) = false := bne_eq_false_iff_eq.mpr c3
    have c3b2 : (l0.length == l1.length) = true := by first | simpa using c3 | (simp at c3 ⊢; omega)
    clear c3
    have H' := Aside0.mk H
    clear H
    go_enter Try.func23, Try.ntmps23
    go_wp2
    repeat (go_quiet (fail); try go_wp2)
    go_loopg [5] k (fun kq v5 w' => ∃ (x5_1 : Int), v5 = .int .i64 x5_1 ∧ Aside0 (laws_sameInts.l0 kq l0 l1 x5_1 = some r) ∧ Aside0 (kq ≤ k) ∧ Drawn0 w w')
    case atStart => exact ⟨(0), (by first | rfl | (simp; done) | (simp [*]; done)), H', ⟨Nat.le_refl _⟩, by repeat (first | exact Drawn0.refl _ | apply Drawn0.step)⟩
    case round =>
      clear H'
      try clear c1
      try clear c2
      try clear p2
      try clear c3
      try clear c3b0
      try clear c3b1
      try clear c3b2
      obtain ⟨x5_1, rfl, HA, HK1, ⟨m1, rfl⟩⟩ := hrel
      cases gk with
      | zero => exact absurd HA.out (by simp [laws_sameInts.l0])
      | succ k1 =>
        have H := HA.out
        clear HA
        simp only [laws_sameInts.l0] at H
        by_cases c4 : x5_1 < (l0.length : Int)
        · rw [if_pos c4] at H
          have c4b0 : decide (x5_1 < (l0.length : Int)) = true := decide_eq_true c4
          clear c4
          by_cases c5 : 0 ≤ x5_1
          · rw [if_pos c5] at H
            have c5b0 : decide (0 ≤ x5_1) = true := decide_eq_true c5
            clear c5
            by_cases c6 : x5_1 < (l1.length : Int)
            · rw [if_pos c6] at H
              have c6b0 : decide (x5_1 < (l1.length : Int)) = true := decide_eq_true c6
              clear c6
              by_cases c7 : (rd l0 x5_1) = (rd l1 x5_1)
              · rw [if_pos c7] at H
                have c7b0 : ((rd l0 x5_1) == (rd l1 x5_1)) = true := beq_iff_eq.mpr c7
                have c7b1 : ((rd l0 x5_1) != (rd l1 x5_1)) = false := bne_eq_false_iff_eq.mpr c7
                clear c7
                have H' := Aside0.mk H
                clear H
                have p146 : 0 ≤ (x5_1 : Int) := of_decide_eq_true (by first | (with_reducible assumption) | assumption)
                have q146 : x5_1 < (l0.length : Int) := of_decide_eq_true (by first | (with_reducible assumption) | assumption)
                obtain ⟨ad146, e146, hx146_0⟩ := Kd.at_int HR0.out x5_1 p146 q146
                cases e146
                replace p146 := eq_true p146
                replace q146 := eq_true q146
                have p147 : 0 ≤ (x5_1 : Int) := of_decide_eq_true (by first | (with_reducible assumption) | assumption)
                have q147 : x5_1 < (l1.length : Int) := of_decide_eq_true (by first | (with_reducible assumption) | assumption)
                obtain ⟨ad147, e147, hx147_0⟩ := Kd.at_int HR1.out x5_1 p147 q147
                cases e147
                replace p147 := eq_true p147
                replace q147 := eq_true q147
                go_wp2
                repeat (go_quiet (fail); try go_wp2)
                go_roundg k1
                case measure => have := HK1.out; omega
                case rel => exact ⟨(wrap64 (x5_1 + 1)), (by first | rfl | (simp; done) | (simp [*]; done)), H', ⟨by have := HK1.out; omega⟩, by repeat (first | exact Drawn0.refl _ | apply Drawn0.step)⟩
              · rw [if_neg c7] at H
                have c7b0 : ((rd l0 x5_1) == (rd l1 x5_1)) = false := beq_eq_false_iff_ne.mpr c7
                have c7b1 : ((rd l0 x5_1) != (rd l1 x5_1)) = true := bne_iff_ne.mpr c7
                obtain rfl := Option.some.inj H
                have p146 : 0 ≤ (x5_1 : Int) := of_decide_eq_true (by first | (with_reducible assumption) | assumption)
                have q146 : x5_1 < (l0.length : Int) := of_decide_eq_true (by first | (with_reducible assumption) | assumption)
                obtain ⟨ad146, e146, hx146_0⟩ := Kd.at_int HR0.out x5_1 p146 q146
                cases e146
                replace p146 := eq_true p146
                replace q146 := eq_true q146
                have p147 : 0 ≤ (x5_1 : Int) := of_decide_eq_true (by first | (with_reducible assumption) | assumption)
                have q147 : x5_1 < (l1.length : Int) := of_decide_eq_true (by first | (with_reducible assumption) | assumption)
                obtain ⟨ad147, e147, hx147_0⟩ := Kd.at_int HR1.out x5_1 p147 q147
                cases e147
                replace p147 := eq_true p147
                replace q147 := eq_true q147
                go_wp2
                repeat (go_quiet (fail); try go_wp2)
                go_ret
                exact ⟨by first | rfl | (simp; done) | (simp [*]; done), by repeat (first | exact Drawn0.refl _ | apply Drawn0.step)⟩
            · rw [if_neg c6] at H
              exact absurd H (by simp)
          · rw [if_neg c5] at H
            exact absurd H (by simp)
        · rw [if_neg c4] at H
          have c4b0 : decide (x5_1 < (l0.length : Int)) = false := decide_eq_false c4
          clear c4
          obtain rfl := Option.some.inj H
          go_wp2
          repeat (go_quiet (fail); try go_wp2)
          go_ret
          exact ⟨by first | rfl | (simp; done) | (simp [*]; done), by repeat (first | exact Drawn0.refl _ | apply Drawn0.step)⟩
  · rw [if_neg c3] at H
    have c3b0 : ((l0.length : Int) == (l1.length : Int)) = false := beq_eq_false_iff_ne.mpr c3
    have c3b1 : ((l0.length : Int) != (l1.length : Int)) = true := bne_iff_ne.mpr c3
    have c3b2 : (l0.length == l1.length) = false := by first | simpa using c3 | (simp at c3 ⊢; omega)
    obtain rfl := Option.some.inj H
    go_enter Try.func23, Try.ntmps23
    go_wp2
    repeat (go_quiet (fail); try go_wp2)
    go_ret
    exact ⟨by first | rfl | (simp; done) | (simp [*]; done), by repeat (first | exact Drawn0.refl _ | apply Drawn0.step)⟩

/-! ### spec_l12In: function 54 -/
def spec_l12In.f (a0 : Int) (a1 : Int) (a2 : Int) : Option (Bool) := if a0 ≥ a1 then (some (decide (a0 ≤ a2))) else (some false)
set_option maxHeartbeats 8000000 in
set_option maxRecDepth 100000 in
theorem spec_l12In.calls (a0 : Int) (a1 : Int) (a2 : Int) (r : Bool) (w : World) (h : spec_l12In.f a0 a1 a2 = some r) :
    Calls Try.prog 54 #[.int .i64 a0, .int .i64 a1, .int .i64 a2] w fun e w' => e = .returned (.bool r) ∧ Drawn0 w w' := by
  have H : (if a0 ≥ a1 then (some (decide (a0 ≤ a2))) else (some false)) = some r := h
  clear h
  by_cases c4 : a0 ≥ a1
  · rw [if_pos c4] at H
    have c4b0 : decide (a1 ≤ a0) = true := decide_eq_true c4
    clear c4
    obtain rfl := Option.some.inj H
    go_enter Try.func54, Try.ntmps54
    go_wp2
    go_ret
    exact ⟨by first | rfl | (simp; done) | (simp [*]; done), by repeat (first | exact Drawn0.refl _ | apply Drawn0.step)⟩
  · rw [if_neg c4] at H
    have c4b0 : decide (a1 ≤ a0) = false := decide_eq_false c4
    clear c4
    obtain rfl := Option.some.inj H
    go_enter Try.func54, Try.ntmps54
    go_wp2
    go_ret
    exact ⟨by first | rfl | (simp; done) | (simp [*]; done), by repeat (first | exact Drawn0.refl _ | apply Drawn0.step)⟩

end Go.Proofs.Ytpknhndanbgkmaa.MFnBreaks
