-- Written by this session's own program (wip/gen/myprint.py).
import Derived.Test.YtpknhndanbgkmaaMFnLevelsx0
import Derived.Test.YtpknhndanbgkmaaMFnLevelsx8
import Derived.Test.YtpknhndanbgkmaaMFnLevelsx9
namespace Go.Proofs.Ytpknhndanbgkmaa.MFnLevels
open Go.RowKit Go.Proofs.YtpknhndanbgkmaaW.PrintWords Go.Proofs.YtpknhndanbgkmaaW.PrintLast Go.Proofs.YtpknhndanbgkmaaW.PrintMore
attribute [local go_sem] max2_int min2_int max_two min_two max_three min_three max_four min_four   -- for this text's walks alone
set_option linter.unusedVariables false
set_option linter.unusedSimpArgs false
theorem RowAt.put {w : World} {g cap : Nat} {xs : List Int} (h : RowAt w g cap xs) (i : Nat) (x : Int) : RowAt (w.setCell ⟨g, i, none⟩ (.int .i64 x)) g cap (xs.set i x) := by
 obtain ⟨cur, hh, h1, h2, h3, h4⟩ := h
 refine ⟨cur.setIfInBounds i (.int .i64 x), blk_set hh i _, by rw [List.length_set]; exact h1, h2, by rw [Array.size_setIfInBounds]; exact h3, ?_⟩
 rw [List.length_set, Array.toList_setIfInBounds, List.take_set, h4]
 unfold nums
 rw [List.map_set]
theorem lit_row (w : World) (xs : List Int) (h : xs.length ≤ maxLen) : RowAt (w.alloc (.cells (nums .i64 xs).toArray 3)) w.heap.size xs.length xs :=
 ⟨_, blk_new w _, Nat.le_refl _, h, by simp [nums], by rw [List.take_of_length_le (by simp [nums])]⟩
structure RB (w0 w W : World) (gb g cap n : Nat) (e : Int) (xs : List Int) : Prop where
 row : RowAt W g cap xs
 box : W.heap[gb]? = some (.cells #[.slice (some ⟨g, 0, none⟩) n cap, .int .i64 e] 128 (0, 0))
 len : xs.length = n
 ge : w0.heap.size ≤ g
 b : Below w0.heap.size w0 W
 k : KeepBut w W g none
theorem RB.ne {w0 w W : World} {gb g cap n : Nat} {e : Int} {xs : List Int} (h : RB w0 w W gb g cap n e xs) : gb ≠ g := by
 obtain ⟨cur, hh, _⟩ := h.row
 exact blk_ne h.box hh (by decide)
theorem RB.below {w0 w W W' : World} {gb g cap n : Nat} {e : Int} {xs : List Int} (h : RB w0 w W gb g cap n e xs) (k : Below W.heap.size W W') : RB w0 w W' gb g cap n e xs :=
 ⟨h.row.below k, blk_below h.box k, h.len, h.ge, below_step h.b k, h.k.trans (KeepBut.of_below k g none) (.inl rfl)⟩
theorem RB.put {w0 w W : World} {gb g cap n : Nat} {e : Int} {xs : List Int} (h : RB w0 w W gb g cap n e xs) (i : Nat) (x : Int) : RB w0 w (W.setCell ⟨g, i, none⟩ (.int .i64 x)) gb g cap n e (xs.set i x) :=
 ⟨h.row.put i x, blk_far h.box h.ne _, by rw [List.length_set]; exact h.len, h.ge, bSe h.b h.ge, h.k.set_ i _⟩
theorem RB.cell {w0 w W : World} {gb g cap n : Nat} {e : Int} {xs : List Int} (h : RB w0 w W gb g cap n e xs) (i : Nat) (hi : i < n) : W.cell? ⟨g, i, none⟩ = some (.int .i64 (xs.getD i 0)) := h.row.cell i (by rw [h.len]; exact hi)
theorem RB.frozen {w0 w W : World} {gb g cap n : Nat} {e : Int} {xs : List Int} (h : RB w0 w W gb g cap n e xs) (i : Nat) : W.frozen? ⟨g, i, none⟩ = false := h.row.frozen i
theorem RB.b0 {w0 w W : World} {gb g cap n : Nat} {e : Int} {xs : List Int} (h : RB w0 w W gb g cap n e xs) : W.cell? ⟨gb, 0, none⟩ = some (.slice (some ⟨g, 0, none⟩) n cap) := (bCe h.box 0).trans rfl
theorem RB.b1 {w0 w W : World} {gb g cap n : Nat} {e : Int} {xs : List Int} (h : RB w0 w W gb g cap n e xs) : W.cell? ⟨gb, 1, none⟩ = some (.int .i64 e) := (bCe h.box 1).trans rfl
theorem RB.start {w0 w : World} {g cap n : Nat} {e : Int} {xs : List Int} (hr : RowAt w g cap xs) (hn : xs.length = n) (hg : w0.heap.size ≤ g) (hB : Below w0.heap.size w0 w) : RB w0 w (w.alloc (.cells #[.slice (some ⟨g, 0, none⟩) n cap, .int .i64 e] 128)) w.heap.size g cap n e xs :=
 ⟨hr.below (bAl (Below.refl _ _) _), blk_new w _, hn, hg, bAl hB _, keep_alloc (KeepBut.refl w g none) _⟩
def iterS (st : List Int → Nat → List Int) (n : Nat) (xs : List Int) : List Int := (List.range n).foldl st xs
theorem iterS_succ (st : List Int → Nat → List Int) (n : Nat) (xs : List Int) : iterS st (n + 1) xs = st (iterS st n xs) n := by unfold iterS; rw [List.range_succ, List.foldl_append]; rfl
def stNsm (e : Int) (xs : List Int) (i : Nat) : List Int := if xs.getD i 0 = 8 then (if 0 < i then xs.set i (xs.getD (i - 1) 0) else xs.set i e) else xs
/-- The nearest of some classes ahead of a place. -/
def aheadF (set : List Int) (e : Int) (xs : List Int) : Nat → Int
 | 0 => e
 | i + 1 => if xs.getD i 0 ∈ set then xs.getD i 0 else aheadF set e xs i
def stEn (e : Int) (xs : List Int) (i : Nat) : List Int := if xs.getD i 0 = 3 ∧ aheadF [0, 1, 2] e xs i = 2 then xs.set i 4 else xs
def stAl (xs : List Int) (i : Nat) : List Int := if xs.getD i 0 = 2 then xs.set i 1 else xs
def stSep (xs : List Int) (i : Nat) : List Int := if xs.getD i 0 = xs.getD (i + 2) 0 ∧ ((xs.getD i 0 = 3 ∧ (xs.getD (i + 1) 0 = 5 ∨ xs.getD (i + 1) 0 = 7)) ∨ (xs.getD i 0 = 4 ∧ xs.getD (i + 1) 0 = 7)) then xs.set (i + 1) (xs.getD i 0) else xs
def weakF (e : Int) (xs : List Int) : List Int := iterS stSep (xs.length - 2) (iterS stAl xs.length (iterS (stEn e) xs.length (iterS (stNsm e) xs.length xs)))
theorem iterS_len (st : List Int → Nat → List Int) (h : ∀ xs i, (st xs i).length = xs.length) (n : Nat) (xs : List Int) : (iterS st n xs).length = xs.length := by
 induction n with
 | zero => rfl
 | succ n ih => rw [iterS_succ, h, ih]
theorem stNsm_len (e : Int) (xs : List Int) (i : Nat) : (stNsm e xs i).length = xs.length := by unfold stNsm; repeat' split <;> simp
theorem stEn_len (e : Int) (xs : List Int) (i : Nat) : (stEn e xs i).length = xs.length := by unfold stEn; split <;> simp
theorem stAl_len (xs : List Int) (i : Nat) : (stAl xs i).length = xs.length := by unfold stAl; split <;> simp
theorem stSep_len (xs : List Int) (i : Nat) : (stSep xs i).length = xs.length := by unfold stSep; split <;> simp
theorem contains3 (k : Nat) (a b c x : Int) : slices_Contains_int_int.f (k + 4) [a, b, c] x = some (decide (x ∈ [a, b, c])) := by
 unfold slices_Contains_int_int.f slices_Index_int_int.f
 have w1 : wrap64 (0 + 1) = 1 := by unfold wrap64; omega
 have w2 : wrap64 (1 + 1) = 2 := by unfold wrap64; omega
 have w3 : wrap64 (2 + 1) = 3 := by unfold wrap64; omega
 have r0 : rd [a, b, c] 0 = a := rfl
 have r1 : rd [a, b, c] 1 = b := rfl
 have r2 : rd [a, b, c] 2 = c := rfl
 simp only [slices_Index_int_int.l0, List.length_cons, List.length_nil, w1, w2, w3, r0, r1, r2, List.mem_cons, List.not_mem_nil, or_false]
 by_cases h1 : x = a
 · simp [h1]
 · by_cases h2 : x = b
   · subst h2; simp [h1]
   · by_cases h3 : x = c
     · subst h3; simp [h1, h2]
     · simp [h1, h2, h3]
theorem contains2 (k : Nat) (a b x : Int) : slices_Contains_int_int.f (k + 4) [a, b] x = some (decide (x ∈ [a, b])) := by
 unfold slices_Contains_int_int.f slices_Index_int_int.f
 have w1 : wrap64 (0 + 1) = 1 := by unfold wrap64; omega
 have w2 : wrap64 (1 + 1) = 2 := by unfold wrap64; omega
 have r0 : rd [a, b] 0 = a := rfl
 have r1 : rd [a, b] 1 = b := rfl
 simp only [slices_Index_int_int.l0, List.length_cons, List.length_nil, w1, w2, r0, r1, List.mem_cons, List.not_mem_nil, or_false]
 by_cases h1 : x = a
 · simp [h1]
 · by_cases h2 : x = b
   · subst h2; simp [h1]
   · simp [h1, h2]
theorem ahead_l {set : List Int} (hs : ∀ k x, slices_Contains_int_int.f (k + 4) set x = some (decide (x ∈ set))) (e : Int) (xs : List Int) (hl : xs.length ≤ 17592186044415) : ∀ i : Nat, i ≤ xs.length → impl_run_ahead.l0 (i + 5) set ((i : Int) - 1) xs e = some (aheadF set e xs i) := by
 intro i
 induction i with
 | zero => intro _; unfold impl_run_ahead.l0 aheadF; rw [if_neg (by omega)]
 | succ i ih =>
  intro h
  have hw : wrap64 ((((i + 1 : Nat) : Int) - 1) - 1) = (i : Int) - 1 := by unfold wrap64; omega
  have hr : rd xs (((i + 1 : Nat) : Int) - 1) = xs.getD i 0 := by rw [show (((i + 1 : Nat) : Int) - 1) = (i : Int) by omega]; rfl
  rw [show i + 1 + 5 = (i + 5) + 1 by omega]
  unfold impl_run_ahead.l0 aheadF
  rw [if_pos (by omega), if_pos (by omega), if_pos (by omega), show i + 5 = (i + 1) + 4 by omega, hs, Option.bind_some, hr, hw]
  by_cases hm : xs.getD i 0 ∈ set
  · rw [if_pos (decide_eq_true hm), if_pos hm]
  · rw [if_neg (by simpa using hm), if_neg hm]; exact ih (by omega)
theorem ahead_f {set : List Int} (hs : ∀ k x, slices_Contains_int_int.f (k + 4) set x = some (decide (x ∈ set))) (e : Int) (xs : List Int) (hl : xs.length ≤ 17592186044415) (i : Nat) (h : i < xs.length) : impl_run_ahead.f (i + 5) xs e i set = some (aheadF set e xs i) := by
 unfold impl_run_ahead.f
 rw [show wrap64 ((i : Int) - 1) = (i : Int) - 1 by unfold wrap64; omega]
 exact ahead_l hs e xs hl i (by omega)
set_option maxHeartbeats 8000000 in
set_option maxRecDepth 100000 in
theorem weak_a (w0 w : World) (g cap n : Nat) (e : Int) (xs : List Int) (hr : RowAt w g cap xs) (hn : xs.length = n) (hl : n ≤ 17592186044415) (hge : w0.heap.size ≤ g) (hB : Below w0.heap.size w0 w) :
 Calls Try.prog 113 #[.agg #[.slice (some ⟨g, 0, none⟩) n cap, .int .i64 e]] w fun r w' => r = .returned (.tuple #[]) ∧ RowAt w' g cap (weakF e xs) ∧ Below w0.heap.size w0 w' ∧ KeepBut w w' g none := by
 have huS := Try.underlying22
 have huR := Try.underlying128
 have HS := aMk (RB.start (e := e) hr hn hge hB)
 have HL := aMk hl
 have HN := aMk hn
 have HC := aMk (show cap ≤ maxLen by obtain ⟨_, _, _, h, _⟩ := hr; exact h)
 clear hr hn hl hge hB
 go_enter Try.func113, Try.ntmps113
 go_wp2
 generalize w.alloc (.cells #[.slice (some ⟨g, 0, none⟩) n cap, .int .i64 e] 128) = w1 at HS ⊢
 generalize w.heap.size = gb at HS ⊢
 go_loopg [15] n (fun kq v15 w' => ∃ (m : Nat) (mi : Int) (xs' : List Int), v15 = .int .i64 mi ∧ Aside0 (mi = m) ∧ Aside0 (m + kq = n) ∧ Aside0 (RB w0 w w' gb g cap n e xs') ∧ Aside0 (xs' = iterS (stNsm e) m xs))
 case atStart => exact ⟨0, 0, xs, rfl, ⟨rfl⟩, ⟨by omega⟩, HS, ⟨rfl⟩⟩
 case round =>
  clear HS
  obtain ⟨m, mi, xs', rfl, HM, HKN, HR, HX⟩ := hrel
  by_cases c : mi < n
  · have hk : gk ≠ 0 := by have := HKN.out; have := HM.out; omega
    obtain ⟨k1, rfl⟩ := Nat.exists_eq_succ_of_ne_zero hk
    have hw : wrap64 (mi + 1) = ((m + 1 : Nat) : Int) := by have := HL.out; have := HM.out; unfold wrap64; omega
    replace hw := aMk hw
    obtain ⟨mk, hmk⟩ : ∃ z, z = wrap64 (mi + 1) := ⟨_, rfl⟩
    have HMK := aMk (hmk.trans hw.out)
    rw [← hmk] at hw
    clear hk hw
    have c1 : decide (mi < (n : Int)) = true := decide_eq_true c
    have p1 : (0 ≤ mi) = True := eq_true (by have := HM.out; omega)
    have q1 : (mi < (n : Int)) = True := eq_true c
    have hmt : mi.toNat = m := by have := HM.out; omega
    have hx : wr.cell? ⟨g, mi.toNat, none⟩ = some (.int .i64 (xs'.getD m 0)) := by rw [hmt]; exact HR.out.cell m (by have := HM.out; omega)
    have hb0 := HR.out.b0
    have hb1 := HR.out.b1
    have hfz := HR.out.frozen mi.toNat
    obtain ⟨x, hxx⟩ : ∃ x, x = xs'.getD m 0 := ⟨_, rfl⟩
    rw [← hxx] at hx
    replace hxx := aMk hxx
    replace hmt := aMk hmt
    have HC1 := aMk c
    clear c
    by_cases d : x = 8
    · have c2 : (x == 8) = true := beq_iff_eq.2 d
      have HQ : Aside0 (RB w0 w (wr.setCell ⟨g, mi.toNat, none⟩ (.int .i64 e)) gb g cap n e (xs'.set m e)) := ⟨by rw [hmt.out]; exact HR.out.put m e⟩
      by_cases d3 : mi > 0
      · have c3 : decide (mi > 0) = true := decide_eq_true d3
        obtain ⟨mj, hmj⟩ : ∃ z, z = wrap64 (mi - 1) := ⟨_, rfl⟩
        have hmj2 : mj = ((m - 1 : Nat) : Int) := by rw [hmj]; have := HL.out; have := HM.out; have := HC1.out; unfold wrap64; omega
        have p3 : (0 ≤ mj) = True := eq_true (by rw [hmj2]; omega)
        have q3 : (mj < (n : Int)) = True := eq_true (by rw [hmj2]; have := HM.out; have := HC1.out; omega)
        have hj : mj.toNat = m - 1 := by rw [hmj2]; rfl
        have hyv := HQ.out.cell (m - 1) (by have := HM.out; have := HC1.out; omega)
        rw [List.getD_eq_getElem?_getD, List.getElem?_set_ne (by have := HM.out; omega), ← List.getD_eq_getElem?_getD, ← hj] at hyv
        obtain ⟨y, hy⟩ : ∃ y, y = xs'.getD (m - 1) 0 := ⟨_, rfl⟩
        rw [hj, ← hy, ← hj] at hyv
        have HY := aMk hyv
        have hz := HQ.out.cell mi.toNat (by have := HM.out; have := HC1.out; omega)
        have HE : Aside0 ((xs'.set m e).set m y = iterS (stNsm e) (m + 1) xs) := ⟨by rw [iterS_succ, ← HX.out]; unfold stNsm; rw [← hxx.out, if_pos d, if_pos (by have := HM.out; omega), List.set_set, ← hy]⟩
        have hmj3 := hmj.symm
        have HZ := aMk hz
        clear d d3 hmj2 hj hyv hz hy hmj
        go_wp2
        generalize (wr.setCell ⟨g, mi.toNat, none⟩ (.int .i64 e)) = wq at HQ HY HZ ⊢
        clear hb0 hb1 hfz hx
        refine start_ (n := 11) (S := fun w' => w'.cell? ⟨gb, 0, none⟩ = some (.slice (some ⟨g, 0, none⟩) n cap) ∧ w'.cell? ⟨g, mj.toNat, none⟩ = some (.int .i64 y)) (ds := [10]) #[false, false, false, false, false, false, false, false, false, false, false] (by kernel_rfl) rfl rfl ⟨HQ.out.b0, HY.out⟩ (fun hHeld => ?_)
        refine pure_ (i := 0) (N := some 30) (v := ?_) (a' := ?_) #[true, false, false, false, false, false, false, false, false, false, false] rfl rfl (by kernel_rfl) (fun _ _ _ h => h) (Or.inl ⟨by rfl, ?_⟩) ?_ ?_
        rotate_left
        · intro w'
          go_simp
          with_reducible rfl
        rotate_left
        · simp only [Act.put, lSa, lSz, lSs, i64_w, i32_w]
          rfl
        refine pure_ (i := 2) (N := some 32) (v := ?_) (a' := ?_) #[true, false, true, false, false, false, false, false, false, false, false] rfl rfl (by kernel_rfl) (fun _ _ _ h => h) (Or.inl ⟨by rfl, ?_⟩) ?_ ?_
        rotate_left
        · intro w'
          go_simp
          with_reducible rfl
        rotate_left
        · simp only [Act.put, lSa, lSz, lSs, i64_w, i32_w]
          rfl
        refine pure_ (i := 3) (N := some 33) (v := ?_) (a' := ?_) #[true, false, true, true, false, false, false, false, false, false, false] rfl rfl (by kernel_rfl) (fun _ _ _ h => h) (Or.inl ⟨by rfl, ?_⟩) ?_ ?_
        rotate_left
        · intro w'
          go_simp
          with_reducible rfl
        rotate_left
        · simp only [Act.put, lSa, lSz, lSs, i64_w, i32_w]
          rfl
        refine pure_ (i := 5) (N := some 35) (v := ?_) (a' := ?_) #[true, false, true, true, false, true, false, false, false, false, false] rfl rfl (by kernel_rfl) (fun _ _ _ h => h) (Or.inl ⟨by rfl, ?_⟩) ?_ ?_
        rotate_left
        · intro w'
          go_simp
          with_reducible rfl
        rotate_left
        · simp only [Act.put, lSa, lSz, lSs, i64_w, i32_w]
          rfl
        refine pure_ (i := 6) (N := some 36) (v := ?_) (a' := ?_) #[true, false, true, true, false, true, true, false, false, false, false] rfl rfl (by kernel_rfl) (fun _ _ _ h => h) (Or.inl ⟨by rfl, ?_⟩) ?_ ?_
        rotate_left
        · intro w'
          go_simp
          with_reducible rfl
        rotate_left
        · simp only [Act.put, lSa, lSz, lSs, i64_w, i32_w]
          rfl
        refine take_ (i := 1) (N := some 31) (v := ?_) (a' := ?_) #[true, true, true, true, false, true, true, false, false, false, false] rfl rfl (by kernel_rfl) (fun _ _ _ h => h) (Or.inl ⟨by rfl, ?_⟩) hHeld ?_ ?_
        rotate_left
        · rintro w' ⟨s0, s1⟩
          go_simp
          with_reducible rfl
        rotate_left
        · simp only [Act.put, lSa, lSz, lSs, i64_w, i32_w]
          rfl
        refine take_ (i := 4) (N := some 34) (v := ?_) (a' := ?_) #[true, true, true, true, true, true, true, false, false, false, false] rfl rfl (by kernel_rfl) (fun _ _ _ h => h) (Or.inl ⟨by rfl, ?_⟩) hHeld ?_ ?_
        rotate_left
        · rintro w' ⟨s0, s1⟩
          go_simp
          with_reducible rfl
        rotate_left
        · simp only [Act.put, lSa, lSz, lSs, i64_w, i32_w]
          rfl
        refine pure_ (i := 7) (N := some 37) (v := ?_) (a' := ?_) #[true, true, true, true, true, true, true, true, false, false, false] rfl rfl (by kernel_rfl) (fun _ _ _ h => h) (Or.inl ⟨by rfl, ?_⟩) ?_ ?_
        rotate_left
        · intro w'
          go_simp
          with_reducible rfl
        rotate_left
        · simp only [Act.put, lSa, lSz, lSs, i64_w, i32_w]
          rfl
        refine take_ (i := 8) (N := some 38) (v := ?_) (a' := ?_) #[true, true, true, true, true, true, true, true, true, false, false] rfl rfl (by kernel_rfl) (fun _ _ _ h => h) (Or.inl ⟨by rfl, ?_⟩) hHeld ?_ ?_
        rotate_left
        · rintro w' ⟨s0, s1⟩
          go_simp
          with_reducible rfl
        rotate_left
        · simp only [Act.put, lSa, lSz, lSs, i64_w, i32_w]
          rfl
        refine pure_ (i := 9) (N := some 39) (v := ?_) (a' := ?_) #[true, true, true, true, true, true, true, true, true, true, false] rfl rfl (by kernel_rfl) (fun _ _ _ h => h) (Or.inl ⟨by rfl, ?_⟩) ?_ ?_
        rotate_left
        · intro w'
          go_simp
          with_reducible rfl
        rotate_left
        · simp only [Act.put, lSa, lSz, lSs, i64_w, i32_w]
          rfl
        refine last_ (i := 10) (N := none) #[true, true, true, true, true, true, true, true, true, true, true] rfl rfl (by kernel_rfl) (by decide) (fun K hK => ?_)
        have hsc := HZ.out
        have hsf := HQ.out.frozen mi.toNat
        refine skip_ (w1 := ?_) (by rfl) rfl ?_ ?_
        rotate_left
        · go_simp
          rfl
        refine hK.out _ _ ?_
        clear hK K
        refine done_ (by kernel_rfl) ?_
        go_wp2
        go_roundg k1
        case measure => omega
        case rel => exact ⟨m + 1, _, _, congrArg (Value.int .i64) (by first | rfl | exact hmk.symm), HMK, ⟨by have := HKN.out; omega⟩, ⟨by have := (HQ.out.below (below_drew (Below.refl _ _))).put m y; rw [← hmt.out] at this; exact this⟩, ⟨by rw [hmt.out]; exact HE.out⟩⟩
      · have c3 : decide (mi > 0) = false := decide_eq_false d3
        have HE : Aside0 (xs'.set m e = iterS (stNsm e) (m + 1) xs) := ⟨by rw [iterS_succ, ← HX.out]; unfold stNsm; rw [← hxx.out, if_pos d, if_neg (by have := HM.out; omega)]⟩
        clear d d3
        go_wp2
        go_roundg k1
        case measure => omega
        case rel => exact ⟨m + 1, _, _, congrArg (Value.int .i64) (by first | rfl | exact hmk.symm), HMK, ⟨by have := HKN.out; omega⟩, HQ, HE⟩
    · have c2 : (x == 8) = false := beq_eq_false_iff_ne.2 d
      have HE : Aside0 (xs' = iterS (stNsm e) (m + 1) xs) := ⟨by rw [iterS_succ, ← HX.out]; unfold stNsm; rw [← hxx.out, if_neg d]⟩
      clear d
      go_wp2
      go_roundg k1
      case measure => omega
      case rel => exact ⟨m + 1, _, _, congrArg (Value.int .i64) (by first | rfl | exact hmk.symm), HMK, ⟨by have := HKN.out; omega⟩, HR, HE⟩
  · have c1 : decide (mi < (n : Int)) = false := decide_eq_false c
    have hmn : m = n := by have := HM.out; have := HKN.out; omega
    have HX1 : Aside0 (xs' = iterS (stNsm e) n xs) := ⟨by rw [← hmn]; exact HX.out⟩
    have HS := HR
    have hb0 := HR.out.b0
    clear c hmn HX HKN HM HR
    go_wp2
    clear hb0 c1
    go_loopg [44] n (fun kq v44 w' => ∃ (m : Nat) (mi : Int) (ys : List Int), v44 = .int .i64 mi ∧ Aside0 (mi = m) ∧ Aside0 (m + kq = n) ∧ Aside0 (RB w0 w w' gb g cap n e ys) ∧ Aside0 (ys = iterS (stEn e) m xs'))
    case atStart => exact ⟨0, 0, xs', rfl, ⟨rfl⟩, ⟨by omega⟩, HS, ⟨rfl⟩⟩
    case round =>
     clear HS
     obtain ⟨m, mi, ys, rfl, HM, HKN, HR, HX⟩ := hrel
     by_cases c : mi < n
     · have hk : gk ≠ 0 := by have := HKN.out; have := HM.out; omega
       obtain ⟨k1, rfl⟩ := Nat.exists_eq_succ_of_ne_zero hk
       have hw : wrap64 (mi + 1) = ((m + 1 : Nat) : Int) := by have := HL.out; have := HM.out; unfold wrap64; omega
       replace hw := aMk hw
       obtain ⟨mk, hmk⟩ : ∃ z, z = wrap64 (mi + 1) := ⟨_, rfl⟩
       have HMK := aMk (hmk.trans hw.out)
       rw [← hmk] at hw
       clear hk hw
       have c1 : decide (mi < (n : Int)) = true := decide_eq_true c
       have p1 : (0 ≤ mi) = True := eq_true (by have := HM.out; omega)
       have q1 : (mi < (n : Int)) = True := eq_true c
       have hmt : mi.toNat = m := by have := HM.out; omega
       have hx : wr.cell? ⟨g, mi.toNat, none⟩ = some (.int .i64 (ys.getD m 0)) := by rw [hmt]; exact HR.out.cell m (by have := HM.out; omega)
       have hb0 := HR.out.b0
       have hb1 := HR.out.b1
       have hfz := HR.out.frozen mi.toNat
       obtain ⟨x, hxx⟩ : ∃ x, x = ys.getD m 0 := ⟨_, rfl⟩
       rw [← hxx] at hx
       replace hxx := aMk hxx
       replace hmt := aMk hmt
       have HC1 := aMk c
       clear c
       by_cases d : x = 3
       · have c2 : (x == 3) = true := beq_iff_eq.2 d
         have HAH := aMk (ahead_f (set := [0, 1, 2]) (fun k x => contains3 k 0 1 2 x) e ys (by rw [HR.out.len]; exact HL.out) m (by rw [HR.out.len]; have := HM.out; have := HC1.out; omega))
         obtain ⟨r, hr⟩ : ∃ r, r = aheadF [0, 1, 2] e ys m := ⟨_, rfl⟩
         rw [← hr] at HAH
         have HRR := aMk hr
         rw [← HM.out] at HAH
         clear hr
         have HR2 := aMk (HR.out.below (bAl (Below.refl wr.heap.size wr) (.cells #[.int .i64 0, .int .i64 1, .int .i64 2] 3)))
         have HCALL := impl_run_ahead.calls (m + 5) (some ⟨g, 0, none⟩) cap ys e mi (some ⟨wr.heap.size, 0, none⟩) 3 [0, 1, 2] r (wr.alloc (.cells #[.int .i64 0, .int .i64 1, .int .i64 2] 3)) HR2.out.row.C (by obtain ⟨_, _, h, _⟩ := HR2.out.row; exact h) (lit_row wr [0, 1, 2] (by decide)).C (Nat.le_refl _) HAH.out
         rw [HR.out.len] at HCALL
         replace HCALL := aMk HCALL
         have hb0S := HR2.out.b0
         have hb1S := HR2.out.b1
         by_cases d4 : r = 2
         · have c4 : (r == 2) = true := beq_iff_eq.2 d4
           have HE : Aside0 (ys.set m 4 = iterS (stEn e) (m + 1) xs') := ⟨by rw [iterS_succ, ← HX.out]; unfold stEn; rw [← hxx.out, ← HRR.out, if_pos ⟨d, d4⟩]⟩
           clear d d4
           go_wp2_with (first | (go_at_call 137; refine HCALL.out.mono ?_; rintro en wA ⟨rfl, hbA⟩; have HR3 := aMk (HR2.out.below hbA); have hb0A := HR3.out.b0; clear hbA; have hzA := HR3.out.cell mi.toNat (by have := HM.out; have := HC1.out; omega); have hfA := HR3.out.frozen mi.toNat))
           go_roundg k1
           case measure => omega
           case rel => exact ⟨m + 1, _, _, congrArg (Value.int .i64) (by first | rfl | exact hmk.symm), HMK, ⟨by have := HKN.out; omega⟩, ⟨by rw [hmt.out]; exact HR3.out.put m 4⟩, HE⟩
         · have c4 : (r == 2) = false := beq_eq_false_iff_ne.2 d4
           have HE : Aside0 (ys = iterS (stEn e) (m + 1) xs') := ⟨by rw [iterS_succ, ← HX.out]; unfold stEn; rw [← hxx.out, ← HRR.out, if_neg (fun h => d4 h.2)]⟩
           clear d d4
           go_wp2_with (first | (go_at_call 137; refine HCALL.out.mono ?_; rintro en wA ⟨rfl, hbA⟩; have HR3 := aMk (HR2.out.below hbA); have hb0A := HR3.out.b0; clear hbA))
           go_roundg k1
           case measure => omega
           case rel => exact ⟨m + 1, _, _, congrArg (Value.int .i64) (by first | rfl | exact hmk.symm), HMK, ⟨by have := HKN.out; omega⟩, HR3, HE⟩
       · have c2 : (x == 3) = false := beq_eq_false_iff_ne.2 d
         have HE : Aside0 (ys = iterS (stEn e) (m + 1) xs') := ⟨by rw [iterS_succ, ← HX.out]; unfold stEn; rw [← hxx.out, if_neg (fun h => d h.1)]⟩
         clear d
         go_wp2
         go_roundg k1
         case measure => omega
         case rel => exact ⟨m + 1, _, _, congrArg (Value.int .i64) (by first | rfl | exact hmk.symm), HMK, ⟨by have := HKN.out; omega⟩, HR, HE⟩
     · have c1 : decide (mi < (n : Int)) = false := decide_eq_false c
       have hmn : m = n := by have := HM.out; have := HKN.out; omega
       have HX3 : Aside0 (ys = iterS (stEn e) n xs') := ⟨by rw [← hmn]; exact HX.out⟩
       have HS := HR
       have hb0 := HR.out.b0
       clear c hmn HX HKN HM HR
       go_wp2
       clear hb0 c1
       go_loopg [66] n (fun kq v66 w' => ∃ (m : Nat) (mi : Int) (zs : List Int), v66 = .int .i64 mi ∧ Aside0 (mi = m) ∧ Aside0 (m + kq = n) ∧ Aside0 (RB w0 w w' gb g cap n e zs) ∧ Aside0 (zs = iterS stAl m ys))
       case atStart => exact ⟨0, 0, ys, rfl, ⟨rfl⟩, ⟨by omega⟩, HS, ⟨rfl⟩⟩
       case round =>
        clear HS
        obtain ⟨m, mi, zs, rfl, HM, HKN, HR, HX⟩ := hrel
        by_cases c : mi < n
        · have hk : gk ≠ 0 := by have := HKN.out; have := HM.out; omega
          obtain ⟨k1, rfl⟩ := Nat.exists_eq_succ_of_ne_zero hk
          have hw : wrap64 (mi + 1) = ((m + 1 : Nat) : Int) := by have := HL.out; have := HM.out; unfold wrap64; omega
          replace hw := aMk hw
          obtain ⟨mk, hmk⟩ : ∃ z, z = wrap64 (mi + 1) := ⟨_, rfl⟩
          have HMK := aMk (hmk.trans hw.out)
          rw [← hmk] at hw
          clear hk hw
          have c1 : decide (mi < (n : Int)) = true := decide_eq_true c
          have p1 : (0 ≤ mi) = True := eq_true (by have := HM.out; omega)
          have q1 : (mi < (n : Int)) = True := eq_true c
          have hmt : mi.toNat = m := by have := HM.out; omega
          have hx : wr.cell? ⟨g, mi.toNat, none⟩ = some (.int .i64 (zs.getD m 0)) := by rw [hmt]; exact HR.out.cell m (by have := HM.out; omega)
          have hb0 := HR.out.b0
          have hb1 := HR.out.b1
          have hfz := HR.out.frozen mi.toNat
          obtain ⟨x, hxx⟩ : ∃ x, x = zs.getD m 0 := ⟨_, rfl⟩
          rw [← hxx] at hx
          replace hxx := aMk hxx
          replace hmt := aMk hmt
          have HC1 := aMk c
          clear c
          by_cases d : x = 2
          · have c2 : (x == 2) = true := beq_iff_eq.2 d
            have HE : Aside0 (zs.set m 1 = iterS stAl (m + 1) ys) := ⟨by rw [iterS_succ, ← HX.out]; unfold stAl; rw [← hxx.out, if_pos d]⟩
            clear d
            go_wp2
            go_roundg k1
            case measure => omega
            case rel => exact ⟨m + 1, _, _, congrArg (Value.int .i64) (by first | rfl | exact hmk.symm), HMK, ⟨by have := HKN.out; omega⟩, ⟨by rw [hmt.out]; exact HR.out.put m 1⟩, HE⟩
          · have c2 : (x == 2) = false := beq_eq_false_iff_ne.2 d
            have HE : Aside0 (zs = iterS stAl (m + 1) ys) := ⟨by rw [iterS_succ, ← HX.out]; unfold stAl; rw [← hxx.out, if_neg d]⟩
            clear d
            go_wp2
            go_roundg k1
            case measure => omega
            case rel => exact ⟨m + 1, _, _, congrArg (Value.int .i64) (by first | rfl | exact hmk.symm), HMK, ⟨by have := HKN.out; omega⟩, HR, HE⟩
        · have c1 : decide (mi < (n : Int)) = false := decide_eq_false c
          have hmn : m = n := by have := HM.out; have := HKN.out; omega
          have HX4 : Aside0 (zs = iterS stAl n ys) := ⟨by rw [← hmn]; exact HX.out⟩
          have HS := HR
          have hb0 := HR.out.b0
          clear c hmn HX HKN HM HR
          go_wp2
          clear hb0 c1
          go_loopg [8] n (fun kq v8 w' => ∃ (m : Nat) (mi : Int) (ws : List Int), v8 = .int .i64 mi ∧ Aside0 (mi = (m : Int) + 1) ∧ Aside0 (m + kq = n) ∧ Aside0 (RB w0 w w' gb g cap n e ws) ∧ Aside0 (ws = iterS stSep m zs) ∧ Aside0 (m ≤ n - 2))
          case atStart => exact ⟨0, 1, zs, rfl, ⟨rfl⟩, ⟨by omega⟩, HS, ⟨rfl⟩, ⟨by omega⟩⟩
          case round =>
           clear HS
           obtain ⟨m, mi, ws, rfl, HM, HKN, HR, HX, HLE⟩ := hrel
           obtain ⟨mk, hmk⟩ : ∃ z, z = wrap64 (mi + 1) := ⟨_, rfl⟩
           have HMK : Aside0 (mk = ((m + 1 : Nat) : Int) + 1) := ⟨by rw [hmk]; have := HL.out; have := HM.out; have := HLE.out; unfold wrap64; omega⟩
           have hmk2 := hmk.symm
           clear hmk
           have hb0 := HR.out.b0
           by_cases c : mk < n
           · have hk : gk ≠ 0 := by have := HKN.out; have := HMK.out; omega
             obtain ⟨k1, rfl⟩ := Nat.exists_eq_succ_of_ne_zero hk
             clear hk
             obtain ⟨mj, hmj⟩ : ∃ z, z = wrap64 (mi - 1) := ⟨_, rfl⟩
             have HMJ : Aside0 (mj = (m : Int)) := ⟨by rw [hmj]; have := HL.out; have := HM.out; have := HLE.out; have := HMK.out; clear hmk2; unfold wrap64; omega⟩
             have hmj2 := hmj.symm
             clear hmj
             have c1 : decide (mk < (n : Int)) = true := decide_eq_true c
             have p1 : (0 ≤ mi) = True := eq_true (by have := HM.out; clear hmk2 hmj2; omega)
             have q1 : (mi < (n : Int)) = True := eq_true (by have := HM.out; have := HMK.out; clear hmk2 hmj2; omega)
             have p2 : (0 ≤ mj) = True := eq_true (by have := HMJ.out; clear hmk2 hmj2; omega)
             have q2 : (mj < (n : Int)) = True := eq_true (by have := HMJ.out; have := HMK.out; clear hmk2 hmj2; omega)
             have p3 : (0 ≤ mk) = True := eq_true (by have := HMK.out; clear hmk2 hmj2; omega)
             have q3 : (mk < (n : Int)) = True := eq_true c
             have HMI : Aside0 (mi.toNat = m + 1) := ⟨by have := HM.out; clear hmk2 hmj2; omega⟩
             obtain ⟨a, ha⟩ : ∃ z, z = ws.getD m 0 := ⟨_, rfl⟩
             obtain ⟨x, hx⟩ : ∃ z, z = ws.getD (m + 1) 0 := ⟨_, rfl⟩
             obtain ⟨b, hb⟩ : ∃ z, z = ws.getD (m + 2) 0 := ⟨_, rfl⟩
             have HA : Aside0 (wr.cell? ⟨g, mj.toNat, none⟩ = some (.int .i64 a)) := ⟨by rw [show mj.toNat = m by have := HMJ.out; clear hmk2 hmj2; omega, ha]; exact HR.out.cell m (by have := HMK.out; clear hmk2 hmj2; omega)⟩
             have HXX : Aside0 (wr.cell? ⟨g, mi.toNat, none⟩ = some (.int .i64 x)) := ⟨by rw [HMI.out, hx]; exact HR.out.cell (m + 1) (by have := HMK.out; clear hmk2 hmj2; omega)⟩
             have HBB : Aside0 (wr.cell? ⟨g, mk.toNat, none⟩ = some (.int .i64 b)) := ⟨by rw [show mk.toNat = m + 2 by have := HMK.out; clear hmk2 hmj2; omega, hb]; exact HR.out.cell (m + 2) (by have := HMK.out; clear hmk2 hmj2; omega)⟩
             have hfz := HR.out.frozen mi.toNat
             have hxc := HXX.out
             have HAV := aMk ha
             have HXV := aMk hx
             have HBV := aMk hb
             have HC1 := aMk c
             clear ha hx hb c
             go_wp2
             refine start_ (n := 20) (S := fun w' => w'.cell? ⟨gb, 0, none⟩ = some (.slice (some ⟨g, 0, none⟩) n cap) ∧ w'.cell? ⟨g, mj.toNat, none⟩ = some (.int .i64 a) ∧ w'.cell? ⟨g, mi.toNat, none⟩ = some (.int .i64 x) ∧ w'.cell? ⟨g, mk.toNat, none⟩ = some (.int .i64 b)) (ds := []) #[false, false, false, false, false, false, false, false, false, false, false, false, false, false, false, false, false, false, false, false] (by kernel_rfl) rfl rfl ⟨HR.out.b0, HA.out, HXX.out, HBB.out⟩ (fun hHeld => ?_)
             refine pure_ (i := 0) (N := some 86) (v := ?_) (a' := ?_) #[true, false, false, false, false, false, false, false, false, false, false, false, false, false, false, false, false, false, false, false] rfl rfl (by kernel_rfl) (fun _ _ _ h => h) (Or.inl ⟨by rfl, ?_⟩) ?_ ?_
             rotate_left
             · intro w'
               go_simp
               with_reducible rfl
             rotate_left
             · simp only [Act.put, lSa, lSz, lSs, i64_w, i32_w]
               rfl
             refine pure_ (i := 2) (N := some 88) (v := ?_) (a' := ?_) #[true, false, true, false, false, false, false, false, false, false, false, false, false, false, false, false, false, false, false, false] rfl rfl (by kernel_rfl) (fun _ _ _ h => h) (Or.inl ⟨by rfl, ?_⟩) ?_ ?_
             rotate_left
             · intro w'
               go_simp
               with_reducible rfl
             rotate_left
             · simp only [Act.put, lSa, lSz, lSs, i64_w, i32_w]
               rfl
             refine pure_ (i := 3) (N := some 89) (v := ?_) (a' := ?_) #[true, false, true, true, false, false, false, false, false, false, false, false, false, false, false, false, false, false, false, false] rfl rfl (by kernel_rfl) (fun _ _ _ h => h) (Or.inl ⟨by rfl, ?_⟩) ?_ ?_
             rotate_left
             · intro w'
               go_simp
               with_reducible rfl
             rotate_left
             · simp only [Act.put, lSa, lSz, lSs, i64_w, i32_w]
               rfl
             refine pure_ (i := 6) (N := some 92) (v := ?_) (a' := ?_) #[true, false, true, true, false, false, true, false, false, false, false, false, false, false, false, false, false, false, false, false] rfl rfl (by kernel_rfl) (fun _ _ _ h => h) (Or.inl ⟨by rfl, ?_⟩) ?_ ?_
             rotate_left
             · intro w'
               go_simp
               with_reducible rfl
             rotate_left
             · simp only [Act.put, lSa, lSz, lSs, i64_w, i32_w]
               rfl
             refine pure_ (i := 8) (N := some 94) (v := ?_) (a' := ?_) #[true, false, true, true, false, false, true, false, true, false, false, false, false, false, false, false, false, false, false, false] rfl rfl (by kernel_rfl) (fun _ _ _ h => h) (Or.inl ⟨by rfl, ?_⟩) ?_ ?_
             rotate_left
             · intro w'
               go_simp
               with_reducible rfl
             rotate_left
             · simp only [Act.put, lSa, lSz, lSs, i64_w, i32_w]
               rfl
             refine pure_ (i := 11) (N := some 97) (v := ?_) (a' := ?_) #[true, false, true, true, false, false, true, false, true, false, false, true, false, false, false, false, false, false, false, false] rfl rfl (by kernel_rfl) (fun _ _ _ h => h) (Or.inl ⟨by rfl, ?_⟩) ?_ ?_
             rotate_left
             · intro w'
               go_simp
               with_reducible rfl
             rotate_left
             · simp only [Act.put, lSa, lSz, lSs, i64_w, i32_w]
               rfl
             refine pure_ (i := 13) (N := some 99) (v := ?_) (a' := ?_) #[true, false, true, true, false, false, true, false, true, false, false, true, false, true, false, false, false, false, false, false] rfl rfl (by kernel_rfl) (fun _ _ _ h => h) (Or.inl ⟨by rfl, ?_⟩) ?_ ?_
             rotate_left
             · intro w'
               go_simp
               with_reducible rfl
             rotate_left
             · simp only [Act.put, lSa, lSz, lSs, i64_w, i32_w]
               rfl
             refine pure_ (i := 14) (N := some 100) (v := ?_) (a' := ?_) #[true, false, true, true, false, false, true, false, true, false, false, true, false, true, true, false, false, false, false, false] rfl rfl (by kernel_rfl) (fun _ _ _ h => h) (Or.inl ⟨by rfl, ?_⟩) ?_ ?_
             rotate_left
             · intro w'
               go_simp
               with_reducible rfl
             rotate_left
             · simp only [Act.put, lSa, lSz, lSs, i64_w, i32_w]
               rfl
             refine take_ (i := 1) (N := some 87) (v := ?_) (a' := ?_) #[true, true, true, true, false, false, true, false, true, false, false, true, false, true, true, false, false, false, false, false] rfl rfl (by kernel_rfl) (fun _ _ _ h => h) (Or.inl ⟨by rfl, ?_⟩) hHeld ?_ ?_
             rotate_left
             · rintro w' ⟨s0, s1, s2, s3⟩
               go_simp
               with_reducible rfl
             rotate_left
             · simp only [Act.put, lSa, lSz, lSs, i64_w, i32_w]
               rfl
             refine pure_ (i := 4) (N := some 90) (v := ?_) (a' := ?_) #[true, true, true, true, true, false, true, false, true, false, false, true, false, true, true, false, false, false, false, false] rfl rfl (by kernel_rfl) (fun _ _ _ h => h) (Or.inl ⟨by rfl, ?_⟩) ?_ ?_
             rotate_left
             · intro w'
               go_simp
               with_reducible rfl
             rotate_left
             · simp only [Act.put, lSa, lSz, lSs, i64_w, i32_w]
               rfl
             refine take_ (i := 5) (N := some 91) (v := ?_) (a' := ?_) #[true, true, true, true, true, true, true, false, true, false, false, true, false, true, true, false, false, false, false, false] rfl rfl (by kernel_rfl) (fun _ _ _ h => h) (Or.inl ⟨by rfl, ?_⟩) hHeld ?_ ?_
             rotate_left
             · rintro w' ⟨s0, s1, s2, s3⟩
               go_simp
               with_reducible rfl
             rotate_left
             · simp only [Act.put, lSa, lSz, lSs, i64_w, i32_w]
               rfl
             refine pure_ (i := 17) (N := some 9) (v := ?_) (a' := ?_) #[true, true, true, true, true, true, true, false, true, false, false, true, false, true, true, false, false, true, false, false] rfl rfl (by kernel_rfl) (fun _ _ _ h => h) (Or.inl ⟨by rfl, ?_⟩) ?_ ?_
             rotate_left
             · intro w'
               go_simp
               with_reducible rfl
             rotate_left
             · simp only [Act.put, lSa, lSz, lSs, i64_w, i32_w]
               rfl
             refine take_ (i := 7) (N := some 93) (v := ?_) (a' := ?_) #[true, true, true, true, true, true, true, true, true, false, false, true, false, true, true, false, false, true, false, false] rfl rfl (by kernel_rfl) (fun _ _ _ h => h) (Or.inl ⟨by rfl, ?_⟩) hHeld ?_ ?_
             rotate_left
             · rintro w' ⟨s0, s1, s2, s3⟩
               go_simp
               with_reducible rfl
             rotate_left
             · simp only [Act.put, lSa, lSz, lSs, i64_w, i32_w]
               rfl
             refine pure_ (i := 9) (N := some 95) (v := ?_) (a' := ?_) #[true, true, true, true, true, true, true, true, true, true, false, true, false, true, true, false, false, true, false, false] rfl rfl (by kernel_rfl) (fun _ _ _ h => h) (Or.inl ⟨by rfl, ?_⟩) ?_ ?_
             rotate_left
             · intro w'
               go_simp
               with_reducible rfl
             rotate_left
             · simp only [Act.put, lSa, lSz, lSs, i64_w, i32_w]
               rfl
             refine take_ (i := 10) (N := some 96) (v := ?_) (a' := ?_) #[true, true, true, true, true, true, true, true, true, true, true, true, false, true, true, false, false, true, false, false] rfl rfl (by kernel_rfl) (fun _ _ _ h => h) (Or.inl ⟨by rfl, ?_⟩) hHeld ?_ ?_
             rotate_left
             · rintro w' ⟨s0, s1, s2, s3⟩
               go_simp
               with_reducible rfl
             rotate_left
             · simp only [Act.put, lSa, lSz, lSs, i64_w, i32_w]
               rfl
             refine pure_ (i := 18) (N := some 10) (v := ?_) (a' := ?_) #[true, true, true, true, true, true, true, true, true, true, true, true, false, true, true, false, false, true, true, false] rfl rfl (by kernel_rfl) (fun _ _ _ h => h) (Or.inl ⟨by rfl, ?_⟩) ?_ ?_
             rotate_left
             · intro w'
               go_simp
               with_reducible rfl
             rotate_left
             · simp only [Act.put, lSa, lSz, lSs, i64_w, i32_w]
               rfl
             refine take_ (i := 12) (N := some 98) (v := ?_) (a' := ?_) #[true, true, true, true, true, true, true, true, true, true, true, true, true, true, true, false, false, true, true, false] rfl rfl (by kernel_rfl) (fun _ _ _ h => h) (Or.inl ⟨by rfl, ?_⟩) hHeld ?_ ?_
             rotate_left
             · rintro w' ⟨s0, s1, s2, s3⟩
               go_simp
               with_reducible rfl
             rotate_left
             · simp only [Act.put, lSa, lSz, lSs, i64_w, i32_w]
               rfl
             refine pure_ (i := 15) (N := some 101) (v := ?_) (a' := ?_) #[true, true, true, true, true, true, true, true, true, true, true, true, true, true, true, true, false, true, true, false] rfl rfl (by kernel_rfl) (fun _ _ _ h => h) (Or.inl ⟨by rfl, ?_⟩) ?_ ?_
             rotate_left
             · intro w'
               go_simp
               with_reducible rfl
             rotate_left
             · simp only [Act.put, lSa, lSz, lSs, i64_w, i32_w]
               rfl
             refine take_ (i := 16) (N := some 102) (v := ?_) (a' := ?_) #[true, true, true, true, true, true, true, true, true, true, true, true, true, true, true, true, true, true, true, false] rfl rfl (by kernel_rfl) (fun _ _ _ h => h) (Or.inl ⟨by rfl, ?_⟩) hHeld ?_ ?_
             rotate_left
             · rintro w' ⟨s0, s1, s2, s3⟩
               go_simp
               with_reducible rfl
             rotate_left
             · simp only [Act.put, lSa, lSz, lSs, i64_w, i32_w]
               rfl
             refine pure_ (i := 19) (N := some 11) (v := ?_) (a' := ?_) #[true, true, true, true, true, true, true, true, true, true, true, true, true, true, true, true, true, true, true, true] rfl rfl (by kernel_rfl) (fun _ _ _ h => h) (Or.inl ⟨by rfl, ?_⟩) ?_ ?_
             rotate_left
             · intro w'
               go_simp
               with_reducible rfl
             rotate_left
             · simp only [Act.put, lSa, lSz, lSs, i64_w, i32_w]
               rfl
             refine done_ (by kernel_rfl) ?_
             by_cases d_ab : a = b
             · by_cases d_a3 : a = 3
               · by_cases d_x5 : x = 5
                 · have q_ab : (a == b) = true := beq_iff_eq.2 d_ab
                   have q_a3 : (a == 3) = true := beq_iff_eq.2 d_a3
                   have q_x5 : (x == 5) = true := beq_iff_eq.2 d_x5
                   have HE : Aside0 (ws.set (m + 1) a = iterS stSep (m + 1) zs) := ⟨by rw [iterS_succ, ← HX.out]; unfold stSep; rw [← HAV.out, ← HXV.out, ← HBV.out, if_pos (by omega)]⟩
                   clear d_ab d_a3 d_x5
                   go_wp2
                   go_roundg k1
                   case measure => omega
                   case rel => exact ⟨m + 1, _, _, congrArg (Value.int .i64) (by first | rfl | exact hmk2), HMK, ⟨by have := HKN.out; omega⟩, ⟨by rw [HMI.out]; exact (HR.out.below (below_drew (Below.refl _ _))).put (m + 1) a⟩, HE, ⟨by have := HMK.out; have := HC1.out; omega⟩⟩
                 · by_cases d_x7 : x = 7
                   · have q_ab : (a == b) = true := beq_iff_eq.2 d_ab
                     have q_a3 : (a == 3) = true := beq_iff_eq.2 d_a3
                     have q_x5 : (x == 5) = false := beq_eq_false_iff_ne.2 d_x5
                     have q_x7 : (x == 7) = true := beq_iff_eq.2 d_x7
                     have HE : Aside0 (ws.set (m + 1) a = iterS stSep (m + 1) zs) := ⟨by rw [iterS_succ, ← HX.out]; unfold stSep; rw [← HAV.out, ← HXV.out, ← HBV.out, if_pos (by omega)]⟩
                     clear d_ab d_a3 d_x5 d_x7
                     go_wp2
                     go_roundg k1
                     case measure => omega
                     case rel => exact ⟨m + 1, _, _, congrArg (Value.int .i64) (by first | rfl | exact hmk2), HMK, ⟨by have := HKN.out; omega⟩, ⟨by rw [HMI.out]; exact (HR.out.below (below_drew (Below.refl _ _))).put (m + 1) a⟩, HE, ⟨by have := HMK.out; have := HC1.out; omega⟩⟩
                   · have d_a4 : ¬ a = 4 := by omega
                     have q_ab : (a == b) = true := beq_iff_eq.2 d_ab
                     have q_a3 : (a == 3) = true := beq_iff_eq.2 d_a3
                     have q_x5 : (x == 5) = false := beq_eq_false_iff_ne.2 d_x5
                     have q_x7 : (x == 7) = false := beq_eq_false_iff_ne.2 d_x7
                     have q_a4 : (a == 4) = false := beq_eq_false_iff_ne.2 d_a4
                     have HE : Aside0 (ws = iterS stSep (m + 1) zs) := ⟨by rw [iterS_succ, ← HX.out]; unfold stSep; rw [← HAV.out, ← HXV.out, ← HBV.out, if_neg (by omega)]⟩
                     clear d_ab d_a3 d_x5 d_x7 d_a4
                     go_wp2
                     go_roundg k1
                     case measure => omega
                     case rel => exact ⟨m + 1, _, _, congrArg (Value.int .i64) (by first | rfl | exact hmk2), HMK, ⟨by have := HKN.out; omega⟩, ⟨HR.out.below (below_drew (Below.refl _ _))⟩, HE, ⟨by have := HMK.out; have := HC1.out; omega⟩⟩
               · by_cases d_a4 : a = 4
                 · by_cases d_x7 : x = 7
                   · have q_ab : (a == b) = true := beq_iff_eq.2 d_ab
                     have q_a3 : (a == 3) = false := beq_eq_false_iff_ne.2 d_a3
                     have q_a4 : (a == 4) = true := beq_iff_eq.2 d_a4
                     have q_x7 : (x == 7) = true := beq_iff_eq.2 d_x7
                     have HE : Aside0 (ws.set (m + 1) a = iterS stSep (m + 1) zs) := ⟨by rw [iterS_succ, ← HX.out]; unfold stSep; rw [← HAV.out, ← HXV.out, ← HBV.out, if_pos (by omega)]⟩
                     clear d_ab d_a3 d_a4 d_x7
                     go_wp2
                     go_roundg k1
                     case measure => omega
                     case rel => exact ⟨m + 1, _, _, congrArg (Value.int .i64) (by first | rfl | exact hmk2), HMK, ⟨by have := HKN.out; omega⟩, ⟨by rw [HMI.out]; exact (HR.out.below (below_drew (Below.refl _ _))).put (m + 1) a⟩, HE, ⟨by have := HMK.out; have := HC1.out; omega⟩⟩
                   · have q_ab : (a == b) = true := beq_iff_eq.2 d_ab
                     have q_a3 : (a == 3) = false := beq_eq_false_iff_ne.2 d_a3
                     have q_a4 : (a == 4) = true := beq_iff_eq.2 d_a4
                     have q_x7 : (x == 7) = false := beq_eq_false_iff_ne.2 d_x7
                     have HE : Aside0 (ws = iterS stSep (m + 1) zs) := ⟨by rw [iterS_succ, ← HX.out]; unfold stSep; rw [← HAV.out, ← HXV.out, ← HBV.out, if_neg (by omega)]⟩
                     clear d_ab d_a3 d_a4 d_x7
                     go_wp2
                     go_roundg k1
                     case measure => omega
                     case rel => exact ⟨m + 1, _, _, congrArg (Value.int .i64) (by first | rfl | exact hmk2), HMK, ⟨by have := HKN.out; omega⟩, ⟨HR.out.below (below_drew (Below.refl _ _))⟩, HE, ⟨by have := HMK.out; have := HC1.out; omega⟩⟩
                 · have q_ab : (a == b) = true := beq_iff_eq.2 d_ab
                   have q_a3 : (a == 3) = false := beq_eq_false_iff_ne.2 d_a3
                   have q_a4 : (a == 4) = false := beq_eq_false_iff_ne.2 d_a4
                   have HE : Aside0 (ws = iterS stSep (m + 1) zs) := ⟨by rw [iterS_succ, ← HX.out]; unfold stSep; rw [← HAV.out, ← HXV.out, ← HBV.out, if_neg (by omega)]⟩
                   clear d_ab d_a3 d_a4
                   go_wp2
                   go_roundg k1
                   case measure => omega
                   case rel => exact ⟨m + 1, _, _, congrArg (Value.int .i64) (by first | rfl | exact hmk2), HMK, ⟨by have := HKN.out; omega⟩, ⟨HR.out.below (below_drew (Below.refl _ _))⟩, HE, ⟨by have := HMK.out; have := HC1.out; omega⟩⟩
             · have q_ab : (a == b) = false := beq_eq_false_iff_ne.2 d_ab
               have HE : Aside0 (ws = iterS stSep (m + 1) zs) := ⟨by rw [iterS_succ, ← HX.out]; unfold stSep; rw [← HAV.out, ← HXV.out, ← HBV.out, if_neg (by omega)]⟩
               clear d_ab
               go_wp2
               go_roundg k1
               case measure => omega
               case rel => exact ⟨m + 1, _, _, congrArg (Value.int .i64) (by first | rfl | exact hmk2), HMK, ⟨by have := HKN.out; omega⟩, ⟨HR.out.below (below_drew (Below.refl _ _))⟩, HE, ⟨by have := HMK.out; have := HC1.out; omega⟩⟩
           · have c1 : decide (mk < (n : Int)) = false := decide_eq_false c
             have HE : Aside0 (ws = weakF e xs) := ⟨by
              have e2 : m = n - 2 := by have := HMK.out; have := HLE.out; clear hmk2; omega
              have l1 : xs'.length = n := by rw [HX1.out, iterS_len _ (stNsm_len e)]; exact HN.out
              unfold weakF
              rw [HN.out, ← HX1.out, ← HX3.out, ← HX4.out, HX.out, e2]⟩
             clear c
             go_wp2
             go_end0
             exact ⟨rfl, by rw [← HE.out]; exact HR.out.row, HR.out.b, HR.out.k⟩
def setR (xs : List Int) (a : Nat) (c : Int) : Nat → List Int
 | 0 => xs
 | m + 1 => (setR xs a c m).set (a + m) c
theorem setR_len (xs : List Int) (a : Nat) (c : Int) (m : Nat) : (setR xs a c m).length = xs.length := by
 induction m with
 | zero => rfl
 | succ m ih => rw [setR, List.length_set, ih]
def runEnd (p : Int → Bool) (xs : List Int) : Nat → Nat → Nat
 | 0, i => i
 | f + 1, i => if p (xs.getD i 0) = true then runEnd p xs f (i + 1) else i
theorem runEnd_ge (p : Int → Bool) (xs : List Int) : ∀ f i, i ≤ runEnd p xs f i ∧ runEnd p xs f i ≤ i + f
 | 0, i => by rw [runEnd]; omega
 | f + 1, i => by
  rw [runEnd]
  split
  · have := runEnd_ge p xs f (i + 1); omega
  · omega
def strS (p : Int → Bool) (F : List Int → Nat → Nat → List Int) (n : Nat) : Nat → Nat → List Int → List Int
 | 0, _, xs => xs
 | f + 1, i, xs => if i < n then (if i < runEnd p xs (n - i) i then strS p F n f (runEnd p xs (n - i) i + 1) (F xs i (runEnd p xs (n - i) i)) else strS p F n f (i + 1) xs) else xs
def numF (xs : List Int) (a b : Nat) : List Int := if (0 < a ∧ xs.getD (a - 1) 0 = 3) ∨ (b < xs.length ∧ xs.getD b 0 = 3) then setR xs a 3 (b - a) else xs
def strongI (c : Int) : Int := if c = 3 ∨ c = 4 then 1 else c
def sideF (e : Int) (xs : List Int) (a b : Nat) : Int := if (if 0 < a then strongI (xs.getD (a - 1) 0) else e) = (if b < xs.length then strongI (xs.getD b 0) else e) then (if 0 < a then strongI (xs.getD (a - 1) 0) else e) else e
def neuF (e : Int) (xs : List Int) (a b : Nat) : List Int := setR xs a (sideF e xs a b) (b - a)
def stOn (xs : List Int) (i : Nat) : List Int := if xs.getD i 0 = 5 ∨ xs.getD i 0 = 6 ∨ xs.getD i 0 = 7 then xs.set i 12 else xs
def stL (e : Int) (xs : List Int) (i : Nat) : List Int := if xs.getD i 0 = 3 ∧ aheadF [0, 1] e xs i = 0 then xs.set i 0 else xs
theorem numF_len (xs : List Int) (a b : Nat) : (numF xs a b).length = xs.length := by unfold numF; split <;> simp [setR_len]
theorem neuF_len (e : Int) (xs : List Int) (a b : Nat) : (neuF e xs a b).length = xs.length := setR_len _ _ _ _
set_option maxHeartbeats 8000000 in
set_option maxRecDepth 100000 in
theorem fill_calls (w0 w : World) (g cap n : Nat) (e : Int) (xs : List Int) (a b : Nat) (c : Int) (hr : RowAt w g cap xs) (hn : xs.length = n) (hl : n ≤ 17592186044415) (hge : w0.heap.size ≤ g) (hB : Below w0.heap.size w0 w) (hab : a ≤ b) (hbn : b ≤ n) :
 Calls Try.prog 141 #[.agg #[.slice (some ⟨g, 0, none⟩) n cap, .int .i64 e], .int .i64 (a : Int), .int .i64 (b : Int), .int .i64 c] w fun r w' => r = .returned (.tuple #[]) ∧ RowAt w' g cap (setR xs a c (b - a)) ∧ Below w0.heap.size w0 w' ∧ KeepBut w w' g none := by
 have huS := Try.underlying22
 have huR := Try.underlying128
 have HS := aMk (RB.start (e := e) hr hn hge hB)
 have HL := aMk hl
 have HAB := aMk hab
 have HBN := aMk hbn
 have HC := aMk (show cap ≤ maxLen by obtain ⟨_, _, _, h, _⟩ := hr; exact h)
 obtain ⟨ai, hai⟩ : ∃ z : Int, z = (a : Int) := ⟨_, rfl⟩
 obtain ⟨bi, hbi⟩ : ∃ z : Int, z = (b : Int) := ⟨_, rfl⟩
 rw [← hai, ← hbi]
 have HAI := aMk hai
 have HBI := aMk hbi
 clear hr hn hl hge hB hab hbn hai hbi
 go_enter Try.func141, Try.ntmps141
 go_wp2
 generalize w.alloc (.cells #[.slice (some ⟨g, 0, none⟩) n cap, .int .i64 e] 128) = w1 at HS ⊢
 generalize w.heap.size = gb at HS ⊢
 go_loopg [8] (b - a) (fun kq v8 w' => ∃ (m : Nat) (mi : Int) (ys : List Int), v8 = .int .i64 mi ∧ Aside0 (mi = ((a + m : Nat) : Int)) ∧ Aside0 (m + kq = b - a) ∧ Aside0 (RB w0 w w' gb g cap n e ys) ∧ Aside0 (ys = setR xs a c m))
 case atStart => exact ⟨0, ai, xs, rfl, ⟨HAI.out⟩, ⟨by omega⟩, HS, ⟨rfl⟩⟩
 case round =>
  clear HS
  obtain ⟨m, mi, ys, rfl, HM, HKN, HR, HX⟩ := hrel
  by_cases d : mi < bi
  · have hk : gk ≠ 0 := by have := HKN.out; have := HM.out; have := HBI.out; omega
    obtain ⟨k1, rfl⟩ := Nat.exists_eq_succ_of_ne_zero hk
    have c1 : decide (mi < bi) = true := decide_eq_true d
    have p1 : (0 ≤ mi) = True := eq_true (by have := HM.out; omega)
    have q1 : (mi < (n : Int)) = True := eq_true (by have := HM.out; have := HBI.out; have := HBN.out; omega)
    have hmt : mi.toNat = a + m := by have := HM.out; omega
    have hx := HR.out.cell mi.toNat (by have := HM.out; have := HBI.out; have := HBN.out; omega)
    have hb0 := HR.out.b0
    have hfz := HR.out.frozen mi.toNat
    have hw : wrap64 (mi + 1) = ((a + (m + 1) : Nat) : Int) := by have := HL.out; have := HM.out; have := HBI.out; have := HBN.out; unfold wrap64; omega
    have HW := aMk hw
    have HMT := aMk hmt
    have HC1 := aMk d
    clear hk hw hmt d
    go_wp2
    go_roundg k1
    case measure => omega
    case rel => exact ⟨m + 1, _, _, rfl, HW, ⟨by have := HKN.out; omega⟩, ⟨by rw [HMT.out]; exact HR.out.put (a + m) c⟩, ⟨by rw [HX.out]; rfl⟩⟩
  · have c1 : decide (mi < bi) = false := decide_eq_false d
    have HE : Aside0 (ys = setR xs a c (b - a)) := ⟨by rw [HX.out, show m = b - a by have := HKN.out; have := HM.out; have := HBI.out; have := HAB.out; omega]⟩
    clear d
    go_wp2
    go_end0
    exact ⟨rfl, by rw [← HE.out]; exact HR.out.row, HR.out.b, HR.out.k⟩
theorem RB.came {w0 w W W' : World} {gb g cap n : Nat} {e : Int} {xs zs : List Int} (h : RB w0 w W gb g cap n e xs) (hr : RowAt W' g cap zs) (hl : zs.length = n) (hB : Below w0.heap.size w0 W') (hk : KeepBut W W' g none) : RB w0 w W' gb g cap n e zs :=
 ⟨hr, hk.blk h.box h.ne (by simp), hl, h.ge, hB, h.k.trans hk (.inl rfl)⟩
set_option maxHeartbeats 8000000 in
set_option maxRecDepth 100000 in
theorem num2_calls (w0 w W : World) (gb g cap n : Nat) (e : Int) (ys : List Int) (a b : Nat) (hR : RB w0 w W gb g cap n e ys) (hl : n ≤ 17592186044415) (hab : a < b) (hbn : b ≤ n) :
 Calls Try.prog 140 #[.int .i64 (a : Int), .int .i64 (b : Int), .pointer (some ⟨gb, 0, none⟩)] W fun r w' => r = .returned (.tuple #[]) ∧ RB w0 w w' gb g cap n e (numF ys a b) := by
 have huS := Try.underlying22
 have huR := Try.underlying128
 have HR := aMk hR
 have hb0 := hR.b0
 have hb1 := hR.b1
 have HL := aMk hl
 have HAB := aMk hab
 have HBN := aMk hbn
 have HC := aMk (show cap ≤ maxLen by obtain ⟨_, _, _, h, _⟩ := hR.row; exact h)
 obtain ⟨ai, hai⟩ : ∃ z : Int, z = (a : Int) := ⟨_, rfl⟩
 obtain ⟨bi, hbi⟩ : ∃ z : Int, z = (b : Int) := ⟨_, rfl⟩
 have HF := aMk (fill_calls w0 W g cap n e ys a b 3 hR.row hR.len hl hR.ge hR.b (Nat.le_of_lt hab) hbn)
 rw [← hai, ← hbi] at HF ⊢
 have HAI := aMk hai
 have HBI := aMk hbi
 clear hR hl hab hbn hai hbi
 go_enter Try.func140, Try.ntmps140
 by_cases d_a : 0 < a
 · by_cases d_x : ys.getD (a - 1) 0 = 3
   · have q_a : decide (ai > 0) = true := decide_eq_true (by have := HAI.out; omega)
     obtain ⟨mj, hmj⟩ : ∃ z, z = wrap64 (ai - 1) := ⟨_, rfl⟩
     have HMJ : Aside0 (mj = ((a - 1 : Nat) : Int)) := ⟨by rw [hmj]; have := HL.out; have := HAI.out; have := HAB.out; have := HBN.out; unfold wrap64; omega⟩
     have hmj2 := hmj.symm
     clear hmj
     have p1 : (0 ≤ mj) = True := eq_true (by have := HMJ.out; clear hmj2; omega)
     have q1 : (mj < (n : Int)) = True := eq_true (by have := HMJ.out; have := HAB.out; have := HBN.out; clear hmj2; omega)
     have hx : W.cell? ⟨g, mj.toNat, none⟩ = some (.int .i64 (ys.getD (a - 1) 0)) := by rw [show mj.toNat = a - 1 by have := HMJ.out; clear hmj2; omega]; exact HR.out.cell (a - 1) (by have := HAB.out; have := HBN.out; clear hmj2; omega)
     obtain ⟨x, hxx⟩ : ∃ x, x = ys.getD (a - 1) 0 := ⟨_, rfl⟩
     rw [← hxx] at hx d_x
     have q_x : (x == 3) = true := beq_iff_eq.2 d_x
     have HE : Aside0 (numF ys a b = setR ys a 3 (b - a)) := ⟨by unfold numF; rw [HR.out.len]; rw [← hxx]; exact if_pos (by omega)⟩
     clear d_a
     clear d_x
     clear hxx
     rw [HE.out]
     go_wp2_with (first | (go_at_call 141; refine HF.out.mono ?_; rintro en w' ⟨rfl, hr1, hb1_, hk1⟩))
     go_end0
     exact ⟨rfl, HR.out.came hr1 (by rw [setR_len]; exact HR.out.len) hb1_ hk1⟩
   · by_cases d_b : b < n
     · by_cases d_y : ys.getD b 0 = 3
       · have q_a : decide (ai > 0) = true := decide_eq_true (by have := HAI.out; omega)
         obtain ⟨mj, hmj⟩ : ∃ z, z = wrap64 (ai - 1) := ⟨_, rfl⟩
         have HMJ : Aside0 (mj = ((a - 1 : Nat) : Int)) := ⟨by rw [hmj]; have := HL.out; have := HAI.out; have := HAB.out; have := HBN.out; unfold wrap64; omega⟩
         have hmj2 := hmj.symm
         clear hmj
         have p1 : (0 ≤ mj) = True := eq_true (by have := HMJ.out; clear hmj2; omega)
         have q1 : (mj < (n : Int)) = True := eq_true (by have := HMJ.out; have := HAB.out; have := HBN.out; clear hmj2; omega)
         have hx : W.cell? ⟨g, mj.toNat, none⟩ = some (.int .i64 (ys.getD (a - 1) 0)) := by rw [show mj.toNat = a - 1 by have := HMJ.out; clear hmj2; omega]; exact HR.out.cell (a - 1) (by have := HAB.out; have := HBN.out; clear hmj2; omega)
         obtain ⟨x, hxx⟩ : ∃ x, x = ys.getD (a - 1) 0 := ⟨_, rfl⟩
         rw [← hxx] at hx d_x
         have q_x : (x == 3) = false := beq_eq_false_iff_ne.2 d_x
         have q_b : decide (bi < (n : Int)) = true := decide_eq_true (by have := HBI.out; omega)
         have p2 : (0 ≤ bi) = True := eq_true (by have := HBI.out; omega)
         have q2 : (bi < (n : Int)) = True := eq_true (by have := HBI.out; omega)
         have hy : W.cell? ⟨g, bi.toNat, none⟩ = some (.int .i64 (ys.getD b 0)) := by rw [show bi.toNat = b by have := HBI.out; omega]; exact HR.out.cell b (by omega)
         obtain ⟨y, hyy⟩ : ∃ y, y = ys.getD b 0 := ⟨_, rfl⟩
         rw [← hyy] at hy d_y
         have q_y : (y == 3) = true := beq_iff_eq.2 d_y
         have HE : Aside0 (numF ys a b = setR ys a 3 (b - a)) := ⟨by unfold numF; rw [HR.out.len]; rw [← hxx]; rw [← hyy]; exact if_pos (by omega)⟩
         clear d_a
         clear d_x
         clear d_b
         clear d_y
         clear hxx
         clear hyy
         rw [HE.out]
         go_wp2_with (first | (go_at_call 141; refine HF.out.mono ?_; rintro en w' ⟨rfl, hr1, hb1_, hk1⟩))
         go_end0
         exact ⟨rfl, HR.out.came hr1 (by rw [setR_len]; exact HR.out.len) hb1_ hk1⟩
       · have q_a : decide (ai > 0) = true := decide_eq_true (by have := HAI.out; omega)
         obtain ⟨mj, hmj⟩ : ∃ z, z = wrap64 (ai - 1) := ⟨_, rfl⟩
         have HMJ : Aside0 (mj = ((a - 1 : Nat) : Int)) := ⟨by rw [hmj]; have := HL.out; have := HAI.out; have := HAB.out; have := HBN.out; unfold wrap64; omega⟩
         have hmj2 := hmj.symm
         clear hmj
         have p1 : (0 ≤ mj) = True := eq_true (by have := HMJ.out; clear hmj2; omega)
         have q1 : (mj < (n : Int)) = True := eq_true (by have := HMJ.out; have := HAB.out; have := HBN.out; clear hmj2; omega)
         have hx : W.cell? ⟨g, mj.toNat, none⟩ = some (.int .i64 (ys.getD (a - 1) 0)) := by rw [show mj.toNat = a - 1 by have := HMJ.out; clear hmj2; omega]; exact HR.out.cell (a - 1) (by have := HAB.out; have := HBN.out; clear hmj2; omega)
         obtain ⟨x, hxx⟩ : ∃ x, x = ys.getD (a - 1) 0 := ⟨_, rfl⟩
         rw [← hxx] at hx d_x
         have q_x : (x == 3) = false := beq_eq_false_iff_ne.2 d_x
         have q_b : decide (bi < (n : Int)) = true := decide_eq_true (by have := HBI.out; omega)
         have p2 : (0 ≤ bi) = True := eq_true (by have := HBI.out; omega)
         have q2 : (bi < (n : Int)) = True := eq_true (by have := HBI.out; omega)
         have hy : W.cell? ⟨g, bi.toNat, none⟩ = some (.int .i64 (ys.getD b 0)) := by rw [show bi.toNat = b by have := HBI.out; omega]; exact HR.out.cell b (by omega)
         obtain ⟨y, hyy⟩ : ∃ y, y = ys.getD b 0 := ⟨_, rfl⟩
         rw [← hyy] at hy d_y
         have q_y : (y == 3) = false := beq_eq_false_iff_ne.2 d_y
         have HE : Aside0 (numF ys a b = ys) := ⟨by unfold numF; rw [HR.out.len]; rw [← hxx]; rw [← hyy]; exact if_neg (by omega)⟩
         clear d_a
         clear d_x
         clear d_b
         clear d_y
         clear hxx
         clear hyy
         rw [HE.out]
         go_wp2
         go_end0
         exact ⟨rfl, HR.out⟩
     · have q_a : decide (ai > 0) = true := decide_eq_true (by have := HAI.out; omega)
       obtain ⟨mj, hmj⟩ : ∃ z, z = wrap64 (ai - 1) := ⟨_, rfl⟩
       have HMJ : Aside0 (mj = ((a - 1 : Nat) : Int)) := ⟨by rw [hmj]; have := HL.out; have := HAI.out; have := HAB.out; have := HBN.out; unfold wrap64; omega⟩
       have hmj2 := hmj.symm
       clear hmj
       have p1 : (0 ≤ mj) = True := eq_true (by have := HMJ.out; clear hmj2; omega)
       have q1 : (mj < (n : Int)) = True := eq_true (by have := HMJ.out; have := HAB.out; have := HBN.out; clear hmj2; omega)
       have hx : W.cell? ⟨g, mj.toNat, none⟩ = some (.int .i64 (ys.getD (a - 1) 0)) := by rw [show mj.toNat = a - 1 by have := HMJ.out; clear hmj2; omega]; exact HR.out.cell (a - 1) (by have := HAB.out; have := HBN.out; clear hmj2; omega)
       obtain ⟨x, hxx⟩ : ∃ x, x = ys.getD (a - 1) 0 := ⟨_, rfl⟩
       rw [← hxx] at hx d_x
       have q_x : (x == 3) = false := beq_eq_false_iff_ne.2 d_x
       have q_b : decide (bi < (n : Int)) = false := decide_eq_false (by have := HBI.out; omega)
       have HE : Aside0 (numF ys a b = ys) := ⟨by unfold numF; rw [HR.out.len]; rw [← hxx]; exact if_neg (by omega)⟩
       clear d_a
       clear d_x
       clear d_b
       clear hxx
       rw [HE.out]
       go_wp2
       go_end0
       exact ⟨rfl, HR.out⟩
 · by_cases d_b : b < n
   · by_cases d_y : ys.getD b 0 = 3
     · have q_a : decide (ai > 0) = false := decide_eq_false (by have := HAI.out; omega)
       have q_b : decide (bi < (n : Int)) = true := decide_eq_true (by have := HBI.out; omega)
       have p2 : (0 ≤ bi) = True := eq_true (by have := HBI.out; omega)
       have q2 : (bi < (n : Int)) = True := eq_true (by have := HBI.out; omega)
       have hy : W.cell? ⟨g, bi.toNat, none⟩ = some (.int .i64 (ys.getD b 0)) := by rw [show bi.toNat = b by have := HBI.out; omega]; exact HR.out.cell b (by omega)
       obtain ⟨y, hyy⟩ : ∃ y, y = ys.getD b 0 := ⟨_, rfl⟩
       rw [← hyy] at hy d_y
       have q_y : (y == 3) = true := beq_iff_eq.2 d_y
       have HE : Aside0 (numF ys a b = setR ys a 3 (b - a)) := ⟨by unfold numF; rw [HR.out.len]; rw [← hyy]; exact if_pos (by omega)⟩
       clear d_a
       clear d_b
       clear d_y
       clear hyy
       rw [HE.out]
       go_wp2_with (first | (go_at_call 141; refine HF.out.mono ?_; rintro en w' ⟨rfl, hr1, hb1_, hk1⟩))
       go_end0
       exact ⟨rfl, HR.out.came hr1 (by rw [setR_len]; exact HR.out.len) hb1_ hk1⟩
     · have q_a : decide (ai > 0) = false := decide_eq_false (by have := HAI.out; omega)
       have q_b : decide (bi < (n : Int)) = true := decide_eq_true (by have := HBI.out; omega)
       have p2 : (0 ≤ bi) = True := eq_true (by have := HBI.out; omega)
       have q2 : (bi < (n : Int)) = True := eq_true (by have := HBI.out; omega)
       have hy : W.cell? ⟨g, bi.toNat, none⟩ = some (.int .i64 (ys.getD b 0)) := by rw [show bi.toNat = b by have := HBI.out; omega]; exact HR.out.cell b (by omega)
       obtain ⟨y, hyy⟩ : ∃ y, y = ys.getD b 0 := ⟨_, rfl⟩
       rw [← hyy] at hy d_y
       have q_y : (y == 3) = false := beq_eq_false_iff_ne.2 d_y
       have HE : Aside0 (numF ys a b = ys) := ⟨by unfold numF; rw [HR.out.len]; rw [← hyy]; exact if_neg (by omega)⟩
       clear d_a
       clear d_b
       clear d_y
       clear hyy
       rw [HE.out]
       go_wp2
       go_end0
       exact ⟨rfl, HR.out⟩
   · have q_a : decide (ai > 0) = false := decide_eq_false (by have := HAI.out; omega)
     have q_b : decide (bi < (n : Int)) = false := decide_eq_false (by have := HBI.out; omega)
     have HE : Aside0 (numF ys a b = ys) := ⟨by unfold numF; rw [HR.out.len]; exact if_neg (by omega)⟩
     clear d_a
     clear d_b
     rw [HE.out]
     go_wp2
     go_end0
     exact ⟨rfl, HR.out⟩
set_option maxHeartbeats 8000000 in
set_option maxRecDepth 100000 in
theorem strong_calls (c : Int) (w : World) : Calls Try.prog 144 #[.int .i64 c] w fun r w' => r = .returned (.int .i64 (strongI c)) ∧ w' = w := by
 by_cases h3 : c = 3
 · have q : (c == 3) = true := beq_iff_eq.2 h3
   have HE : Aside0 (strongI c = 1) := ⟨if_pos (.inl h3)⟩
   rw [HE.out]
   clear h3
   go_enter Try.func144, Try.ntmps144
   go_wp2
   go_ret
   exact ⟨rfl, rfl⟩
 · have q : (c == 3) = false := beq_eq_false_iff_ne.2 h3
   by_cases h4 : c = 4
   · have q4 : (c == 4) = true := beq_iff_eq.2 h4
     have HE : Aside0 (strongI c = 1) := ⟨if_pos (.inr h4)⟩
     rw [HE.out]
     clear h3 h4
     go_enter Try.func144, Try.ntmps144
     go_wp2
     go_ret
     exact ⟨rfl, rfl⟩
   · have q4 : (c == 4) = false := beq_eq_false_iff_ne.2 h4
     have HE : Aside0 (strongI c = c) := ⟨if_neg (by omega)⟩
     rw [HE.out]
     clear h3 h4
     go_enter Try.func144, Try.ntmps144
     go_wp2
     go_ret
     exact ⟨rfl, rfl⟩
set_option maxHeartbeats 8000000 in
set_option maxRecDepth 100000 in
theorem neu2_calls (w0 w W : World) (gb g cap n : Nat) (e : Int) (ys : List Int) (a b : Nat) (hR : RB w0 w W gb g cap n e ys) (hl : n ≤ 17592186044415) (hab : a < b) (hbn : b ≤ n) :
 Calls Try.prog 143 #[.int .i64 (a : Int), .int .i64 (b : Int), .pointer (some ⟨gb, 0, none⟩)] W fun r w' => r = .returned (.tuple #[]) ∧ RB w0 w w' gb g cap n e (neuF e ys a b) := by
 have huS := Try.underlying22
 have huR := Try.underlying128
 have HR := aMk hR
 have hb0 := hR.b0
 have hb1 := hR.b1
 have HL := aMk hl
 have HAB := aMk hab
 have HBN := aMk hbn
 have HC := aMk (show cap ≤ maxLen by obtain ⟨_, _, _, h, _⟩ := hR.row; exact h)
 obtain ⟨ai, hai⟩ : ∃ z : Int, z = (a : Int) := ⟨_, rfl⟩
 obtain ⟨bi, hbi⟩ : ∃ z : Int, z = (b : Int) := ⟨_, rfl⟩
 have hd := hR.below (below_drew (Below.refl _ _))
 have HRD := aMk hd
 have HF := aMk (fun c => fill_calls w0 W.drew g cap n e ys a b c hd.row hd.len hl hd.ge hd.b (Nat.le_of_lt hab) hbn)
 rw [← hai, ← hbi] at HF ⊢
 have HAI := aMk hai
 have HBI := aMk hbi
 clear hR hl hab hbn hai hbi hd
 go_enter Try.func143, Try.ntmps143
 by_cases d_a : 0 < a
 · by_cases d_b : b < n
   · have q_a : decide (ai > 0) = true := decide_eq_true (by have := HAI.out; omega)
     obtain ⟨mj, hmj⟩ : ∃ z, z = wrap64 (ai - 1) := ⟨_, rfl⟩
     have HMJ : Aside0 (mj = ((a - 1 : Nat) : Int)) := ⟨by rw [hmj]; have := HL.out; have := HAI.out; have := HAB.out; have := HBN.out; unfold wrap64; omega⟩
     have hmj2 := hmj.symm
     clear hmj
     have p1 : (0 ≤ mj) = True := eq_true (by have := HMJ.out; clear hmj2; omega)
     have q1 : (mj < (n : Int)) = True := eq_true (by have := HMJ.out; have := HAB.out; have := HBN.out; clear hmj2; omega)
     have hx : W.cell? ⟨g, mj.toNat, none⟩ = some (.int .i64 (ys.getD (a - 1) 0)) := by rw [show mj.toNat = a - 1 by have := HMJ.out; clear hmj2; omega]; exact HR.out.cell (a - 1) (by have := HAB.out; have := HBN.out; clear hmj2; omega)
     obtain ⟨x, hxx⟩ : ∃ x, x = ys.getD (a - 1) 0 := ⟨_, rfl⟩
     rw [← hxx] at hx
     have q_b : decide (bi < (n : Int)) = true := decide_eq_true (by have := HBI.out; omega)
     have p2 : (0 ≤ bi) = True := eq_true (by have := HBI.out; omega)
     have q2 : (bi < (n : Int)) = True := eq_true (by have := HBI.out; omega)
     have hy : W.cell? ⟨g, bi.toNat, none⟩ = some (.int .i64 (ys.getD b 0)) := by rw [show bi.toNat = b by have := HBI.out; omega]; exact HR.out.cell b (by omega)
     obtain ⟨y, hyy⟩ : ∃ y, y = ys.getD b 0 := ⟨_, rfl⟩
     rw [← hyy] at hy
     have HE : Aside0 (sideF e ys a b = (if strongI x = strongI y then strongI x else e)) := ⟨by unfold sideF; rw [HR.out.len, if_pos d_a, if_pos d_b, ← hxx, ← hyy]⟩
     have HSA := aMk (strong_calls x W.drew)
     obtain ⟨s, hs⟩ : ∃ s, s = strongI x := ⟨_, rfl⟩
     rw [← hs] at HSA HE
     have HSB := aMk (strong_calls y W.drew)
     obtain ⟨t, ht⟩ : ∃ s, s = strongI y := ⟨_, rfl⟩
     rw [← ht] at HSB HE
     by_cases d_e : s = t
     · have q_e : (s == t) = true := beq_iff_eq.2 d_e
       have q_f : (s != t) = false := by rw [bne, q_e]; rfl
       have HE2 : Aside0 (sideF e ys a b = s) := ⟨by rw [HE.out, if_pos d_e]⟩
       have HF2 := HF.out (sideF e ys a b)
       rw [HE2.out] at HF2
       replace HF2 := aMk HF2
       have HG : Aside0 (neuF e ys a b = setR ys a s (b - a)) := ⟨by unfold neuF; rw [HE2.out]⟩
       rw [HG.out]
       clear d_a d_b HF hxx hs hyy ht d_e
       go_wp2
       go_region
       go_wp2_with (first | (go_at_call 144; first | (refine HSA.out.mono ?_; rintro en w' ⟨rfl, rfl⟩) | (refine HSB.out.mono ?_; rintro en w' ⟨rfl, rfl⟩)) | (go_at_call 141; refine HF2.out.mono ?_; rintro en w' ⟨rfl, hr1, hb1_, hk1⟩))
       go_end0
       exact ⟨rfl, HRD.out.came hr1 (by rw [setR_len]; exact HR.out.len) hb1_ hk1⟩
     · have q_e : (s == t) = false := beq_eq_false_iff_ne.2 d_e
       have q_f : (s != t) = true := by rw [bne, q_e]; rfl
       have HE2 : Aside0 (sideF e ys a b = e) := ⟨by rw [HE.out, if_neg d_e]⟩
       have HF2 := HF.out (sideF e ys a b)
       rw [HE2.out] at HF2
       replace HF2 := aMk HF2
       have HG : Aside0 (neuF e ys a b = setR ys a e (b - a)) := ⟨by unfold neuF; rw [HE2.out]⟩
       rw [HG.out]
       clear d_a d_b HF hxx hs hyy ht d_e
       go_wp2
       go_region
       go_wp2_with (first | (go_at_call 144; first | (refine HSA.out.mono ?_; rintro en w' ⟨rfl, rfl⟩) | (refine HSB.out.mono ?_; rintro en w' ⟨rfl, rfl⟩)) | (go_at_call 141; refine HF2.out.mono ?_; rintro en w' ⟨rfl, hr1, hb1_, hk1⟩))
       go_end0
       exact ⟨rfl, HRD.out.came hr1 (by rw [setR_len]; exact HR.out.len) hb1_ hk1⟩
   · have q_a : decide (ai > 0) = true := decide_eq_true (by have := HAI.out; omega)
     obtain ⟨mj, hmj⟩ : ∃ z, z = wrap64 (ai - 1) := ⟨_, rfl⟩
     have HMJ : Aside0 (mj = ((a - 1 : Nat) : Int)) := ⟨by rw [hmj]; have := HL.out; have := HAI.out; have := HAB.out; have := HBN.out; unfold wrap64; omega⟩
     have hmj2 := hmj.symm
     clear hmj
     have p1 : (0 ≤ mj) = True := eq_true (by have := HMJ.out; clear hmj2; omega)
     have q1 : (mj < (n : Int)) = True := eq_true (by have := HMJ.out; have := HAB.out; have := HBN.out; clear hmj2; omega)
     have hx : W.cell? ⟨g, mj.toNat, none⟩ = some (.int .i64 (ys.getD (a - 1) 0)) := by rw [show mj.toNat = a - 1 by have := HMJ.out; clear hmj2; omega]; exact HR.out.cell (a - 1) (by have := HAB.out; have := HBN.out; clear hmj2; omega)
     obtain ⟨x, hxx⟩ : ∃ x, x = ys.getD (a - 1) 0 := ⟨_, rfl⟩
     rw [← hxx] at hx
     have q_b : decide (bi < (n : Int)) = false := decide_eq_false (by have := HBI.out; omega)
     have HE : Aside0 (sideF e ys a b = (if strongI x = e then strongI x else e)) := ⟨by unfold sideF; rw [HR.out.len, if_pos d_a, if_neg d_b, ← hxx]⟩
     have HSA := aMk (strong_calls x W.drew)
     obtain ⟨s, hs⟩ : ∃ s, s = strongI x := ⟨_, rfl⟩
     rw [← hs] at HSA HE
     by_cases d_e : s = e
     · have q_e : (s == e) = true := beq_iff_eq.2 d_e
       have q_f : (s != e) = false := by rw [bne, q_e]; rfl
       have HE2 : Aside0 (sideF e ys a b = s) := ⟨by rw [HE.out, if_pos d_e]⟩
       have HF2 := HF.out (sideF e ys a b)
       rw [HE2.out] at HF2
       replace HF2 := aMk HF2
       have HG : Aside0 (neuF e ys a b = setR ys a s (b - a)) := ⟨by unfold neuF; rw [HE2.out]⟩
       rw [HG.out]
       clear d_a d_b HF hxx hs d_e
       go_wp2
       go_region
       go_wp2_with (first | (go_at_call 144; refine HSA.out.mono ?_; rintro en w' ⟨rfl, rfl⟩) | (go_at_call 141; refine HF2.out.mono ?_; rintro en w' ⟨rfl, hr1, hb1_, hk1⟩))
       go_end0
       exact ⟨rfl, HRD.out.came hr1 (by rw [setR_len]; exact HR.out.len) hb1_ hk1⟩
     · have q_e : (s == e) = false := beq_eq_false_iff_ne.2 d_e
       have q_f : (s != e) = true := by rw [bne, q_e]; rfl
       have HE2 : Aside0 (sideF e ys a b = e) := ⟨by rw [HE.out, if_neg d_e]⟩
       have HF2 := HF.out (sideF e ys a b)
       rw [HE2.out] at HF2
       replace HF2 := aMk HF2
       have HG : Aside0 (neuF e ys a b = setR ys a e (b - a)) := ⟨by unfold neuF; rw [HE2.out]⟩
       rw [HG.out]
       clear d_a d_b HF hxx hs d_e
       go_wp2
       go_region
       go_wp2_with (first | (go_at_call 144; refine HSA.out.mono ?_; rintro en w' ⟨rfl, rfl⟩) | (go_at_call 141; refine HF2.out.mono ?_; rintro en w' ⟨rfl, hr1, hb1_, hk1⟩))
       go_end0
       exact ⟨rfl, HRD.out.came hr1 (by rw [setR_len]; exact HR.out.len) hb1_ hk1⟩
 · by_cases d_b : b < n
   · have q_a : decide (ai > 0) = false := decide_eq_false (by have := HAI.out; omega)
     have q_b : decide (bi < (n : Int)) = true := decide_eq_true (by have := HBI.out; omega)
     have p2 : (0 ≤ bi) = True := eq_true (by have := HBI.out; omega)
     have q2 : (bi < (n : Int)) = True := eq_true (by have := HBI.out; omega)
     have hy : W.cell? ⟨g, bi.toNat, none⟩ = some (.int .i64 (ys.getD b 0)) := by rw [show bi.toNat = b by have := HBI.out; omega]; exact HR.out.cell b (by omega)
     obtain ⟨y, hyy⟩ : ∃ y, y = ys.getD b 0 := ⟨_, rfl⟩
     rw [← hyy] at hy
     have HE : Aside0 (sideF e ys a b = (if e = strongI y then e else e)) := ⟨by unfold sideF; rw [HR.out.len, if_neg d_a, if_pos d_b, ← hyy]⟩
     have HSB := aMk (strong_calls y W.drew)
     obtain ⟨t, ht⟩ : ∃ s, s = strongI y := ⟨_, rfl⟩
     rw [← ht] at HSB HE
     by_cases d_e : e = t
     · have q_e : (e == t) = true := beq_iff_eq.2 d_e
       have q_f : (e != t) = false := by rw [bne, q_e]; rfl
       have HE2 : Aside0 (sideF e ys a b = e) := ⟨by rw [HE.out, if_pos d_e]⟩
       have HF2 := HF.out (sideF e ys a b)
       rw [HE2.out] at HF2
       replace HF2 := aMk HF2
       have HG : Aside0 (neuF e ys a b = setR ys a e (b - a)) := ⟨by unfold neuF; rw [HE2.out]⟩
       rw [HG.out]
       clear d_a d_b HF hyy ht d_e
       go_wp2
       go_region
       go_wp2_with (first | (go_at_call 144; refine HSB.out.mono ?_; rintro en w' ⟨rfl, rfl⟩) | (go_at_call 141; refine HF2.out.mono ?_; rintro en w' ⟨rfl, hr1, hb1_, hk1⟩))
       go_end0
       exact ⟨rfl, HRD.out.came hr1 (by rw [setR_len]; exact HR.out.len) hb1_ hk1⟩
     · have q_e : (e == t) = false := beq_eq_false_iff_ne.2 d_e
       have q_f : (e != t) = true := by rw [bne, q_e]; rfl
       have HE2 : Aside0 (sideF e ys a b = e) := ⟨by rw [HE.out, if_neg d_e]⟩
       have HF2 := HF.out (sideF e ys a b)
       rw [HE2.out] at HF2
       replace HF2 := aMk HF2
       have HG : Aside0 (neuF e ys a b = setR ys a e (b - a)) := ⟨by unfold neuF; rw [HE2.out]⟩
       rw [HG.out]
       clear d_a d_b HF hyy ht d_e
       go_wp2
       go_region
       go_wp2_with (first | (go_at_call 144; refine HSB.out.mono ?_; rintro en w' ⟨rfl, rfl⟩) | (go_at_call 141; refine HF2.out.mono ?_; rintro en w' ⟨rfl, hr1, hb1_, hk1⟩))
       go_end0
       exact ⟨rfl, HRD.out.came hr1 (by rw [setR_len]; exact HR.out.len) hb1_ hk1⟩
   · have q_a : decide (ai > 0) = false := decide_eq_false (by have := HAI.out; omega)
     have q_b : decide (bi < (n : Int)) = false := decide_eq_false (by have := HBI.out; omega)
     have HE : Aside0 (sideF e ys a b = (if e = e then e else e)) := ⟨by unfold sideF; rw [HR.out.len, if_neg d_a, if_neg d_b]⟩
     have HE2 : Aside0 (sideF e ys a b = e) := ⟨by rw [HE.out, if_pos rfl]⟩
     have HF2 := HF.out (sideF e ys a b)
     rw [HE2.out] at HF2
     replace HF2 := aMk HF2
     have HG : Aside0 (neuF e ys a b = setR ys a e (b - a)) := ⟨by unfold neuF; rw [HE2.out]⟩
     rw [HG.out]
     clear d_a d_b HF
     go_wp2
     go_region
     go_wp2_with (first | (go_at_call 141; refine HF2.out.mono ?_; rintro en w' ⟨rfl, hr1, hb1_, hk1⟩))
     go_end0
     exact ⟨rfl, HRD.out.came hr1 (by rw [setR_len]; exact HR.out.len) hb1_ hk1⟩
set_option maxHeartbeats 8000000 in
set_option maxRecDepth 100000 in
theorem num1_calls (c : Int) (w : World) : Calls Try.prog 139 #[.int .i64 c] w fun r w' => r = .returned (.bool (c == 6)) ∧ w' = w := by
 go_enter Try.func139, Try.ntmps139
 go_wp2
 go_ret
 exact ⟨rfl, rfl⟩
set_option maxHeartbeats 8000000 in
set_option maxRecDepth 100000 in
theorem neu1_calls (c : Int) (w : World) : Calls Try.prog 142 #[.int .i64 c] w fun r w' => r = .returned (.bool (decide (c ≥ 9))) ∧ w' = w := by
 go_enter Try.func142, Try.ntmps142
 go_wp2
 go_ret
 exact ⟨rfl, rfl⟩
set_option maxHeartbeats 8000000 in
set_option maxRecDepth 100000 in
theorem strN_calls (w0 w W : World) (gb g cap n : Nat) (e : Int) (xs : List Int) (hR : RB w0 w W gb g cap n e xs) (hl : n ≤ 17592186044415) :
 Calls Try.prog 138 #[.agg #[.slice (some ⟨g, 0, none⟩) n cap, .int .i64 e], .func (.func 139) #[] #[], .func (.func 140) #[] #[.pointer (some ⟨gb, 0, none⟩)]] W fun r W' => r = .returned (.tuple #[]) ∧ RB w0 w W' gb g cap n e (strS (fun c => c == 6) numF n n 0 xs) := by
 have huS := Try.underlying22
 have huR := Try.underlying128
 have hal := hR.below (bAl (Below.refl W.heap.size W) (.cells #[.slice (some ⟨g, 0, none⟩) n cap, .int .i64 e] 128))
 have HS : Aside0 (RB w0 (W.alloc (.cells #[.slice (some ⟨g, 0, none⟩) n cap, .int .i64 e] 128)) (W.alloc (.cells #[.slice (some ⟨g, 0, none⟩) n cap, .int .i64 e] 128)) gb g cap n e xs) := ⟨⟨hal.row, hal.box, hal.len, hal.ge, hal.b, KeepBut.refl _ _ _⟩⟩
 have HK := aMk hal.k
 have HBX := aMk (blk_new W (.cells #[.slice (some ⟨g, 0, none⟩) n cap, .int .i64 e] 128))
 have HNE : Aside0 (W.heap.size ≠ g) := ⟨by have := hR.row.lt; omega⟩
 have HL := aMk hl
 have HC := aMk (show cap ≤ maxLen by obtain ⟨_, _, _, h, _⟩ := hR.row; exact h)
 clear hR hl hal
 go_enter Try.func138, Try.ntmps138
 go_wp2
 generalize W.alloc (.cells #[.slice (some ⟨g, 0, none⟩) n cap, .int .i64 e] 128) = w1 at HS HK HBX ⊢
 generalize W.heap.size = gs at HBX HNE ⊢
 go_loopg [6] n (fun kq v6 w' => ∃ (i : Nat) (ii : Int) (ys : List Int), v6 = .int .i64 ii ∧ Aside0 (ii = i) ∧ Aside0 (n ≤ i + kq) ∧ Aside0 (RB w0 w1 w' gb g cap n e ys) ∧ Aside0 (strS (fun c => c == 6) numF n kq i ys = strS (fun c => c == 6) numF n n 0 xs))
 case atStart => exact ⟨0, 0, xs, rfl, ⟨rfl⟩, ⟨by omega⟩, HS, ⟨rfl⟩⟩
 case round =>
  clear HS
  obtain ⟨i, ii, ys, rfl, HI, HKN, HR, HX⟩ := hrel
  have hq0 : wr.cell? ⟨gs, 0, none⟩ = some (.slice (some ⟨g, 0, none⟩) n cap) := (bCe (HR.out.k.blk HBX.out HNE.out (by simp)) 0).trans rfl
  by_cases c : ii < n
  · have hk : gk ≠ 0 := by have := HKN.out; have := HI.out; omega
    obtain ⟨k1, rfl⟩ := Nat.exists_eq_succ_of_ne_zero hk
    have c1 : decide (ii < (n : Int)) = true := decide_eq_true c
    have HC1 := aMk c
    clear hk c
    go_wp2
    obtain ⟨E, hE⟩ : ∃ z, z = runEnd (fun c => c == 6) ys (n - i) i := ⟨_, rfl⟩
    have HEE := aMk hE
    have HEB : Aside0 (i ≤ E ∧ E ≤ n) := ⟨by have := runEnd_ge (fun c => c == 6) ys (n - i) i; rw [← hE] at this; have := HI.out; have := HC1.out; omega⟩
    clear hE
    go_loopg [7] (n - i) (fun kq v7 w' => ∃ (k : Nat) (ki : Int), v7 = .int .i64 ki ∧ w' = wr ∧ Aside0 (ki = k) ∧ Aside0 (k + kq = n) ∧ Aside0 (runEnd (fun c => c == 6) ys kq k = E))
    case atStart => exact ⟨i, ii, rfl, rfl, HI, ⟨by have := HI.out; have := HC1.out; omega⟩, ⟨HEE.out.symm⟩⟩
    case round =>
     obtain ⟨k, ki, rfl, rfl, HKI, HKN2, HRE⟩ := hrel
     by_cases d : ki < n
     · have c2 : decide (ki < (n : Int)) = true := decide_eq_true d
       have hk : gk ≠ 0 := by have := HKN2.out; have := HKI.out; omega
       obtain ⟨k2, rfl⟩ := Nat.exists_eq_succ_of_ne_zero hk
       have p1 : (0 ≤ ki) = True := eq_true (by have := HKI.out; omega)
       have q1 : (ki < (n : Int)) = True := eq_true d
       have hmt : ki.toNat = k := by have := HKI.out; omega
       have hx : wr.cell? ⟨g, ki.toNat, none⟩ = some (.int .i64 (ys.getD k 0)) := by rw [hmt]; exact HR.out.cell k (by have := HKI.out; omega)
       obtain ⟨x, hxx⟩ : ∃ x, x = ys.getD k 0 := ⟨_, rfl⟩
       rw [← hxx] at hx
       replace hxx := aMk hxx
       have HC2 := aMk d
       clear hk hmt d
       have HF1 := aMk (num1_calls x wr)
       by_cases dp : ((fun c => c == 6) x) = true
       · have HF2 := HF1.out
         have HR3 : Aside0 (runEnd (fun c => c == 6) ys k2 (k + 1) = E) := ⟨by rw [← HRE.out, runEnd, ← hxx.out, if_pos dp]⟩
         have dq : (x == 6) = true := dp
         rw [dq] at HF2
         replace HF2 := aMk HF2
         have hw : wrap64 (ki + 1) = ((k + 1 : Nat) : Int) := by have := HL.out; have := HKI.out; have := HC2.out; unfold wrap64; omega
         have HW := aMk hw
         clear hw dp dq HF1
         go_wp2_with (go_at_call 139; refine HF2.out.mono ?_; rintro en w' ⟨rfl, rfl⟩)
         go_roundg k2
         case measure => omega
         case rel => exact ⟨k + 1, _, rfl, rfl, HW, ⟨by have := HKN2.out; omega⟩, HR3⟩
       · have HF2 := HF1.out
         have HKE : Aside0 (k = E) := ⟨by rw [← HRE.out, runEnd, ← hxx.out, if_neg dp]⟩
         have dq : (x == 6) = false := by simpa using dp
         rw [dq] at HF2
         replace HF2 := aMk HF2
         clear dp dq HF1
         by_cases de : i < k
         · have c5 : decide (ki > ii) = true := decide_eq_true (by have := HI.out; have := HKI.out; omega)
           have hdo := num2_calls w0 w1 wr gb g cap n e ys i k HR.out HL.out de (by rw [HKE.out]; exact HEB.out.2)
           rw [← HI.out, ← HKI.out] at hdo
           have HDO := aMk hdo
           have hw : wrap64 (ki + 1) = ((k + 1 : Nat) : Int) := by have := HL.out; have := HKI.out; have := HKE.out; have := HEB.out; unfold wrap64; omega
           have HW := aMk hw
           have HX2 : Aside0 (strS (fun c => c == 6) numF n k1 (k + 1) (numF ys i k) = strS (fun c => c == 6) numF n n 0 xs) := ⟨by rw [← HX.out, strS, if_pos (by have := HI.out; have := HC1.out; omega), ← HEE.out, ← HKE.out, if_pos de]⟩
           have HGE : Aside0 (n ≤ k + 1 + k1) := ⟨by have := HKN.out; omega⟩
           clear hdo hw de
           go_wp2_with (first | (go_at_call 139; refine HF2.out.mono ?_; rintro en w' ⟨rfl, rfl⟩) | (go_at_call 140; refine HDO.out.mono ?_; rintro en w2 ⟨rfl, hR2⟩; have HR2 := aMk hR2; clear hR2))
           go_roundg k1
           case measure => omega
           case rel => exact ⟨k + 1, _, _, rfl, HW, HGE, HR2, HX2⟩
         · have c5 : decide (ki > ii) = false := decide_eq_false (by have := HI.out; have := HKI.out; omega)
           have hw : wrap64 (ii + 1) = ((i + 1 : Nat) : Int) := by have := HL.out; have := HI.out; have := HC1.out; unfold wrap64; omega
           have HW := aMk hw
           have HX2 : Aside0 (strS (fun c => c == 6) numF n k1 (i + 1) ys = strS (fun c => c == 6) numF n n 0 xs) := ⟨by rw [← HX.out, strS, if_pos (by have := HI.out; have := HC1.out; omega), ← HEE.out, ← HKE.out, if_neg de]⟩
           have HGE : Aside0 (n ≤ i + 1 + k1) := ⟨by have := HKN.out; omega⟩
           clear hw de
           go_wp2_with (first | (go_at_call 139; refine HF2.out.mono ?_; rintro en w' ⟨rfl, rfl⟩) | fail)
           go_roundg k1
           case measure => omega
           case rel => exact ⟨i + 1, _, _, rfl, HW, HGE, HR, HX2⟩
     · have c2 : decide (ki < (n : Int)) = false := decide_eq_false d
       have HKE : Aside0 (k = E) := ⟨by
        rw [← HRE.out, show gk = 0 by have := HKN2.out; have := HKI.out; omega]; rfl⟩
       clear d
       by_cases de : i < k
       · have c5 : decide (ki > ii) = true := decide_eq_true (by have := HI.out; have := HKI.out; omega)
         have hdo := num2_calls w0 w1 wr gb g cap n e ys i k HR.out HL.out de (by rw [HKE.out]; exact HEB.out.2)
         rw [← HI.out, ← HKI.out] at hdo
         have HDO := aMk hdo
         have hw : wrap64 (ki + 1) = ((k + 1 : Nat) : Int) := by have := HL.out; have := HKI.out; have := HKE.out; have := HEB.out; unfold wrap64; omega
         have HW := aMk hw
         have HX2 : Aside0 (strS (fun c => c == 6) numF n k1 (k + 1) (numF ys i k) = strS (fun c => c == 6) numF n n 0 xs) := ⟨by rw [← HX.out, strS, if_pos (by have := HI.out; have := HC1.out; omega), ← HEE.out, ← HKE.out, if_pos de]⟩
         have HGE : Aside0 (n ≤ k + 1 + k1) := ⟨by have := HKN.out; omega⟩
         clear hdo hw de
         go_wp2_with (first | fail | (go_at_call 140; refine HDO.out.mono ?_; rintro en w2 ⟨rfl, hR2⟩; have HR2 := aMk hR2; clear hR2))
         go_roundg k1
         case measure => omega
         case rel => exact ⟨k + 1, _, _, rfl, HW, HGE, HR2, HX2⟩
       · have c5 : decide (ki > ii) = false := decide_eq_false (by have := HI.out; have := HKI.out; omega)
         have hw : wrap64 (ii + 1) = ((i + 1 : Nat) : Int) := by have := HL.out; have := HI.out; have := HC1.out; unfold wrap64; omega
         have HW := aMk hw
         have HX2 : Aside0 (strS (fun c => c == 6) numF n k1 (i + 1) ys = strS (fun c => c == 6) numF n n 0 xs) := ⟨by rw [← HX.out, strS, if_pos (by have := HI.out; have := HC1.out; omega), ← HEE.out, ← HKE.out, if_neg de]⟩
         have HGE : Aside0 (n ≤ i + 1 + k1) := ⟨by have := HKN.out; omega⟩
         clear hw de
         go_wp2_with (first | fail | fail)
         go_roundg k1
         case measure => omega
         case rel => exact ⟨i + 1, _, _, rfl, HW, HGE, HR, HX2⟩
  · have c1 : decide (ii < (n : Int)) = false := decide_eq_false c
    have HE : Aside0 (ys = strS (fun c => c == 6) numF n n 0 xs) := ⟨by
     rw [← HX.out]
     cases gk with
     | zero => rfl
     | succ q => rw [strS, if_neg (by have := HI.out; omega)]⟩
    clear c
    go_wp2
    go_end0
    exact ⟨rfl, by rw [← HE.out]; exact ⟨HR.out.row, HR.out.box, HR.out.len, HR.out.ge, HR.out.b, HK.out.trans HR.out.k (.inl rfl)⟩⟩
set_option maxHeartbeats 8000000 in
set_option maxRecDepth 100000 in
theorem strE_calls (w0 w W : World) (gb g cap n : Nat) (e : Int) (xs : List Int) (hR : RB w0 w W gb g cap n e xs) (hl : n ≤ 17592186044415) :
 Calls Try.prog 138 #[.agg #[.slice (some ⟨g, 0, none⟩) n cap, .int .i64 e], .func (.func 142) #[] #[], .func (.func 143) #[] #[.pointer (some ⟨gb, 0, none⟩)]] W fun r W' => r = .returned (.tuple #[]) ∧ RB w0 w W' gb g cap n e (strS (fun c => decide (c ≥ 9)) (neuF e) n n 0 xs) := by
 have huS := Try.underlying22
 have huR := Try.underlying128
 have hal := hR.below (bAl (Below.refl W.heap.size W) (.cells #[.slice (some ⟨g, 0, none⟩) n cap, .int .i64 e] 128))
 have HS : Aside0 (RB w0 (W.alloc (.cells #[.slice (some ⟨g, 0, none⟩) n cap, .int .i64 e] 128)) (W.alloc (.cells #[.slice (some ⟨g, 0, none⟩) n cap, .int .i64 e] 128)) gb g cap n e xs) := ⟨⟨hal.row, hal.box, hal.len, hal.ge, hal.b, KeepBut.refl _ _ _⟩⟩
 have HK := aMk hal.k
 have HBX := aMk (blk_new W (.cells #[.slice (some ⟨g, 0, none⟩) n cap, .int .i64 e] 128))
 have HNE : Aside0 (W.heap.size ≠ g) := ⟨by have := hR.row.lt; omega⟩
 have HL := aMk hl
 have HC := aMk (show cap ≤ maxLen by obtain ⟨_, _, _, h, _⟩ := hR.row; exact h)
 clear hR hl hal
 go_enter Try.func138, Try.ntmps138
 go_wp2
 generalize W.alloc (.cells #[.slice (some ⟨g, 0, none⟩) n cap, .int .i64 e] 128) = w1 at HS HK HBX ⊢
 generalize W.heap.size = gs at HBX HNE ⊢
 go_loopg [6] n (fun kq v6 w' => ∃ (i : Nat) (ii : Int) (ys : List Int), v6 = .int .i64 ii ∧ Aside0 (ii = i) ∧ Aside0 (n ≤ i + kq) ∧ Aside0 (RB w0 w1 w' gb g cap n e ys) ∧ Aside0 (strS (fun c => decide (c ≥ 9)) (neuF e) n kq i ys = strS (fun c => decide (c ≥ 9)) (neuF e) n n 0 xs))
 case atStart => exact ⟨0, 0, xs, rfl, ⟨rfl⟩, ⟨by omega⟩, HS, ⟨rfl⟩⟩
 case round =>
  clear HS
  obtain ⟨i, ii, ys, rfl, HI, HKN, HR, HX⟩ := hrel
  have hq0 : wr.cell? ⟨gs, 0, none⟩ = some (.slice (some ⟨g, 0, none⟩) n cap) := (bCe (HR.out.k.blk HBX.out HNE.out (by simp)) 0).trans rfl
  by_cases c : ii < n
  · have hk : gk ≠ 0 := by have := HKN.out; have := HI.out; omega
    obtain ⟨k1, rfl⟩ := Nat.exists_eq_succ_of_ne_zero hk
    have c1 : decide (ii < (n : Int)) = true := decide_eq_true c
    have HC1 := aMk c
    clear hk c
    go_wp2
    obtain ⟨E, hE⟩ : ∃ z, z = runEnd (fun c => decide (c ≥ 9)) ys (n - i) i := ⟨_, rfl⟩
    have HEE := aMk hE
    have HEB : Aside0 (i ≤ E ∧ E ≤ n) := ⟨by have := runEnd_ge (fun c => decide (c ≥ 9)) ys (n - i) i; rw [← hE] at this; have := HI.out; have := HC1.out; omega⟩
    clear hE
    go_loopg [7] (n - i) (fun kq v7 w' => ∃ (k : Nat) (ki : Int), v7 = .int .i64 ki ∧ w' = wr ∧ Aside0 (ki = k) ∧ Aside0 (k + kq = n) ∧ Aside0 (runEnd (fun c => decide (c ≥ 9)) ys kq k = E))
    case atStart => exact ⟨i, ii, rfl, rfl, HI, ⟨by have := HI.out; have := HC1.out; omega⟩, ⟨HEE.out.symm⟩⟩
    case round =>
     obtain ⟨k, ki, rfl, rfl, HKI, HKN2, HRE⟩ := hrel
     by_cases d : ki < n
     · have c2 : decide (ki < (n : Int)) = true := decide_eq_true d
       have hk : gk ≠ 0 := by have := HKN2.out; have := HKI.out; omega
       obtain ⟨k2, rfl⟩ := Nat.exists_eq_succ_of_ne_zero hk
       have p1 : (0 ≤ ki) = True := eq_true (by have := HKI.out; omega)
       have q1 : (ki < (n : Int)) = True := eq_true d
       have hmt : ki.toNat = k := by have := HKI.out; omega
       have hx : wr.cell? ⟨g, ki.toNat, none⟩ = some (.int .i64 (ys.getD k 0)) := by rw [hmt]; exact HR.out.cell k (by have := HKI.out; omega)
       obtain ⟨x, hxx⟩ : ∃ x, x = ys.getD k 0 := ⟨_, rfl⟩
       rw [← hxx] at hx
       replace hxx := aMk hxx
       have HC2 := aMk d
       clear hk hmt d
       have HF1 := aMk (neu1_calls x wr)
       by_cases dp : ((fun c => decide (c ≥ 9)) x) = true
       · have HF2 := HF1.out
         have HR3 : Aside0 (runEnd (fun c => decide (c ≥ 9)) ys k2 (k + 1) = E) := ⟨by rw [← HRE.out, runEnd, ← hxx.out, if_pos dp]⟩
         have dq : (decide (x ≥ 9)) = true := dp
         rw [dq] at HF2
         replace HF2 := aMk HF2
         have hw : wrap64 (ki + 1) = ((k + 1 : Nat) : Int) := by have := HL.out; have := HKI.out; have := HC2.out; unfold wrap64; omega
         have HW := aMk hw
         clear hw dp dq HF1
         go_wp2_with (go_at_call 142; refine HF2.out.mono ?_; rintro en w' ⟨rfl, rfl⟩)
         go_roundg k2
         case measure => omega
         case rel => exact ⟨k + 1, _, rfl, rfl, HW, ⟨by have := HKN2.out; omega⟩, HR3⟩
       · have HF2 := HF1.out
         have HKE : Aside0 (k = E) := ⟨by rw [← HRE.out, runEnd, ← hxx.out, if_neg dp]⟩
         have dq : (decide (x ≥ 9)) = false := by simpa using dp
         rw [dq] at HF2
         replace HF2 := aMk HF2
         clear dp dq HF1
         by_cases de : i < k
         · have c5 : decide (ki > ii) = true := decide_eq_true (by have := HI.out; have := HKI.out; omega)
           have hdo := neu2_calls w0 w1 wr gb g cap n e ys i k HR.out HL.out de (by rw [HKE.out]; exact HEB.out.2)
           rw [← HI.out, ← HKI.out] at hdo
           have HDO := aMk hdo
           have hw : wrap64 (ki + 1) = ((k + 1 : Nat) : Int) := by have := HL.out; have := HKI.out; have := HKE.out; have := HEB.out; unfold wrap64; omega
           have HW := aMk hw
           have HX2 : Aside0 (strS (fun c => decide (c ≥ 9)) (neuF e) n k1 (k + 1) ((neuF e) ys i k) = strS (fun c => decide (c ≥ 9)) (neuF e) n n 0 xs) := ⟨by rw [← HX.out, strS, if_pos (by have := HI.out; have := HC1.out; omega), ← HEE.out, ← HKE.out, if_pos de]⟩
           have HGE : Aside0 (n ≤ k + 1 + k1) := ⟨by have := HKN.out; omega⟩
           clear hdo hw de
           go_wp2_with (first | (go_at_call 142; refine HF2.out.mono ?_; rintro en w' ⟨rfl, rfl⟩) | (go_at_call 143; refine HDO.out.mono ?_; rintro en w2 ⟨rfl, hR2⟩; have HR2 := aMk hR2; clear hR2))
           go_roundg k1
           case measure => omega
           case rel => exact ⟨k + 1, _, _, rfl, HW, HGE, HR2, HX2⟩
         · have c5 : decide (ki > ii) = false := decide_eq_false (by have := HI.out; have := HKI.out; omega)
           have hw : wrap64 (ii + 1) = ((i + 1 : Nat) : Int) := by have := HL.out; have := HI.out; have := HC1.out; unfold wrap64; omega
           have HW := aMk hw
           have HX2 : Aside0 (strS (fun c => decide (c ≥ 9)) (neuF e) n k1 (i + 1) ys = strS (fun c => decide (c ≥ 9)) (neuF e) n n 0 xs) := ⟨by rw [← HX.out, strS, if_pos (by have := HI.out; have := HC1.out; omega), ← HEE.out, ← HKE.out, if_neg de]⟩
           have HGE : Aside0 (n ≤ i + 1 + k1) := ⟨by have := HKN.out; omega⟩
           clear hw de
           go_wp2_with (first | (go_at_call 142; refine HF2.out.mono ?_; rintro en w' ⟨rfl, rfl⟩) | fail)
           go_roundg k1
           case measure => omega
           case rel => exact ⟨i + 1, _, _, rfl, HW, HGE, HR, HX2⟩
     · have c2 : decide (ki < (n : Int)) = false := decide_eq_false d
       have HKE : Aside0 (k = E) := ⟨by
        rw [← HRE.out, show gk = 0 by have := HKN2.out; have := HKI.out; omega]; rfl⟩
       clear d
       by_cases de : i < k
       · have c5 : decide (ki > ii) = true := decide_eq_true (by have := HI.out; have := HKI.out; omega)
         have hdo := neu2_calls w0 w1 wr gb g cap n e ys i k HR.out HL.out de (by rw [HKE.out]; exact HEB.out.2)
         rw [← HI.out, ← HKI.out] at hdo
         have HDO := aMk hdo
         have hw : wrap64 (ki + 1) = ((k + 1 : Nat) : Int) := by have := HL.out; have := HKI.out; have := HKE.out; have := HEB.out; unfold wrap64; omega
         have HW := aMk hw
         have HX2 : Aside0 (strS (fun c => decide (c ≥ 9)) (neuF e) n k1 (k + 1) ((neuF e) ys i k) = strS (fun c => decide (c ≥ 9)) (neuF e) n n 0 xs) := ⟨by rw [← HX.out, strS, if_pos (by have := HI.out; have := HC1.out; omega), ← HEE.out, ← HKE.out, if_pos de]⟩
         have HGE : Aside0 (n ≤ k + 1 + k1) := ⟨by have := HKN.out; omega⟩
         clear hdo hw de
         go_wp2_with (first | fail | (go_at_call 143; refine HDO.out.mono ?_; rintro en w2 ⟨rfl, hR2⟩; have HR2 := aMk hR2; clear hR2))
         go_roundg k1
         case measure => omega
         case rel => exact ⟨k + 1, _, _, rfl, HW, HGE, HR2, HX2⟩
       · have c5 : decide (ki > ii) = false := decide_eq_false (by have := HI.out; have := HKI.out; omega)
         have hw : wrap64 (ii + 1) = ((i + 1 : Nat) : Int) := by have := HL.out; have := HI.out; have := HC1.out; unfold wrap64; omega
         have HW := aMk hw
         have HX2 : Aside0 (strS (fun c => decide (c ≥ 9)) (neuF e) n k1 (i + 1) ys = strS (fun c => decide (c ≥ 9)) (neuF e) n n 0 xs) := ⟨by rw [← HX.out, strS, if_pos (by have := HI.out; have := HC1.out; omega), ← HEE.out, ← HKE.out, if_neg de]⟩
         have HGE : Aside0 (n ≤ i + 1 + k1) := ⟨by have := HKN.out; omega⟩
         clear hw de
         go_wp2_with (first | fail | fail)
         go_roundg k1
         case measure => omega
         case rel => exact ⟨i + 1, _, _, rfl, HW, HGE, HR, HX2⟩
  · have c1 : decide (ii < (n : Int)) = false := decide_eq_false c
    have HE : Aside0 (ys = strS (fun c => decide (c ≥ 9)) (neuF e) n n 0 xs) := ⟨by
     rw [← HX.out]
     cases gk with
     | zero => rfl
     | succ q => rw [strS, if_neg (by have := HI.out; omega)]⟩
    clear c
    go_wp2
    go_end0
    exact ⟨rfl, by rw [← HE.out]; exact ⟨HR.out.row, HR.out.box, HR.out.len, HR.out.ge, HR.out.b, HK.out.trans HR.out.k (.inl rfl)⟩⟩
def numsF (e : Int) (xs : List Int) : List Int := iterS (stL e) xs.length (iterS stOn xs.length (strS (fun c => c == 6) numF xs.length xs.length 0 xs))
set_option maxHeartbeats 8000000 in
set_option maxRecDepth 100000 in
theorem numbers_calls (w0 w : World) (g cap n : Nat) (e : Int) (xs : List Int) (hr : RowAt w g cap xs) (hn : xs.length = n) (hl : n ≤ 17592186044415) (hge : w0.heap.size ≤ g) (hB : Below w0.heap.size w0 w) :
 Calls Try.prog 114 #[.agg #[.slice (some ⟨g, 0, none⟩) n cap, .int .i64 e]] w fun r w' => r = .returned (.tuple #[]) ∧ RowAt w' g cap (numsF e xs) ∧ Below w0.heap.size w0 w' ∧ KeepBut w w' g none := by
 have huS := Try.underlying22
 have huR := Try.underlying128
 have hmf : ∀ (fn : Fn) (first cap : Array Value) (w : World), (Instr.makeFunc fn first cap).run Try.prog w = .ok (.func fn first cap) w := fun _ _ _ _ => rfl
 have hs := RB.start (e := e) hr hn hge hB
 have HST := aMk (strN_calls w0 w _ _ g cap n e xs hs hl)
 have HL := aMk hl
 have HN := aMk hn
 have HC := aMk (show cap ≤ maxLen by obtain ⟨_, _, _, h, _⟩ := hr; exact h)
 clear hr hn hl hge hB hs
 go_enter Try.func114, Try.ntmps114
 go_wp2_with (go_at_call 138; refine HST.out.mono ?_; rintro en w1 ⟨rfl, hR1⟩; have HS := aMk hR1; have hb0 := hR1.b0; clear hR1)
 generalize w.heap.size = gb at HS hb0 ⊢
 obtain ⟨xs0, hx0⟩ : ∃ z, z = strS (fun c => c == 6) numF n n 0 xs := ⟨_, rfl⟩
 rw [← hx0] at HS
 have HX0 := aMk hx0
 clear hx0 HST hb0
 go_loopg [12] n (fun kq v12 w' => ∃ (m : Nat) (mi : Int) (zs : List Int), v12 = .int .i64 mi ∧ Aside0 (mi = m) ∧ Aside0 (m + kq = n) ∧ Aside0 (RB w0 w w' gb g cap n e zs) ∧ Aside0 (zs = iterS stOn m xs0))
 case atStart => exact ⟨0, 0, xs0, rfl, ⟨rfl⟩, ⟨by omega⟩, HS, ⟨rfl⟩⟩
 case round =>
  clear HS
  obtain ⟨m, mi, zs, rfl, HM, HKN, HR, HX⟩ := hrel
  by_cases c : mi < n
  · have hk : gk ≠ 0 := by have := HKN.out; have := HM.out; omega
    obtain ⟨k1, rfl⟩ := Nat.exists_eq_succ_of_ne_zero hk
    have hw : wrap64 (mi + 1) = ((m + 1 : Nat) : Int) := by have := HL.out; have := HM.out; unfold wrap64; omega
    replace hw := aMk hw
    obtain ⟨mk, hmk⟩ : ∃ z, z = wrap64 (mi + 1) := ⟨_, rfl⟩
    have HMK := aMk (hmk.trans hw.out)
    rw [← hmk] at hw
    clear hk hw
    have c1 : decide (mi < (n : Int)) = true := decide_eq_true c
    have p1 : (0 ≤ mi) = True := eq_true (by have := HM.out; omega)
    have q1 : (mi < (n : Int)) = True := eq_true c
    have hmt : mi.toNat = m := by have := HM.out; omega
    have hx : wr.cell? ⟨g, mi.toNat, none⟩ = some (.int .i64 (zs.getD m 0)) := by rw [hmt]; exact HR.out.cell m (by have := HM.out; omega)
    have hb0 := HR.out.b0
    have hb1 := HR.out.b1
    have hfz := HR.out.frozen mi.toNat
    obtain ⟨x, hxx⟩ : ∃ x, x = zs.getD m 0 := ⟨_, rfl⟩
    rw [← hxx] at hx
    replace hxx := aMk hxx
    replace hmt := aMk hmt
    have HC1 := aMk c
    clear c
    by_cases d5 : x = 5
    · have q5 : (x == 5) = true := beq_iff_eq.2 d5
      have HE : Aside0 (zs.set m 12 = iterS stOn (m + 1) xs0) := ⟨by rw [iterS_succ, ← HX.out]; unfold stOn; rw [← hxx.out, if_pos (by omega)]⟩
      clear d5
      go_wp2
      go_roundg k1
      case measure => omega
      case rel => exact ⟨m + 1, _, _, congrArg (Value.int .i64) (by first | rfl | exact hmk.symm), HMK, ⟨by have := HKN.out; omega⟩, ⟨by rw [hmt.out]; exact HR.out.put m 12⟩, HE⟩
    · by_cases d6 : x = 6
      · have q5 : (x == 5) = false := beq_eq_false_iff_ne.2 d5
        have q6 : (x == 6) = true := beq_iff_eq.2 d6
        have HE : Aside0 (zs.set m 12 = iterS stOn (m + 1) xs0) := ⟨by rw [iterS_succ, ← HX.out]; unfold stOn; rw [← hxx.out, if_pos (by omega)]⟩
        clear d5 d6
        go_wp2
        go_roundg k1
        case measure => omega
        case rel => exact ⟨m + 1, _, _, congrArg (Value.int .i64) (by first | rfl | exact hmk.symm), HMK, ⟨by have := HKN.out; omega⟩, ⟨by rw [hmt.out]; exact HR.out.put m 12⟩, HE⟩
      · by_cases d7 : x = 7
        · have q5 : (x == 5) = false := beq_eq_false_iff_ne.2 d5
          have q6 : (x == 6) = false := beq_eq_false_iff_ne.2 d6
          have q7 : (x == 7) = true := beq_iff_eq.2 d7
          have HE : Aside0 (zs.set m 12 = iterS stOn (m + 1) xs0) := ⟨by rw [iterS_succ, ← HX.out]; unfold stOn; rw [← hxx.out, if_pos (by omega)]⟩
          clear d5 d6 d7
          go_wp2
          go_roundg k1
          case measure => omega
          case rel => exact ⟨m + 1, _, _, congrArg (Value.int .i64) (by first | rfl | exact hmk.symm), HMK, ⟨by have := HKN.out; omega⟩, ⟨by rw [hmt.out]; exact HR.out.put m 12⟩, HE⟩
        · have q5 : (x == 5) = false := beq_eq_false_iff_ne.2 d5
          have q6 : (x == 6) = false := beq_eq_false_iff_ne.2 d6
          have q7 : (x == 7) = false := beq_eq_false_iff_ne.2 d7
          have HE : Aside0 (zs = iterS stOn (m + 1) xs0) := ⟨by rw [iterS_succ, ← HX.out]; unfold stOn; rw [← hxx.out, if_neg (by omega)]⟩
          clear d5 d6 d7
          go_wp2
          go_roundg k1
          case measure => omega
          case rel => exact ⟨m + 1, _, _, congrArg (Value.int .i64) (by first | rfl | exact hmk.symm), HMK, ⟨by have := HKN.out; omega⟩, HR, HE⟩
  · have c1 : decide (mi < (n : Int)) = false := decide_eq_false c
    have hmn : m = n := by have := HM.out; have := HKN.out; omega
    obtain ⟨xs', hxs⟩ : ∃ z, z = zs := ⟨_, rfl⟩
    rw [← hxs] at HR HX
    have HX1 : Aside0 (xs' = iterS stOn n xs0) := ⟨by rw [← hmn]; exact HX.out⟩
    have HS := HR
    have hb0 := HR.out.b0
    clear c hmn HX HKN HM HR hxs
    go_wp2
    clear hb0 c1
    go_loopg [35] n (fun kq v35 w' => ∃ (m : Nat) (mi : Int) (ys : List Int), v35 = .int .i64 mi ∧ Aside0 (mi = m) ∧ Aside0 (m + kq = n) ∧ Aside0 (RB w0 w w' gb g cap n e ys) ∧ Aside0 (ys = iterS (stL e) m xs'))
    case atStart => exact ⟨0, 0, xs', rfl, ⟨rfl⟩, ⟨by omega⟩, HS, ⟨rfl⟩⟩
    case round =>
     clear HS
     obtain ⟨m, mi, ys, rfl, HM, HKN, HR, HX⟩ := hrel
     by_cases c : mi < n
     · have hk : gk ≠ 0 := by have := HKN.out; have := HM.out; omega
       obtain ⟨k1, rfl⟩ := Nat.exists_eq_succ_of_ne_zero hk
       have hw : wrap64 (mi + 1) = ((m + 1 : Nat) : Int) := by have := HL.out; have := HM.out; unfold wrap64; omega
       replace hw := aMk hw
       obtain ⟨mk, hmk⟩ : ∃ z, z = wrap64 (mi + 1) := ⟨_, rfl⟩
       have HMK := aMk (hmk.trans hw.out)
       rw [← hmk] at hw
       clear hk hw
       have c1 : decide (mi < (n : Int)) = true := decide_eq_true c
       have p1 : (0 ≤ mi) = True := eq_true (by have := HM.out; omega)
       have q1 : (mi < (n : Int)) = True := eq_true c
       have hmt : mi.toNat = m := by have := HM.out; omega
       have hx : wr.cell? ⟨g, mi.toNat, none⟩ = some (.int .i64 (ys.getD m 0)) := by rw [hmt]; exact HR.out.cell m (by have := HM.out; omega)
       have hb0 := HR.out.b0
       have hb1 := HR.out.b1
       have hfz := HR.out.frozen mi.toNat
       obtain ⟨x, hxx⟩ : ∃ x, x = ys.getD m 0 := ⟨_, rfl⟩
       rw [← hxx] at hx
       replace hxx := aMk hxx
       replace hmt := aMk hmt
       have HC1 := aMk c
       clear c
       by_cases d : x = 3
       · have c2 : (x == 3) = true := beq_iff_eq.2 d
         have HAH := aMk (ahead_f (set := [0, 1]) (fun k x => contains2 k 0 1 x) e ys (by rw [HR.out.len]; exact HL.out) m (by rw [HR.out.len]; have := HM.out; have := HC1.out; omega))
         obtain ⟨r, hr⟩ : ∃ r, r = aheadF [0, 1] e ys m := ⟨_, rfl⟩
         rw [← hr] at HAH
         have HRR := aMk hr
         rw [← HM.out] at HAH
         clear hr
         have HR2 := aMk (HR.out.below (bAl (Below.refl wr.heap.size wr) (.cells #[.int .i64 0, .int .i64 1] 3)))
         have HCALL := impl_run_ahead.calls (m + 5) (some ⟨g, 0, none⟩) cap ys e mi (some ⟨wr.heap.size, 0, none⟩) 2 [0, 1] r (wr.alloc (.cells #[.int .i64 0, .int .i64 1] 3)) HR2.out.row.C (by obtain ⟨_, _, h, _⟩ := HR2.out.row; exact h) (lit_row wr [0, 1] (by decide)).C (Nat.le_refl _) HAH.out
         rw [HR.out.len] at HCALL
         replace HCALL := aMk HCALL
         have hb0S := HR2.out.b0
         have hb1S := HR2.out.b1
         by_cases d4 : r = 0
         · have c4 : (r == 0) = true := beq_iff_eq.2 d4
           have HE : Aside0 (ys.set m 0 = iterS (stL e) (m + 1) xs') := ⟨by rw [iterS_succ, ← HX.out]; unfold stL; rw [← hxx.out, ← HRR.out, if_pos ⟨d, d4⟩]⟩
           clear d d4
           go_wp2_with (first | (go_at_call 137; refine HCALL.out.mono ?_; rintro en wA ⟨rfl, hbA⟩; have HR3 := aMk (HR2.out.below hbA); have hb0A := HR3.out.b0; clear hbA; have hzA := HR3.out.cell mi.toNat (by have := HM.out; have := HC1.out; omega); have hfA := HR3.out.frozen mi.toNat))
           go_roundg k1
           case measure => omega
           case rel => exact ⟨m + 1, _, _, congrArg (Value.int .i64) (by first | rfl | exact hmk.symm), HMK, ⟨by have := HKN.out; omega⟩, ⟨by rw [hmt.out]; exact HR3.out.put m 0⟩, HE⟩
         · have c4 : (r == 0) = false := beq_eq_false_iff_ne.2 d4
           have HE : Aside0 (ys = iterS (stL e) (m + 1) xs') := ⟨by rw [iterS_succ, ← HX.out]; unfold stL; rw [← hxx.out, ← HRR.out, if_neg (fun h => d4 h.2)]⟩
           clear d d4
           go_wp2_with (first | (go_at_call 137; refine HCALL.out.mono ?_; rintro en wA ⟨rfl, hbA⟩; have HR3 := aMk (HR2.out.below hbA); have hb0A := HR3.out.b0; clear hbA))
           go_roundg k1
           case measure => omega
           case rel => exact ⟨m + 1, _, _, congrArg (Value.int .i64) (by first | rfl | exact hmk.symm), HMK, ⟨by have := HKN.out; omega⟩, HR3, HE⟩
       · have c2 : (x == 3) = false := beq_eq_false_iff_ne.2 d
         have HE : Aside0 (ys = iterS (stL e) (m + 1) xs') := ⟨by rw [iterS_succ, ← HX.out]; unfold stL; rw [← hxx.out, if_neg (fun h => d h.1)]⟩
         clear d
         go_wp2
         go_roundg k1
         case measure => omega
         case rel => exact ⟨m + 1, _, _, congrArg (Value.int .i64) (by first | rfl | exact hmk.symm), HMK, ⟨by have := HKN.out; omega⟩, HR, HE⟩
     · have c1 : decide (mi < (n : Int)) = false := decide_eq_false c
       have HE : Aside0 (ys = numsF e xs) := ⟨by
        unfold numsF
        rw [HN.out, ← HX0.out, ← HX1.out, HX.out, show m = n by have := HM.out; have := HKN.out; omega]⟩
       clear c
       go_wp2
       go_end0
       exact ⟨rfl, by rw [← HE.out]; exact HR.out.row, HR.out.b, HR.out.k⟩
def neutF (e : Int) (xs : List Int) : List Int := strS (fun c => decide (c ≥ 9)) (neuF e) xs.length xs.length 0 xs
set_option maxHeartbeats 8000000 in
set_option maxRecDepth 100000 in
theorem neutral_calls (w0 w : World) (g cap n : Nat) (e : Int) (xs : List Int) (hr : RowAt w g cap xs) (hn : xs.length = n) (hl : n ≤ 17592186044415) (hge : w0.heap.size ≤ g) (hB : Below w0.heap.size w0 w) :
 Calls Try.prog 115 #[.agg #[.slice (some ⟨g, 0, none⟩) n cap, .int .i64 e]] w fun r w' => r = .returned (.tuple #[]) ∧ RowAt w' g cap (neutF e xs) ∧ Below w0.heap.size w0 w' ∧ KeepBut w w' g none := by
 have huS := Try.underlying22
 have huR := Try.underlying128
 have hmf : ∀ (fn : Fn) (first cap : Array Value) (w : World), (Instr.makeFunc fn first cap).run Try.prog w = .ok (.func fn first cap) w := fun _ _ _ _ => rfl
 have hs := RB.start (e := e) hr hn hge hB
 have HST := aMk (strE_calls w0 w _ _ g cap n e xs hs hl)
 have HN : Aside0 (neutF e xs = strS (fun c => decide (c ≥ 9)) (neuF e) n n 0 xs) := ⟨by unfold neutF; rw [hn]⟩
 clear hr hn hl hge hB hs
 go_enter Try.func115, Try.ntmps115
 go_wp2_with (go_at_call 138; refine HST.out.mono ?_; rintro en w1 ⟨rfl, hR1⟩; have HS := aMk hR1; clear hR1)
 go_end0
 exact ⟨rfl, by rw [HN.out]; exact HS.out.row, HS.out.b, HS.out.k⟩
section
attribute [local go_sem] Oper.semAt_some
def KeepTwo (b1 b2 : Nat) (W W' : World) : Prop := W'.heap[b1]? = W.heap[b1]? ∧ W'.heap[b2]? = W.heap[b2]?
theorem KeepTwo.t {b1 b2 : Nat} {A B C : World} (h : KeepTwo b1 b2 A B) (k : KeepTwo b1 b2 B C) : KeepTwo b1 b2 A C := ⟨k.1.trans h.1, k.2.trans h.2⟩
def backL (zs : List Int) (k : Nat) : List (Nat × Int) := (List.range k).map (fun j => (zs.length - 1 - j, zs.getD (zs.length - 1 - j) 0))
theorem backL_succ (zs : List Int) (k : Nat) : backL zs (k + 1) = backL zs k ++ [(zs.length - 1 - k, zs.getD (zs.length - 1 - k) 0)] := by simp [backL, List.range_succ]
theorem backL_length (zs : List Int) (k : Nat) : (backL zs k).length = k := by simp [backL]
abbrev InL (n : Nat) := { x : Nat × Int // x.1 < n }
def encB (n : Nat) (x : InL n) : Array Value := #[.int .i64 (x.1.1 : Int), .int .i64 x.1.2]
set_option maxHeartbeats 8000000 in
set_option maxRecDepth 100000 in
theorem back_calls (a : Option Addr) (n c : Nat) (w : World) : Calls Try.prog 116 #[.slice a n c] w fun r w' => r = .returned (.func (.func 145) #[] #[.pointer (some ⟨w.heap.size, 0, none⟩)]) ∧ w' = w.alloc (.cells #[.slice a n c] 22) := by
 have hmf : ∀ (fn : Fn) (first cap : Array Value) (w : World), (Instr.makeFunc fn first cap).run Try.prog w = .ok (.func fn first cap) w := fun _ _ _ _ => rfl
 go_enter Try.func116, Try.ntmps116
 go_wp2
 go_ret
 exact ⟨rfl, rfl⟩
set_option maxHeartbeats 8000000 in
set_option maxRecDepth 100000 in
theorem back1_in (n : Nat) (l Bs g cap len : Nat) (zs : List Int) (hlen : zs.length = len) (hl : len ≤ 17592186044415) (hn : 1 ≤ n) (J Jx : List (InL len) → World → Prop)
 (hY : ∀ pre x W, J pre W → pre.length < len → YieldAt Fence.wide (n - 1) Try.prog l (encB len x) W fun e W' =>
  (e = .returned (.bool true) ∧ J (pre ++ [x]) W' ∧ KeepTwo Bs g W W') ∨ (e = .returned (.bool false) ∧ Jx (pre ++ [x]) W'))
 (W : World) (hBs : W.heap[Bs]? = some (.cells #[.slice (some ⟨g, 0, none⟩) len cap] 22 (0, 0))) (hr : RowAt W g cap zs) (h0 : J [] W) :
 CallsIn Fence.wide n Try.prog 145 #[.func (.yield l) #[] #[], .pointer (some ⟨Bs, 0, none⟩)] W fun e W' => (∃ v, e = .returned v) ∧
  ((∃ ys : List (InL len), ys.map Subtype.val = backL zs len ∧ J ys W') ∨ (∃ pre : List (InL len), True ∧ Jx pre W')) := by
 have HLEN := aMk hlen
 have HL := aMk hl
 have HBS := aMk hBs
 have HR := aMk hr
 have HY := aMk hY
 have HN := aMk hn
 have H0 := aMk h0
 have hc0 : W.cell? ⟨Bs, 0, none⟩ = some (.slice (some ⟨g, 0, none⟩) len cap) := (bCe hBs 0).trans rfl
 have hw0 : wrap64 ((len : Int) - 1) = (len : Int) - 1 := by unfold wrap64; omega
 clear hlen hl hBs hr hY hn h0
 refine callsIn_of_wp Try.func145 rfl trivial ?_ rfl
 simp only [Try.ntmps145, List.size_toArray, List.length_cons, List.length_nil, Nat.reduceAdd, Nat.reduceSub, Array.replicate_succ, Array.replicate_zero, List.push_toArray, List.append_toArray, List.nil_append, List.cons_append]
 have HW0 := aMk hw0
 clear hw0
 gi_wp2
 gi_loopw [3] (fun i wr => ∃ (ii : Int) (k : Nat) (pre : List (InL len)), i = .int .i64 ii ∧ Aside0 (ii = (len : Int) - 1 - k) ∧ Aside0 (k ≤ len) ∧ Aside0 (pre.map Subtype.val = backL zs k) ∧ Aside0 (J pre wr) ∧ Aside0 (KeepTwo Bs g W wr))
  (fun i _ => (intOf i + 1).toNat)
 case atStart => exact ⟨_, 0, [], rfl, ⟨by have := HW0.out; omega⟩, ⟨by omega⟩, ⟨rfl⟩, H0, ⟨⟨rfl, rfl⟩⟩⟩
 case round =>
  obtain ⟨ii, k, pre, rfl, HI, HK, HP, HJ, HT⟩ := hrel
  have hcs : wr.cell? ⟨Bs, 0, none⟩ = some (.slice (some ⟨g, 0, none⟩) len cap) := (bCe (HT.out.1.trans HBS.out) 0).trans rfl
  by_cases c : ii ≥ 0
  · have HKL : Aside0 (k < len) := ⟨by have := HI.out; omega⟩
    have HLT : Aside0 (zs.length - 1 - k < len) := ⟨by have := HLEN.out; have := HKL.out; omega⟩
    have hplen : pre.length = k := by have := congrArg List.length HP.out; rwa [List.length_map, backL_length] at this
    obtain ⟨x, hx⟩ : ∃ x : InL len, x.1 = (zs.length - 1 - k, zs.getD (zs.length - 1 - k) 0) := ⟨⟨(zs.length - 1 - k, zs.getD (zs.length - 1 - k) 0), HLT.out⟩, rfl⟩
    obtain ⟨fn, tmps, assign, body, hy, hR⟩ := HY.out pre x wr HJ.out (by have := HKL.out; omega)
    have hx1 : (x.1.1 : Int) = ii := by rw [hx]; have := HI.out; have := HKL.out; have := HLEN.out; show ((zs.length - 1 - k : Nat) : Int) = ii; omega
    have hrow := (HR.out.move HT.out.2).cell (zs.length - 1 - k) (by have := HLEN.out; have := HKL.out; omega)
    have hii : ii.toNat = zs.length - 1 - k := by have := HI.out; have := HKL.out; have := HLEN.out; omega
    rw [← hii] at hrow
    unfold encB at hy
    rw [hx1, show x.1.2 = zs.getD (ii.toNat) 0 by rw [hx, hii]] at hy
    obtain ⟨y, hyy⟩ : ∃ y, y = zs.getD ii.toNat 0 := ⟨_, rfl⟩
    rw [← hyy] at hy hrow
    have HX := aMk hx
    have HRR := aMk hR
    have p1 : (0 ≤ ii) = True := eq_true c
    have q1 : (ii < (len : Int)) = True := eq_true (by have := HI.out; omega)
    have hw : wrap64 (ii - 1) = ii - 1 := by have := HI.out; have := HL.out; unfold wrap64; omega
    have HW := aMk hw
    have HC := aMk c
    have c1 : decide (ii ≥ 0) = true := decide_eq_true c
    clear hyy hii hx1 hplen hx hR hw c
    gi_wp2
    refine ⟨fun _ => HN.out, HRR.out.mono ?_⟩
    rintro e W3 (⟨rfl, hJ3, hk3⟩ | ⟨rfl, hJx3⟩)
    · have HJ3 := aMk hJ3
      have HK3 := aMk hk3
      clear hJ3 hk3
      gi_wp2
      go_roundw
      case rel => exact ⟨_, k + 1, pre ++ [x], rfl, ⟨by have := HW.out; have := HI.out; omega⟩, ⟨HKL.out⟩, ⟨by rw [List.map_append, HP.out, backL_succ, List.map_singleton, HX.out]⟩, HJ3, ⟨HT.out.t HK3.out⟩⟩
      case measure => have := HW.out; have := HC.out; simp [intOf]; omega
    · gi_wp2
      refine bodyPost_ret (results_none rfl _ _ _) rfl ?_
      exact ⟨⟨_, rfl⟩, .inr ⟨_, trivial, hJx3⟩⟩
  · have c1 : decide (ii ≥ 0) = false := decide_eq_false c
    have hkn : k = len := by have := HI.out; have := HK.out; omega
    subst hkn
    clear c
    gi_wp2
    go_end0
    exact ⟨⟨_, rfl⟩, .inl ⟨_, HP.out, HJ.out⟩⟩
theorem back_stops (n Bs g cap len : Nat) (zs : List Int) (hlen : zs.length = len) (hl : len ≤ 17592186044415) (hn : 1 ≤ n) (w : World) (hBs : w.heap[Bs]? = some (.cells #[.slice (some ⟨g, 0, none⟩) len cap] 22 (0, 0))) (hr : RowAt w g cap zs) :
 SeqStopsK Fence.wide n Try.prog 145 #[.pointer (some ⟨Bs, 0, none⟩)] (encB len) (KeepTwo Bs g) (fun ys => ys.map Subtype.val = backL zs len) (fun _ => True) len w :=
 fun l J Jx W hW _ _ hY h0 => back1_in n l Bs g cap len zs hlen hl hn J Jx hY W (blk_below hBs hW) (hr.below hW) h0
def firstF (l : List Int) : List Int := l.map impl_DirClass.g
def lvlI (e c : Int) : Int := if e = 0 then (if c = 1 then 1 else if c = 3 ∨ c = 4 then 2 else 0) else (if c = 1 then e else 2)
def rsB (c : Int) (b : Bool) : Bool := c == 10 || c == 11 || (c == 9 && b)
def rsF (e : Int) (first : List Int) : Nat → Bool → List Int → List Int
 | 0, _, out => out
 | j + 1, b, out => rsF e first j (rsB (first.getD j 0) b) (if rsB (first.getD j 0) b = true then out.set j e else out)
def kindsF (e : Int) (l : List Int) : List Int := neutF e (numsF e (weakF e (firstF l)))
def levF (e : Int) (l : List Int) : List Int := rsF e (firstF l) l.length true ((kindsF e l).map (lvlI e))
theorem strS_len (p : Int → Bool) (F : List Int → Nat → Nat → List Int) (h : ∀ xs a b, (F xs a b).length = xs.length) (n : Nat) : ∀ f i xs, (strS p F n f i xs).length = xs.length
 | 0, _, xs => rfl
 | f + 1, i, xs => by
  rw [strS]
  split
  · split
    · rw [strS_len p F h n f, h]
    · exact strS_len p F h n f _ _
  · rfl
theorem weakF_len (e : Int) (xs : List Int) : (weakF e xs).length = xs.length := by
 unfold weakF
 rw [iterS_len _ stSep_len, iterS_len _ stAl_len, iterS_len _ (stEn_len e), iterS_len _ (stNsm_len e)]
theorem stOn_len (xs : List Int) (i : Nat) : (stOn xs i).length = xs.length := by unfold stOn; split <;> simp
theorem stL_len (e : Int) (xs : List Int) (i : Nat) : (stL e xs i).length = xs.length := by unfold stL; split <;> simp
theorem numsF_len (e : Int) (xs : List Int) : (numsF e xs).length = xs.length := by
 unfold numsF
 rw [iterS_len _ (stL_len e), iterS_len _ stOn_len, strS_len _ _ numF_len]
theorem neutF_len (e : Int) (xs : List Int) : (neutF e xs).length = xs.length := by
 unfold neutF
 rw [strS_len _ _ (neuF_len e)]
theorem kindsF_len (e : Int) (l : List Int) : (kindsF e l).length = l.length := by
 unfold kindsF firstF
 rw [neutF_len, numsF_len, weakF_len, List.length_map]
theorem rsF_len (e : Int) (first : List Int) : ∀ j b out, (rsF e first j b out).length = out.length
 | 0, _, _ => rfl
 | j + 1, b, out => by
  rw [rsF, rsF_len e first j]
  split <;> simp
/-- What the walk of a piece holds on to. -/
structure LB (w0 W : World) (b0 b1 gF cF gA cA n : Nat) (e : Int) (fs xs : List Int) : Prop where
 e0 : W.heap[b0]? = some (.cells #[.int .i64 e] 3 (0, 0))
 r1 : W.heap[b1]? = some (.cells #[.slice (some ⟨gA, 0, none⟩) n cA, .int .i64 e] 128 (0, 0))
 f : RowAt W gF cF fs
 a : RowAt W gA cA xs
 lf : fs.length = n
 la : xs.length = n
 n0 : b0 ≠ gA
 nf : gF ≠ gA
 ga : w0.heap.size ≤ gA
 gf : w0.heap.size ≤ gF
 b : Below w0.heap.size w0 W
theorem LB.step {w0 W W' : World} {b0 b1 gF cF gA cA n : Nat} {e : Int} {fs xs ys : List Int} (h : LB w0 W b0 b1 gF cF gA cA n e fs xs) (ha : RowAt W' gA cA ys) (hl : ys.length = xs.length) (hB : Below w0.heap.size w0 W') (hk : KeepBut W W' gA none) : LB w0 W' b0 b1 gF cF gA cA n e fs ys := by
 have hne1 : b1 ≠ gA := by obtain ⟨cur, hh, _⟩ := h.a; exact blk_ne h.r1 hh (by decide)
 obtain ⟨cur, hf, hf2⟩ := h.f
 exact ⟨hk.blk h.e0 h.n0 (by simp), hk.blk h.r1 hne1 (by simp), ⟨cur, hk.blk hf h.nf (by simp), hf2⟩, ha, h.lf, hl.trans h.la, h.n0, h.nf, h.ga, h.gf, hB⟩
theorem LB.below {w0 W W' : World} {b0 b1 gF cF gA cA n : Nat} {e : Int} {fs xs : List Int} (h : LB w0 W b0 b1 gF cF gA cA n e fs xs) (hB : Below W.heap.size W W') : LB w0 W' b0 b1 gF cF gA cA n e fs xs :=
 ⟨blk_below h.e0 hB, blk_below h.r1 hB, h.f.below hB, h.a.below hB, h.lf, h.la, h.n0, h.nf, h.ga, h.gf, below_step h.b hB⟩
theorem LB.c0 {w0 W : World} {b0 b1 gF cF gA cA n : Nat} {e : Int} {fs xs : List Int} (h : LB w0 W b0 b1 gF cF gA cA n e fs xs) : W.cell? ⟨b1, 0, none⟩ = some (.slice (some ⟨gA, 0, none⟩) n cA) := (bCe h.r1 0).trans rfl
theorem LB.c1 {w0 W : World} {b0 b1 gF cF gA cA n : Nat} {e : Int} {fs xs : List Int} (h : LB w0 W b0 b1 gF cF gA cA n e fs xs) : W.cell? ⟨b1, 1, none⟩ = some (.int .i64 e) := (bCe h.r1 1).trans rfl
theorem LB.ce {w0 W : World} {b0 b1 gF cF gA cA n : Nat} {e : Int} {fs xs : List Int} (h : LB w0 W b0 b1 gF cF gA cA n e fs xs) : W.cell? ⟨b0, 0, none⟩ = some (.int .i64 e) := (bCe h.e0 0).trans rfl
def foldB (e : Int) (out0 : List Int) (pre : List (Nat × Int)) : Bool × List Int := pre.foldl (fun s x => (rsB x.2 s.1, if rsB x.2 s.1 = true then s.2.set x.1 e else s.2)) (true, out0)
theorem foldB_snoc (e : Int) (out0 : List Int) (pre : List (Nat × Int)) (x : Nat × Int) : foldB e out0 (pre ++ [x]) = (rsB x.2 (foldB e out0 pre).1, if rsB x.2 (foldB e out0 pre).1 = true then (foldB e out0 pre).2.set x.1 e else (foldB e out0 pre).2) := by unfold foldB; rw [List.foldl_append]; rfl
theorem foldB_rs (e : Int) (out0 fs : List Int) : ∀ k, k ≤ fs.length → rsF e fs (fs.length - k) (foldB e out0 (backL fs k)).1 (foldB e out0 (backL fs k)).2 = rsF e fs fs.length true out0 := by
 intro k
 induction k with
 | zero => intro _; rfl
 | succ k ih =>
  intro h
  rw [← ih (by omega), backL_succ, foldB_snoc, show fs.length - k = (fs.length - (k + 1)) + 1 by omega, rsF, show fs.length - (k + 1) = fs.length - 1 - k by omega]
/-- What a round of the range over the pieces from behind holds on to. -/
structure RI (w0 W : World) (b0 gV cV gO bR n : Nat) (e : Int) (b : Bool) (out : List Int) : Prop where
 e0 : W.heap[b0]? = some (.cells #[.int .i64 e] 3 (0, 0))
 o : W.heap[gO]? = some (.cells #[.slice (some ⟨gV, 0, none⟩) n cV] 22 (0, 0))
 rb : W.heap[bR]? = some (.cells #[.bool b] 4 (0, 0))
 v : RowAt W gV cV out
 lv : out.length = n
 B : Below w0.heap.size w0 W
theorem RI.own {w0 W W' : World} {b0 gV cV gO bR n : Nat} {e : Int} {b : Bool} {out : List Int} {B : Nat} {row : Option Nat} (h : RI w0 W b0 gV cV gO bR n e b out) (hg : W.grownBy W' row) (hr : ∀ r, row = some r → B ≤ r) (h0 : w0.heap.size ≤ B) (h1 : b0 < B) (h2 : gV < B) (h3 : gO < B) (h4 : bR < B) : RI w0 W' b0 gV cV gO bR n e b out := by
 have k : ∀ g, g < B → some g ≠ row := fun g hg e => by have := hr g e.symm; omega
 obtain ⟨cur, hh, hv⟩ := h.v
 exact ⟨blk_grown h.e0 hg (k _ h1), blk_grown h.o hg (k _ h3), blk_grown h.rb hg (k _ h4), ⟨cur, blk_grown hh hg (k _ h2), hv⟩, h.lv, h.B.grown hg h.B.size (fun r e => Nat.le_trans h0 (hr r e))⟩
theorem RI.setb {w0 W : World} {b0 gV cV gO bR n : Nat} {e : Int} {b : Bool} {out : List Int} (h : RI w0 W b0 gV cV gO bR n e b out) (h4 : w0.heap.size ≤ bR) (b' : Bool) : RI w0 (W.setCell ⟨bR, 0, none⟩ (.bool b')) b0 gV cV gO bR n e b' out := by
 have n1 : b0 ≠ bR := blk_ne h.e0 h.rb (by decide)
 have n2 : gO ≠ bR := blk_ne h.o h.rb (by decide)
 have n3 : gV ≠ bR := by obtain ⟨cur, hh, _⟩ := h.v; exact blk_ne hh h.rb (by decide)
 exact ⟨blk_far h.e0 n1 _, blk_far h.o n2 _, blk_set h.rb 0 _, h.v.move (Below.heap_setCell _ _ _ _ n3), h.lv, bSe h.B h4⟩
theorem RI.setv {w0 W : World} {b0 gV cV gO bR n : Nat} {e : Int} {b : Bool} {out : List Int} (h : RI w0 W b0 gV cV gO bR n e b out) (h4 : w0.heap.size ≤ gV) (hn : b0 ≠ gV) (i : Nat) : RI w0 (W.setCell ⟨gV, i, none⟩ (.int .i64 e)) b0 gV cV gO bR n e b (out.set i e) := by
 obtain ⟨cur, hh, _⟩ := id h.v
 have n2 : gO ≠ gV := blk_ne h.o hh (by decide)
 have n3 : bR ≠ gV := blk_ne h.rb hh (by decide)
 exact ⟨blk_far h.e0 hn _, blk_far h.o n2 _, blk_far h.rb n3 _, h.v.put i e, by rw [List.length_set]; exact h.lv, bSe h.B h4⟩
def afterA (n : Nat) (T : Array Value) (x : InL n) : Act := { tmps := ((((T.setIfInBounds 81 (.int .i64 (x.1.1 : Int))).setIfInBounds 82 (.int .i64 x.1.2)).setIfInBounds 14 (.int .i64 (x.1.1 : Int))).setIfInBounds 15 (.int .i64 x.1.2)), defers := [] }
theorem range_go {g : Operand} {ps : Array Tmp} {assign body : Code} {Q : Exit → Act → World → Prop} {a : Act} {w : World} {len : Nat} {Kp : World → World → Prop} {S Sp : List (InL len) → Prop}
 {gf : Nat} {lb : Array Value} (hg : a.eval g = .func (.func gf) #[] lb) (eg : ∀ args w, (callFunc gf args).run Try.prog w = .ok (.enter gf args) w)
 (hseq : SeqStopsK Fence.wide 5 Try.prog gf lb (encB len) Kp S Sp len w)
 (hKt : ∀ {A B C : World}, Kp A B → Kp B C → Kp A C) (hKb : ∀ (W : World) (l : Nat) (o o' : Obj), w.heap.size ≤ l → W.heap[l]? = some o → o.isCells = false → o.isWalk = false → Kp W (W.putObj l o')) (hps : ps.size = 2)
 (I : List (InL len) → World → Prop) (hI : OwnFrom w.heap.size I) (h0 : I [] w)
 (hassign : ∀ (l : Nat) (x : InL len) (W : World) (K : Act → World → Prop), K (afterA len a.tmps x) W →
  assign.wpIn (Fence.wide.inRound l) 4 Try.prog (Exit.then K (fun _ _ _ => False)) { tmps := (ps.zip (encB len x)).foldl (fun t (p, v) => t.setIfInBounds p v) a.tmps, defers := [] } W)
 (hbody : ∀ (l : Nat) (pre : List (InL len)) (x : InL len) (W : World), I pre W → pre.length < len → body.wpIn (Fence.wide.inRound l) 4 Try.prog (ownPostK Kp I (fun _ _ _ => False) (pre ++ [x]) W) (afterA len a.tmps x) W)
 (hdone : ∀ (D : Nat) (xs : List (InL len)) (W : World), w.heap.size ≤ D → S xs → I xs W → W.heap[D]? = some (.deferred (some [])) → Q .normal { a with defers := { target := .collected D, args := #[] } :: a.defers } W) :
 (Code.rangeFunc g ps assign body).wpIn Fence.wide 6 Try.prog Q a w :=
 wpIn_rangeFunc_ownF (n := 6) (P := Try.prog) rfl (by decide) hg trivial eg hseq (fun h k => hKt h k) hKb (Below.refl _ _) (fun _ => hps.symm) I (fun _ _ _ => False) hI (fun _ _ _ _ _ h _ _ => h) h0 (afterA len a.tmps) hassign hbody hdone (fun _ _ _ _ _ _ h _ => h.elim)
set_option maxHeartbeats 8000000 in
set_option maxRecDepth 100000 in
theorem levelsOf_calls (A0 : Option Addr) (c0 : Nat) (l0 : List Int) (e : Int) (w : World) (hr0 : Kd.C (Kd.int .i64) w A0 l0.length l0) (hc0 : l0.length ≤ c0) (he : e = 0 ∨ e = 1) (hp : 0 < l0.length) (hl : l0.length ≤ 17592186044415) :
 Calls Try.prog 78 #[.slice A0 l0.length c0, .int .i64 e] w fun r w' => ∃ v0_ : Value, r = .returned v0_ ∧ Kd.R (Kd.int .i64) 3 w' w.heap.size (fun _ => True) v0_ (levF e l0) ∧ Below w.heap.size w w' := by
 have huS := Try.underlying22
 have huR := Try.underlying128
 have HX0 := aMk (bkA (blk_new w (.cells #[.int .i64 e] 3)) (.cells #[.slice none 0 0, .int .i64 e] 128))
 have hx1 := blk_new (w.alloc (.cells #[.int .i64 e] 3)) (.cells #[.slice none 0 0, .int .i64 e] 128)
 rw [World.size_alloc] at hx1
 have HX1 := aMk hx1
 have HB0 := aMk (bAl (bAl (Below.refl w.heap.size w) (.cells #[.int .i64 e] 3)) (.cells #[.slice none 0 0, .int .i64 e] 128))
 have HCC := aMk (Kd.C_below hr0 HB0.out)
 have HC0 := aMk hc0
 have HE01 := aMk he
 have HP := aMk hp
 have HL := aMk hl
 clear hr0 hc0 he hp hl hx1
 refine (callsIn_wide (n := 6)).1 ?_
 refine callsIn_of_wp_marks Try.func78 rfl trivial ?_ rfl
 refine (wpIn_wide (n := 6)).2 ?_
 simp only [Try.ntmps78, List.size_toArray, List.length_cons, List.length_nil, Nat.reduceAdd, Nat.reduceSub, Array.replicate_succ, Array.replicate_zero, List.push_toArray, List.append_toArray, List.nil_append, List.cons_append]
 go_upto_region 2 with (fail)
 generalize (w.alloc (.cells #[.int .i64 e] 3)).alloc (.cells #[.slice none 0 0, .int .i64 e] 128) = w2 at HX0 HX1 HB0 HCC ⊢
 go_wp2_with (first | ((with_reducible refine gate_dst (N := 18) rfl ?_); refine Kd.R_lit (Kd.int .i64) (w0 := w2) w2.heap.size 3 ?hg (N := 18) ?hd (xs := ([] : List Int)) (inner := []) (ok := fun _ => True) (okp := fun _ => True) ?hr ?hp (fun _ hk => hk) trivial (Below.refl _ _) (Nat.le_refl _) (by simp) ?_; (case hd => rfl); (case hg => rfl); (case hr => first | (go_simp; done) | (go_simp; rfl)); (case hp => exact (Reps.none _ _)); intro v3 w3 ho3 hb hg_ hnew_; clear hg_ hnew_; obtain ⟨A1, c1, e1, _, _⟩ := Kd.R_reads ho3; have HO1 := aMk ho3; have HB1 := aMk hb; clear hb ho3; subst e1))
 go_loopg [6, 21] l0.length (fun kq v6 v21 w' => ∃ (m : Nat) (mi : Int) (A : Option Addr) (c : Nat), v6 = .slice A m c ∧ v21 = .int .i64 mi ∧ Aside0 (mi = m) ∧ Aside0 (m + kq = l0.length) ∧ Aside0 (Kd.R (Kd.int .i64) 3 w' w2.heap.size (fun _ => True) (.slice A m c) (firstF (l0.take m))) ∧ Aside0 (Below w2.heap.size w2 w'))
 case atStart => exact ⟨0, 0, _, _, rfl, rfl, ⟨rfl⟩, ⟨by omega⟩, HO1, HB1⟩
 case round =>
  clear HO1 HB1
  obtain ⟨m, mi, A6, c6, rfl, rfl, HM, HKN, HO, HB⟩ := hrel
  by_cases c : mi < l0.length
  · have hmlt : m < l0.length := by have := HM.out; omega
    have c1 : decide (mi < (l0.length : Int)) = true := decide_eq_true c
    have p1 : 0 ≤ mi := by have := HM.out; omega
    obtain ⟨ad, eA, hx⟩ := Kd.at_int HCC.out mi p1 c
    have hrd : rd l0 mi = l0.getD m 0 := by rw [HM.out]; rfl
    rw [hrd] at hx
    obtain ⟨x, hxx⟩ : ∃ x, x = l0.getD m 0 := ⟨_, rfl⟩
    rw [← hxx] at hx
    cases eA
    replace hx := (HB.out.cell (wBl w2 _ hx)).trans hx
    have q1 := eq_true c
    replace p1 := eq_true p1
    have hk : gk ≠ 0 := by have := HKN.out; omega
    obtain ⟨k1, rfl⟩ := Nat.exists_eq_succ_of_ne_zero hk
    have HFT : Aside0 (firstF (l0.take (m + 1)) = firstF (l0.take m) ++ [impl_DirClass.g x]) := ⟨by unfold firstF; rw [List.take_add_one, List.getElem?_eq_getElem hmlt, List.map_append, hxx, List.getD_eq_getElem?_getD, List.getElem?_eq_getElem hmlt]; rfl⟩
    have HLT := aMk hmlt
    have HFL : Aside0 ((firstF (l0.take m)).length = m) := ⟨by unfold firstF; rw [List.length_map, List.length_take]; omega⟩
    have hw : wrap64 (mi + 1) = ((m + 1 : Nat) : Int) := by have := HL.out; have := HM.out; unfold wrap64; omega
    have HW := aMk hw
    have HIMP := aMk (impl_DirClass.calls x (impl_DirClass.g x) wr rfl)
    obtain ⟨y, hy⟩ : ∃ y, y = impl_DirClass.g x := ⟨_, rfl⟩
    rw [← hy] at HIMP HFT
    clear hmlt c hrd hxx hk hw hy
    go_wp2_with (first | (go_at_call 77; refine HIMP.out.mono ?_; rintro en wD ⟨rfl, hbD⟩; have HOD := aMk (Kd.R_below HO.out hbD); have HBD := aMk (below_then HB.out HB.out.size hbD); clear hbD) | ((with_reducible refine gate_builtin (b := .append) (xs := #[.tmp 25, .tmp 28]) rfl ?_); at_builtin; refine Kd.R_append (Kd.int .i64) (w0 := w2) w2.heap.size rfl (.tmp 25) (.tmp 28) 22 3 (.int .i64 0) 8 rfl Try.underlying22 info3 rfl (by decide) (by omega) (.slice A6 m c6) (firstF (l0.take m)) y [.int .i64 y] (fun _ => True) (fun _ => False) rfl rfl ?aP (fun _ hk => hk.elim) ?aF ?aO ?aB ?aS ?aL ?_; (case aP => exact rfl); (case aB => exact HBD.out); (case aF => exact fun _ _ => trivial); (case aO => exact HOD.out); (case aS => exact (below_size HBD.out)); (case aL => rw [HFL.out]; have := HL.out; have := HLT.out; omega); intro v1 w1 ho hb hg hat; obtain ⟨A9, c9, e9, _, _⟩ := Kd.R_reads ho; have HO2 := aMk ho; have HB2 := aMk hb; have HG2 := aMk hg; rw [List.length_append, HFL.out, List.length_singleton] at e9; subst e9; clear ho hb hg hat))
    go_roundg k1
    case measure => omega
    case rel => exact ⟨m + 1, _, _, _, rfl, rfl, HW, ⟨by have := HKN.out; omega⟩, ⟨by rw [HFT.out]; exact HO2.out⟩, HB2⟩
  · have c1 : decide (mi < (l0.length : Int)) = false := decide_eq_false c
    have hmn : m = l0.length := by have := HM.out; have := HKN.out; omega
    subst hmn
    have hFL : (firstF l0).length = l0.length := by unfold firstF; rw [List.length_map]
    have hHF : Kd.R (Kd.int .i64) 3 wr w2.heap.size (fun _ => True) (.slice A6 l0.length c6) (firstF l0) := by have := HO.out; rwa [List.take_length] at this
    obtain ⟨gF, cF, eF, hgF, hrF⟩ := rowAt_of_R hHF (by rw [hFL]; exact HP.out)
    injection eF with ea en ec
    subst ea
    subst ec
    have HRF := aMk hrF
    have HGF := aMk hgF
    have hcl := slices_Clone_int_int.calls (some ⟨gF, 0, none⟩) c6 (firstF l0) (firstF l0) wr hrF.C (by obtain ⟨_, _, h, _⟩ := hrF; exact h) (by unfold slices_Clone_int_int.f; rw [if_pos (by rw [hFL]; have := HL.out; omega)])
    rw [hFL] at hcl
    have HCL := aMk hcl
    have HFL := aMk hFL
    clear c en hcl hrF hgF hHF hFL HO HM HKN
    go_upto_region 9 with (first | (go_at_call 112; refine HCL.out.mono ?_; rintro en wC ⟨vC, rfl, hoC, hbC⟩; obtain ⟨gA, cA, eA, hgA, hrA⟩ := rowAt_of_R hoC (by rw [HFL.out]; exact HP.out); rw [HFL.out] at eA; subst eA; have HRA := aMk hrA; have HGA := aMk hgA; have HBC := aMk hbC; have HX1C := aMk (blk_below (blk_below HX1.out HB.out) hbC); have hc1 := bCe HX1C.out 0; have hf1 := bFr HX1C.out 0; clear hoC hbC hrA hgA))
    clear hc1 hf1
    have HLB : Aside0 (LB w (wC.setCell ⟨w.heap.size + 1, 0, none⟩ (.slice (some ⟨gA, 0, none⟩) l0.length cA)) w.heap.size (w.heap.size + 1) gF c6 gA cA l0.length e (firstF l0) (firstF l0)) := ⟨by
     have z1 : w.heap.size + 1 < w2.heap.size := blk_lt HX1.out
     have z2 := HGF.out
     have z3 : gF < wr.heap.size := HRF.out.lt
     have z4 := HGA.out
     have z5 := HB0.out.size
     exact ⟨blk_far (blk_below (blk_below HX0.out HB.out) HBC.out) (by show w.heap.size ≠ w.heap.size + 1; omega) _, blk_set HX1C.out 0 _, (HRF.out.below HBC.out).move (Below.heap_setCell _ _ _ _ (by show gF ≠ w.heap.size + 1; omega)), HRA.out.move (Below.heap_setCell _ _ _ _ (by show gA ≠ w.heap.size + 1; omega)), HFL.out, HFL.out, by omega, by omega, by omega, by omega, bSe (below_then (below_then HB0.out z5 HB.out) (by have := HB.out.size; omega) HBC.out) (by show w.heap.size ≤ w.heap.size + 1; omega)⟩⟩
    generalize wC.setCell ⟨w.heap.size + 1, 0, none⟩ (.slice (some ⟨gA, 0, none⟩) l0.length cA) = w3 at HLB ⊢
    have h0 := HLB.out.c0
    have h1 := HLB.out.c1
    have HWK := aMk (weak_a w w3 gA cA l0.length e (firstF l0) HLB.out.a HLB.out.la HL.out HLB.out.ga HLB.out.b)
    clear HCL HX0 HX1 HB0 HCC HC0 HB HRF HGF HRA HGA HBC HX1C
    go_upto_region 12 with (first | (go_at_call 113; refine HWK.out.mono ?_; rintro en w4 ⟨rfl, hr4, hB4, hk4⟩; have HLB4 := aMk (HLB.out.step hr4 (weakF_len _ _) hB4 hk4); clear hr4 hB4 hk4 h0 h1 HWK HLB; have h0 := HLB4.out.c0; have h1 := HLB4.out.c1; have HNK := aMk (numbers_calls w w4 gA cA l0.length e (weakF e (firstF l0)) HLB4.out.a HLB4.out.la HL.out HLB4.out.ga HLB4.out.b)) | (go_at_call 114; refine HNK.out.mono ?_; rintro en w5 ⟨rfl, hr4, hB4, hk4⟩; have HLB5 := aMk (HLB4.out.step hr4 (numsF_len _ _) hB4 hk4); clear hr4 hB4 hk4 h0 h1 HNK HLB4; have h0 := HLB5.out.c0; have h1 := HLB5.out.c1; have HEK := aMk (neutral_calls w w5 gA cA l0.length e (numsF e (weakF e (firstF l0))) HLB5.out.a HLB5.out.la HL.out HLB5.out.ga HLB5.out.b)) | (go_at_call 115; refine HEK.out.mono ?_; rintro en w6 ⟨rfl, hr4, hB4, hk4⟩; have hlb6 := HLB5.out.step hr4 (neutF_len _ _) hB4 hk4; clear hr4 hB4 hk4 h0 h1 HEK HLB5))
    have HLB6 : Aside0 (LB w w6 w.heap.size (w.heap.size + 1) gF c6 gA cA l0.length e (firstF l0) (kindsF e l0)) := ⟨hlb6⟩
    clear hlb6
    go_upto_region 13 with (first | ((with_reducible refine gate_dst (N := 40) rfl ?_); refine Kd.R_lit (Kd.int .i64) (w0 := w6) w6.heap.size 3 ?hg (N := 40) ?hd (xs := ([] : List Int)) (inner := []) (ok := fun _ => True) (okp := fun _ => True) ?hr ?hp (fun _ hk => hk) trivial (Below.refl _ _) (Nat.le_refl _) (by simp) ?_; (case hd => rfl); (case hg => rfl); (case hr => first | (go_simp; done) | (go_simp; rfl)); (case hp => exact (Reps.none _ _)); intro v3 w3 ho3 hb hg_ hnew_; clear hg_ hnew_; obtain ⟨A1, c1, e1, _, _⟩ := Kd.R_reads ho3; have HO1 := aMk ho3; have HB1 := aMk hb; clear hb ho3; subst e1))
    have HX := aMk (blk_new w3 (.cells #[.slice A1 0 c1] 22))
    have HO2 := aMk (Kd.R_alloc HO1.out (.cells #[.slice A1 0 c1] 22))
    have HB2 := aMk (bAl HB1.out (.cells #[.slice A1 0 c1] 22))
    have HG := aMk HB1.out.size
    clear HO1 HB1
    generalize w3.alloc (.cells #[.slice A1 0 c1] 22) = w7 at HX HO2 HB2 ⊢
    generalize w3.heap.size = gO at HX HG ⊢
    have h0 := (HLB6.out.below HB2.out).c0
    go_wp2
    clear h0
    go_loopg [44] l0.length (fun kq v44 w' => ∃ (m : Nat) (mi : Int) (v : Value), v44 = .int .i64 mi ∧ Aside0 (mi = m) ∧ Aside0 (m + kq = l0.length) ∧ Aside0 (w'.heap[gO]? = some (.cells #[v] 22 (0, 0))) ∧ Aside0 (Kd.R (Kd.int .i64) 3 w' w6.heap.size (fun _ => True) v (((kindsF e l0).take m).map (lvlI e))) ∧ Aside0 (Below w6.heap.size w6 w'))
    case atStart => exact ⟨0, 0, _, rfl, ⟨rfl⟩, ⟨by omega⟩, HX, HO2, HB2⟩
    case round =>
     clear HX HO2 HB2
     obtain ⟨m, mi, v, rfl, HM, HKN, HX, HOD, HBD⟩ := hrel
     have hne := aMk (Kd.R_ne HOD.out HX.out (by decide))
     have hcX : wr.cell? ⟨gO, 0, none⟩ = some v := (bCe HX.out 0).trans rfl
     have he0 := (HLB6.out.below HBD.out).ce
     by_cases c : mi < l0.length
     · have hmlt : m < l0.length := by have := HM.out; omega
       have c1 : decide (mi < (l0.length : Int)) = true := decide_eq_true c
       have p1 : (0 ≤ mi) = True := eq_true (by have := HM.out; omega)
       have q1' : (mi < (l0.length : Int)) = True := eq_true c
       have hmt : mi.toNat = m := by have := HM.out; omega
       have hx : wr.cell? ⟨gA, mi.toNat, none⟩ = some (.int .i64 ((kindsF e l0).getD m 0)) := by rw [hmt]; exact (HLB6.out.below HBD.out).a.cell m (by rw [kindsF_len]; omega)
       obtain ⟨x, hxx⟩ : ∃ x, x = (kindsF e l0).getD m 0 := ⟨_, rfl⟩
       rw [← hxx] at hx
       have hk : gk ≠ 0 := by have := HKN.out; omega
       obtain ⟨k1, rfl⟩ := Nat.exists_eq_succ_of_ne_zero hk
       have hml2 : m < (kindsF e l0).length := by rw [kindsF_len]; exact hmlt
       have HKT0 : Aside0 (((kindsF e l0).take (m + 1)).map (lvlI e) = ((kindsF e l0).take m).map (lvlI e) ++ [lvlI e x]) := ⟨by rw [List.take_add_one, List.getElem?_eq_getElem hml2, List.map_append, hxx, List.getD_eq_getElem?_getD, List.getElem?_eq_getElem hml2]; rfl⟩
       have HLT := aMk hmlt
       have HKL : Aside0 ((((kindsF e l0).take m).map (lvlI e)).length = m) := ⟨by rw [List.length_map, List.length_take]; omega⟩
       have hw : wrap64 (mi + 1) = ((m + 1 : Nat) : Int) := by have := HL.out; have := HM.out; unfold wrap64; omega
       have HW := aMk hw
       have HXX := aMk hxx
       clear hmlt c hxx hk hw hml2 hmt
       rcases HE01.out with he | he
       · subst he
         by_cases d1 : x = 1
         · have q1 : (x == 1) = true := beq_iff_eq.2 d1
           have HKT : Aside0 (((kindsF 0 l0).take (m + 1)).map (lvlI 0) = ((kindsF 0 l0).take m).map (lvlI 0) ++ [1]) := ⟨by rw [HKT0.out]; unfold lvlI; simp [d1]⟩
           clear HKT0 HXX d1
           go_wp2_with (first | ((with_reducible refine gate_builtin (b := .append) (xs := #[.tmp 74, .tmp 76]) rfl ?_); at_builtin; refine Kd.R_append (Kd.int .i64) (w0 := w6) w6.heap.size rfl (.tmp 74) (.tmp 76) 22 3 (.int .i64 0) 8 rfl Try.underlying22 info3 rfl (by decide) (by omega) v (((kindsF 0 l0).take m).map (lvlI 0)) (1 : Int) [.int .i64 (1 : Int)] (fun _ => True) (fun _ => False) rfl rfl ?aP (fun _ hk => hk.elim) ?aF ?aO ?aB ?aS ?aL ?_; (case aP => exact rfl); (case aB => exact HBD.out); (case aF => exact fun _ _ => trivial); (case aO => exact HOD.out); (case aS => exact (below_size HBD.out)); (case aL => rw [HKL.out]; have := HL.out; have := HLT.out; omega); intro v1 w1 ho hb hg hat; obtain ⟨A9, c9, e9, _, _⟩ := Kd.R_reads ho; have HO2 := aMk ho; have HB2 := aMk hb; have HG2 := aMk hg; have hb1 := aMk (blk_grown HX.out hg hne.out); have hc1 : w1.cell? ⟨gO, 0, none⟩ = some v := (bCe hb1.out 0).trans rfl; have hf1 := bFr hb1.out 0; rw [List.length_append, HKL.out, List.length_singleton] at e9; subst e9; clear hcX ho hb hg hat))
           go_roundg k1
           case measure => omega
           case rel => exact ⟨m + 1, _, _, rfl, HW, ⟨by have := HKN.out; omega⟩, ⟨blk_set hb1.out 0 _⟩, ⟨by rw [HKT.out]; exact Kd.R_set HO2.out hb1.out (by decide) 0 _⟩, ⟨bSe HB2.out (by have := HG.out; omega)⟩⟩
         · by_cases d3 : x = 3
           · have q1 : (x == 1) = false := beq_eq_false_iff_ne.2 d1
             have q3 : (x == 3) = true := beq_iff_eq.2 d3
             have HKT : Aside0 (((kindsF 0 l0).take (m + 1)).map (lvlI 0) = ((kindsF 0 l0).take m).map (lvlI 0) ++ [2]) := ⟨by rw [HKT0.out]; unfold lvlI; simp [d1, d3]⟩
             clear HKT0 HXX d1 d3
             go_wp2_with (first | ((with_reducible refine gate_builtin (b := .append) (xs := #[.tmp 74, .tmp 76]) rfl ?_); at_builtin; refine Kd.R_append (Kd.int .i64) (w0 := w6) w6.heap.size rfl (.tmp 74) (.tmp 76) 22 3 (.int .i64 0) 8 rfl Try.underlying22 info3 rfl (by decide) (by omega) v (((kindsF 0 l0).take m).map (lvlI 0)) (2 : Int) [.int .i64 (2 : Int)] (fun _ => True) (fun _ => False) rfl rfl ?aP (fun _ hk => hk.elim) ?aF ?aO ?aB ?aS ?aL ?_; (case aP => exact rfl); (case aB => exact HBD.out); (case aF => exact fun _ _ => trivial); (case aO => exact HOD.out); (case aS => exact (below_size HBD.out)); (case aL => rw [HKL.out]; have := HL.out; have := HLT.out; omega); intro v1 w1 ho hb hg hat; obtain ⟨A9, c9, e9, _, _⟩ := Kd.R_reads ho; have HO2 := aMk ho; have HB2 := aMk hb; have HG2 := aMk hg; have hb1 := aMk (blk_grown HX.out hg hne.out); have hc1 : w1.cell? ⟨gO, 0, none⟩ = some v := (bCe hb1.out 0).trans rfl; have hf1 := bFr hb1.out 0; rw [List.length_append, HKL.out, List.length_singleton] at e9; subst e9; clear hcX ho hb hg hat))
             go_roundg k1
             case measure => omega
             case rel => exact ⟨m + 1, _, _, rfl, HW, ⟨by have := HKN.out; omega⟩, ⟨blk_set hb1.out 0 _⟩, ⟨by rw [HKT.out]; exact Kd.R_set HO2.out hb1.out (by decide) 0 _⟩, ⟨bSe HB2.out (by have := HG.out; omega)⟩⟩
           · by_cases d4 : x = 4
             · have q1 : (x == 1) = false := beq_eq_false_iff_ne.2 d1
               have q3 : (x == 3) = false := beq_eq_false_iff_ne.2 d3
               have q4 : (x == 4) = true := beq_iff_eq.2 d4
               have HKT : Aside0 (((kindsF 0 l0).take (m + 1)).map (lvlI 0) = ((kindsF 0 l0).take m).map (lvlI 0) ++ [2]) := ⟨by rw [HKT0.out]; unfold lvlI; simp [d1, d3, d4]⟩
               clear HKT0 HXX d1 d3 d4
               go_wp2_with (first | ((with_reducible refine gate_builtin (b := .append) (xs := #[.tmp 74, .tmp 76]) rfl ?_); at_builtin; refine Kd.R_append (Kd.int .i64) (w0 := w6) w6.heap.size rfl (.tmp 74) (.tmp 76) 22 3 (.int .i64 0) 8 rfl Try.underlying22 info3 rfl (by decide) (by omega) v (((kindsF 0 l0).take m).map (lvlI 0)) (2 : Int) [.int .i64 (2 : Int)] (fun _ => True) (fun _ => False) rfl rfl ?aP (fun _ hk => hk.elim) ?aF ?aO ?aB ?aS ?aL ?_; (case aP => exact rfl); (case aB => exact HBD.out); (case aF => exact fun _ _ => trivial); (case aO => exact HOD.out); (case aS => exact (below_size HBD.out)); (case aL => rw [HKL.out]; have := HL.out; have := HLT.out; omega); intro v1 w1 ho hb hg hat; obtain ⟨A9, c9, e9, _, _⟩ := Kd.R_reads ho; have HO2 := aMk ho; have HB2 := aMk hb; have HG2 := aMk hg; have hb1 := aMk (blk_grown HX.out hg hne.out); have hc1 : w1.cell? ⟨gO, 0, none⟩ = some v := (bCe hb1.out 0).trans rfl; have hf1 := bFr hb1.out 0; rw [List.length_append, HKL.out, List.length_singleton] at e9; subst e9; clear hcX ho hb hg hat))
               go_roundg k1
               case measure => omega
               case rel => exact ⟨m + 1, _, _, rfl, HW, ⟨by have := HKN.out; omega⟩, ⟨blk_set hb1.out 0 _⟩, ⟨by rw [HKT.out]; exact Kd.R_set HO2.out hb1.out (by decide) 0 _⟩, ⟨bSe HB2.out (by have := HG.out; omega)⟩⟩
             · have q1 : (x == 1) = false := beq_eq_false_iff_ne.2 d1
               have q3 : (x == 3) = false := beq_eq_false_iff_ne.2 d3
               have q4 : (x == 4) = false := beq_eq_false_iff_ne.2 d4
               have HKT : Aside0 (((kindsF 0 l0).take (m + 1)).map (lvlI 0) = ((kindsF 0 l0).take m).map (lvlI 0) ++ [0]) := ⟨by rw [HKT0.out]; unfold lvlI; simp [d1, d3, d4]⟩
               clear HKT0 HXX d1 d3 d4
               go_wp2_with (first | ((with_reducible refine gate_builtin (b := .append) (xs := #[.tmp 74, .tmp 76]) rfl ?_); at_builtin; refine Kd.R_append (Kd.int .i64) (w0 := w6) w6.heap.size rfl (.tmp 74) (.tmp 76) 22 3 (.int .i64 0) 8 rfl Try.underlying22 info3 rfl (by decide) (by omega) v (((kindsF 0 l0).take m).map (lvlI 0)) (0 : Int) [.int .i64 (0 : Int)] (fun _ => True) (fun _ => False) rfl rfl ?aP (fun _ hk => hk.elim) ?aF ?aO ?aB ?aS ?aL ?_; (case aP => exact rfl); (case aB => exact HBD.out); (case aF => exact fun _ _ => trivial); (case aO => exact HOD.out); (case aS => exact (below_size HBD.out)); (case aL => rw [HKL.out]; have := HL.out; have := HLT.out; omega); intro v1 w1 ho hb hg hat; obtain ⟨A9, c9, e9, _, _⟩ := Kd.R_reads ho; have HO2 := aMk ho; have HB2 := aMk hb; have HG2 := aMk hg; have hb1 := aMk (blk_grown HX.out hg hne.out); have hc1 : w1.cell? ⟨gO, 0, none⟩ = some v := (bCe hb1.out 0).trans rfl; have hf1 := bFr hb1.out 0; rw [List.length_append, HKL.out, List.length_singleton] at e9; subst e9; clear hcX ho hb hg hat))
               go_roundg k1
               case measure => omega
               case rel => exact ⟨m + 1, _, _, rfl, HW, ⟨by have := HKN.out; omega⟩, ⟨blk_set hb1.out 0 _⟩, ⟨by rw [HKT.out]; exact Kd.R_set HO2.out hb1.out (by decide) 0 _⟩, ⟨bSe HB2.out (by have := HG.out; omega)⟩⟩
       · subst he
         by_cases d1 : x = 1
         · have q1 : (x == 1) = true := beq_iff_eq.2 d1
           have qn : (x != 1) = false := by rw [bne, q1]; rfl
           have HKT : Aside0 (((kindsF 1 l0).take (m + 1)).map (lvlI 1) = ((kindsF 1 l0).take m).map (lvlI 1) ++ [1]) := ⟨by rw [HKT0.out]; unfold lvlI; simp [d1]⟩
           clear HKT0 HXX d1
           go_wp2_with (first | ((with_reducible refine gate_builtin (b := .append) (xs := #[.tmp 74, .tmp 76]) rfl ?_); at_builtin; refine Kd.R_append (Kd.int .i64) (w0 := w6) w6.heap.size rfl (.tmp 74) (.tmp 76) 22 3 (.int .i64 0) 8 rfl Try.underlying22 info3 rfl (by decide) (by omega) v (((kindsF 1 l0).take m).map (lvlI 1)) (1 : Int) [.int .i64 (1 : Int)] (fun _ => True) (fun _ => False) rfl rfl ?aP (fun _ hk => hk.elim) ?aF ?aO ?aB ?aS ?aL ?_; (case aP => exact rfl); (case aB => exact HBD.out); (case aF => exact fun _ _ => trivial); (case aO => exact HOD.out); (case aS => exact (below_size HBD.out)); (case aL => rw [HKL.out]; have := HL.out; have := HLT.out; omega); intro v1 w1 ho hb hg hat; obtain ⟨A9, c9, e9, _, _⟩ := Kd.R_reads ho; have HO2 := aMk ho; have HB2 := aMk hb; have HG2 := aMk hg; have hb1 := aMk (blk_grown HX.out hg hne.out); have hc1 : w1.cell? ⟨gO, 0, none⟩ = some v := (bCe hb1.out 0).trans rfl; have hf1 := bFr hb1.out 0; rw [List.length_append, HKL.out, List.length_singleton] at e9; subst e9; clear hcX ho hb hg hat))
           go_roundg k1
           case measure => omega
           case rel => exact ⟨m + 1, _, _, rfl, HW, ⟨by have := HKN.out; omega⟩, ⟨blk_set hb1.out 0 _⟩, ⟨by rw [HKT.out]; exact Kd.R_set HO2.out hb1.out (by decide) 0 _⟩, ⟨bSe HB2.out (by have := HG.out; omega)⟩⟩
         · have q1 : (x == 1) = false := beq_eq_false_iff_ne.2 d1
           have qn : (x != 1) = true := by rw [bne, q1]; rfl
           have HKT : Aside0 (((kindsF 1 l0).take (m + 1)).map (lvlI 1) = ((kindsF 1 l0).take m).map (lvlI 1) ++ [2]) := ⟨by rw [HKT0.out]; unfold lvlI; simp [d1]⟩
           clear HKT0 HXX d1
           go_wp2_with (first | ((with_reducible refine gate_builtin (b := .append) (xs := #[.tmp 74, .tmp 76]) rfl ?_); at_builtin; refine Kd.R_append (Kd.int .i64) (w0 := w6) w6.heap.size rfl (.tmp 74) (.tmp 76) 22 3 (.int .i64 0) 8 rfl Try.underlying22 info3 rfl (by decide) (by omega) v (((kindsF 1 l0).take m).map (lvlI 1)) (2 : Int) [.int .i64 (2 : Int)] (fun _ => True) (fun _ => False) rfl rfl ?aP (fun _ hk => hk.elim) ?aF ?aO ?aB ?aS ?aL ?_; (case aP => exact rfl); (case aB => exact HBD.out); (case aF => exact fun _ _ => trivial); (case aO => exact HOD.out); (case aS => exact (below_size HBD.out)); (case aL => rw [HKL.out]; have := HL.out; have := HLT.out; omega); intro v1 w1 ho hb hg hat; obtain ⟨A9, c9, e9, _, _⟩ := Kd.R_reads ho; have HO2 := aMk ho; have HB2 := aMk hb; have HG2 := aMk hg; have hb1 := aMk (blk_grown HX.out hg hne.out); have hc1 : w1.cell? ⟨gO, 0, none⟩ = some v := (bCe hb1.out 0).trans rfl; have hf1 := bFr hb1.out 0; rw [List.length_append, HKL.out, List.length_singleton] at e9; subst e9; clear hcX ho hb hg hat))
           go_roundg k1
           case measure => omega
           case rel => exact ⟨m + 1, _, _, rfl, HW, ⟨by have := HKN.out; omega⟩, ⟨blk_set hb1.out 0 _⟩, ⟨by rw [HKT.out]; exact Kd.R_set HO2.out hb1.out (by decide) 0 _⟩, ⟨bSe HB2.out (by have := HG.out; omega)⟩⟩
     · have c1 : decide (mi < (l0.length : Int)) = false := decide_eq_false c
       have hmn : m = l0.length := by have := HM.out; have := HKN.out; omega
       have HOE : Aside0 (Kd.R (Kd.int .i64) 3 wr w6.heap.size (fun _ => True) v ((kindsF e l0).map (lvlI e))) := ⟨by have := HOD.out; rwa [hmn, ← kindsF_len e l0, List.take_length] at this⟩
       have hpo : 0 < ((kindsF e l0).map (lvlI e)).length := by rw [List.length_map, kindsF_len]; exact HP.out
       have hol : ((kindsF e l0).map (lvlI e)).length = l0.length := by rw [List.length_map, kindsF_len]
       obtain ⟨gV, cV, eV, hgV, hrV⟩ := rowAt_of_R HOE.out hpo
       rw [hol] at eV
       subst eV
       have HRV := aMk hrV
       have HGV := aMk hgV
       have HOL := aMk hol
       have HBC := aMk (back_calls (some ⟨gF, 0, none⟩) l0.length c6 (wr.alloc (.cells #[.bool true] 4)))
       clear c hmn HM HKN HOD HOE hpo hol hgV hrV hne
       go_wp2_with (go_at_call 116; refine HBC.out.mono ?_; rintro en w' ⟨rfl, rfl⟩)
       clear HBC hcX he0
       have HLB8 := aMk ((HLB6.out.below HBD.out).below (bAl (bAl (Below.refl wr.heap.size wr) (.cells #[.bool true] 4)) (.cells #[.slice (some ⟨gF, 0, none⟩) l0.length c6] 22)))
       have HO8 := aMk (bkA (bkA HX.out (.cells #[.bool true] 4)) (.cells #[.slice (some ⟨gF, 0, none⟩) l0.length c6] 22))
       have HV8 := aMk (HRV.out.below (bAl (bAl (Below.refl wr.heap.size wr) (.cells #[.bool true] 4)) (.cells #[.slice (some ⟨gF, 0, none⟩) l0.length c6] 22)))
       have HR8 := aMk (bkA (blk_new wr (.cells #[.bool true] 4)) (.cells #[.slice (some ⟨gF, 0, none⟩) l0.length c6] 22))
       have hs8 := blk_new (wr.alloc (.cells #[.bool true] 4)) (.cells #[.slice (some ⟨gF, 0, none⟩) l0.length c6] 22)
       rw [World.size_alloc] at hs8
       have HS8 := aMk hs8
       have HWR : Aside0 (w.heap.size ≤ wr.heap.size) := ⟨by have := HLB6.out.b.size; have := HBD.out.size; omega⟩
       have HNV : Aside0 (w.heap.size ≠ gV ∧ w.heap.size ≤ gV) := ⟨by have := HGV.out; have := blk_lt HLB6.out.e0; omega⟩
       generalize (wr.alloc (.cells #[.bool true] 4)).alloc (.cells #[.slice (some ⟨gF, 0, none⟩) l0.length c6] 22) = w8 at HLB8 HO8 HV8 HR8 hs8 HS8 ⊢
       generalize wr.heap.size = bR at HR8 hs8 HS8 HWR ⊢
       clear hs8 HX HRV HBD
       refine (wpIn_wide (n := 6)).1 ?_
       refine range_go (gf := 145) (lb := #[.pointer (some ⟨bR + 1, 0, none⟩)]) rfl (enters_of Try.func145 (by kernel_rfl) rfl) (back_stops 5 (bR + 1) gF c6 l0.length (firstF l0) HLB8.out.lf HL.out (by decide) w8 HS8.out HLB8.out.f) (fun h k => h.t k) ?hkb rfl (fun pre W => RI w W w.heap.size gV cV gO bR l0.length e (foldB e ((kindsF e l0).map (lvlI e)) (pre.map Subtype.val)).1 (foldB e ((kindsF e l0).map (lvlI e)) (pre.map Subtype.val)).2) ?hi ?h0 ?assign ?body ?done
       case hkb =>
        intro W l o o' hl _ _ _
        have z1 := blk_lt HS8.out
        have z2 := HLB8.out.f.lt
        exact ⟨World.putObj_heap_other (by omega), World.putObj_heap_other (by omega)⟩
       case hi =>
        intro pre W W' row hs hg hr
        exact hs.own hg (fun r e => (hr r e).1) HLB8.out.b.size (blk_lt HLB8.out.e0) HV8.out.lt (blk_lt HO8.out) (blk_lt HR8.out)
       case h0 => exact ⟨HLB8.out.e0, HO8.out, HR8.out, HV8.out, HOL.out, HLB8.out.b⟩
       case assign =>
        intro l x W K hK
        unfold afterA at hK
        unfold encB
        simp only [lSa, lSz, lSs] at hK
        gi_wp2
        exact hK
       case body =>
        intro l pre x W hI hlen
        obtain ⟨b, hb⟩ : ∃ b, b = (foldB e ((kindsF e l0).map (lvlI e)) (pre.map Subtype.val)).1 := ⟨_, rfl⟩
        obtain ⟨out, hout⟩ : ∃ o, o = (foldB e ((kindsF e l0).map (lvlI e)) (pre.map Subtype.val)).2 := ⟨_, rfl⟩
        have hsn := foldB_snoc e ((kindsF e l0).map (lvlI e)) (pre.map Subtype.val) x.1
        rw [← hb, ← hout] at hI hsn
        have HSN : Aside0 (foldB e ((kindsF e l0).map (lvlI e)) ((pre ++ [x]).map Subtype.val) = (rsB x.1.2 b, if rsB x.1.2 b = true then out.set x.1.1 e else out)) := ⟨by rw [List.map_append, List.map_singleton]; exact hsn⟩
        have HI := aMk hI
        obtain ⟨i, hi⟩ : ∃ i : Int, i = (x.1.1 : Int) := ⟨_, rfl⟩
        obtain ⟨c, hc⟩ : ∃ c : Int, c = x.1.2 := ⟨_, rfl⟩
        have HIX : Aside0 (i.toNat = x.1.1) := ⟨by omega⟩
        have p1 : (0 ≤ i) = True := eq_true (by omega)
        have q1 : (i < (l0.length : Int)) = True := eq_true (by have := x.2; omega)
        unfold afterA
        simp only [lSa, lSz, lSs]
        rw [← hi, ← hc]
        rw [← hc] at HSN
        have hr0 := (bCe hI.rb 0).trans rfl
        have hrf := bFr hI.rb 0
        have HT := aMk (hI.setb HWR.out true)
        have HF := aMk (hI.setb HWR.out false)
        have KO : Aside0 (∀ u, KeepTwo (bR + 1) gF W (W.setCell ⟨bR, 0, none⟩ u)) := ⟨fun u => ⟨Below.heap_setCell _ _ _ _ (by show bR + 1 ≠ bR; omega), Below.heap_setCell _ _ _ _ (by obtain ⟨cur, hh, _⟩ := HLB8.out.f; show gF ≠ bR; exact blk_ne hh HR8.out (by decide))⟩⟩
        have heT := (bCe HT.out.e0 0).trans rfl
        have hoT := (bCe HT.out.o 0).trans rfl
        have hrT := (bCe HT.out.rb 0).trans rfl
        have hvT : (W.setCell ⟨bR, 0, none⟩ (.bool true)).cell? ⟨gV, i.toNat, none⟩ = some (.int .i64 (out.getD i.toNat 0)) := HT.out.v.cell i.toNat (by rw [HT.out.lv]; have := x.2; omega)
        have hfT := HT.out.v.frozen i.toNat
        have hrF := (bCe HF.out.rb 0).trans rfl
        have KO2 : Aside0 (∀ W2 q u, KeepTwo (bR + 1) gF W2 (W2.setCell ⟨gV, q, none⟩ u)) := ⟨fun W2 q u => ⟨Below.heap_setCell _ _ _ _ (by obtain ⟨cur, hh, _⟩ := HV8.out; show bR + 1 ≠ gV; exact blk_ne HS8.out hh (by decide)), Below.heap_setCell _ _ _ _ (by have := HGV.out; have := HLB6.out.f.lt; show gF ≠ gV; omega)⟩⟩
        clear hI hsn hb hout hi hc hlen
        by_cases d10 : c = 10
        · have q10 : (c == 10) = true := beq_iff_eq.2 d10
          have HE : Aside0 (rsB c b = true) := ⟨by unfold rsB; rw [q10]; rfl⟩
          clear d10
          clear hrF
          gi_wp2
          exact ⟨(KeepsOthers.setCell _ _ _).trans (KeepsOthers.setCell _ _ _), (KO.out _).t (KO2.out _ _ _), by dsimp only; rw [HSN.out, HE.out, ← HIX.out]; exact HT.out.setv HNV.out.2 HNV.out.1 i.toNat⟩
        · by_cases d11 : c = 11
          · have q10 : (c == 10) = false := beq_eq_false_iff_ne.2 d10
            have q11 : (c == 11) = true := beq_iff_eq.2 d11
            have HE : Aside0 (rsB c b = true) := ⟨by unfold rsB; rw [q10, q11]; rfl⟩
            clear d10 d11
            clear hrF
            gi_wp2
            exact ⟨(KeepsOthers.setCell _ _ _).trans (KeepsOthers.setCell _ _ _), (KO.out _).t (KO2.out _ _ _), by dsimp only; rw [HSN.out, HE.out, ← HIX.out]; exact HT.out.setv HNV.out.2 HNV.out.1 i.toNat⟩
          · by_cases d9 : c = 9
            · cases b
              · have q10 : (c == 10) = false := beq_eq_false_iff_ne.2 d10
                have q11 : (c == 11) = false := beq_eq_false_iff_ne.2 d11
                have q9 : (c == 9) = true := beq_iff_eq.2 d9
                have HE : Aside0 (rsB c false = false) := ⟨by unfold rsB; rw [q10, q11, q9]; rfl⟩
                clear d10 d11 d9
                clear heT hoT hrT hvT hfT
                gi_wp2
                exact ⟨KeepsOthers.setCell _ _ _, KO.out _, by dsimp only; rw [HSN.out, HE.out]; exact HF.out⟩
              · have q10 : (c == 10) = false := beq_eq_false_iff_ne.2 d10
                have q11 : (c == 11) = false := beq_eq_false_iff_ne.2 d11
                have q9 : (c == 9) = true := beq_iff_eq.2 d9
                have HE : Aside0 (rsB c true = true) := ⟨by unfold rsB; rw [q10, q11, q9]; rfl⟩
                clear d10 d11 d9
                clear hrF
                gi_wp2
                exact ⟨(KeepsOthers.setCell _ _ _).trans (KeepsOthers.setCell _ _ _), (KO.out _).t (KO2.out _ _ _), by dsimp only; rw [HSN.out, HE.out, ← HIX.out]; exact HT.out.setv HNV.out.2 HNV.out.1 i.toNat⟩
            · have q10 : (c == 10) = false := beq_eq_false_iff_ne.2 d10
              have q11 : (c == 11) = false := beq_eq_false_iff_ne.2 d11
              have q9 : (c == 9) = false := beq_eq_false_iff_ne.2 d9
              have HE : Aside0 (rsB c b = false) := ⟨by unfold rsB; rw [q10, q11, q9]; rfl⟩
              clear d10 d11 d9
              clear heT hoT hrT hvT hfT
              gi_wp2
              exact ⟨KeepsOthers.setCell _ _ _, KO.out _, by dsimp only; rw [HSN.out, HE.out]; exact HF.out⟩
       case done =>
        intro D xs W hD hS hI hK
        have hfin : (foldB e ((kindsF e l0).map (lvlI e)) (xs.map Subtype.val)).2 = levF e l0 := by
         have h1 := foldB_rs e ((kindsF e l0).map (lvlI e)) (firstF l0) l0.length (by rw [HFL.out]; exact Nat.le_refl _)
         rw [HFL.out, Nat.sub_self] at h1
         rw [hS]
         exact h1
        rw [hfin] at hI
        have HI := aMk hI
        have hc0 := (bCe hI.o 0).trans rfl
        have HKD := aMk hK
        have HD := aMk hD
        clear hfin hS hI hK hD
        go_wp2
        have HI2 := HI.out.own (grownBy_putObj' W D (.deferred none)) (fun r e => by cases e; exact HD.out) HLB8.out.b.size (blk_lt HLB8.out.e0) HV8.out.lt (blk_lt HO8.out) (blk_lt HR8.out)
        have hll : (levF e l0).length = l0.length := HI2.lv
        refine ⟨by simp, .inl ⟨_, _, rfl, run_takeDeferred HKD.out, ?_⟩⟩
        refine ⟨_, results_tmp rfl _ _ _, _, rfl, ?_, HI2.B⟩
        have := R_of_rowAt HI2.v HNV.out.2
        rw [hll] at this
        exact this
end
def impl_levelsOf.f (l0 : List Int) (a1 : Int) : Option (List Int) := if 0 < l0.length ∧ l0.length ≤ 17592186044415 ∧ (a1 = 0 ∨ a1 = 1) then some (levF a1 l0) else none
theorem impl_levelsOf.calls (A0 : Option Addr) (c0 : Nat) (l0 : List Int) (a1 : Int) (r : List Int) (w : World) (hr0 : Kd.C (Kd.int .i64) w A0 l0.length l0) (hc0 : l0.length ≤ c0) (h : impl_levelsOf.f l0 a1 = some r) :
 Calls Try.prog 78 #[.slice A0 l0.length c0, .int .i64 a1] w fun e w' => ∃ v0_ : Value, e = .returned (v0_) ∧ Kd.R (Kd.int .i64) 3 w' w.heap.size (fun _ => True) v0_ r ∧ Below w.heap.size w w' := by
 unfold impl_levelsOf.f at h
 by_cases c : 0 < l0.length ∧ l0.length ≤ 17592186044415 ∧ (a1 = 0 ∨ a1 = 1)
 · rw [if_pos c] at h
   obtain rfl := Option.some.inj h
   exact levelsOf_calls A0 c0 l0 a1 w hr0 hc0 c.2.2 c.1 c.2.1
 · rw [if_neg c] at h; cases h
end Go.Proofs.Ytpknhndanbgkmaa.MFnLevels
