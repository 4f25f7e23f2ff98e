-- Written by this session's own program (wip/gen/myprint.py).
import Derived.Test.YtpknhndanbgkmaaMFnLevelsx0
namespace Go.Proofs.Ytpknhndanbgkmaa.MFnLevels
open Go.RowKit Go.Proofs.YtpknhndanbgkmaaW.PrintWords Go.Proofs.YtpknhndanbgkmaaW.PrintLast Go.Proofs.YtpknhndanbgkmaaW.PrintMore
attribute [local go_sem] max2_int min2_int max_two min_two max_three min_three max_four min_four   -- for this text's walks alone
set_option linter.unusedVariables false
set_option linter.unusedSimpArgs false
def revSeg (xs : List Int) (s e : Nat) : List Int := xs.take s ++ ((xs.drop s).take (e - s)).reverse ++ xs.drop e
theorem revSeg_length (xs : List Int) (s e : Nat) (h : s ≤ e) (he : e ≤ xs.length) : (revSeg xs s e).length = xs.length := by simp [revSeg]; omega
set_option maxHeartbeats 4000000 in
set_option maxRecDepth 100000 in
theorem turn_calls (gO g cap s e : Nat) (xs : List Int) (w : World) (hO : w.heap[gO]? = some (.cells #[.slice (some ⟨g, 0, none⟩) xs.length cap] 22 (0, 0))) (hr : RowAt w g cap xs) (hs : s < e) (he : e ≤ xs.length) (hm : xs.length ≤ 17592186044415) :
 Calls Try.prog 55 #[.int .i64 (s : Int), .int .i64 (e : Int), .pointer (some ⟨gO, 0, none⟩)] w fun r w' => r = .returned (.tuple #[]) ∧ ∃ q, w' = (w.drewN q).setCells g s ((((xs.drop s).take (e - s)).reverse).map (Value.int .i64)) := by
 have hu22 := Try.underlying22
 have hcO : w.cell? ⟨gO, 0, none⟩ = some (.slice (some ⟨g, 0, none⟩) xs.length cap) := (bCe hO 0).trans rfl
 obtain ⟨cur, hh, hcap, hmx, h3, h4⟩ := id hr
 have HR := aMk hr
 have HC := aMk hcO
 clear hr hO hh h4 h3
 unfold maxLen at hmx
 obtain ⟨i0, hi0, _, hz1, _⟩ := info_parts info3
 have hseg : ((xs.drop s).take (e - s)).length = e - s := by simp; omega
 have h1 : ∀ j, j < ((xs.drop s).take (e - s)).length → w.cell? ⟨g, s + j, none⟩ = some (.int .i64 (((xs.drop s).take (e - s)).getD j 0)) := by
  intro j hj
  rw [HR.out.cell (s + j) (by omega)]
  congr 2
  rw [List.getD_eq_getElem?_getD, List.getD_eq_getElem?_getD, List.getElem?_take, if_pos (by omega), List.getElem?_drop]
 have H1 := aMk (Try.slices_Reverse_int_cells g s (e - s) (cap - s) ((xs.drop s).take (e - s)) w (by omega) (by omega) h1 (fun j _ => HR.out.frozen _))
 clear h1 hseg
 go_enter Try.func55, Try.ntmps55
 go_wp2_with (go_at_call 56; refine H1.out.mono ?_; rintro r w' ⟨rfl, q, rfl⟩)
 go_end0
 refine ⟨rfl, q, ?_⟩
 simp [List.take_take]
set_option maxHeartbeats 8000000 in
set_option maxRecDepth 100000 in
theorem push_calls (gS : Nat) (sv : Value) (xs : List Int) (x : Int) (ok : Nat → Prop) (w0 w : World) (hS : w.heap[gS]? = some (.cells #[sv] 78 (0, 0))) (hR : Kd.R (Kd.int .i64) 3 w w0.heap.size ok sv xs) (hf : ∀ k, w.heap.size ≤ k → ok k) (hB : Below w0.heap.size w0 w) (hl : (xs.length + 1) * 8 ≤ 140737488355328) :
 Calls Try.prog 57 #[.pointer (some ⟨gS, 0, none⟩), .int .i64 x] w fun r w' => r = .returned (.tuple #[]) ∧ ∃ v1 w1, w' = w1.setCell ⟨gS, 0, none⟩ v1 ∧ Kd.R (Kd.int .i64) 3 w1 w0.heap.size ok v1 (xs ++ [x]) ∧ Below w0.heap.size w0 w1 ∧ w.grownBy w1 sv.ownBlock := by
 have hc : w.cell? ⟨gS, 0, none⟩ = some sv := (bCe hS 0).trans rfl
 have hne : some gS ≠ sv.ownBlock := Kd.R_ne hR hS (by decide)
 have HS := aMk hS
 have HR := aMk hR
 have HF := aMk hf
 have HB := aMk hB
 have HL := aMk hl
 clear hS hR hf hB hl
 replace hne := aMk hne
 go_enter Try.func57, Try.ntmps57
 go_wp2_with (first | ((with_reducible refine gate_builtin (b := .append) (xs := #[.tmp 8, .tmp 10]) rfl ?_); at_builtin; refine Kd.R_append (Kd.int .i64) (w0 := w0) w0.heap.size rfl (.tmp 8) (.tmp 10) 22 3 (.int .i64 0) 8 rfl Try.underlying22 info3 rfl (by decide) (by omega) sv xs x [.int .i64 x] ok (fun _ => False) rfl rfl ?aP (fun _ hk => hk.elim) ?aF ?aO ?aB ?aS ?aL ?_; (case aP => exact rfl); (case aB => exact HB.out); (case aF => exact HF.out); (case aO => exact HR.out); (case aS => exact (below_size HB.out)); (case aL => exact HL.out); intro v1 w1 ho hb hg hat; obtain ⟨A1, c1, e1, _, _⟩ := Kd.R_reads ho; have HO2 := aMk ho; have HB2 := aMk hb; have HG2 := aMk hg; have hb1 := blk_grown HS.out hg hne.out; have hc1 : w1.cell? ⟨gS, 0, none⟩ = some sv := (bCe hb1 0).trans rfl; have hf1 := bFr hb1 0; clear hc hb1 ho hb hg hat; subst e1))
 go_end0
 exact ⟨rfl, _, w1, rfl, by simpa using HO2.out, HB2.out, HG2.out⟩
set_option maxHeartbeats 8000000 in
set_option maxRecDepth 100000 in
theorem pop_none (gS : Nat) (sv : Value) (ok : Nat → Prop) (b : Nat) (w : World) (hS : w.heap[gS]? = some (.cells #[sv] 78 (0, 0))) (hR : Kd.R (Kd.int .i64) 3 w b ok sv []) :
 Calls Try.prog 58 #[.pointer (some ⟨gS, 0, none⟩)] w fun r w' => r = .returned (.tuple #[.int .i64 0, .bool false]) ∧ w = w' := by
 obtain ⟨A1, c1, rfl, _, _⟩ := Kd.R_reads hR
 have hc : w.cell? ⟨gS, 0, none⟩ = some (.slice A1 0 c1) := (bCe hS 0).trans rfl
 clear hS hR
 go_enter Try.func58, Try.ntmps58
 go_wp2
 go_ret2
 exact ⟨rfl, rfl⟩
set_option maxHeartbeats 8000000 in
set_option maxRecDepth 100000 in
theorem pop_one (gS : Nat) (sv : Value) (x : Int) (ok : Nat → Prop) (b : Nat) (w : World) (hS : w.heap[gS]? = some (.cells #[sv] 78 (0, 0))) (hR : Kd.R (Kd.int .i64) 3 w b ok sv [x]) :
 Calls Try.prog 58 #[.pointer (some ⟨gS, 0, none⟩)] w fun r w' => r = .returned (.tuple #[.int .i64 x, .bool true]) ∧ ∃ v1, w' = w.setCell ⟨gS, 0, none⟩ v1 ∧ Kd.R (Kd.int .i64) 3 w b ok v1 [] := by
 obtain ⟨g, cap, rfl, _, _, _, _⟩ := Kd.R_form hR (by simp)
 have hc : w.cell? ⟨gS, 0, none⟩ = some (.slice (some ⟨g, 0, none⟩) 1 cap) := (bCe hS 0).trans rfl
 have hfz := bFr hS 0
 obtain ⟨hn, hcap, hC⟩ := Kd.R_reads' hR
 obtain ⟨ad, e, hx⟩ := Kd.at_int hC 0 (by omega) (by simp)
 cases e
 have hx : w.cell? ⟨g, 0, none⟩ = some (.int .i64 x) := hx
 have HT := aMk (Kd.R_take (m := 0) hR (by simp))
 have hcap : 1 ≤ cap := hcap
 clear hS hR hC hn
 go_enter Try.func58, Try.ntmps58
 go_wp2
 go_ret2
 exact ⟨rfl, _, rfl, HT.out⟩
def fin : Option Nat → Nat → List Int → List Int
 | some s, i, xs => revSeg xs s i
 | none, _, xs => xs
def scan (p : Int → Bool) : Nat → Nat → Option Nat → List Int → List Int
 | 0, i, st, xs => fin st i xs
 | k + 1, i, st, xs => if p (xs.getD i 0) = true then scan p k (i + 1) (some (st.getD i)) xs else scan p k (i + 1) none (fin st i xs)
theorem revSeg_mem (xs : List Int) (s e : Nat) (x : Int) (h : x ∈ revSeg xs s e) : x ∈ xs := by
 simp only [revSeg, List.mem_append, List.mem_reverse] at h
 rcases h with (h | h) | h
 · exact List.mem_of_mem_take h
 · exact List.mem_of_mem_drop (List.mem_of_mem_take h)
 · exact List.mem_of_mem_drop h
theorem scan_length (p : Int → Bool) : ∀ (k i : Nat) (st : Option Nat) (xs : List Int), i + k ≤ xs.length → (∀ s, st = some s → s ≤ i) → (scan p k i st xs).length = xs.length := by
 intro k
 induction k with
 | zero =>
  intro i st xs h hs
  rw [scan]
  cases st with
  | none => rfl
  | some s => exact revSeg_length xs s i (hs s rfl) (by omega)
 | succ k ih =>
  intro i st xs h hs
  rw [scan]
  split
  · rw [ih (i + 1) _ xs (by omega)]
    intro s e
    cases st with
    | none => cases e; exact Nat.le_succ i
    | some s' => cases e; have := hs s' rfl; show s' ≤ i + 1; omega
  · cases st with
    | none => exact ih (i + 1) none xs (by omega) (fun s e => by cases e)
    | some s =>
     have hl := revSeg_length xs s i (hs s rfl) (by omega)
     show (scan p k (i + 1) none (revSeg xs s i)).length = _
     rw [ih (i + 1) none _ (by omega) (fun s e => by cases e), hl]
theorem scan_mem (p : Int → Bool) : ∀ (k i : Nat) (st : Option Nat) (xs : List Int), ∀ x ∈ scan p k i st xs, x ∈ xs := by
 intro k
 induction k with
 | zero =>
  intro i st xs x h
  rw [scan] at h
  cases st with
  | none => exact h
  | some s => exact revSeg_mem xs s i x h
 | succ k ih =>
  intro i st xs x h
  rw [scan] at h
  split at h
  · exact ih _ _ _ x h
  · cases st with
    | none => exact ih _ _ _ x h
    | some s => exact revSeg_mem xs s i x (ih _ _ _ x h)
def lvAt (l : List Int) (t : Nat) (x : Int) : Bool := decide ((t : Int) ≤ l.getD x.toNat 0)
def passes (l : List Int) : Nat → List Int → List Int
 | 0, xs => xs
 | t + 1, xs => passes l t (scan (lvAt l (t + 1)) l.length 0 none xs)
def ids (n : Nat) : List Int := (List.range n).map (fun i : Nat => (i : Int))
theorem ids_length (n : Nat) : (ids n).length = n := by simp [ids]
theorem ids_succ (n : Nat) : ids (n + 1) = ids n ++ [(n : Int)] := by simp [ids, List.range_succ]
theorem rd_nat (xs : List Int) (i : Nat) (h : i < xs.length) : rd xs (i : Int) = xs[i] := by
 simp [rd, List.getElem?_eq_getElem h]
def lvOk (x : Int) : Bool := decide (0 ≤ x) && decide (x ≤ 125)
def top (l : List Int) : Int := l.foldl (fun m x => mx m x) 0
def vis (l : List Int) : List Int := if l.all lvOk = true then passes l (top l).toNat (ids l.length) else []
theorem take_succ (l : List Int) (n : Nat) (h : n < l.length) : l.take (n + 1) = l.take n ++ [l[n]] := by
 rw [List.take_add_one, List.getElem?_eq_getElem h]; rfl
theorem top_succ (l : List Int) (n : Nat) (h : n < l.length) : top (l.take (n + 1)) = mx (top (l.take n)) l[n] := by
 unfold top
 rw [take_succ l n h, List.foldl_append]; rfl
theorem top_nonneg (l : List Int) : 0 ≤ top l := by
 have h : ∀ (l : List Int) (a : Int), 0 ≤ a → 0 ≤ l.foldl (fun m x => mx m x) a := by
  intro l
  induction l with
  | nil => intro a h; exact h
  | cons x xs ih => intro a h; exact ih _ (by show 0 ≤ mx a x; unfold mx; split <;> omega)
 exact h l 0 (Int.le_refl _)
theorem top_le (l : List Int) (h : l.all lvOk = true) : top l ≤ 125 := by
 have key : ∀ (l : List Int) (a : Int), (∀ x ∈ l, x ≤ 125) → a ≤ 125 → l.foldl (fun m x => mx m x) a ≤ 125 := by
  intro l
  induction l with
  | nil => intro a _ h; exact h
  | cons x xs ih => intro a hx h; exact ih _ (fun y hy => hx y (List.mem_cons_of_mem _ hy)) (by have := hx x List.mem_cons_self; show mx a x ≤ 125; unfold mx; split <;> omega)
 refine key l 0 (fun x hx => ?_) (by omega)
 have := List.all_eq_true.mp h x hx
 simp [lvOk] at this; omega
theorem vis_no (l : List Int) (n : Nat) (h : n < l.length) (hb : lvOk l[n] = false) : vis l = [] := by
 unfold vis
 rw [if_neg]
 intro e
 have := List.all_eq_true.mp e l[n] (List.getElem_mem h)
 rw [hb] at this; cases this
set_option maxHeartbeats 8000000 in
set_option maxRecDepth 100000 in
theorem visual_calls (A0 : Option Addr) (c0 : Nat) (l0 : List Int) (w : World) (hr0 : Kd.C (Kd.int .i64) w A0 l0.length l0) (hc0 : l0.length ≤ c0) (hl : l0.length ≤ 17592186044415) :
 Calls Try.prog 14 #[.slice A0 l0.length c0] w fun e w' => ∃ v0_ : Value, e = .returned (v0_) ∧ Kd.R (Kd.int .i64) 3 w' w.heap.size (fun _ => True) v0_ (vis l0) ∧ Below w.heap.size w w' := by
 have hu22 := Try.underlying22
 have hu78 := Try.underlying78
 have HR0 := aMk hr0
 have HC0 := aMk hc0
 have HL := aMk hl
 have hmf : ∀ (fn : Fn) (first cap : Array Value) (w : World), (Instr.makeFunc fn first cap).run Try.prog w = .ok (.func fn first cap) w := fun _ _ _ _ => rfl
 clear hr0 hc0 hl
 have HB := aMk (Below.refl w.heap.size w)
 go_enter Try.func14, Try.ntmps14
 go_wp2_with (first | ((with_reducible refine gate_dst (N := 14) rfl ?_); refine Kd.R_lit (Kd.int .i64) _ 3 ?hg (N := 14) ?hd (xs := ([] : List Int)) (inner := []) (ok := fun _ => True) (okp := fun _ => True) ?hr ?hp (fun _ hk => hk) trivial (Below.refl _ _) (Nat.le_refl _) (by simp) ?_; (case hd => rfl); (case hg => rfl); (case hr => first | (go_simp; done) | (go_simp; rfl)); (case hp => exact (Reps.none _ _)); intro v153 w3 ho3 hb hg_ hnew_; clear hg_ hnew_; obtain ⟨A1, c1, e1, _, _⟩ := Kd.R_reads ho3; have HO1 := aMk (Kd.R_lower ho3 (below_size HB.out)); have HB1 := aMk (below_step HB.out hb); clear HB hb ho3; subst e1))
 have HX := aMk (blk_new w3 (.cells #[.slice A1 0 c1] 22))
 have HO2 := aMk (Kd.R_alloc HO1.out (.cells #[.slice A1 0 c1] 22))
 have HB2 := aMk (bAl HB1.out (.cells #[.slice A1 0 c1] 22))
 have HG := aMk HB1.out.size
 clear HO1 HB1
 generalize w3.alloc (.cells #[.slice A1 0 c1] 22) = w4 at HX HO2 HB2 ⊢
 generalize w3.heap.size = gO at HX HG ⊢
 go_loopg [4, 17] l0.length (fun kq v4 v17 w' => ∃ (n : Nat) (v : Value), v4 = .int .i64 (top (l0.take n)) ∧ v17 = .int .i64 (n : Int) ∧ Aside0 (n + kq = l0.length) ∧ Aside0 ((l0.take n).all lvOk = true) ∧ Aside0 (w'.heap[gO]? = some (.cells #[v] 22 (0, 0))) ∧ Aside0 (Kd.R (Kd.int .i64) 3 w' w.heap.size (fun _ => True) v (ids n)) ∧ Aside0 (Below w.heap.size w w'))
 case atStart => exact ⟨0, _, rfl, rfl, ⟨by simp⟩, ⟨by simp⟩, HX, HO2, HB2⟩
 case round =>
  clear HX HO2 HB2
  obtain ⟨n, v, rfl, rfl, HN, HA, HX, HO, HB⟩ := hrel
  by_cases c : n < l0.length
  · have c1 : decide ((n : Int) < (l0.length : Int)) = true := decide_eq_true (by omega)
    have p1 : 0 ≤ (n : Int) := by omega
    have q1 : (n : Int) < (l0.length : Int) := by omega
    obtain ⟨ad, eA, hx⟩ := Kd.at_int HR0.out (n : Int) p1 q1
    rw [Int.toNat_natCast, rd_nat l0 n c] at hx
    cases eA
    replace hx := (HB.out.cell (wBl w _ hx)).trans hx
    replace p1 := eq_true p1
    replace q1 := eq_true q1
    have HV := aMk (vis_no l0 n c)
    have HT := aMk (top_succ l0 n c)
    have HTK := aMk (take_succ l0 n c)
    obtain ⟨x, hxx⟩ : ∃ x, x = l0[n] := ⟨_, rfl⟩
    rw [← hxx] at HV HT HTK hx
    clear hxx
    have hk : gk ≠ 0 := by have := HN.out; omega
    obtain ⟨k1, rfl⟩ := Nat.exists_eq_succ_of_ne_zero hk
    clear hk
    have HC := aMk c
    have hw : wrap64 ((n : Int) + 1) = ((n + 1 : Nat) : Int) := by have := HL.out; unfold wrap64; omega
    replace hw := aMk hw
    clear c
    by_cases d1 : x < 0
    · have HE := aMk (HV.out (by unfold lvOk; rw [decide_eq_false (by omega)]; rfl))
      replace d1 := decide_eq_true d1
      clear HV HT HTK
      go_wp2
      go_ret
      exact ⟨_, rfl, by rw [HE.out]; exact Kd.R_nil _ _ _ _ _, HB.out⟩
    by_cases d2 : x > 125
    · have HE := aMk (HV.out (by unfold lvOk; rw [decide_eq_false (p := x ≤ 125) (by omega), Bool.and_false]))
      replace d1 := decide_eq_false d1
      replace d2 := decide_eq_true d2
      clear HV HT HTK
      go_wp2
      go_ret
      exact ⟨_, rfl, by rw [HE.out]; exact Kd.R_nil _ _ _ _ _, HB.out⟩
    have HA2 : Aside0 ((l0.take (n + 1)).all lvOk = true) := ⟨by
     rw [HTK.out, List.all_append, HA.out]
     simp [lvOk]; omega⟩
    replace d1 := decide_eq_false d1
    replace d2 := decide_eq_false d2
    have hne := aMk (Kd.R_ne HO.out HX.out (by decide))
    have hcX : wr.cell? ⟨gO, 0, none⟩ = some v := (bCe HX.out 0).trans rfl
    clear HV HTK HA
    obtain ⟨m, hm⟩ : ∃ m, m = top (l0.take n) := ⟨_, rfl⟩
    have HT2 : Aside0 (top (l0.take (n + 1)) = if m < x then x else m) := ⟨by rw [HT.out, hm]; rfl⟩
    rw [← hm]
    clear HT hm
    rcases (show (m < x) = True ∨ (m < x) = False by by_cases z : m < x; exact .inl (eq_true z); exact .inr (eq_false z)) with dm | dm
    all_goals
     go_wp2_with (first | ((with_reducible refine gate_builtin (b := .append) (xs := #[.tmp 28, .tmp 30]) rfl ?_); at_builtin; refine Kd.R_append (Kd.int .i64) (w0 := w) w.heap.size rfl (.tmp 28) (.tmp 30) 22 3 (.int .i64 0) 8 rfl Try.underlying22 info3 rfl (by decide) (by omega) v (ids n) (n : Int) [.int .i64 (n : Int)] (fun _ => True) (fun _ => False) rfl rfl ?aP (fun _ hk => hk.elim) ?aF ?aO ?aB ?aS ?aL ?_; (case aP => exact rfl); (case aB => exact HB.out); (case aF => exact fun _ _ => trivial); (case aO => exact HO.out); (case aS => exact (below_size HB.out)); (case aL => rw [ids_length]; have := HL.out; have := HC.out; omega); intro v1 w1 ho hb hg hat; obtain ⟨A1, c1, e1, _, _⟩ := Kd.R_reads ho; have HO2 := aMk ho; have HB2 := aMk hb; have hb1 := aMk (blk_grown HX.out hg hne.out); have hc1 : w1.cell? ⟨gO, 0, none⟩ = some v := (bCe hb1.out 0).trans rfl; have hf1 := bFr hb1.out 0; clear hcX ho hb hg hat; subst e1))
     go_roundg k1
     case measure => omega
     case rel => exact ⟨n + 1, _, congrArg (Value.int .i64) (by rw [HT2.out]; simp only [dm, if_true, if_false]), congrArg (Value.int .i64) hw.out, ⟨by have := HN.out; omega⟩, HA2, ⟨blk_set hb1.out 0 _⟩, ⟨by rw [ids_succ]; exact Kd.R_set (by simpa using HO2.out) hb1.out (by decide) 0 _⟩, ⟨bSe HB2.out (by have := HG.out; omega)⟩⟩
  · have c1 : decide ((n : Int) < (l0.length : Int)) = false := decide_eq_false (by omega)
    have hn : n = l0.length := by have := HN.out; omega
    have HA2 := HA.out
    rw [hn, List.take_length] at HA2
    rw [hn, List.take_length]
    rw [hn] at HO
    have HA3 := aMk HA2
    clear HA HA2 hn c
    have HT0 : Aside0 (top l0 ≤ 125) := ⟨top_le l0 HA3.out⟩
    obtain ⟨t0, ht0⟩ : ∃ t0 : Nat, top l0 = (t0 : Int) := ⟨(top l0).toNat, by rw [Int.toNat_of_nonneg (top_nonneg l0)]⟩
    have HV : Aside0 (vis l0 = passes l0 t0 (ids l0.length)) := ⟨by unfold vis; rw [if_pos HA3.out, ht0, Int.toNat_natCast]⟩
    have HT1 : Aside0 (t0 ≤ 125) := ⟨by have := HT0.out; omega⟩
    rw [ht0]
    by_cases hz : l0.length = 0
    · have h0 : t0 = 0 := by
       have : l0 = [] := List.eq_nil_of_length_eq_zero hz
       rw [this] at ht0
       have e : top [] = 0 := rfl
       omega
      subst h0
      have HV2 : Aside0 (vis l0 = ids l0.length) := ⟨HV.out⟩
      have hcX : wr.cell? ⟨gO, 0, none⟩ = some v := (bCe HX.out 0).trans rfl
      clear hz ht0
      go_wp2
      go_loopg [7] 1 (fun kq v7 w' => v7 = .int .i64 0 ∧ w' = wr)
      case atStart => exact ⟨rfl, rfl⟩
      case round =>
       obtain ⟨rfl, rfl⟩ := hrel
       go_wp2
       go_ret
       exact ⟨_, rfl, by rw [HV2.out]; exact HO.out, HB.out⟩
    · have hp : 0 < (ids l0.length).length := by rw [ids_length]; omega
      obtain ⟨g, cap, e1, hg, hrow⟩ := rowAt_of_R HO.out hp
      rw [ids_length] at e1
      subst e1
      have HROW := aMk hrow
      have HGG := aMk hg
      have HZ := aMk hz
      clear hrow hg hz hp ht0 HO
      go_wp2
      go_loopg [7] t0 (fun kq v7 w' => ∃ xs : List Int, v7 = .int .i64 (kq : Int) ∧ Aside0 (w'.heap[gO]? = some (.cells #[.slice (some ⟨g, 0, none⟩) l0.length cap] 22 (0, 0))) ∧ Aside0 (RowAt w' g cap xs) ∧ Aside0 (xs.length = l0.length) ∧ Aside0 (∀ x ∈ xs, 0 ≤ x ∧ x < l0.length) ∧ Aside0 (passes l0 kq xs = vis l0) ∧ Aside0 (kq ≤ 125) ∧ Aside0 (Below w.heap.size w w'))
      case atStart => exact ⟨ids l0.length, rfl, HX, HROW, ⟨ids_length _⟩, ⟨fun x hx => by simp only [ids, List.mem_map, List.mem_range] at hx; obtain ⟨i, hi, rfl⟩ := hx; omega⟩, ⟨HV.out.symm⟩, HT1, HB⟩
      case round =>
       clear HX HROW HB HV
       obtain ⟨xs, rfl, HX, HROW, HLN, HRG, HV, HTB, HB⟩ := hrel
       cases gk with
       | zero =>
        have hcX : wr.cell? ⟨gO, 0, none⟩ = some (.slice (some ⟨g, 0, none⟩) l0.length cap) := (bCe HX.out 0).trans rfl
        have HE : Aside0 (xs = vis l0) := ⟨HV.out⟩
        clear HV
        go_wp2
        go_ret
        exact ⟨_, rfl, by rw [← HE.out, ← HLN.out]; exact R_of_rowAt HROW.out HGG.out, HB.out⟩
       | succ t =>
        have c2 : decide (((t + 1 : Nat) : Int) > 0) = true := decide_eq_true (by omega)
        have HBR := aMk (Below.refl wr.heap.size wr)
        have HCC := aMk HROW.out.C
        rw [HLN.out] at HCC
        go_wp2_with (first | ((with_reducible refine gate_dst (N := 41) rfl ?_); refine Kd.R_lit (Kd.int .i64) _ 3 ?hg (N := 41) ?hd (xs := ([] : List Int)) (inner := []) (ok := fun _ => True) (okp := fun _ => True) ?hr ?hp (fun _ hk => hk) trivial (Below.refl _ _) (Nat.le_refl _) (by simp) ?_; (case hd => rfl); (case hg => rfl); (case hr => first | (go_simp; done) | (go_simp; rfl)); (case hp => exact (Reps.none _ _)); intro v41 w5 ho3 hb hg_ hnew_; clear hg_ hnew_; have HO5 := aMk ho3; have HB5 := aMk hb; have hX5 : w5.cell? ⟨gO, 0, none⟩ = some (.slice (some ⟨g, 0, none⟩) l0.length cap) := (bCe (blk_below HX.out hb) 0).trans rfl; clear hb ho3) | ((with_reducible refine gate_builtin (b := .append) (xs := #[.tmp 41, .tmp 42]) rfl ?_); at_builtin; refine Kd.R_append_row (Value.int .i64) 0 (w0 := wr) wr.heap.size rfl (.tmp 41) (.tmp 42) 22 3 (.int .i64 0) 8 rfl Try.underlying22 info3 rfl (by decide) v41 [] xs (some ⟨g, 0, none⟩) l0.length cap (fun _ => True) rfl rfl (fun _ _ => trivial) HO5.out (Kd.C_below HCC.out HB5.out) HB5.out HB5.out.size (by have := HL.out; simp; omega) ?_; intro v6 w6 ho hb hg_ hat; have ho2 : Kd.R (Kd.int .i64) 3 w6 wr.heap.size (fun _ => True) v6 xs := ho; obtain ⟨g8, c8, e8, h8, row8⟩ := rowAt_of_R ho2 (by have := HLN.out; have := HZ.out; omega); rw [HLN.out] at e8; have HR8 := aMk row8; have HB6 := aMk hb; have hX6 : w6.cell? ⟨gO, 0, none⟩ = some (.slice (some ⟨g, 0, none⟩) l0.length cap) := (bCe (blk_below HX.out hb) 0).trans rfl; have HRW6 := aMk (HROW.out.below hb); clear hX5 HB5 HO5 ho ho2 hb hg_ hat row8 h8; subst e8) | (refine copy_same rfl (.tmp 44) (.tmp 45) rfl g cap g8 c8 l0.length xs rfl rfl HLN.out HRW6.out HR8.out ?_))
        have HS := aMk (blk_new w6 (.cells #[.slice none 0 0] 78))
        have HX7 := aMk (bkA (blk_below HX.out HB6.out) (.cells #[.slice none 0 0] 78))
        have HRW7 := aMk (HRW6.out.below (bAl (Below.refl _ _) (.cells #[.slice none 0 0] 78)))
        have HB7 := aMk (bAl (below_step HB.out HB6.out) (.cells #[.slice none 0 0] 78))
        have HB7s := (below_step HB.out HB6.out).size
        clear HX HROW HB HB6 hX6 HRW6 HR8 HBR HCC
        generalize w6.alloc (.cells #[.slice none 0 0] 78) = w7 at HS HX7 HRW7 HB7 ⊢
        have HGSB : Aside0 (w.heap.size ≤ w6.heap.size) := ⟨HB7s⟩
        generalize w6.heap.size = gS at HS HGSB ⊢
        obtain ⟨r, hr⟩ : ∃ r, r = scan (lvAt l0 (t + 1)) l0.length 0 none xs := ⟨_, rfl⟩
        have HV2 : Aside0 (passes l0 t r = vis l0) := ⟨by rw [hr]; exact HV.out⟩
        have HR := aMk hr
        have HRN : Aside0 (r.length = l0.length ∧ ∀ x ∈ r, 0 ≤ x ∧ x < l0.length) := ⟨by rw [hr]; exact ⟨by rw [scan_length _ _ _ _ _ (by have := HLN.out; omega) (by simp)]; exact HLN.out, fun x hx => HRG.out x (scan_mem _ _ _ _ _ x hx)⟩⟩
        clear hr HV
        go_loopg [11] (l0.length + 1) (fun kq v11 w' => ∃ (i : Nat) (ys : List Int) (sv : Value) (st : Option Nat), v11 = .int .i64 (i : Int) ∧ Aside0 (i + kq = l0.length + 1) ∧ Aside0 (w'.heap[gO]? = some (.cells #[.slice (some ⟨g, 0, none⟩) l0.length cap] 22 (0, 0))) ∧ Aside0 (RowAt w' g cap ys) ∧ Aside0 (ys.length = l0.length) ∧ Aside0 (∀ x ∈ ys, 0 ≤ x ∧ x < l0.length) ∧ Aside0 (w'.heap[gS]? = some (.cells #[sv] 78 (0, 0))) ∧ Aside0 (Kd.R (Kd.int .i64) 3 w' w.heap.size (fun k => k ≠ g) sv (st.toList.map (fun i : Nat => (i : Int)))) ∧ Aside0 (∀ s, st = some s → s < i) ∧ Aside0 ((i ≤ l0.length → scan (lvAt l0 (t + 1)) (l0.length - i) i st ys = r) ∧ (l0.length < i → ys = r)) ∧ Aside0 (Below w.heap.size w w'))
        case atStart => exact ⟨0, xs, _, none, rfl, ⟨by omega⟩, HX7, HRW7, HLN, HRG, HS, ⟨Kd.R_nil _ _ _ _ _⟩, ⟨fun s hs => by cases hs⟩, ⟨fun _ => HR.out.symm, fun h => by omega⟩, HB7⟩
        case round =>
         clear HX7 HRW7 HB7 HS HLN HRG
         obtain ⟨i, ys, sv, st, rfl, HI, HX, HRW, HYL, HRY, HS, HSV, HST, HSC, HB⟩ := hrel
         have hcX : wr.cell? ⟨gO, 0, none⟩ = some (.slice (some ⟨g, 0, none⟩) l0.length cap) := (bCe HX.out 0).trans rfl
         by_cases c3 : i ≤ l0.length
         · have c3b : decide ((i : Int) ≤ (l0.length : Int)) = true := decide_eq_true (by omega)
           have hk : gk ≠ 0 := by have := HI.out; omega
           obtain ⟨k1, rfl⟩ := Nat.exists_eq_succ_of_ne_zero hk
           clear hk
           have hw : wrap64 ((i : Int) + 1) = ((i + 1 : Nat) : Int) := by have := HL.out; unfold wrap64; omega
           replace hw := aMk hw
           have HSC1 := aMk (HSC.out.1 c3)
           clear HSC
           have hge : gO ≠ gS := blk_ne HX.out HS.out (by decide)
           have hgg : g ≠ gS := by obtain ⟨cur, hh, _⟩ := HRW.out; exact blk_ne hh HS.out (by decide)
           replace hge := aMk hge
           replace hgg := aMk hgg
           have HGS := HGSB
           by_cases c4 : i < l0.length
           · have c4b : decide ((i : Int) < (l0.length : Int)) = true := decide_eq_true (by omega)
             have c4n : decide (i < l0.length) = true := decide_eq_true c4
             have hi : i < ys.length := by have := HYL.out; omega
             have hxi := HRW.out.cell i hi
             have hy := HRY.out (ys.getD i 0) (by rw [List.getD_eq_getElem?_getD, List.getElem?_eq_getElem hi]; exact List.getElem_mem hi)
             have HSC3 := HSC1.out
             rw [show l0.length - i = (l0.length - (i + 1)) + 1 by omega, scan] at HSC3
             obtain ⟨y, hyy⟩ : ∃ y, y = ys.getD i 0 := ⟨_, rfl⟩
             rw [← hyy] at hxi hy HSC3
             obtain ⟨ad, eA, hx⟩ := Kd.at_int HR0.out y hy.1 hy.2
             cases eA
             replace hx := (HB.out.cell (wBl w _ hx)).trans hx
             have py := eq_true hy.1
             have qy := eq_true hy.2
             have pi := eq_true (show 0 ≤ (i : Int) by omega)
             have qi := eq_true (show (i : Int) < (l0.length : Int) by omega)
             have hlv : lvAt l0 (t + 1) y = decide (((t + 1 : Nat) : Int) ≤ rd l0 y) := rfl
             clear hyy hy hi HSC1
             by_cases c5 : ((t + 1 : Nat) : Int) ≤ rd l0 y
             · rw [hlv, decide_eq_true c5, if_pos rfl] at HSC3
               have c5b : decide (rd l0 y ≥ (t : Int) + 1) = true := decide_eq_true (by omega)
               have c5c : decide ((t : Int) + 1 ≤ rd l0 y) = true := decide_eq_true (by omega)
               replace HSC3 := aMk HSC3
               have HC4 := aMk c4
               have HSC2 : Aside0 ((i + 1 ≤ l0.length → scan (lvAt l0 (t + 1)) (l0.length - (i + 1)) (i + 1) (some (st.getD i)) ys = r) ∧ (l0.length < i + 1 → ys = r)) := ⟨fun _ => HSC3.out, fun h => by have := HC4.out; omega⟩
               clear hlv c5 c4
               cases st with
               | none =>
                obtain ⟨As, cs, es, _, _⟩ := Kd.R_reads HSV.out
                subst es
                have hcS : wr.cell? ⟨gS, 0, none⟩ = some (.slice As 0 cs) := (bCe HS.out 0).trans rfl
                go_wp2_with (first | (go_at_call 57; refine (push_calls gS _ ([] : List Int) (i : Int) (fun k => k ≠ g) w wr HS.out HSV.out (fun k hk => by have := HRW.out.lt; omega) HB.out (by simp)).mono ?_; rintro e w' ⟨rfl, v1, w1, rfl, hR1, hB1, hG1⟩; have HR1 := aMk hR1; have HB1 := aMk hB1; have HX1 := aMk (blk_grown HX.out hG1 (Kd.R_ne HSV.out HX.out (by decide))); have HS1 := aMk (blk_grown HS.out hG1 (Kd.R_ne HSV.out HS.out (by decide))); have HRW1 := aMk (HRW.out.move (hG1.block g HRW.out.lt (Kd.R_away HSV.out (g := g) (fun _ hk => hk)))); clear hR1 hB1 hG1))
                go_roundg k1
                case measure => omega
                case rel => exact ⟨i + 1, ys, v1, some i, congrArg (Value.int .i64) hw.out, ⟨by have := HI.out; omega⟩, ⟨blk_far HX1.out (p := ⟨gS, 0, none⟩) hge.out v1⟩, ⟨HRW1.out.move (Below.heap_setCell w1 ⟨gS, 0, none⟩ v1 g hgg.out)⟩, HYL, HRY, ⟨blk_set HS1.out 0 v1⟩, ⟨Kd.R_set HR1.out HS1.out (by decide) 0 v1⟩, ⟨fun s hs => by cases hs; omega⟩, HSC2, ⟨bSe HB1.out HGS.out⟩⟩
               | some s =>
                obtain ⟨gi, ci, es, _, _, _, _⟩ := Kd.R_form HSV.out (by simp)
                subst es
                have hcS : wr.cell? ⟨gS, 0, none⟩ = some (.slice (some ⟨gi, 0, none⟩) 1 ci) := (bCe HS.out 0).trans rfl
                have HST2 : Aside0 (∀ s', some s = some s' → s' < i + 1) := ⟨fun s' hs => by have := HST.out s' hs; omega⟩
                go_wp2
                go_roundg k1
                case measure => omega
                case rel => exact ⟨i + 1, ys, _, some s, congrArg (Value.int .i64) hw.out, ⟨by have := HI.out; omega⟩, HX, HRW, HYL, HRY, HS, HSV, HST2, HSC2, HB⟩
             · rw [hlv, decide_eq_false c5, if_neg (by simp)] at HSC3
               have c5b : decide (rd l0 y ≥ (t : Int) + 1) = false := decide_eq_false (by omega)
               have c5c : decide ((t : Int) + 1 ≤ rd l0 y) = false := decide_eq_false (by omega)
               replace HSC3 := aMk HSC3
               have HC4 := aMk c4
               clear hlv c5 c4
               cases st with
               | none =>
                have HSV2 : Aside0 (Kd.R (Kd.int .i64) 3 wr w.heap.size (fun k => k ≠ g) sv []) := HSV
                have HST2 : Aside0 (∀ s, (none : Option Nat) = some s → s < i + 1) := ⟨fun s hs => by cases hs⟩
                have HSC2 : Aside0 ((i + 1 ≤ l0.length → scan (lvAt l0 (t + 1)) (l0.length - (i + 1)) (i + 1) none (ys) = r) ∧ (l0.length < i + 1 → ys = r)) := ⟨fun _ => HSC3.out, fun h => by have := HC4.out; omega⟩
                go_wp2_with (first | (go_at_call 58; refine (pop_none gS sv (fun k => k ≠ g) w.heap.size wr HS.out HSV2.out).mono ?_; rintro e w' ⟨rfl, rfl⟩))
                go_roundg k1
                case measure => omega
                case rel => exact ⟨i + 1, ys, _, none, congrArg (Value.int .i64) hw.out, ⟨by have := HI.out; omega⟩, HX, HRW, HYL, HRY, HS, HSV, HST2, HSC2, HB⟩
               | some s =>
                have hsi := HST.out s rfl
                have HSI := aMk hsi
                clear hsi
                have HSV2 : Aside0 (Kd.R (Kd.int .i64) 3 wr w.heap.size (fun k => k ≠ g) sv [(s : Int)]) := HSV
                have HST2 : Aside0 (∀ s, (none : Option Nat) = some s → s < i + 1) := ⟨fun s hs => by cases hs⟩
                have HSC2 : Aside0 ((i + 1 ≤ l0.length → scan (lvAt l0 (t + 1)) (l0.length - (i + 1)) (i + 1) none (revSeg ys s i) = r) ∧ (l0.length < i + 1 → revSeg ys s i = r)) := ⟨fun _ => HSC3.out, fun h => by have := HC4.out; omega⟩
                have HRG2 : Aside0 ((revSeg ys s i).length = l0.length ∧ ∀ x ∈ revSeg ys s i, 0 ≤ x ∧ x < l0.length) := ⟨by rw [revSeg_length ys s i (by have := HSI.out; omega) (by have := HYL.out; omega)]; exact HYL.out, fun x hx => HRY.out x (revSeg_mem ys s i x hx)⟩
                have HIL : Aside0 (i ≤ l0.length) := ⟨c3⟩
                go_wp2_with (first | (go_at_call 58; refine (pop_one gS sv (s : Int) (fun k => k ≠ g) w.heap.size wr HS.out HSV2.out).mono ?_; rintro e w' ⟨rfl, v1, rfl, hR1⟩; have HR1 := aMk hR1; have HX1 := aMk (blk_far HX.out (p := ⟨gS, 0, none⟩) hge.out v1); have HS1 : Aside0 ((wr.setCell ⟨gS, 0, none⟩ v1).heap[gS]? = some (.cells #[v1] 78 (0, 0))) := ⟨blk_set HS.out 0 v1⟩; have HRW1 := aMk (HRW.out.move (Below.heap_setCell wr ⟨gS, 0, none⟩ v1 g hgg.out)); have HRV1 := aMk (Kd.R_set hR1 HS.out (by decide) 0 v1); have HBB1 := aMk (bSe (j := 0) (v := v1) HB.out HGS.out); clear hR1 hcX; generalize wr.setCell ⟨gS, 0, none⟩ v1 = w8 at HX1 HS1 HRW1 HRV1 HBB1 ⊢) | (go_at_call 55; refine (turn_calls gO g cap s i ys w8 (by rw [HYL.out]; exact HX1.out) HRW1.out HSI.out (by have := HYL.out; have := HIL.out; omega) (by have := HYL.out; have := HL.out; omega)).mono ?_; rintro e w' ⟨rfl, q, rfl⟩; (have HX2 : Aside0 (((w8.drewN q).setCells g s ((((ys.drop s).take (i - s)).reverse).map (Value.int .i64))).heap[gO]? = some (.cells #[.slice (some ⟨g, 0, none⟩) l0.length cap] 22 (0, 0))) := ⟨by rw [setCells_far _ _ _ (by obtain ⟨cur, hh, _⟩ := HRW1.out; exact blk_ne HX1.out hh (by decide))]; exact HX1.out⟩); (have HS2 : Aside0 (((w8.drewN q).setCells g s ((((ys.drop s).take (i - s)).reverse).map (Value.int .i64))).heap[gS]? = some (.cells #[v1] 78 (0, 0))) := ⟨by rw [setCells_far _ _ _ (Ne.symm hgg.out)]; exact HS1.out⟩); (have HRW2 : Aside0 (RowAt ((w8.drewN q).setCells g s ((((ys.drop s).take (i - s)).reverse).map (Value.int .i64))) g cap (revSeg ys s i)) := ⟨by have h1 := HYL.out; have h2 := HIL.out; have h3 := HSI.out; have := (HRW1.out.move (w1 := w8.drewN q) rfl).cells s (((ys.drop s).take (i - s)).reverse) (by simp; omega); rw [show s + (((ys.drop s).take (i - s)).reverse).length = i by simp; omega] at this; exact this⟩); (have HRV2 : Aside0 (Kd.R (Kd.int .i64) 3 ((w8.drewN q).setCells g s ((((ys.drop s).take (i - s)).reverse).map (Value.int .i64))) w.heap.size (fun k => k ≠ g) v1 []) := ⟨Kd.R_move (Kd.R_drewN HRV1.out q) (fun k hk => setCells_far _ _ k hk)⟩); (have HB2 : Aside0 (Below w.heap.size w ((w8.drewN q).setCells g s ((((ys.drop s).take (i - s)).reverse).map (Value.int .i64)))) := ⟨below_cells (bDn HBB1.out q) HGG.out _ _⟩); generalize (w8.drewN q).setCells g s ((((ys.drop s).take (i - s)).reverse).map (Value.int .i64)) = w9 at HX2 HS2 HRW2 HRV2 HB2 ⊢))
                go_roundg k1
                case measure => omega
                case rel => exact ⟨i + 1, revSeg ys s i, v1, none, congrArg (Value.int .i64) hw.out, ⟨by have := HI.out; omega⟩, HX2, HRW2, ⟨HRG2.out.1⟩, ⟨HRG2.out.2⟩, HS2, HRV2, HST2, HSC2, HB2⟩
           · have c4b : decide ((i : Int) < (l0.length : Int)) = false := decide_eq_false (by omega)
             have c4n : decide (i < l0.length) = false := decide_eq_false c4
             have hin : i = l0.length := by omega
             have HSC3 := HSC1.out
             rw [show l0.length - i = 0 by omega, scan] at HSC3
             replace HSC3 := aMk HSC3
             have HC4 := aMk hin
             clear hin c4 HSC1
             cases st with
             | none =>
              have HSV2 : Aside0 (Kd.R (Kd.int .i64) 3 wr w.heap.size (fun k => k ≠ g) sv []) := HSV
              have HST2 : Aside0 (∀ s, (none : Option Nat) = some s → s < i + 1) := ⟨fun s hs => by cases hs⟩
              have HSC2 : Aside0 ((i + 1 ≤ l0.length → scan (lvAt l0 (t + 1)) (l0.length - (i + 1)) (i + 1) none (ys) = r) ∧ (l0.length < i + 1 → ys = r)) := ⟨fun h => by have := HC4.out; omega, fun _ => HSC3.out⟩
              go_wp2_with (first | (go_at_call 58; refine (pop_none gS sv (fun k => k ≠ g) w.heap.size wr HS.out HSV2.out).mono ?_; rintro e w' ⟨rfl, rfl⟩))
              go_roundg k1
              case measure => omega
              case rel => exact ⟨i + 1, ys, _, none, congrArg (Value.int .i64) hw.out, ⟨by have := HI.out; omega⟩, HX, HRW, HYL, HRY, HS, HSV, HST2, HSC2, HB⟩
             | some s =>
              have hsi := HST.out s rfl
              have HSI := aMk hsi
              clear hsi
              have HSV2 : Aside0 (Kd.R (Kd.int .i64) 3 wr w.heap.size (fun k => k ≠ g) sv [(s : Int)]) := HSV
              have HST2 : Aside0 (∀ s, (none : Option Nat) = some s → s < i + 1) := ⟨fun s hs => by cases hs⟩
              have HSC2 : Aside0 ((i + 1 ≤ l0.length → scan (lvAt l0 (t + 1)) (l0.length - (i + 1)) (i + 1) none (revSeg ys s i) = r) ∧ (l0.length < i + 1 → revSeg ys s i = r)) := ⟨fun h => by have := HC4.out; omega, fun _ => HSC3.out⟩
              have HRG2 : Aside0 ((revSeg ys s i).length = l0.length ∧ ∀ x ∈ revSeg ys s i, 0 ≤ x ∧ x < l0.length) := ⟨by rw [revSeg_length ys s i (by have := HSI.out; omega) (by have := HYL.out; omega)]; exact HYL.out, fun x hx => HRY.out x (revSeg_mem ys s i x hx)⟩
              have HIL : Aside0 (i ≤ l0.length) := ⟨c3⟩
              go_wp2_with (first | (go_at_call 58; refine (pop_one gS sv (s : Int) (fun k => k ≠ g) w.heap.size wr HS.out HSV2.out).mono ?_; rintro e w' ⟨rfl, v1, rfl, hR1⟩; have HR1 := aMk hR1; have HX1 := aMk (blk_far HX.out (p := ⟨gS, 0, none⟩) hge.out v1); have HS1 : Aside0 ((wr.setCell ⟨gS, 0, none⟩ v1).heap[gS]? = some (.cells #[v1] 78 (0, 0))) := ⟨blk_set HS.out 0 v1⟩; have HRW1 := aMk (HRW.out.move (Below.heap_setCell wr ⟨gS, 0, none⟩ v1 g hgg.out)); have HRV1 := aMk (Kd.R_set hR1 HS.out (by decide) 0 v1); have HBB1 := aMk (bSe (j := 0) (v := v1) HB.out HGS.out); clear hR1 hcX; generalize wr.setCell ⟨gS, 0, none⟩ v1 = w8 at HX1 HS1 HRW1 HRV1 HBB1 ⊢) | (go_at_call 55; refine (turn_calls gO g cap s i ys w8 (by rw [HYL.out]; exact HX1.out) HRW1.out HSI.out (by have := HYL.out; have := HIL.out; omega) (by have := HYL.out; have := HL.out; omega)).mono ?_; rintro e w' ⟨rfl, q, rfl⟩; (have HX2 : Aside0 (((w8.drewN q).setCells g s ((((ys.drop s).take (i - s)).reverse).map (Value.int .i64))).heap[gO]? = some (.cells #[.slice (some ⟨g, 0, none⟩) l0.length cap] 22 (0, 0))) := ⟨by rw [setCells_far _ _ _ (by obtain ⟨cur, hh, _⟩ := HRW1.out; exact blk_ne HX1.out hh (by decide))]; exact HX1.out⟩); (have HS2 : Aside0 (((w8.drewN q).setCells g s ((((ys.drop s).take (i - s)).reverse).map (Value.int .i64))).heap[gS]? = some (.cells #[v1] 78 (0, 0))) := ⟨by rw [setCells_far _ _ _ (Ne.symm hgg.out)]; exact HS1.out⟩); (have HRW2 : Aside0 (RowAt ((w8.drewN q).setCells g s ((((ys.drop s).take (i - s)).reverse).map (Value.int .i64))) g cap (revSeg ys s i)) := ⟨by have h1 := HYL.out; have h2 := HIL.out; have h3 := HSI.out; have := (HRW1.out.move (w1 := w8.drewN q) rfl).cells s (((ys.drop s).take (i - s)).reverse) (by simp; omega); rw [show s + (((ys.drop s).take (i - s)).reverse).length = i by simp; omega] at this; exact this⟩); (have HRV2 : Aside0 (Kd.R (Kd.int .i64) 3 ((w8.drewN q).setCells g s ((((ys.drop s).take (i - s)).reverse).map (Value.int .i64))) w.heap.size (fun k => k ≠ g) v1 []) := ⟨Kd.R_move (Kd.R_drewN HRV1.out q) (fun k hk => setCells_far _ _ k hk)⟩); (have HB2 : Aside0 (Below w.heap.size w ((w8.drewN q).setCells g s ((((ys.drop s).take (i - s)).reverse).map (Value.int .i64)))) := ⟨below_cells (bDn HBB1.out q) HGG.out _ _⟩); generalize (w8.drewN q).setCells g s ((((ys.drop s).take (i - s)).reverse).map (Value.int .i64)) = w9 at HX2 HS2 HRW2 HRV2 HB2 ⊢))
              go_roundg k1
              case measure => omega
              case rel => exact ⟨i + 1, revSeg ys s i, v1, none, congrArg (Value.int .i64) hw.out, ⟨by have := HI.out; omega⟩, HX2, HRW2, ⟨HRG2.out.1⟩, ⟨HRG2.out.2⟩, HS2, HRV2, HST2, HSC2, HB2⟩
         · have c3b : decide ((i : Int) ≤ (l0.length : Int)) = false := decide_eq_false (by omega)
           have HE := HSC.out.2 (by omega)
           subst HE
           have hw : wrap64 (t : Int) = (t : Int) := by have := HTB.out; unfold wrap64; omega
           replace hw := aMk hw
           go_wp2
           go_roundg t
           case measure => omega
           case rel => exact ⟨ys, congrArg (Value.int .i64) hw.out, HX, HRW, HYL, HRY, HV2, ⟨by have := HTB.out; omega⟩, HB⟩
def impl_Visual.f (l0 : List Int) : Option (List Int) := if l0.length ≤ 17592186044415 then some (vis l0) else none
theorem impl_Visual.calls (A0 : Option Addr) (c0 : Nat) (l0 : List Int) (r : List Int) (w : World) (hr0 : Kd.C (Kd.int .i64) w A0 l0.length l0) (hc0 : l0.length ≤ c0) (h : impl_Visual.f l0 = some r) :
 Calls Try.prog 14 #[.slice A0 l0.length c0] w fun e w' => ∃ v0_ : Value, e = .returned (v0_) ∧ Kd.R (Kd.int .i64) 3 w' w.heap.size (fun _ => True) v0_ r ∧ Below w.heap.size w w' := by
 unfold impl_Visual.f at h
 by_cases c : l0.length ≤ 17592186044415
 · rw [if_pos c] at h
   obtain rfl := Option.some.inj h
   exact visual_calls A0 c0 l0 w hr0 hc0 c
 · rw [if_neg c] at h
   cases h
def laws_big.f (l0 : List Int) : Option (Bool) := some (decide ((l0.length : Int) > 1048576))
set_option maxHeartbeats 8000000 in
set_option maxRecDepth 100000 in
theorem laws_big.calls (A0 : Option Addr) (c0 : Nat) (l0 : List Int) (r : Bool) (w : World) (hr0 : Kd.C (Kd.int .u8) w A0 l0.length l0) (hc0 : l0.length ≤ c0) (h : laws_big.f l0 = some r) :
 Calls Try.prog 20 #[.slice A0 l0.length c0] w fun e w' => e = .returned (.bool r) ∧ Drawn0 w w' := by
 have HR0 := aMk hr0
 have HC0 := aMk hc0
 clear hr0 hc0
 have H : (some (decide ((l0.length : Int) > 1048576))) = some r := h
 clear h
 obtain rfl := Option.some.inj H
 go_enter Try.func20, Try.ntmps20
 go_wp2
 go_ret
 exact ⟨by first | rfl | (simp; done) | (simp [*]; done), by repeat (first | exact Drawn0.refl _ | apply Drawn0.step)⟩
def laws_sameInts.l0 : Nat → List Int → List Int → Int → Option (Bool)
 | 0, _, _, _ => none
 | k + 1, x0, x1, x5 => if x5 < (x0.length : Int) then (if 0 ≤ x5 then (if x5 < (x1.length : Int) then (if (rd x0 x5) = (rd x1 x5) then (laws_sameInts.l0 k x0 x1 (wrap64 (x5 + 1))) else (some false)) else (none)) else (none)) else (some true)
def laws_sameInts.f (k : Nat) (l0 : List Int) (l1 : List Int) : Option (Bool) := if (l0.length : Int) = (l1.length : Int) then (laws_sameInts.l0 k l0 l1 0) else (some false)
set_option maxHeartbeats 8000000 in
set_option maxRecDepth 100000 in
theorem laws_sameInts.calls (k : Nat) (A0 : Option Addr) (c0 : Nat) (l0 : List Int) (A1 : Option Addr) (c1 : Nat) (l1 : List Int) (r : Bool) (w : World) (hr0 : Kd.C (Kd.int .i64) w A0 l0.length l0) (hc0 : l0.length ≤ c0) (hr1 : Kd.C (Kd.int .i64) w A1 l1.length l1) (hc1 : l1.length ≤ c1) (h : laws_sameInts.f k l0 l1 = some r) :
 Calls Try.prog 23 #[.slice A0 l0.length c0, .slice A1 l1.length c1] w fun e w' => e = .returned (.bool r) ∧ Drawn0 w w' := by
 have HR0 := aMk hr0
 have HC0 := aMk hc0
 clear hr0 hc0
 have HR1 := aMk hr1
 have HC1 := aMk hc1
 clear hr1 hc1
 have H : (if (l0.length : Int) = (l1.length : Int) then (laws_sameInts.l0 k l0 l1 0) else (some false)) = some r := h
 clear h
 by_cases c3 : (l0.length : Int) = (l1.length : Int)
 · rw [if_pos c3] at H
   have c3b0 : ((l0.length : Int) == (l1.length : Int)) = true := beq_iff_eq.mpr c3
   have c3b1 : ((l0.length : Int) != (l1.length : Int)) = false := bne_eq_false_iff_eq.mpr c3
   have c3b2 : (l0.length == l1.length) = true := by first | simpa using c3 | (simp at c3 ⊢; omega)
   clear c3
   have H' := aMk H
   clear H
   go_enter Try.func23, Try.ntmps23
   go_wp2
   repeat (go_quiet (fail); try go_wp2)
   go_loopg [5] k (fun kq v5 w' => ∃ (x5_1 : Int), v5 = .int .i64 x5_1 ∧ Aside0 (laws_sameInts.l0 kq l0 l1 x5_1 = some r) ∧ Aside0 (kq ≤ k) ∧ Drawn0 w w')
   case atStart => exact ⟨(0), (by first | rfl | (simp; done) | (simp [*]; done)), H', ⟨Nat.le_refl _⟩, by repeat (first | exact Drawn0.refl _ | apply Drawn0.step)⟩
   case round =>
    clear H'
    (try clear c1); (try clear c2); (try clear p2); (try clear c3); (try clear c3b0); (try clear c3b1); (try clear c3b2)
    obtain ⟨x5_1, rfl, HA, HK1, ⟨m1, rfl⟩⟩ := hrel
    cases gk with
    | zero => exact absurd HA.out (by simp [laws_sameInts.l0])
    | succ k1 =>
     have H := HA.out
     clear HA
     simp only [laws_sameInts.l0] at H
     by_cases c4 : x5_1 < (l0.length : Int)
     · rw [if_pos c4] at H
       have c4b0 : decide (x5_1 < (l0.length : Int)) = true := decide_eq_true c4
       clear c4
       by_cases c5 : 0 ≤ x5_1
       · rw [if_pos c5] at H
         have c5b0 : decide (0 ≤ x5_1) = true := decide_eq_true c5
         clear c5
         by_cases c6 : x5_1 < (l1.length : Int)
         · rw [if_pos c6] at H
           have c6b0 : decide (x5_1 < (l1.length : Int)) = true := decide_eq_true c6
           clear c6
           by_cases c7 : (rd l0 x5_1) = (rd l1 x5_1)
           · rw [if_pos c7] at H
             have c7b0 : ((rd l0 x5_1) == (rd l1 x5_1)) = true := beq_iff_eq.mpr c7
             have c7b1 : ((rd l0 x5_1) != (rd l1 x5_1)) = false := bne_eq_false_iff_eq.mpr c7
             clear c7
             have H' := aMk H
             clear H
             have p123 : 0 ≤ (x5_1 : Int) := oDt (by first | (with_reducible assumption) | assumption)
             have q123 : x5_1 < (l0.length : Int) := oDt (by first | (with_reducible assumption) | assumption)
             obtain ⟨ad123, e123, hx123_0⟩ := Kd.at_int HR0.out x5_1 p123 q123
             cases e123
             replace p123 := eq_true p123
             replace q123 := eq_true q123
             have p124 : 0 ≤ (x5_1 : Int) := oDt (by first | (with_reducible assumption) | assumption)
             have q124 : x5_1 < (l1.length : Int) := oDt (by first | (with_reducible assumption) | assumption)
             obtain ⟨ad124, e124, hx124_0⟩ := Kd.at_int HR1.out x5_1 p124 q124
             cases e124
             replace p124 := eq_true p124
             replace q124 := eq_true q124
             go_wp2
             repeat (go_quiet (fail); try go_wp2)
             go_roundg k1
             case measure => have := HK1.out; omega
             case rel => exact ⟨(wrap64 (x5_1 + 1)), (by first | rfl | (simp; done) | (simp [*]; done)), H', ⟨by have := HK1.out; omega⟩, by repeat (first | exact Drawn0.refl _ | apply Drawn0.step)⟩
           · rw [if_neg c7] at H
             have c7b0 : ((rd l0 x5_1) == (rd l1 x5_1)) = false := beq_eq_false_iff_ne.mpr c7
             have c7b1 : ((rd l0 x5_1) != (rd l1 x5_1)) = true := bne_iff_ne.mpr c7
             obtain rfl := Option.some.inj H
             have p123 : 0 ≤ (x5_1 : Int) := oDt (by first | (with_reducible assumption) | assumption)
             have q123 : x5_1 < (l0.length : Int) := oDt (by first | (with_reducible assumption) | assumption)
             obtain ⟨ad123, e123, hx123_0⟩ := Kd.at_int HR0.out x5_1 p123 q123
             cases e123
             replace p123 := eq_true p123
             replace q123 := eq_true q123
             have p124 : 0 ≤ (x5_1 : Int) := oDt (by first | (with_reducible assumption) | assumption)
             have q124 : x5_1 < (l1.length : Int) := oDt (by first | (with_reducible assumption) | assumption)
             obtain ⟨ad124, e124, hx124_0⟩ := Kd.at_int HR1.out x5_1 p124 q124
             cases e124
             replace p124 := eq_true p124
             replace q124 := eq_true q124
             go_wp2
             repeat (go_quiet (fail); try go_wp2)
             go_ret
             exact ⟨by first | rfl | (simp; done) | (simp [*]; done), by repeat (first | exact Drawn0.refl _ | apply Drawn0.step)⟩
         · rw [if_neg c6] at H
           exact absurd H (by simp)
       · rw [if_neg c5] at H
         exact absurd H (by simp)
     · rw [if_neg c4] at H
       have c4b0 : decide (x5_1 < (l0.length : Int)) = false := decide_eq_false c4
       clear c4
       obtain rfl := Option.some.inj H
       go_wp2
       repeat (go_quiet (fail); try go_wp2)
       go_ret
       exact ⟨by first | rfl | (simp; done) | (simp [*]; done), by repeat (first | exact Drawn0.refl _ | apply Drawn0.step)⟩
 · rw [if_neg c3] at H
   have c3b0 : ((l0.length : Int) == (l1.length : Int)) = false := beq_eq_false_iff_ne.mpr c3
   have c3b1 : ((l0.length : Int) != (l1.length : Int)) = true := bne_iff_ne.mpr c3
   have c3b2 : (l0.length == l1.length) = false := by first | simpa using c3 | (simp at c3 ⊢; omega)
   obtain rfl := Option.some.inj H
   go_enter Try.func23, Try.ntmps23
   go_wp2
   repeat (go_quiet (fail); try go_wp2)
   go_ret
   exact ⟨by first | rfl | (simp; done) | (simp [*]; done), by repeat (first | exact Drawn0.refl _ | apply Drawn0.step)⟩
end Go.Proofs.Ytpknhndanbgkmaa.MFnLevels
