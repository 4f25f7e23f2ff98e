-- Written by this session's own program (wip/gen/myprint.py).
import Derived.Test.YtpknhndanbgkmaaMFnExactFlexSharesx0
import Derived.Test.YtpknhndanbgkmaaMFnExactFlexSharesx1
import Derived.Test.YtpknhndanbgkmaaMFnExactFlexSharesx4
import Derived.Test.YtpknhndanbgkmaaMFnExactFlexSharesx8
namespace Go.Proofs.Ytpknhndanbgkmaa.MFnExactFlexShares
open Go.RowKit Go.Proofs.YtpknhndanbgkmaaW.PrintWords Go.Proofs.YtpknhndanbgkmaaW.PrintLast Go.Proofs.YtpknhndanbgkmaaW.PrintMore
attribute [local go_sem] max2_int min2_int max_two min_two max_three min_three max_four min_four   -- for this text's walks alone
set_option linter.unusedVariables false
set_option linter.unusedSimpArgs false
def laws_eqFlexItemS.l0 : Nat → List (S66) → List (S66) → Int → Option (Bool)
 | 0, _, _, _ => none
 | k + 1, x0, x1, x5 => if x5 < (x0.length : Int) then (if 0 ≤ x5 then (if x5 < (x1.length : Int) then ((laws_eqFlexItem.f ((rd_T66 x0 x5).f0) ((rd_T66 x0 x5).f1) ((rd_T66 x0 x5).f2) ((rd_T66 x0 x5).f3) ((rd_T66 x0 x5).f4) ((rd_T66 x1 x5).f0) ((rd_T66 x1 x5).f1) ((rd_T66 x1 x5).f2) ((rd_T66 x1 x5).f3) ((rd_T66 x1 x5).f4)).bind fun t180 => (if t180 = true then (laws_eqFlexItemS.l0 k x0 x1 (wrap64 (x5 + 1))) else (some false))) else (none)) else (none)) else (some true)
def laws_eqFlexItemS.f (k : Nat) (l0 : List (S66)) (l1 : List (S66)) : Option (Bool) := if (l0.length : Int) = (l1.length : Int) then (laws_eqFlexItemS.l0 k l0 l1 0) else (some false)
def laws_eqFlexItemS.T6 : Bool × List (List Nat × List Nat) := (true, [([], []), ([], []), ([0, 1], [0, 1]), ([2], [2]), ([], []), ([], []), ([4, 5], [4, 5]), ([6], [6]), ([3, 7], [3, 7]), ([8], [8])])
def laws_eqFlexItemS.B6 : List Nat := [0, 0, 3, 7, 0, 0, 48, 112, 255, 511]
theorem laws_eqFlexItemS.tab6 : rtab .any (opsOf Try.f35 6) = laws_eqFlexItemS.T6 := by kernel_rfl
theorem laws_eqFlexItemS.bits6 : waitsOk laws_eqFlexItemS.T6.2 laws_eqFlexItemS.B6 = true := by kernel_rfl
set_option maxHeartbeats 8000000 in
set_option maxRecDepth 100000 in
theorem laws_eqFlexItemS.calls (k : Nat) (A0 : Option Addr) (c0 : Nat) (l0 : List (S66)) (A1 : Option Addr) (c1 : Nat) (l1 : List (S66)) (r : Bool) (w : World) (hr0 : Kd.C k66 w A0 l0.length l0) (hc0 : l0.length ≤ c0) (hr1 : Kd.C k66 w A1 l1.length l1) (hc1 : l1.length ≤ c1) (h : laws_eqFlexItemS.f k l0 l1 = some r) :
 Calls Try.prog 35 #[.slice A0 l0.length c0, .slice A1 l1.length c1] w fun e w' => e = .returned (.bool r) ∧ Below w.heap.size w w' := by
 have hu66 := Try.underlying66
 have HR0 := aMk hr0
 have HC0 := aMk hc0
 clear hr0 hc0
 have HR1 := aMk hr1
 have HC1 := aMk hc1
 clear hr1 hc1
 have HB := aMk (Below.refl w.heap.size w)
 have H : (if (l0.length : Int) = (l1.length : Int) then (laws_eqFlexItemS.l0 k l0 l1 0) else (some false)) = some r := h
 clear h
 by_cases c3 : (l0.length : Int) = (l1.length : Int)
 · rw [if_pos c3] at H
   have c3b0 : ((l0.length : Int) == (l1.length : Int)) = true := beq_iff_eq.mpr c3
   have c3b1 : ((l0.length : Int) != (l1.length : Int)) = false := bne_eq_false_iff_eq.mpr c3
   have c3b2 : (l0.length == l1.length) = true := by first | simpa using c3 | (simp at c3 ⊢; omega)
   clear c3
   have H' := aMk H
   clear H
   go_enter Try.func35, Try.ntmps35
   go_wp2
   go_loopg [5] k (fun kq v5 w' => ∃ (x5_1 : Int), v5 = .int .i64 x5_1 ∧ Aside0 (laws_eqFlexItemS.l0 kq l0 l1 x5_1 = some r) ∧ Aside0 (kq ≤ k) ∧ Aside0 (Below w.heap.size w w'))
   case atStart => exact ⟨(0), (by first | rfl | (simp; done) | (simp [*]; done)), H', ⟨Nat.le_refl _⟩, ⟨by repeat (first | (with_reducible first | exact HB.out | apply bAl | apply bDn | apply bD1) | exact HB.out)⟩⟩
   case round =>
    clear H'
    try clear c1
    try clear p2
    try clear c3
    try clear c3b0
    try clear c3b1
    try clear c3b2
    obtain ⟨x5_1, rfl, HA, HK1, HB⟩ := hrel
    cases gk with
    | zero => exact absurd HA.out (by simp [laws_eqFlexItemS.l0])
    | succ k1 =>
     have H := HA.out
     clear HA
     simp only [laws_eqFlexItemS.l0] at H
     by_cases c4 : x5_1 < (l0.length : Int)
     · rw [if_pos c4] at H
       have c4b0 : decide (x5_1 < (l0.length : Int)) = true := decide_eq_true c4
       clear c4
       by_cases c5 : 0 ≤ x5_1
       · rw [if_pos c5] at H
         have c5b0 : decide (0 ≤ x5_1) = true := decide_eq_true c5
         clear c5
         by_cases c6 : x5_1 < (l1.length : Int)
         · rw [if_pos c6] at H
           have c6b0 : decide (x5_1 < (l1.length : Int)) = true := decide_eq_true c6
           clear c6
           replace H := oBm H
           obtain ⟨t180, A70, H⟩ := H
           replace H : (if t180 = true then (laws_eqFlexItemS.l0 k1 l0 l1 (wrap64 (x5_1 + 1))) else (some false)) = some r := H
           have A7 := aMk A70
           clear A70
           by_cases c8 : t180 = true
           · subst c8
             have H1 : (laws_eqFlexItemS.l0 k1 l0 l1 (wrap64 (x5_1 + 1))) = some r := by rw [if_pos rfl] at H; exact H
             clear H
             have H := H1
             clear H1
             have H' := aMk H
             clear H
             try go_wp2
             have n0_ := aMk (bD1 HB.out)
             clear HB
             have HB := n0_
             clear n0_
             have p178 : 0 ≤ (x5_1 : Int) := oDt (by first | (with_reducible assumption) | assumption)
             have q178 : x5_1 < (l0.length : Int) := oDt (by first | (with_reducible assumption) | assumption)
             obtain ⟨ad178, e178, hx178_0, hx178_1, hx178_2, hx178_3, hx178_4⟩ := at_T66 HR0.out x5_1 p178 q178
             have hw178_4 := hx178_4
             have hw178_3 := hx178_3
             have hw178_2 := hx178_2
             have hw178_1 := hx178_1
             have hw178_0 := hx178_0
             cases e178
             replace hx178_0 := (HB.out.cell (wBl w _ hx178_0)).trans hx178_0
             replace hx178_1 := (HB.out.cell (wBl w _ hx178_1)).trans hx178_1
             replace hx178_2 := (HB.out.cell (wBl w _ hx178_2)).trans hx178_2
             replace hx178_3 := (HB.out.cell (wBl w _ hx178_3)).trans hx178_3
             replace hx178_4 := (HB.out.cell (wBl w _ hx178_4)).trans hx178_4
             replace p178 := eq_true p178
             replace q178 := eq_true q178
             have p179 : 0 ≤ (x5_1 : Int) := oDt (by first | (with_reducible assumption) | assumption)
             have q179 : x5_1 < (l1.length : Int) := oDt (by first | (with_reducible assumption) | assumption)
             obtain ⟨ad179, e179, hx179_0, hx179_1, hx179_2, hx179_3, hx179_4⟩ := at_T66 HR1.out x5_1 p179 q179
             have hw179_4 := hx179_4
             have hw179_3 := hx179_3
             have hw179_2 := hx179_2
             have hw179_1 := hx179_1
             have hw179_0 := hx179_0
             cases e179
             replace hx179_0 := (HB.out.cell (wBl w _ hx179_0)).trans hx179_0
             replace hx179_1 := (HB.out.cell (wBl w _ hx179_1)).trans hx179_1
             replace hx179_2 := (HB.out.cell (wBl w _ hx179_2)).trans hx179_2
             replace hx179_3 := (HB.out.cell (wBl w _ hx179_3)).trans hx179_3
             replace hx179_4 := (HB.out.cell (wBl w _ hx179_4)).trans hx179_4
             replace p179 := eq_true p179
             replace q179 := eq_true q179
             refine start_ (n := 10) (S := fun w' => w'.cell? (ad178.add ((x5_1).toNat * 5)) = some (.int .i64 ((rd_T66 l0 x5_1).f0)) ∧ w'.cell? ⟨(ad178.add ((x5_1).toNat * 5)).block, (ad178.add ((x5_1).toNat * 5)).off + 1, none⟩ = some (.int .i64 ((rd_T66 l0 x5_1).f1)) ∧ w'.cell? ⟨(ad178.add ((x5_1).toNat * 5)).block, (ad178.add ((x5_1).toNat * 5)).off + 2, none⟩ = some (.int .i64 ((rd_T66 l0 x5_1).f2)) ∧ w'.cell? ⟨(ad178.add ((x5_1).toNat * 5)).block, (ad178.add ((x5_1).toNat * 5)).off + 3, none⟩ = some (.int .i64 ((rd_T66 l0 x5_1).f3)) ∧ w'.cell? ⟨(ad178.add ((x5_1).toNat * 5)).block, (ad178.add ((x5_1).toNat * 5)).off + 4, none⟩ = some (.int .i64 ((rd_T66 l0 x5_1).f4)) ∧ w'.cell? (ad179.add ((x5_1).toNat * 5)) = some (.int .i64 ((rd_T66 l1 x5_1).f0)) ∧ w'.cell? ⟨(ad179.add ((x5_1).toNat * 5)).block, (ad179.add ((x5_1).toNat * 5)).off + 1, none⟩ = some (.int .i64 ((rd_T66 l1 x5_1).f1)) ∧ w'.cell? ⟨(ad179.add ((x5_1).toNat * 5)).block, (ad179.add ((x5_1).toNat * 5)).off + 2, none⟩ = some (.int .i64 ((rd_T66 l1 x5_1).f2)) ∧ w'.cell? ⟨(ad179.add ((x5_1).toNat * 5)).block, (ad179.add ((x5_1).toNat * 5)).off + 3, none⟩ = some (.int .i64 ((rd_T66 l1 x5_1).f3)) ∧ w'.cell? ⟨(ad179.add ((x5_1).toNat * 5)).block, (ad179.add ((x5_1).toNat * 5)).off + 4, none⟩ = some (.int .i64 ((rd_T66 l1 x5_1).f4))) (ds := []) #[false, false, false, false, false, false, false, false, false, false] (by kernel_rfl) rfl rfl ⟨((HB.out.cell (wBl w _ hw178_0)).trans hw178_0), ((HB.out.cell (wBl w _ hw178_1)).trans hw178_1), ((HB.out.cell (wBl w _ hw178_2)).trans hw178_2), ((HB.out.cell (wBl w _ hw178_3)).trans hw178_3), ((HB.out.cell (wBl w _ hw178_4)).trans hw178_4), ((HB.out.cell (wBl w _ hw179_0)).trans hw179_0), ((HB.out.cell (wBl w _ hw179_1)).trans hw179_1), ((HB.out.cell (wBl w _ hw179_2)).trans hw179_2), ((HB.out.cell (wBl w _ hw179_3)).trans hw179_3), ((HB.out.cell (wBl w _ hw179_4)).trans hw179_4)⟩ (fun hHeld => ?_); refine with_tabW laws_eqFlexItemS.tab6 laws_eqFlexItemS.bits6 (fun HT_ HW_ => ?_)
             generalize wr.drew = w9 at HB hx178_0 hx178_1 hx178_2 hx178_3 hx178_4 hx179_0 hx179_1 hx179_2 hx179_3 hx179_4 hHeld ⊢
             refine pure_ (i := 0) (N := some 17) (v := ?_) (a' := ?_) #[true, false, false, false, false, false, false, false, false, false] rfl rfl (any_of HT_.out (by kernel_rfl)) (fun _ _ _ h => h) (Or.inl ⟨by rfl, ?_⟩) ?_ ?_
             rotate_left
             · intro w'
               go_simp
               with_reducible rfl
             rotate_left
             · simp only [Act.put, lSa, lSz, lSs, i64_w, i32_w]
               rfl
             refine pure_ (i := 1) (N := some 18) (v := ?_) (a' := ?_) #[true, true, false, false, false, false, false, false, false, false] rfl rfl (any_of HT_.out (by kernel_rfl)) (fun _ _ _ h => h) (Or.inl ⟨by rfl, ?_⟩) ?_ ?_
             rotate_left
             · intro w'
               go_simp
               with_reducible rfl
             rotate_left
             · simp only [Act.put, lSa, lSz, lSs, i64_w, i32_w]
               rfl
             refine pure_ (i := 2) (N := some 19) (v := ?_) (a' := ?_) #[true, true, true, false, false, false, false, false, false, false] rfl rfl (any_of HT_.out (by kernel_rfl)) (fun _ _ _ h => h) (Or.inl ⟨by rfl, ?_⟩) ?_ ?_
             rotate_left
             · intro w'
               go_simp
               with_reducible rfl
             rotate_left
             · simp only [Act.put, lSa, lSz, lSs, i64_w, i32_w]
               rfl
             refine pure_ (i := 4) (N := some 21) (v := ?_) (a' := ?_) #[true, true, true, false, true, false, false, false, false, false] rfl rfl (any_of HT_.out (by kernel_rfl)) (fun _ _ _ h => h) (Or.inl ⟨by rfl, ?_⟩) ?_ ?_
             rotate_left
             · intro w'
               go_simp
               with_reducible rfl
             rotate_left
             · simp only [Act.put, lSa, lSz, lSs, i64_w, i32_w]
               rfl
             refine pure_ (i := 5) (N := some 22) (v := ?_) (a' := ?_) #[true, true, true, false, true, true, false, false, false, false] rfl rfl (any_of HT_.out (by kernel_rfl)) (fun _ _ _ h => h) (Or.inl ⟨by rfl, ?_⟩) ?_ ?_
             rotate_left
             · intro w'
               go_simp
               with_reducible rfl
             rotate_left
             · simp only [Act.put, lSa, lSz, lSs, i64_w, i32_w]
               rfl
             refine pure_ (i := 6) (N := some 23) (v := ?_) (a' := ?_) #[true, true, true, false, true, true, true, false, false, false] rfl rfl (any_of HT_.out (by kernel_rfl)) (fun _ _ _ h => h) (Or.inl ⟨by rfl, ?_⟩) ?_ ?_
             rotate_left
             · intro w'
               go_simp
               with_reducible rfl
             rotate_left
             · simp only [Act.put, lSa, lSz, lSs, i64_w, i32_w]
               rfl
             refine take_ (i := 3) (N := some 20) (v := ?_) (a' := ?_) #[true, true, true, true, true, true, true, false, false, false] rfl rfl (take_ofW HT_.out HW_.out (by kernel_rfl)) (fun _ _ _ h => h) (Or.inl ⟨by rfl, ?_⟩) hHeld ?_ ?_
             rotate_left
             · rintro w' ⟨s0, s1, s2, s3, s4, s5, s6, s7, s8, s9⟩
               go_simp
               with_reducible rfl
             rotate_left
             · simp only [Act.put, lSa, lSz, lSs, i64_w, i32_w]
               rfl
             refine take_ (i := 7) (N := some 24) (v := ?_) (a' := ?_) #[true, true, true, true, true, true, true, true, false, false] rfl rfl (take_ofW HT_.out HW_.out (by kernel_rfl)) (fun _ _ _ h => h) (Or.inl ⟨by rfl, ?_⟩) hHeld ?_ ?_
             rotate_left
             · rintro w' ⟨s0, s1, s2, s3, s4, s5, s6, s7, s8, s9⟩
               go_simp
               with_reducible rfl
             rotate_left
             · simp only [Act.put, lSa, lSz, lSs, i64_w, i32_w]
               rfl
             refine one_ (i := 8) (N := some 25) #[true, true, true, true, true, true, true, true, true, false] rfl rfl (one_of HT_.out (by kernel_rfl)) (by decide) (fun K hK => ?_)
             refine goes_ Try.func84 (by kernel_rfl) rfl #[.agg #[.int .i64 ((rd_T66 l0 x5_1).f0), .int .i64 ((rd_T66 l0 x5_1).f1), .int .i64 ((rd_T66 l0 x5_1).f2), .int .i64 ((rd_T66 l0 x5_1).f3), .int .i64 ((rd_T66 l0 x5_1).f4)], .agg #[.int .i64 ((rd_T66 l1 x5_1).f0), .int .i64 ((rd_T66 l1 x5_1).f1), .int .i64 ((rd_T66 l1 x5_1).f2), .int .i64 ((rd_T66 l1 x5_1).f3), .int .i64 ((rd_T66 l1 x5_1).f4)]] (by rfl) rfl rfl (by (try simp only [List.map_toArray, List.map_cons, List.map_nil]); first | done | rfl | (simp only [List.length_drop, List.length_take]; rfl)) ?_
             with_reducible refine (laws_eqFlexItem.calls ((rd_T66 l0 x5_1).f0) ((rd_T66 l0 x5_1).f1) ((rd_T66 l0 x5_1).f2) ((rd_T66 l0 x5_1).f3) ((rd_T66 l0 x5_1).f4) ((rd_T66 l1 x5_1).f0) ((rd_T66 l1 x5_1).f1) ((rd_T66 l1 x5_1).f2) ((rd_T66 l1 x5_1).f3) ((rd_T66 l1 x5_1).f4) true _ A7.out).mono ?_
             rintro e w10 ⟨rfl, hb⟩
             refine ⟨_, rfl, ?_⟩
             have n0_ := aMk (below_step (by repeat (first | (with_reducible first | exact HB.out | apply bAl | apply bDn | apply bD1) | exact HB.out)) hb)
             clear HB
             have HB := n0_
             clear n0_
             (try clear hb)
             (try clear hb2)
             (try clear hk)
             (try clear hi)
             refine hK.out _ _ ⟨((HB.out.cell (wBl w _ hw178_0)).trans hw178_0), ((HB.out.cell (wBl w _ hw178_1)).trans hw178_1), ((HB.out.cell (wBl w _ hw178_2)).trans hw178_2), ((HB.out.cell (wBl w _ hw178_3)).trans hw178_3), ((HB.out.cell (wBl w _ hw178_4)).trans hw178_4), ((HB.out.cell (wBl w _ hw179_0)).trans hw179_0), ((HB.out.cell (wBl w _ hw179_1)).trans hw179_1), ((HB.out.cell (wBl w _ hw179_2)).trans hw179_2), ((HB.out.cell (wBl w _ hw179_3)).trans hw179_3), ((HB.out.cell (wBl w _ hw179_4)).trans hw179_4)⟩ (fun hHeld => ?_)
             clear hK K
             refine norm_ (a' := ?_) ?_ ?_
             rotate_left
             · show Act.put _ (some 25) _ = _
               simp only [Act.put, lSa, lSz, lSs, i64_w, i32_w]
               rfl
             refine pure_ (i := 9) (N := some 26) (v := ?_) (a' := ?_) #[true, true, true, true, true, true, true, true, true, true] rfl rfl (any_of HT_.out (by kernel_rfl)) (fun _ _ _ h => h) (Or.inl ⟨by rfl, ?_⟩) ?_ ?_
             rotate_left
             · intro w'
               go_simp
               with_reducible rfl
             rotate_left
             · simp only [Act.put, lSa, lSz, lSs, i64_w, i32_w]
               rfl
             refine done_ (done_of HT_.out (by kernel_rfl)) ?_
             try go_wp2
             go_roundg k1
             case measure => have := HK1.out; omega
             case rel => exact ⟨(wrap64 (x5_1 + 1)), (by first | rfl | (simp; done) | (simp [*]; done)), H', ⟨by have := HK1.out; omega⟩, ⟨by repeat (first | (with_reducible first | exact HB.out | apply bAl | apply bDn | apply bD1) | exact HB.out)⟩⟩
           · replace c8 := Bool.eq_false_iff.mpr c8
             subst c8
             have H1 : (some false) = some r := by rw [if_neg (show ¬ (false = true) by decide)] at H; exact H
             clear H
             have H := H1
             clear H1
             obtain rfl := Option.some.inj H
             try go_wp2
             have n0_ := aMk (bD1 HB.out)
             clear HB
             have HB := n0_
             clear n0_
             have p178 : 0 ≤ (x5_1 : Int) := oDt (by first | (with_reducible assumption) | assumption)
             have q178 : x5_1 < (l0.length : Int) := oDt (by first | (with_reducible assumption) | assumption)
             obtain ⟨ad178, e178, hx178_0, hx178_1, hx178_2, hx178_3, hx178_4⟩ := at_T66 HR0.out x5_1 p178 q178
             have hw178_4 := hx178_4
             have hw178_3 := hx178_3
             have hw178_2 := hx178_2
             have hw178_1 := hx178_1
             have hw178_0 := hx178_0
             cases e178
             replace hx178_0 := (HB.out.cell (wBl w _ hx178_0)).trans hx178_0
             replace hx178_1 := (HB.out.cell (wBl w _ hx178_1)).trans hx178_1
             replace hx178_2 := (HB.out.cell (wBl w _ hx178_2)).trans hx178_2
             replace hx178_3 := (HB.out.cell (wBl w _ hx178_3)).trans hx178_3
             replace hx178_4 := (HB.out.cell (wBl w _ hx178_4)).trans hx178_4
             replace p178 := eq_true p178
             replace q178 := eq_true q178
             have p179 : 0 ≤ (x5_1 : Int) := oDt (by first | (with_reducible assumption) | assumption)
             have q179 : x5_1 < (l1.length : Int) := oDt (by first | (with_reducible assumption) | assumption)
             obtain ⟨ad179, e179, hx179_0, hx179_1, hx179_2, hx179_3, hx179_4⟩ := at_T66 HR1.out x5_1 p179 q179
             have hw179_4 := hx179_4
             have hw179_3 := hx179_3
             have hw179_2 := hx179_2
             have hw179_1 := hx179_1
             have hw179_0 := hx179_0
             cases e179
             replace hx179_0 := (HB.out.cell (wBl w _ hx179_0)).trans hx179_0
             replace hx179_1 := (HB.out.cell (wBl w _ hx179_1)).trans hx179_1
             replace hx179_2 := (HB.out.cell (wBl w _ hx179_2)).trans hx179_2
             replace hx179_3 := (HB.out.cell (wBl w _ hx179_3)).trans hx179_3
             replace hx179_4 := (HB.out.cell (wBl w _ hx179_4)).trans hx179_4
             replace p179 := eq_true p179
             replace q179 := eq_true q179
             refine start_ (n := 10) (S := fun w' => w'.cell? (ad178.add ((x5_1).toNat * 5)) = some (.int .i64 ((rd_T66 l0 x5_1).f0)) ∧ w'.cell? ⟨(ad178.add ((x5_1).toNat * 5)).block, (ad178.add ((x5_1).toNat * 5)).off + 1, none⟩ = some (.int .i64 ((rd_T66 l0 x5_1).f1)) ∧ w'.cell? ⟨(ad178.add ((x5_1).toNat * 5)).block, (ad178.add ((x5_1).toNat * 5)).off + 2, none⟩ = some (.int .i64 ((rd_T66 l0 x5_1).f2)) ∧ w'.cell? ⟨(ad178.add ((x5_1).toNat * 5)).block, (ad178.add ((x5_1).toNat * 5)).off + 3, none⟩ = some (.int .i64 ((rd_T66 l0 x5_1).f3)) ∧ w'.cell? ⟨(ad178.add ((x5_1).toNat * 5)).block, (ad178.add ((x5_1).toNat * 5)).off + 4, none⟩ = some (.int .i64 ((rd_T66 l0 x5_1).f4)) ∧ w'.cell? (ad179.add ((x5_1).toNat * 5)) = some (.int .i64 ((rd_T66 l1 x5_1).f0)) ∧ w'.cell? ⟨(ad179.add ((x5_1).toNat * 5)).block, (ad179.add ((x5_1).toNat * 5)).off + 1, none⟩ = some (.int .i64 ((rd_T66 l1 x5_1).f1)) ∧ w'.cell? ⟨(ad179.add ((x5_1).toNat * 5)).block, (ad179.add ((x5_1).toNat * 5)).off + 2, none⟩ = some (.int .i64 ((rd_T66 l1 x5_1).f2)) ∧ w'.cell? ⟨(ad179.add ((x5_1).toNat * 5)).block, (ad179.add ((x5_1).toNat * 5)).off + 3, none⟩ = some (.int .i64 ((rd_T66 l1 x5_1).f3)) ∧ w'.cell? ⟨(ad179.add ((x5_1).toNat * 5)).block, (ad179.add ((x5_1).toNat * 5)).off + 4, none⟩ = some (.int .i64 ((rd_T66 l1 x5_1).f4))) (ds := []) #[false, false, false, false, false, false, false, false, false, false] (by kernel_rfl) rfl rfl ⟨((HB.out.cell (wBl w _ hw178_0)).trans hw178_0), ((HB.out.cell (wBl w _ hw178_1)).trans hw178_1), ((HB.out.cell (wBl w _ hw178_2)).trans hw178_2), ((HB.out.cell (wBl w _ hw178_3)).trans hw178_3), ((HB.out.cell (wBl w _ hw178_4)).trans hw178_4), ((HB.out.cell (wBl w _ hw179_0)).trans hw179_0), ((HB.out.cell (wBl w _ hw179_1)).trans hw179_1), ((HB.out.cell (wBl w _ hw179_2)).trans hw179_2), ((HB.out.cell (wBl w _ hw179_3)).trans hw179_3), ((HB.out.cell (wBl w _ hw179_4)).trans hw179_4)⟩ (fun hHeld => ?_); refine with_tabW laws_eqFlexItemS.tab6 laws_eqFlexItemS.bits6 (fun HT_ HW_ => ?_)
             generalize wr.drew = w11 at HB hx178_0 hx178_1 hx178_2 hx178_3 hx178_4 hx179_0 hx179_1 hx179_2 hx179_3 hx179_4 hHeld ⊢
             refine pure_ (i := 0) (N := some 17) (v := ?_) (a' := ?_) #[true, false, false, false, false, false, false, false, false, false] rfl rfl (any_of HT_.out (by kernel_rfl)) (fun _ _ _ h => h) (Or.inl ⟨by rfl, ?_⟩) ?_ ?_
             rotate_left
             · intro w'
               go_simp
               with_reducible rfl
             rotate_left
             · simp only [Act.put, lSa, lSz, lSs, i64_w, i32_w]
               rfl
             refine pure_ (i := 1) (N := some 18) (v := ?_) (a' := ?_) #[true, true, false, false, false, false, false, false, false, false] rfl rfl (any_of HT_.out (by kernel_rfl)) (fun _ _ _ h => h) (Or.inl ⟨by rfl, ?_⟩) ?_ ?_
             rotate_left
             · intro w'
               go_simp
               with_reducible rfl
             rotate_left
             · simp only [Act.put, lSa, lSz, lSs, i64_w, i32_w]
               rfl
             refine pure_ (i := 2) (N := some 19) (v := ?_) (a' := ?_) #[true, true, true, false, false, false, false, false, false, false] rfl rfl (any_of HT_.out (by kernel_rfl)) (fun _ _ _ h => h) (Or.inl ⟨by rfl, ?_⟩) ?_ ?_
             rotate_left
             · intro w'
               go_simp
               with_reducible rfl
             rotate_left
             · simp only [Act.put, lSa, lSz, lSs, i64_w, i32_w]
               rfl
             refine pure_ (i := 4) (N := some 21) (v := ?_) (a' := ?_) #[true, true, true, false, true, false, false, false, false, false] rfl rfl (any_of HT_.out (by kernel_rfl)) (fun _ _ _ h => h) (Or.inl ⟨by rfl, ?_⟩) ?_ ?_
             rotate_left
             · intro w'
               go_simp
               with_reducible rfl
             rotate_left
             · simp only [Act.put, lSa, lSz, lSs, i64_w, i32_w]
               rfl
             refine pure_ (i := 5) (N := some 22) (v := ?_) (a' := ?_) #[true, true, true, false, true, true, false, false, false, false] rfl rfl (any_of HT_.out (by kernel_rfl)) (fun _ _ _ h => h) (Or.inl ⟨by rfl, ?_⟩) ?_ ?_
             rotate_left
             · intro w'
               go_simp
               with_reducible rfl
             rotate_left
             · simp only [Act.put, lSa, lSz, lSs, i64_w, i32_w]
               rfl
             refine pure_ (i := 6) (N := some 23) (v := ?_) (a' := ?_) #[true, true, true, false, true, true, true, false, false, false] rfl rfl (any_of HT_.out (by kernel_rfl)) (fun _ _ _ h => h) (Or.inl ⟨by rfl, ?_⟩) ?_ ?_
             rotate_left
             · intro w'
               go_simp
               with_reducible rfl
             rotate_left
             · simp only [Act.put, lSa, lSz, lSs, i64_w, i32_w]
               rfl
             refine take_ (i := 3) (N := some 20) (v := ?_) (a' := ?_) #[true, true, true, true, true, true, true, false, false, false] rfl rfl (take_ofW HT_.out HW_.out (by kernel_rfl)) (fun _ _ _ h => h) (Or.inl ⟨by rfl, ?_⟩) hHeld ?_ ?_
             rotate_left
             · rintro w' ⟨s0, s1, s2, s3, s4, s5, s6, s7, s8, s9⟩
               go_simp
               with_reducible rfl
             rotate_left
             · simp only [Act.put, lSa, lSz, lSs, i64_w, i32_w]
               rfl
             refine take_ (i := 7) (N := some 24) (v := ?_) (a' := ?_) #[true, true, true, true, true, true, true, true, false, false] rfl rfl (take_ofW HT_.out HW_.out (by kernel_rfl)) (fun _ _ _ h => h) (Or.inl ⟨by rfl, ?_⟩) hHeld ?_ ?_
             rotate_left
             · rintro w' ⟨s0, s1, s2, s3, s4, s5, s6, s7, s8, s9⟩
               go_simp
               with_reducible rfl
             rotate_left
             · simp only [Act.put, lSa, lSz, lSs, i64_w, i32_w]
               rfl
             refine one_ (i := 8) (N := some 25) #[true, true, true, true, true, true, true, true, true, false] rfl rfl (one_of HT_.out (by kernel_rfl)) (by decide) (fun K hK => ?_)
             refine goes_ Try.func84 (by kernel_rfl) rfl #[.agg #[.int .i64 ((rd_T66 l0 x5_1).f0), .int .i64 ((rd_T66 l0 x5_1).f1), .int .i64 ((rd_T66 l0 x5_1).f2), .int .i64 ((rd_T66 l0 x5_1).f3), .int .i64 ((rd_T66 l0 x5_1).f4)], .agg #[.int .i64 ((rd_T66 l1 x5_1).f0), .int .i64 ((rd_T66 l1 x5_1).f1), .int .i64 ((rd_T66 l1 x5_1).f2), .int .i64 ((rd_T66 l1 x5_1).f3), .int .i64 ((rd_T66 l1 x5_1).f4)]] (by rfl) rfl rfl (by (try simp only [List.map_toArray, List.map_cons, List.map_nil]); first | done | rfl | (simp only [List.length_drop, List.length_take]; rfl)) ?_
             with_reducible refine (laws_eqFlexItem.calls ((rd_T66 l0 x5_1).f0) ((rd_T66 l0 x5_1).f1) ((rd_T66 l0 x5_1).f2) ((rd_T66 l0 x5_1).f3) ((rd_T66 l0 x5_1).f4) ((rd_T66 l1 x5_1).f0) ((rd_T66 l1 x5_1).f1) ((rd_T66 l1 x5_1).f2) ((rd_T66 l1 x5_1).f3) ((rd_T66 l1 x5_1).f4) false _ A7.out).mono ?_
             rintro e w12 ⟨rfl, hb⟩
             refine ⟨_, rfl, ?_⟩
             have n0_ := aMk (below_step (by repeat (first | (with_reducible first | exact HB.out | apply bAl | apply bDn | apply bD1) | exact HB.out)) hb)
             clear HB
             have HB := n0_
             clear n0_
             (try clear hb)
             (try clear hb2)
             (try clear hk)
             (try clear hi)
             refine hK.out _ _ ⟨((HB.out.cell (wBl w _ hw178_0)).trans hw178_0), ((HB.out.cell (wBl w _ hw178_1)).trans hw178_1), ((HB.out.cell (wBl w _ hw178_2)).trans hw178_2), ((HB.out.cell (wBl w _ hw178_3)).trans hw178_3), ((HB.out.cell (wBl w _ hw178_4)).trans hw178_4), ((HB.out.cell (wBl w _ hw179_0)).trans hw179_0), ((HB.out.cell (wBl w _ hw179_1)).trans hw179_1), ((HB.out.cell (wBl w _ hw179_2)).trans hw179_2), ((HB.out.cell (wBl w _ hw179_3)).trans hw179_3), ((HB.out.cell (wBl w _ hw179_4)).trans hw179_4)⟩ (fun hHeld => ?_)
             clear hK K
             refine norm_ (a' := ?_) ?_ ?_
             rotate_left
             · show Act.put _ (some 25) _ = _
               simp only [Act.put, lSa, lSz, lSs, i64_w, i32_w]
               rfl
             refine pure_ (i := 9) (N := some 26) (v := ?_) (a' := ?_) #[true, true, true, true, true, true, true, true, true, true] rfl rfl (any_of HT_.out (by kernel_rfl)) (fun _ _ _ h => h) (Or.inl ⟨by rfl, ?_⟩) ?_ ?_
             rotate_left
             · intro w'
               go_simp
               with_reducible rfl
             rotate_left
             · simp only [Act.put, lSa, lSz, lSs, i64_w, i32_w]
               rfl
             refine done_ (done_of HT_.out (by kernel_rfl)) ?_
             try go_wp2
             go_ret
             exact ⟨by first | rfl | (simp [errW_none, errW_some] <;> rfl) | (simp [*, errW_none, errW_some] <;> rfl), by repeat (first | (with_reducible first | exact HB.out | apply bAl | apply bDn | apply bD1) | exact HB.out)⟩
         · rw [if_neg c6] at H
           exact absurd H (by simp)
       · rw [if_neg c5] at H
         exact absurd H (by simp)
     · rw [if_neg c4] at H
       have c4b0 : decide (x5_1 < (l0.length : Int)) = false := decide_eq_false c4
       clear c4
       obtain rfl := Option.some.inj H
       go_wp2
       go_ret
       exact ⟨by first | rfl | (simp [errW_none, errW_some] <;> rfl) | (simp [*, errW_none, errW_some] <;> rfl), by repeat (first | (with_reducible first | exact HB.out | apply bAl | apply bDn | apply bD1) | exact HB.out)⟩
 · rw [if_neg c3] at H
   have c3b0 : ((l0.length : Int) == (l1.length : Int)) = false := beq_eq_false_iff_ne.mpr c3
   have c3b1 : ((l0.length : Int) != (l1.length : Int)) = true := bne_iff_ne.mpr c3
   have c3b2 : (l0.length == l1.length) = false := by first | simpa using c3 | (simp at c3 ⊢; omega)
   obtain rfl := Option.some.inj H
   go_enter Try.func35, Try.ntmps35
   go_wp2
   go_ret
   exact ⟨by first | rfl | (simp [errW_none, errW_some] <;> rfl) | (simp [*, errW_none, errW_some] <;> rfl), by repeat (first | (with_reducible first | exact HB.out | apply bAl | apply bDn | apply bD1) | exact HB.out)⟩
def laws_markFlexItemS.l0 : Nat → List (S66) → Int → Int → Option (Int × (List (S66)))
 | 0, _, _, _ => none
 | k + 1, x0, x1, x5 => if x5 < (x0.length : Int) then (if 0 ≤ x5 then ((some (x0.set (x5 : Int).toNat (⟨x1, (rd_T66 x0 x5).f1, (rd_T66 x0 x5).f2, (rd_T66 x0 x5).f3, (rd_T66 x0 x5).f4⟩ : S66) : List (S66))).bind fun y181 => ((some (y181.set (x5 : Int).toNat (⟨(rd_T66 y181 x5).f0, wrap64 (x1 + 1), (rd_T66 y181 x5).f2, (rd_T66 y181 x5).f3, (rd_T66 y181 x5).f4⟩ : S66) : List (S66))).bind fun y182 => ((some (y182.set (x5 : Int).toNat (⟨(rd_T66 y182 x5).f0, (rd_T66 y182 x5).f1, wrap64 ((wrap64 (x1 + 1)) + 1), (rd_T66 y182 x5).f3, (rd_T66 y182 x5).f4⟩ : S66) : List (S66))).bind fun y183 => ((some (y183.set (x5 : Int).toNat (⟨(rd_T66 y183 x5).f0, (rd_T66 y183 x5).f1, (rd_T66 y183 x5).f2, wrap64 ((wrap64 ((wrap64 (x1 + 1)) + 1)) + 1), (rd_T66 y183 x5).f4⟩ : S66) : List (S66))).bind fun y184 => (laws_markFlexItemS.l0 k (y184.set (x5 : Int).toNat (⟨(rd_T66 y184 x5).f0, (rd_T66 y184 x5).f1, (rd_T66 y184 x5).f2, (rd_T66 y184 x5).f3, wrap64 ((wrap64 ((wrap64 ((wrap64 (x1 + 1)) + 1)) + 1)) + 1)⟩ : S66)) (wrap64 ((wrap64 ((wrap64 ((wrap64 ((wrap64 (x1 + 1)) + 1)) + 1)) + 1)) + 1)) (wrap64 (x5 + 1))))))) else (none)) else (some (x1, x0))
def laws_markFlexItemS.f (k : Nat) (l0 : List (S66)) (a1 : Int) : Option (Int × (List (S66))) := laws_markFlexItemS.l0 k l0 a1 0
set_option maxHeartbeats 8000000 in
set_option maxRecDepth 100000 in
theorem laws_markFlexItemS.calls (k : Nat) (P0_ : Nat → Prop) (u9000_ : Value) (l0 : List (S66)) (a1 : Int) (r1 : Int) (r2 : List (S66)) (w0 w : World) (hB : Below w0.heap.size w0 w) (ho0 : Kd.R k66 66 w w0.heap.size P0_ u9000_ l0) (h : laws_markFlexItemS.f k l0 a1 = some (r1, r2)) :
 Calls Try.prog 36 #[u9000_, .int .i64 a1] w fun e w' => e = .returned (.int .i64 r1) ∧ Kd.R k66 66 w' w0.heap.size (fun k_ => (P0_ k_ ∨ w.heap.size ≤ k_)) u9000_ r2 ∧ Below w0.heap.size w0 w' ∧ Kept w w' (fun k_ => P0_ k_) := by
 have HO0 := aMk (show Kd.R k66 66 w w0.heap.size (fun k_ => (P0_ k_ ∨ w.heap.size ≤ k_)) u9000_ l0 from Kd.R_mono ho0 (fun k_ hk => (.inl hk)))
 have HK := aMk (Kept.refl w (fun k_ => P0_ k_))
 have HW0 := aMk hB.size
 have HB := aMk hB
 clear hB
 have H : (laws_markFlexItemS.l0 k l0 a1 0) = some (r1, r2) := h
 clear h
 have H' := aMk H
 clear H
 go_enter Try.func36, Try.ntmps36
 go_wp2
 go_loopg [1, 5] k (fun kq v1 v5 w' => ∃ (x0_1 : List (S66)) (x1_1 : Int) (x5_1 : Int), v1 = .int .i64 x1_1 ∧ v5 = .int .i64 x5_1 ∧ Aside0 (laws_markFlexItemS.l0 kq x0_1 x1_1 x5_1 = some (r1, r2)) ∧ Aside0 (kq ≤ k) ∧ Aside0 (Kd.R k66 66 w' w0.heap.size (fun k_ => (P0_ k_ ∨ w.heap.size ≤ k_)) u9000_ x0_1) ∧ Aside0 (Kept w w' (fun k_ => P0_ k_)) ∧ Aside0 (Below w0.heap.size w0 w'))
 case atStart => exact ⟨(l0), (a1), (0), (by first | rfl | (simp; done) | (simp [*]; done)), (by first | rfl | (simp; done) | (simp [*]; done)), H', ⟨Nat.le_refl _⟩, ⟨by (with_reducible repeat (first | apply Kd.R_alloc | apply Kd.R_drewN | apply Kd.R_drew)); exact HO0.out⟩, ⟨by repeat (first | (with_reducible first | exact HK.out | apply Kept.alloc | apply Kept.drewN | apply Kept.drew) | exact HK.out)⟩, ⟨by repeat (first | (with_reducible first | exact HB.out | apply bAl | apply bDn | apply bD1) | exact HB.out)⟩⟩
 case round =>
  clear H'
  try clear p2
  obtain ⟨x0_1, x1_1, x5_1, rfl, rfl, HA, HK1, HO_0, HK, HB⟩ := hrel
  cases gk with
  | zero => exact absurd HA.out (by simp [laws_markFlexItemS.l0])
  | succ k1 =>
   have H := HA.out
   clear HA
   simp only [laws_markFlexItemS.l0] at H
   by_cases c3 : x5_1 < (x0_1.length : Int)
   · rw [if_pos c3] at H
     have c3b0 : decide (x5_1 < (x0_1.length : Int)) = true := decide_eq_true c3
     clear c3
     by_cases c4 : 0 ≤ x5_1
     · rw [if_pos c4] at H
       have c4b0 : decide (0 ≤ x5_1) = true := decide_eq_true c4
       clear c4
       obtain ⟨y181, hy181⟩ : ∃ y_ : List (S66), y_ = (x0_1.set (x5_1 : Int).toNat (⟨x1_1, (rd_T66 x0_1 x5_1).f1, (rd_T66 x0_1 x5_1).f2, (rd_T66 x0_1 x5_1).f3, (rd_T66 x0_1 x5_1).f4⟩ : S66)) := ⟨_, rfl⟩
       replace H : ((some (y181.set (x5_1 : Int).toNat (⟨(rd_T66 y181 x5_1).f0, wrap64 (x1_1 + 1), (rd_T66 y181 x5_1).f2, (rd_T66 y181 x5_1).f3, (rd_T66 y181 x5_1).f4⟩ : S66) : List (S66))).bind fun y182 => ((some (y182.set (x5_1 : Int).toNat (⟨(rd_T66 y182 x5_1).f0, (rd_T66 y182 x5_1).f1, wrap64 ((wrap64 (x1_1 + 1)) + 1), (rd_T66 y182 x5_1).f3, (rd_T66 y182 x5_1).f4⟩ : S66) : List (S66))).bind fun y183 => ((some (y183.set (x5_1 : Int).toNat (⟨(rd_T66 y183 x5_1).f0, (rd_T66 y183 x5_1).f1, (rd_T66 y183 x5_1).f2, wrap64 ((wrap64 ((wrap64 (x1_1 + 1)) + 1)) + 1), (rd_T66 y183 x5_1).f4⟩ : S66) : List (S66))).bind fun y184 => (laws_markFlexItemS.l0 k1 (y184.set (x5_1 : Int).toNat (⟨(rd_T66 y184 x5_1).f0, (rd_T66 y184 x5_1).f1, (rd_T66 y184 x5_1).f2, (rd_T66 y184 x5_1).f3, wrap64 ((wrap64 ((wrap64 ((wrap64 (x1_1 + 1)) + 1)) + 1)) + 1)⟩ : S66)) (wrap64 ((wrap64 ((wrap64 ((wrap64 ((wrap64 (x1_1 + 1)) + 1)) + 1)) + 1)) + 1)) (wrap64 (x5_1 + 1)))))) = some (r1, r2) := by first | (rw [hy181]; with_reducible exact H) | (have H2_ := (Option.bind_some _ _).symm.trans H; rw [hy181]; with_reducible exact H2_) | (have H2_ := (Option.bind_some _ _).symm.trans H; with_reducible exact H2_) | with_reducible exact H | (rw [hy181]; exact H) | exact H
       have Ny181 := aMk hy181
       clear hy181
       obtain ⟨y182, hy182⟩ : ∃ y_ : List (S66), y_ = (y181.set (x5_1 : Int).toNat (⟨(rd_T66 y181 x5_1).f0, wrap64 (x1_1 + 1), (rd_T66 y181 x5_1).f2, (rd_T66 y181 x5_1).f3, (rd_T66 y181 x5_1).f4⟩ : S66)) := ⟨_, rfl⟩
       replace H : ((some (y182.set (x5_1 : Int).toNat (⟨(rd_T66 y182 x5_1).f0, (rd_T66 y182 x5_1).f1, wrap64 ((wrap64 (x1_1 + 1)) + 1), (rd_T66 y182 x5_1).f3, (rd_T66 y182 x5_1).f4⟩ : S66) : List (S66))).bind fun y183 => ((some (y183.set (x5_1 : Int).toNat (⟨(rd_T66 y183 x5_1).f0, (rd_T66 y183 x5_1).f1, (rd_T66 y183 x5_1).f2, wrap64 ((wrap64 ((wrap64 (x1_1 + 1)) + 1)) + 1), (rd_T66 y183 x5_1).f4⟩ : S66) : List (S66))).bind fun y184 => (laws_markFlexItemS.l0 k1 (y184.set (x5_1 : Int).toNat (⟨(rd_T66 y184 x5_1).f0, (rd_T66 y184 x5_1).f1, (rd_T66 y184 x5_1).f2, (rd_T66 y184 x5_1).f3, wrap64 ((wrap64 ((wrap64 ((wrap64 (x1_1 + 1)) + 1)) + 1)) + 1)⟩ : S66)) (wrap64 ((wrap64 ((wrap64 ((wrap64 ((wrap64 (x1_1 + 1)) + 1)) + 1)) + 1)) + 1)) (wrap64 (x5_1 + 1))))) = some (r1, r2) := by first | (rw [hy182]; with_reducible exact H) | (have H2_ := (Option.bind_some _ _).symm.trans H; rw [hy182]; with_reducible exact H2_) | (have H2_ := (Option.bind_some _ _).symm.trans H; with_reducible exact H2_) | with_reducible exact H | (rw [hy182]; exact H) | exact H
       have Ny182 := aMk hy182
       clear hy182
       obtain ⟨y183, hy183⟩ : ∃ y_ : List (S66), y_ = (y182.set (x5_1 : Int).toNat (⟨(rd_T66 y182 x5_1).f0, (rd_T66 y182 x5_1).f1, wrap64 ((wrap64 (x1_1 + 1)) + 1), (rd_T66 y182 x5_1).f3, (rd_T66 y182 x5_1).f4⟩ : S66)) := ⟨_, rfl⟩
       replace H : ((some (y183.set (x5_1 : Int).toNat (⟨(rd_T66 y183 x5_1).f0, (rd_T66 y183 x5_1).f1, (rd_T66 y183 x5_1).f2, wrap64 ((wrap64 ((wrap64 (x1_1 + 1)) + 1)) + 1), (rd_T66 y183 x5_1).f4⟩ : S66) : List (S66))).bind fun y184 => (laws_markFlexItemS.l0 k1 (y184.set (x5_1 : Int).toNat (⟨(rd_T66 y184 x5_1).f0, (rd_T66 y184 x5_1).f1, (rd_T66 y184 x5_1).f2, (rd_T66 y184 x5_1).f3, wrap64 ((wrap64 ((wrap64 ((wrap64 (x1_1 + 1)) + 1)) + 1)) + 1)⟩ : S66)) (wrap64 ((wrap64 ((wrap64 ((wrap64 ((wrap64 (x1_1 + 1)) + 1)) + 1)) + 1)) + 1)) (wrap64 (x5_1 + 1)))) = some (r1, r2) := by first | (rw [hy183]; with_reducible exact H) | (have H2_ := (Option.bind_some _ _).symm.trans H; rw [hy183]; with_reducible exact H2_) | (have H2_ := (Option.bind_some _ _).symm.trans H; with_reducible exact H2_) | with_reducible exact H | (rw [hy183]; exact H) | exact H
       have Ny183 := aMk hy183
       clear hy183
       obtain ⟨y184, hy184⟩ : ∃ y_ : List (S66), y_ = (y183.set (x5_1 : Int).toNat (⟨(rd_T66 y183 x5_1).f0, (rd_T66 y183 x5_1).f1, (rd_T66 y183 x5_1).f2, wrap64 ((wrap64 ((wrap64 (x1_1 + 1)) + 1)) + 1), (rd_T66 y183 x5_1).f4⟩ : S66)) := ⟨_, rfl⟩
       replace H : (laws_markFlexItemS.l0 k1 (y184.set (x5_1 : Int).toNat (⟨(rd_T66 y184 x5_1).f0, (rd_T66 y184 x5_1).f1, (rd_T66 y184 x5_1).f2, (rd_T66 y184 x5_1).f3, wrap64 ((wrap64 ((wrap64 ((wrap64 (x1_1 + 1)) + 1)) + 1)) + 1)⟩ : S66)) (wrap64 ((wrap64 ((wrap64 ((wrap64 ((wrap64 (x1_1 + 1)) + 1)) + 1)) + 1)) + 1)) (wrap64 (x5_1 + 1))) = some (r1, r2) := by first | (rw [hy184]; with_reducible exact H) | (have H2_ := (Option.bind_some _ _).symm.trans H; rw [hy184]; with_reducible exact H2_) | (have H2_ := (Option.bind_some _ _).symm.trans H; with_reducible exact H2_) | with_reducible exact H | (rw [hy184]; exact H) | exact H
       have Ny184 := aMk hy184
       clear hy184
       obtain ⟨y185, hy185⟩ : ∃ y_ : List (S66), y_ = (y184.set (x5_1 : Int).toNat (⟨(rd_T66 y184 x5_1).f0, (rd_T66 y184 x5_1).f1, (rd_T66 y184 x5_1).f2, (rd_T66 y184 x5_1).f3, wrap64 ((wrap64 ((wrap64 ((wrap64 (x1_1 + 1)) + 1)) + 1)) + 1)⟩ : S66)) := ⟨_, rfl⟩
       replace H : (laws_markFlexItemS.l0 k1 y185 (wrap64 ((wrap64 ((wrap64 ((wrap64 ((wrap64 (x1_1 + 1)) + 1)) + 1)) + 1)) + 1)) (wrap64 (x5_1 + 1))) = some (r1, r2) := by first | (rw [hy185]; with_reducible exact H) | (have H2_ := (Option.bind_some _ _).symm.trans H; rw [hy185]; with_reducible exact H2_) | (have H2_ := (Option.bind_some _ _).symm.trans H; with_reducible exact H2_) | with_reducible exact H | (rw [hy185]; exact H) | exact H
       have Ny185 := aMk hy185
       clear hy185
       have H' := aMk H
       clear H
       obtain ⟨Ao10, co10, eo10⟩ := Kd.R_slice HO_0.out
       subst eo10
       have p5 : 0 ≤ (x5_1 : Int) := oDt (by first | (with_reducible assumption) | assumption)
       have q5 : (x5_1 : Int) < ((x0_1.length : Int) : Int) := oDt (by first | (with_reducible assumption) | assumption)
       obtain ⟨go5, co5, eo5, gb5, gl5, cl5, HG5⟩ := Kd.R_form HO_0.out (by omega)
       (first | cases eo5 | (injection eo5 with ea_ en_ ec_; (first | subst ea_ | (injection ea_ with ea_; subst ea_)); subst ec_; clear en_))
       have GB5 := aMk gb5
       have GG5 := aMk HG5
       clear gb5 gl5 HG5
       have HMgo5 := aMk (show (P0_ go5 ∨ w.heap.size ≤ go5) from (HO_0.out.1 _ rfl))
       obtain ⟨ce5, hcl5, hM5, hcc5, hfr5⟩ := Kd.R_elem HO_0.out z66 (x5_1 : Int) p5 q5
       obtain rfl := k66_openM hM5
       have hx5_0 : wr.cell? ⟨go5, (x5_1 : Int).toNat * 5, none⟩ = some (.int .i64 ((rd_T66 x0_1 x5_1).f0)) := hcc5 0 _ rfl
       have hx5_1 : wr.cell? ⟨go5, (x5_1 : Int).toNat * 5 + 1, none⟩ = some (.int .i64 ((rd_T66 x0_1 x5_1).f1)) := hcc5 1 _ rfl
       have hx5_2 : wr.cell? ⟨go5, (x5_1 : Int).toNat * 5 + 2, none⟩ = some (.int .i64 ((rd_T66 x0_1 x5_1).f2)) := hcc5 2 _ rfl
       have hx5_3 : wr.cell? ⟨go5, (x5_1 : Int).toNat * 5 + 3, none⟩ = some (.int .i64 ((rd_T66 x0_1 x5_1).f3)) := hcc5 3 _ rfl
       have hx5_4 : wr.cell? ⟨go5, (x5_1 : Int).toNat * 5 + 4, none⟩ = some (.int .i64 ((rd_T66 x0_1 x5_1).f4)) := hcc5 4 _ rfl
       have hf5_0 : wr.frozen? ⟨go5, (x5_1 : Int).toNat * 5, none⟩ = false := hfr5 0
       have hf5_1 : wr.frozen? ⟨go5, (x5_1 : Int).toNat * 5 + 1, none⟩ = false := hfr5 1
       have hf5_2 : wr.frozen? ⟨go5, (x5_1 : Int).toNat * 5 + 2, none⟩ = false := hfr5 2
       have hf5_3 : wr.frozen? ⟨go5, (x5_1 : Int).toNat * 5 + 3, none⟩ = false := hfr5 3
       have hf5_4 : wr.frozen? ⟨go5, (x5_1 : Int).toNat * 5 + 4, none⟩ = false := hfr5 4
       clear hcl5 hcc5 hfr5 hM5
       replace p5 := eq_true p5
       replace q5 := eq_true q5
       have HX11 := aMk (show Kd.R k66 66 wr w0.heap.size (fun k_ => (P0_ k_ ∨ w.heap.size ≤ k_)) (.slice (some ⟨go5, 0, none⟩) x0_1.length co10) x0_1 from (by (with_reducible repeat (first | apply Kd.R_alloc | apply Kd.R_drewN | apply Kd.R_drew)); exact HO_0.out))
       obtain ⟨ce11, hcl11, hM11, hcc11, hfr11⟩ := Kd.R_elem HX11.out z66 (x5_1 : Int) (oDt (by first | (with_reducible assumption) | assumption)) (by have h_ : (x5_1 : Int) < ((x0_1.length : Int) : Int) := oDt (by first | (with_reducible assumption) | assumption); first | exact h_ | (have e_ := (Kd.R_reads' HO_0.out).1; omega) | simpa using h_)
       obtain rfl := k66_openM hM11
       have HP11 := Kd.R_seg HX11.out (x5_1 : Int) (oDt (by first | (with_reducible assumption) | assumption)) (by have h_ : (x5_1 : Int) < ((x0_1.length : Int) : Int) := oDt (by first | (with_reducible assumption) | assumption); first | exact h_ | (have e_ := (Kd.R_reads' HO_0.out).1; omega) | simpa using h_) (seg := [.int .i64 x1_1]) (j := 0) hcl11 hcc11 (show 1 ≤ 5 from by decide) (x' := (⟨x1_1, (rd_T66 x0_1 x5_1).f1, (rd_T66 x0_1 x5_1).f2, (rd_T66 x0_1 x5_1).f3, (rd_T66 x0_1 x5_1).f4⟩ : S66)) (k66_mkM _ _ _ (⟨x1_1, (rd_T66 x0_1 x5_1).f1, (rd_T66 x0_1 x5_1).f2, (rd_T66 x0_1 x5_1).f3, (rd_T66 x0_1 x5_1).f4⟩ : S66) ) (fun _ hk => hk)
       have hx11_0 := hcc11 0 _ rfl
       (try simp only [show (k66).sz = 5 from rfl, Nat.mul_one, Nat.add_zero] at hx11_0)
       have hf11_0 := hfr11 0
       (try simp only [show (k66).sz = 5 from rfl, Nat.mul_one, Nat.add_zero] at hf11_0)
       clear hcl11 hcc11 hfr11 hM11
       go_wp2_with (first | ((with_reducible refine gate_store (t := 3) (p := 16) rfl ?_); refine store_event (t := 3) (p := 16) (v := ?vo_w12) (w1 := (wr.setCell ⟨go5, (x5_1 : Int).toNat * 5, none⟩ (.int .i64 x1_1))) ?hg ?ho ?hn ?hr ?_; (case ho => rfl); (case hg => rfl); (case hn => rfl); (case hr => first | (go_simp; done) | (go_simp; rfl)); intro w12 hw; have hg : wr.grownBy w12 (some go5) := (by rw [hw]; exact HP11.2); have hp_ : Kd.R k66 66 w12 w0.heap.size (fun k_ => (P0_ k_ ∨ w.heap.size ≤ k_)) (.slice (some ⟨go5, 0, none⟩) x0_1.length co10) y181 := (by rw [hw, Ny181.out]; exact HP11.1); clear HP11; have n0_ := aMk (hp_); have n1_ := aMk ((by rw [hw]; exact bSe (HB.out) GB5.out : Below w0.heap.size w0 w12)); have n2_ := aMk (Kept.of_grown (S := (fun k_ => P0_ k_)) hg (by repeat (first | (with_reducible first | exact HK.out | apply Kept.alloc | apply Kept.drewN | apply Kept.drew) | exact HK.out)) (fun k_ e_ => (HO_0.out.1 k_ e_))); clear HO_0; clear HB; clear HK; have HO_0 := n0_; have HB := n1_; have HK := n2_; clear n0_ n1_ n2_; clear hg hw hp_; have p6 : 0 ≤ (x5_1 : Int) := oDt (by first | (with_reducible assumption) | assumption); have q6 : (x5_1 : Int) < ((x0_1.length : Int) : Int) := oDt (by first | (with_reducible assumption) | assumption); obtain ⟨ce6, hcl6, hM6, hcc6, hfr6⟩ := Kd.R_elem HO_0.out z66 (x5_1 : Int) p6 q6; obtain rfl := k66_openM hM6; have hx6_0 : w12.cell? ⟨go5, (x5_1 : Int).toNat * 5, none⟩ = some (.int .i64 ((rd_T66 y181 x5_1).f0)) := hcc6 0 _ rfl; have hx6_1 : w12.cell? ⟨go5, (x5_1 : Int).toNat * 5 + 1, none⟩ = some (.int .i64 ((rd_T66 y181 x5_1).f1)) := hcc6 1 _ rfl; have hx6_2 : w12.cell? ⟨go5, (x5_1 : Int).toNat * 5 + 2, none⟩ = some (.int .i64 ((rd_T66 y181 x5_1).f2)) := hcc6 2 _ rfl; have hx6_3 : w12.cell? ⟨go5, (x5_1 : Int).toNat * 5 + 3, none⟩ = some (.int .i64 ((rd_T66 y181 x5_1).f3)) := hcc6 3 _ rfl; have hx6_4 : w12.cell? ⟨go5, (x5_1 : Int).toNat * 5 + 4, none⟩ = some (.int .i64 ((rd_T66 y181 x5_1).f4)) := hcc6 4 _ rfl; have hf6_0 : w12.frozen? ⟨go5, (x5_1 : Int).toNat * 5, none⟩ = false := hfr6 0; have hf6_1 : w12.frozen? ⟨go5, (x5_1 : Int).toNat * 5 + 1, none⟩ = false := hfr6 1; have hf6_2 : w12.frozen? ⟨go5, (x5_1 : Int).toNat * 5 + 2, none⟩ = false := hfr6 2; have hf6_3 : w12.frozen? ⟨go5, (x5_1 : Int).toNat * 5 + 3, none⟩ = false := hfr6 3; have hf6_4 : w12.frozen? ⟨go5, (x5_1 : Int).toNat * 5 + 4, none⟩ = false := hfr6 4; clear hcl6 hcc6 hfr6 hM6; replace p6 := eq_true p6; replace q6 := eq_true q6; have HX13 := aMk (show Kd.R k66 66 w12 w0.heap.size (fun k_ => (P0_ k_ ∨ w.heap.size ≤ k_)) (.slice (some ⟨go5, 0, none⟩) x0_1.length co10) y181 from (by (with_reducible repeat (first | apply Kd.R_alloc | apply Kd.R_drewN | apply Kd.R_drew)); exact HO_0.out)); obtain ⟨ce13, hcl13, hM13, hcc13, hfr13⟩ := Kd.R_elem HX13.out z66 (x5_1 : Int) (oDt (by first | (with_reducible assumption) | assumption)) (by have h_ : (x5_1 : Int) < ((x0_1.length : Int) : Int) := oDt (by first | (with_reducible assumption) | assumption); first | exact h_ | (have e_ := (Kd.R_reads' HO_0.out).1; omega) | simpa using h_); obtain rfl := k66_openM hM13; have HP13 := Kd.R_seg HX13.out (x5_1 : Int) (oDt (by first | (with_reducible assumption) | assumption)) (by have h_ : (x5_1 : Int) < ((x0_1.length : Int) : Int) := oDt (by first | (with_reducible assumption) | assumption); first | exact h_ | (have e_ := (Kd.R_reads' HO_0.out).1; omega) | simpa using h_) (seg := [.int .i64 (wrap64 (x1_1 + 1))]) (j := 1) hcl13 hcc13 (show 2 ≤ 5 from by decide) (x' := (⟨(rd_T66 y181 x5_1).f0, wrap64 (x1_1 + 1), (rd_T66 y181 x5_1).f2, (rd_T66 y181 x5_1).f3, (rd_T66 y181 x5_1).f4⟩ : S66)) (k66_mkM _ _ _ (⟨(rd_T66 y181 x5_1).f0, wrap64 (x1_1 + 1), (rd_T66 y181 x5_1).f2, (rd_T66 y181 x5_1).f3, (rd_T66 y181 x5_1).f4⟩ : S66) ) (fun _ hk => hk); have hx13_1 := hcc13 1 _ rfl; (try simp only [show (k66).sz = 5 from rfl, Nat.mul_one, Nat.add_zero] at hx13_1); have hf13_1 := hfr13 1; (try simp only [show (k66).sz = 5 from rfl, Nat.mul_one, Nat.add_zero] at hf13_1); clear hcl13 hcc13 hfr13 hM13) | ((with_reducible refine gate_store (t := 3) (p := 23) rfl ?_); refine store_event (t := 3) (p := 23) (v := ?vo_w14) (w1 := (w12.setCell ⟨go5, (x5_1 : Int).toNat * 5 + 1, none⟩ (.int .i64 (wrap64 (x1_1 + 1))))) ?hg ?ho ?hn ?hr ?_; (case ho => rfl); (case hg => rfl); (case hn => rfl); (case hr => first | (go_simp; done) | (go_simp; rfl)); intro w14 hw; have hg : w12.grownBy w14 (some go5) := (by rw [hw]; exact HP13.2); have hp_ : Kd.R k66 66 w14 w0.heap.size (fun k_ => (P0_ k_ ∨ w.heap.size ≤ k_)) (.slice (some ⟨go5, 0, none⟩) x0_1.length co10) y182 := (by rw [hw, Ny182.out]; exact HP13.1); clear HP13; have n0_ := aMk (hp_); have n1_ := aMk ((by rw [hw]; exact bSe (HB.out) GB5.out : Below w0.heap.size w0 w14)); have n2_ := aMk (Kept.of_grown (S := (fun k_ => P0_ k_)) hg (by repeat (first | (with_reducible first | exact HK.out | apply Kept.alloc | apply Kept.drewN | apply Kept.drew) | exact HK.out)) (fun k_ e_ => (HO_0.out.1 k_ e_))); clear HO_0; clear HB; clear HK; have HO_0 := n0_; have HB := n1_; have HK := n2_; clear n0_ n1_ n2_; clear hg hw hp_; have p7 : 0 ≤ (x5_1 : Int) := oDt (by first | (with_reducible assumption) | assumption); have q7 : (x5_1 : Int) < ((x0_1.length : Int) : Int) := oDt (by first | (with_reducible assumption) | assumption); obtain ⟨ce7, hcl7, hM7, hcc7, hfr7⟩ := Kd.R_elem HO_0.out z66 (x5_1 : Int) p7 q7; obtain rfl := k66_openM hM7; have hx7_0 : w14.cell? ⟨go5, (x5_1 : Int).toNat * 5, none⟩ = some (.int .i64 ((rd_T66 y182 x5_1).f0)) := hcc7 0 _ rfl; have hx7_1 : w14.cell? ⟨go5, (x5_1 : Int).toNat * 5 + 1, none⟩ = some (.int .i64 ((rd_T66 y182 x5_1).f1)) := hcc7 1 _ rfl; have hx7_2 : w14.cell? ⟨go5, (x5_1 : Int).toNat * 5 + 2, none⟩ = some (.int .i64 ((rd_T66 y182 x5_1).f2)) := hcc7 2 _ rfl; have hx7_3 : w14.cell? ⟨go5, (x5_1 : Int).toNat * 5 + 3, none⟩ = some (.int .i64 ((rd_T66 y182 x5_1).f3)) := hcc7 3 _ rfl; have hx7_4 : w14.cell? ⟨go5, (x5_1 : Int).toNat * 5 + 4, none⟩ = some (.int .i64 ((rd_T66 y182 x5_1).f4)) := hcc7 4 _ rfl; have hf7_0 : w14.frozen? ⟨go5, (x5_1 : Int).toNat * 5, none⟩ = false := hfr7 0; have hf7_1 : w14.frozen? ⟨go5, (x5_1 : Int).toNat * 5 + 1, none⟩ = false := hfr7 1; have hf7_2 : w14.frozen? ⟨go5, (x5_1 : Int).toNat * 5 + 2, none⟩ = false := hfr7 2; have hf7_3 : w14.frozen? ⟨go5, (x5_1 : Int).toNat * 5 + 3, none⟩ = false := hfr7 3; have hf7_4 : w14.frozen? ⟨go5, (x5_1 : Int).toNat * 5 + 4, none⟩ = false := hfr7 4; clear hcl7 hcc7 hfr7 hM7; replace p7 := eq_true p7; replace q7 := eq_true q7; have HX15 := aMk (show Kd.R k66 66 w14 w0.heap.size (fun k_ => (P0_ k_ ∨ w.heap.size ≤ k_)) (.slice (some ⟨go5, 0, none⟩) x0_1.length co10) y182 from (by (with_reducible repeat (first | apply Kd.R_alloc | apply Kd.R_drewN | apply Kd.R_drew)); exact HO_0.out)); obtain ⟨ce15, hcl15, hM15, hcc15, hfr15⟩ := Kd.R_elem HX15.out z66 (x5_1 : Int) (oDt (by first | (with_reducible assumption) | assumption)) (by have h_ : (x5_1 : Int) < ((x0_1.length : Int) : Int) := oDt (by first | (with_reducible assumption) | assumption); first | exact h_ | (have e_ := (Kd.R_reads' HO_0.out).1; omega) | simpa using h_); obtain rfl := k66_openM hM15; have HP15 := Kd.R_seg HX15.out (x5_1 : Int) (oDt (by first | (with_reducible assumption) | assumption)) (by have h_ : (x5_1 : Int) < ((x0_1.length : Int) : Int) := oDt (by first | (with_reducible assumption) | assumption); first | exact h_ | (have e_ := (Kd.R_reads' HO_0.out).1; omega) | simpa using h_) (seg := [.int .i64 (wrap64 ((wrap64 (x1_1 + 1)) + 1))]) (j := 2) hcl15 hcc15 (show 3 ≤ 5 from by decide) (x' := (⟨(rd_T66 y182 x5_1).f0, (rd_T66 y182 x5_1).f1, wrap64 ((wrap64 (x1_1 + 1)) + 1), (rd_T66 y182 x5_1).f3, (rd_T66 y182 x5_1).f4⟩ : S66)) (k66_mkM _ _ _ (⟨(rd_T66 y182 x5_1).f0, (rd_T66 y182 x5_1).f1, wrap64 ((wrap64 (x1_1 + 1)) + 1), (rd_T66 y182 x5_1).f3, (rd_T66 y182 x5_1).f4⟩ : S66) ) (fun _ hk => hk); have hx15_2 := hcc15 2 _ rfl; (try simp only [show (k66).sz = 5 from rfl, Nat.mul_one, Nat.add_zero] at hx15_2); have hf15_2 := hfr15 2; (try simp only [show (k66).sz = 5 from rfl, Nat.mul_one, Nat.add_zero] at hf15_2); clear hcl15 hcc15 hfr15 hM15) | ((with_reducible refine gate_store (t := 3) (p := 30) rfl ?_); refine store_event (t := 3) (p := 30) (v := ?vo_w16) (w1 := (w14.setCell ⟨go5, (x5_1 : Int).toNat * 5 + 2, none⟩ (.int .i64 (wrap64 ((wrap64 (x1_1 + 1)) + 1))))) ?hg ?ho ?hn ?hr ?_; (case ho => rfl); (case hg => rfl); (case hn => rfl); (case hr => first | (go_simp; done) | (go_simp; rfl)); intro w16 hw; have hg : w14.grownBy w16 (some go5) := (by rw [hw]; exact HP15.2); have hp_ : Kd.R k66 66 w16 w0.heap.size (fun k_ => (P0_ k_ ∨ w.heap.size ≤ k_)) (.slice (some ⟨go5, 0, none⟩) x0_1.length co10) y183 := (by rw [hw, Ny183.out]; exact HP15.1); clear HP15; have n0_ := aMk (hp_); have n1_ := aMk ((by rw [hw]; exact bSe (HB.out) GB5.out : Below w0.heap.size w0 w16)); have n2_ := aMk (Kept.of_grown (S := (fun k_ => P0_ k_)) hg (by repeat (first | (with_reducible first | exact HK.out | apply Kept.alloc | apply Kept.drewN | apply Kept.drew) | exact HK.out)) (fun k_ e_ => (HO_0.out.1 k_ e_))); clear HO_0; clear HB; clear HK; have HO_0 := n0_; have HB := n1_; have HK := n2_; clear n0_ n1_ n2_; clear hg hw hp_; have p8 : 0 ≤ (x5_1 : Int) := oDt (by first | (with_reducible assumption) | assumption); have q8 : (x5_1 : Int) < ((x0_1.length : Int) : Int) := oDt (by first | (with_reducible assumption) | assumption); obtain ⟨ce8, hcl8, hM8, hcc8, hfr8⟩ := Kd.R_elem HO_0.out z66 (x5_1 : Int) p8 q8; obtain rfl := k66_openM hM8; have hx8_0 : w16.cell? ⟨go5, (x5_1 : Int).toNat * 5, none⟩ = some (.int .i64 ((rd_T66 y183 x5_1).f0)) := hcc8 0 _ rfl; have hx8_1 : w16.cell? ⟨go5, (x5_1 : Int).toNat * 5 + 1, none⟩ = some (.int .i64 ((rd_T66 y183 x5_1).f1)) := hcc8 1 _ rfl; have hx8_2 : w16.cell? ⟨go5, (x5_1 : Int).toNat * 5 + 2, none⟩ = some (.int .i64 ((rd_T66 y183 x5_1).f2)) := hcc8 2 _ rfl; have hx8_3 : w16.cell? ⟨go5, (x5_1 : Int).toNat * 5 + 3, none⟩ = some (.int .i64 ((rd_T66 y183 x5_1).f3)) := hcc8 3 _ rfl; have hx8_4 : w16.cell? ⟨go5, (x5_1 : Int).toNat * 5 + 4, none⟩ = some (.int .i64 ((rd_T66 y183 x5_1).f4)) := hcc8 4 _ rfl; have hf8_0 : w16.frozen? ⟨go5, (x5_1 : Int).toNat * 5, none⟩ = false := hfr8 0; have hf8_1 : w16.frozen? ⟨go5, (x5_1 : Int).toNat * 5 + 1, none⟩ = false := hfr8 1; have hf8_2 : w16.frozen? ⟨go5, (x5_1 : Int).toNat * 5 + 2, none⟩ = false := hfr8 2; have hf8_3 : w16.frozen? ⟨go5, (x5_1 : Int).toNat * 5 + 3, none⟩ = false := hfr8 3; have hf8_4 : w16.frozen? ⟨go5, (x5_1 : Int).toNat * 5 + 4, none⟩ = false := hfr8 4; clear hcl8 hcc8 hfr8 hM8; replace p8 := eq_true p8; replace q8 := eq_true q8; have HX17 := aMk (show Kd.R k66 66 w16 w0.heap.size (fun k_ => (P0_ k_ ∨ w.heap.size ≤ k_)) (.slice (some ⟨go5, 0, none⟩) x0_1.length co10) y183 from (by (with_reducible repeat (first | apply Kd.R_alloc | apply Kd.R_drewN | apply Kd.R_drew)); exact HO_0.out)); obtain ⟨ce17, hcl17, hM17, hcc17, hfr17⟩ := Kd.R_elem HX17.out z66 (x5_1 : Int) (oDt (by first | (with_reducible assumption) | assumption)) (by have h_ : (x5_1 : Int) < ((x0_1.length : Int) : Int) := oDt (by first | (with_reducible assumption) | assumption); first | exact h_ | (have e_ := (Kd.R_reads' HO_0.out).1; omega) | simpa using h_); obtain rfl := k66_openM hM17; have HP17 := Kd.R_seg HX17.out (x5_1 : Int) (oDt (by first | (with_reducible assumption) | assumption)) (by have h_ : (x5_1 : Int) < ((x0_1.length : Int) : Int) := oDt (by first | (with_reducible assumption) | assumption); first | exact h_ | (have e_ := (Kd.R_reads' HO_0.out).1; omega) | simpa using h_) (seg := [.int .i64 (wrap64 ((wrap64 ((wrap64 (x1_1 + 1)) + 1)) + 1))]) (j := 3) hcl17 hcc17 (show 4 ≤ 5 from by decide) (x' := (⟨(rd_T66 y183 x5_1).f0, (rd_T66 y183 x5_1).f1, (rd_T66 y183 x5_1).f2, wrap64 ((wrap64 ((wrap64 (x1_1 + 1)) + 1)) + 1), (rd_T66 y183 x5_1).f4⟩ : S66)) (k66_mkM _ _ _ (⟨(rd_T66 y183 x5_1).f0, (rd_T66 y183 x5_1).f1, (rd_T66 y183 x5_1).f2, wrap64 ((wrap64 ((wrap64 (x1_1 + 1)) + 1)) + 1), (rd_T66 y183 x5_1).f4⟩ : S66) ) (fun _ hk => hk); have hx17_3 := hcc17 3 _ rfl; (try simp only [show (k66).sz = 5 from rfl, Nat.mul_one, Nat.add_zero] at hx17_3); have hf17_3 := hfr17 3; (try simp only [show (k66).sz = 5 from rfl, Nat.mul_one, Nat.add_zero] at hf17_3); clear hcl17 hcc17 hfr17 hM17) | ((with_reducible refine gate_store (t := 3) (p := 37) rfl ?_); refine store_event (t := 3) (p := 37) (v := ?vo_w18) (w1 := (w16.setCell ⟨go5, (x5_1 : Int).toNat * 5 + 3, none⟩ (.int .i64 (wrap64 ((wrap64 ((wrap64 (x1_1 + 1)) + 1)) + 1))))) ?hg ?ho ?hn ?hr ?_; (case ho => rfl); (case hg => rfl); (case hn => rfl); (case hr => first | (go_simp; done) | (go_simp; rfl)); intro w18 hw; have hg : w16.grownBy w18 (some go5) := (by rw [hw]; exact HP17.2); have hp_ : Kd.R k66 66 w18 w0.heap.size (fun k_ => (P0_ k_ ∨ w.heap.size ≤ k_)) (.slice (some ⟨go5, 0, none⟩) x0_1.length co10) y184 := (by rw [hw, Ny184.out]; exact HP17.1); clear HP17; have n0_ := aMk (hp_); have n1_ := aMk ((by rw [hw]; exact bSe (HB.out) GB5.out : Below w0.heap.size w0 w18)); have n2_ := aMk (Kept.of_grown (S := (fun k_ => P0_ k_)) hg (by repeat (first | (with_reducible first | exact HK.out | apply Kept.alloc | apply Kept.drewN | apply Kept.drew) | exact HK.out)) (fun k_ e_ => (HO_0.out.1 k_ e_))); clear HO_0; clear HB; clear HK; have HO_0 := n0_; have HB := n1_; have HK := n2_; clear n0_ n1_ n2_; clear hg hw hp_; have p9 : 0 ≤ (x5_1 : Int) := oDt (by first | (with_reducible assumption) | assumption); have q9 : (x5_1 : Int) < ((x0_1.length : Int) : Int) := oDt (by first | (with_reducible assumption) | assumption); obtain ⟨ce9, hcl9, hM9, hcc9, hfr9⟩ := Kd.R_elem HO_0.out z66 (x5_1 : Int) p9 q9; obtain rfl := k66_openM hM9; have hx9_0 : w18.cell? ⟨go5, (x5_1 : Int).toNat * 5, none⟩ = some (.int .i64 ((rd_T66 y184 x5_1).f0)) := hcc9 0 _ rfl; have hx9_1 : w18.cell? ⟨go5, (x5_1 : Int).toNat * 5 + 1, none⟩ = some (.int .i64 ((rd_T66 y184 x5_1).f1)) := hcc9 1 _ rfl; have hx9_2 : w18.cell? ⟨go5, (x5_1 : Int).toNat * 5 + 2, none⟩ = some (.int .i64 ((rd_T66 y184 x5_1).f2)) := hcc9 2 _ rfl; have hx9_3 : w18.cell? ⟨go5, (x5_1 : Int).toNat * 5 + 3, none⟩ = some (.int .i64 ((rd_T66 y184 x5_1).f3)) := hcc9 3 _ rfl; have hx9_4 : w18.cell? ⟨go5, (x5_1 : Int).toNat * 5 + 4, none⟩ = some (.int .i64 ((rd_T66 y184 x5_1).f4)) := hcc9 4 _ rfl; have hf9_0 : w18.frozen? ⟨go5, (x5_1 : Int).toNat * 5, none⟩ = false := hfr9 0; have hf9_1 : w18.frozen? ⟨go5, (x5_1 : Int).toNat * 5 + 1, none⟩ = false := hfr9 1; have hf9_2 : w18.frozen? ⟨go5, (x5_1 : Int).toNat * 5 + 2, none⟩ = false := hfr9 2; have hf9_3 : w18.frozen? ⟨go5, (x5_1 : Int).toNat * 5 + 3, none⟩ = false := hfr9 3; have hf9_4 : w18.frozen? ⟨go5, (x5_1 : Int).toNat * 5 + 4, none⟩ = false := hfr9 4; clear hcl9 hcc9 hfr9 hM9; replace p9 := eq_true p9; replace q9 := eq_true q9; have HX19 := aMk (show Kd.R k66 66 w18 w0.heap.size (fun k_ => (P0_ k_ ∨ w.heap.size ≤ k_)) (.slice (some ⟨go5, 0, none⟩) x0_1.length co10) y184 from (by (with_reducible repeat (first | apply Kd.R_alloc | apply Kd.R_drewN | apply Kd.R_drew)); exact HO_0.out)); obtain ⟨ce19, hcl19, hM19, hcc19, hfr19⟩ := Kd.R_elem HX19.out z66 (x5_1 : Int) (oDt (by first | (with_reducible assumption) | assumption)) (by have h_ : (x5_1 : Int) < ((x0_1.length : Int) : Int) := oDt (by first | (with_reducible assumption) | assumption); first | exact h_ | (have e_ := (Kd.R_reads' HO_0.out).1; omega) | simpa using h_); obtain rfl := k66_openM hM19; have HP19 := Kd.R_seg HX19.out (x5_1 : Int) (oDt (by first | (with_reducible assumption) | assumption)) (by have h_ : (x5_1 : Int) < ((x0_1.length : Int) : Int) := oDt (by first | (with_reducible assumption) | assumption); first | exact h_ | (have e_ := (Kd.R_reads' HO_0.out).1; omega) | simpa using h_) (seg := [.int .i64 (wrap64 ((wrap64 ((wrap64 ((wrap64 (x1_1 + 1)) + 1)) + 1)) + 1))]) (j := 4) hcl19 hcc19 (show 5 ≤ 5 from by decide) (x' := (⟨(rd_T66 y184 x5_1).f0, (rd_T66 y184 x5_1).f1, (rd_T66 y184 x5_1).f2, (rd_T66 y184 x5_1).f3, wrap64 ((wrap64 ((wrap64 ((wrap64 (x1_1 + 1)) + 1)) + 1)) + 1)⟩ : S66)) (k66_mkM _ _ _ (⟨(rd_T66 y184 x5_1).f0, (rd_T66 y184 x5_1).f1, (rd_T66 y184 x5_1).f2, (rd_T66 y184 x5_1).f3, wrap64 ((wrap64 ((wrap64 ((wrap64 (x1_1 + 1)) + 1)) + 1)) + 1)⟩ : S66) ) (fun _ hk => hk); have hx19_4 := hcc19 4 _ rfl; (try simp only [show (k66).sz = 5 from rfl, Nat.mul_one, Nat.add_zero] at hx19_4); have hf19_4 := hfr19 4; (try simp only [show (k66).sz = 5 from rfl, Nat.mul_one, Nat.add_zero] at hf19_4); clear hcl19 hcc19 hfr19 hM19) | ((with_reducible refine gate_store (t := 3) (p := 44) rfl ?_); refine store_event (t := 3) (p := 44) (v := ?vo_w20) (w1 := (w18.setCell ⟨go5, (x5_1 : Int).toNat * 5 + 4, none⟩ (.int .i64 (wrap64 ((wrap64 ((wrap64 ((wrap64 (x1_1 + 1)) + 1)) + 1)) + 1))))) ?hg ?ho ?hn ?hr ?_; (case ho => rfl); (case hg => rfl); (case hn => rfl); (case hr => first | (go_simp; done) | (go_simp; rfl)); intro w20 hw; have hg : w18.grownBy w20 (some go5) := (by rw [hw]; exact HP19.2); have hp_ : Kd.R k66 66 w20 w0.heap.size (fun k_ => (P0_ k_ ∨ w.heap.size ≤ k_)) (.slice (some ⟨go5, 0, none⟩) x0_1.length co10) y185 := (by rw [hw, Ny185.out]; exact HP19.1); clear HP19; have n0_ := aMk (hp_); have n1_ := aMk ((by rw [hw]; exact bSe (HB.out) GB5.out : Below w0.heap.size w0 w20)); have n2_ := aMk (Kept.of_grown (S := (fun k_ => P0_ k_)) hg (by repeat (first | (with_reducible first | exact HK.out | apply Kept.alloc | apply Kept.drewN | apply Kept.drew) | exact HK.out)) (fun k_ e_ => (HO_0.out.1 k_ e_))); clear HO_0; clear HB; clear HK; have HO_0 := n0_; have HB := n1_; have HK := n2_; clear n0_ n1_ n2_; clear hg hw hp_))
       go_roundg k1
       case measure => have := HK1.out; omega
       case rel => exact ⟨(y185), (wrap64 ((wrap64 ((wrap64 ((wrap64 ((wrap64 (x1_1 + 1)) + 1)) + 1)) + 1)) + 1)), (wrap64 (x5_1 + 1)), (by first | rfl | (simp; done) | (simp [*]; done)), (by first | rfl | (simp; done) | (simp [*]; done)), H', ⟨by have := HK1.out; omega⟩, ⟨by (with_reducible repeat (first | apply Kd.R_alloc | apply Kd.R_drewN | apply Kd.R_drew)); exact HO_0.out⟩, ⟨by repeat (first | (with_reducible first | exact HK.out | apply Kept.alloc | apply Kept.drewN | apply Kept.drew) | exact HK.out)⟩, ⟨by repeat (first | (with_reducible first | exact HB.out | apply bAl | apply bDn | apply bD1) | exact HB.out)⟩⟩
     · rw [if_neg c4] at H
       exact absurd H (by simp)
   · rw [if_neg c3] at H
     have c3b0 : decide (x5_1 < (x0_1.length : Int)) = false := decide_eq_false c3
     clear c3
     simp only [Option.some.injEq, Prod.mk.injEq] at H
     obtain ⟨rfl, rfl⟩ := H
     obtain ⟨Ao21, co21, eo21⟩ := Kd.R_slice HO_0.out
     subst eo21
     go_wp2
     go_ret
     exact ⟨by first | rfl | (simp [errW_none, errW_some] <;> rfl) | (simp [*, errW_none, errW_some] <;> rfl), by (with_reducible repeat (first | apply Kd.R_alloc | apply Kd.R_drewN | apply Kd.R_drew)); exact HO_0.out, by repeat (first | (with_reducible first | exact HB.out | apply bAl | apply bDn | apply bD1) | exact HB.out), by repeat (first | (with_reducible first | exact HK.out | apply Kept.alloc | apply Kept.drewN | apply Kept.drew) | exact HK.out)⟩
def laws_FnExactFlexShares.j0 : Nat → List (S100) → Int → List Int → List Int → Bool → Option (Bool)
 | 0, _, _, _, _, _ => none
 | k + 1, x0, x1, x6, x8, x46 => if x46 = true then (some false) else ((laws_markIntS.f k x8 1).bind fun bt207 => ((laws_heldIntS.f k bt207.2 1).bind fun t209 => (if t209 < 0 then (some false) else (if t209 = bt207.1 then ((laws_toFlexItemS.f k x0).bind fun t210 => ((impl_FlexShares.f k t210 x1).bind fun t213 => ((laws_eqIntS.f k t213 x6).bind fun t216 => (if t216 = true then ((laws_heldIntS.f k bt207.2 1).bind fun t217 => (if t217 < 0 then (some false) else (if t217 = bt207.1 then (some true) else (some false)))) else (some false))))) else (some false)))))
def laws_FnExactFlexShares.f (k : Nat) (l0 : List (S100)) (a1 : Int) : Option (Bool) := (laws_szFlexItemS.f l0 1048576).bind fun t186 => (if t186 < 0 then (some true) else ((laws_toFlexItemS.f k l0).bind fun t187 => ((spec_FlexShares.f k t187 a1).bind fun t190 => ((laws_toFlexItemS.f k l0).bind fun t193 => ((impl_FlexShares.f k t193 a1).bind fun t196 => ((laws_eqIntS.f k t196 t190).bind fun t199 => (if t199 = true then ((laws_toFlexItemS.f k l0).bind fun t200 => ((laws_eqFlexItemS.f k t193 t200).bind fun t203 => (if t203 = true then ((laws_markFlexItemS.f k t193 1).bind fun bt204 => (if bt204.1 < 0 then (laws_FnExactFlexShares.j0 k l0 a1 t190 t196 true) else ((laws_eqIntS.f k t196 t190).bind fun t206 => (laws_FnExactFlexShares.j0 k l0 a1 t190 t196 (!t206))))) else (some false)))) else (some false))))))))
set_option maxHeartbeats 8000000 in
set_option maxRecDepth 100000 in
theorem laws_FnExactFlexShares.calls (k : Nat) (A0 : Option Addr) (c0 : Nat) (l0 : List (S100)) (a1 : Int) (r : Bool) (w : World) (hr0 : Kd.C k100 w A0 l0.length l0) (hc0 : l0.length ≤ c0) (h : laws_FnExactFlexShares.f k l0 a1 = some r) :
 Calls Try.prog 7 #[.slice A0 l0.length c0, .int .i64 a1] w fun e w' => e = .returned (.bool r) ∧ Below w.heap.size w w' := by
 have HR0 := aMk hr0
 have HC0 := aMk hc0
 clear hr0 hc0
 have HB := aMk (Below.refl w.heap.size w)
 have H : ((laws_szFlexItemS.f l0 1048576).bind fun t186 => (if t186 < 0 then (some true) else ((laws_toFlexItemS.f k l0).bind fun t187 => ((spec_FlexShares.f k t187 a1).bind fun t190 => ((laws_toFlexItemS.f k l0).bind fun t193 => ((impl_FlexShares.f k t193 a1).bind fun t196 => ((laws_eqIntS.f k t196 t190).bind fun t199 => (if t199 = true then ((laws_toFlexItemS.f k l0).bind fun t200 => ((laws_eqFlexItemS.f k t193 t200).bind fun t203 => (if t203 = true then ((laws_markFlexItemS.f k t193 1).bind fun bt204 => (if bt204.1 < 0 then (laws_FnExactFlexShares.j0 k l0 a1 t190 t196 true) else ((laws_eqIntS.f k t196 t190).bind fun t206 => (laws_FnExactFlexShares.j0 k l0 a1 t190 t196 (!t206))))) else (some false)))) else (some false))))))))) = some r := h
 clear h
 replace H := oBm H
 obtain ⟨t186, A30, H⟩ := H
 replace H : (if t186 < 0 then (some true) else ((laws_toFlexItemS.f k l0).bind fun t187 => ((spec_FlexShares.f k t187 a1).bind fun t190 => ((laws_toFlexItemS.f k l0).bind fun t193 => ((impl_FlexShares.f k t193 a1).bind fun t196 => ((laws_eqIntS.f k t196 t190).bind fun t199 => (if t199 = true then ((laws_toFlexItemS.f k l0).bind fun t200 => ((laws_eqFlexItemS.f k t193 t200).bind fun t203 => (if t203 = true then ((laws_markFlexItemS.f k t193 1).bind fun bt204 => (if bt204.1 < 0 then (laws_FnExactFlexShares.j0 k l0 a1 t190 t196 true) else ((laws_eqIntS.f k t196 t190).bind fun t206 => (laws_FnExactFlexShares.j0 k l0 a1 t190 t196 (!t206))))) else (some false)))) else (some false)))))))) = some r := H
 have A3 := aMk A30
 clear A30
 by_cases c4 : t186 < 0
 · rw [if_pos c4] at H
   have c4b0 : decide (t186 < 0) = true := decide_eq_true c4
   clear c4
   obtain rfl := Option.some.inj H
   go_enter Try.func7, Try.ntmps7
   go_wp2_with (first | ((with_reducible refine gate_callee (f := 31) rfl ?_); refine goesL_ (some 15) rfl rfl Try.func31 (by kernel_rfl) rfl #[.slice A0 l0.length c0, .int .i64 1048576] rfl (by (try simp only [List.map_toArray, List.map_cons, List.map_nil]); first | done | rfl | (simp only [List.length_drop, List.length_take]; rfl)) ?_; (with_reducible refine (laws_szFlexItemS.calls _ _ l0 1048576 t186 _ ?side1 ?side2 A3.out).mono ?_); (case side1 => repeat (first | exact HR0.out | (with_reducible refine Kd.C_alloc ?_ _) | (with_reducible refine Kd.C_drewN ?_ _) | (with_reducible refine Kd.C_drew ?_))); (case side2 => exact HC0.out); rintro e w' ⟨rfl, ⟨nd, rfl⟩⟩; refine ⟨_, rfl, ?_⟩))
   go_ret
   exact ⟨by first | rfl | (simp [errW_none, errW_some] <;> rfl) | (simp [*, errW_none, errW_some] <;> rfl), by repeat (first | (with_reducible first | exact HB.out | apply bAl | apply bDn | apply bD1) | exact HB.out)⟩
 · rw [if_neg c4] at H
   have c4b0 : decide (t186 < 0) = false := decide_eq_false c4
   clear c4
   replace H := oBm H
   obtain ⟨t187, A50, H⟩ := H
   replace H : ((spec_FlexShares.f k t187 a1).bind fun t190 => ((laws_toFlexItemS.f k l0).bind fun t193 => ((impl_FlexShares.f k t193 a1).bind fun t196 => ((laws_eqIntS.f k t196 t190).bind fun t199 => (if t199 = true then ((laws_toFlexItemS.f k l0).bind fun t200 => ((laws_eqFlexItemS.f k t193 t200).bind fun t203 => (if t203 = true then ((laws_markFlexItemS.f k t193 1).bind fun bt204 => (if bt204.1 < 0 then (laws_FnExactFlexShares.j0 k l0 a1 t190 t196 true) else ((laws_eqIntS.f k t196 t190).bind fun t206 => (laws_FnExactFlexShares.j0 k l0 a1 t190 t196 (!t206))))) else (some false)))) else (some false)))))) = some r := H
   have A5 := aMk A50
   clear A50
   replace H := oBm H
   obtain ⟨t190, A60, H⟩ := H
   replace H : ((laws_toFlexItemS.f k l0).bind fun t193 => ((impl_FlexShares.f k t193 a1).bind fun t196 => ((laws_eqIntS.f k t196 t190).bind fun t199 => (if t199 = true then ((laws_toFlexItemS.f k l0).bind fun t200 => ((laws_eqFlexItemS.f k t193 t200).bind fun t203 => (if t203 = true then ((laws_markFlexItemS.f k t193 1).bind fun bt204 => (if bt204.1 < 0 then (laws_FnExactFlexShares.j0 k l0 a1 t190 t196 true) else ((laws_eqIntS.f k t196 t190).bind fun t206 => (laws_FnExactFlexShares.j0 k l0 a1 t190 t196 (!t206))))) else (some false)))) else (some false))))) = some r := H
   have A6 := aMk A60
   clear A60
   replace H := oBm H
   obtain ⟨t193, A70, H⟩ := H
   replace H : ((impl_FlexShares.f k t193 a1).bind fun t196 => ((laws_eqIntS.f k t196 t190).bind fun t199 => (if t199 = true then ((laws_toFlexItemS.f k l0).bind fun t200 => ((laws_eqFlexItemS.f k t193 t200).bind fun t203 => (if t203 = true then ((laws_markFlexItemS.f k t193 1).bind fun bt204 => (if bt204.1 < 0 then (laws_FnExactFlexShares.j0 k l0 a1 t190 t196 true) else ((laws_eqIntS.f k t196 t190).bind fun t206 => (laws_FnExactFlexShares.j0 k l0 a1 t190 t196 (!t206))))) else (some false)))) else (some false)))) = some r := H
   have A7 := aMk A70
   clear A70
   replace H := oBm H
   obtain ⟨t196, A80, H⟩ := H
   replace H : ((laws_eqIntS.f k t196 t190).bind fun t199 => (if t199 = true then ((laws_toFlexItemS.f k l0).bind fun t200 => ((laws_eqFlexItemS.f k t193 t200).bind fun t203 => (if t203 = true then ((laws_markFlexItemS.f k t193 1).bind fun bt204 => (if bt204.1 < 0 then (laws_FnExactFlexShares.j0 k l0 a1 t190 t196 true) else ((laws_eqIntS.f k t196 t190).bind fun t206 => (laws_FnExactFlexShares.j0 k l0 a1 t190 t196 (!t206))))) else (some false)))) else (some false))) = some r := H
   have A8 := aMk A80
   clear A80
   replace H := oBm H
   obtain ⟨t199, A90, H⟩ := H
   replace H : (if t199 = true then ((laws_toFlexItemS.f k l0).bind fun t200 => ((laws_eqFlexItemS.f k t193 t200).bind fun t203 => (if t203 = true then ((laws_markFlexItemS.f k t193 1).bind fun bt204 => (if bt204.1 < 0 then (laws_FnExactFlexShares.j0 k l0 a1 t190 t196 true) else ((laws_eqIntS.f k t196 t190).bind fun t206 => (laws_FnExactFlexShares.j0 k l0 a1 t190 t196 (!t206))))) else (some false)))) else (some false)) = some r := H
   have A9 := aMk A90
   clear A90
   by_cases c10 : t199 = true
   · subst c10
     have H1 : ((laws_toFlexItemS.f k l0).bind fun t200 => ((laws_eqFlexItemS.f k t193 t200).bind fun t203 => (if t203 = true then ((laws_markFlexItemS.f k t193 1).bind fun bt204 => (if bt204.1 < 0 then (laws_FnExactFlexShares.j0 k l0 a1 t190 t196 true) else ((laws_eqIntS.f k t196 t190).bind fun t206 => (laws_FnExactFlexShares.j0 k l0 a1 t190 t196 (!t206))))) else (some false)))) = some r := by rw [if_pos rfl] at H; exact H
     clear H
     have H := H1
     clear H1
     replace H := oBm H
     obtain ⟨t200, A110, H⟩ := H
     replace H : ((laws_eqFlexItemS.f k t193 t200).bind fun t203 => (if t203 = true then ((laws_markFlexItemS.f k t193 1).bind fun bt204 => (if bt204.1 < 0 then (laws_FnExactFlexShares.j0 k l0 a1 t190 t196 true) else ((laws_eqIntS.f k t196 t190).bind fun t206 => (laws_FnExactFlexShares.j0 k l0 a1 t190 t196 (!t206))))) else (some false))) = some r := H
     have A11 := aMk A110
     clear A110
     replace H := oBm H
     obtain ⟨t203, A120, H⟩ := H
     replace H : (if t203 = true then ((laws_markFlexItemS.f k t193 1).bind fun bt204 => (if bt204.1 < 0 then (laws_FnExactFlexShares.j0 k l0 a1 t190 t196 true) else ((laws_eqIntS.f k t196 t190).bind fun t206 => (laws_FnExactFlexShares.j0 k l0 a1 t190 t196 (!t206))))) else (some false)) = some r := H
     have A12 := aMk A120
     clear A120
     by_cases c13 : t203 = true
     · subst c13
       have H1 : ((laws_markFlexItemS.f k t193 1).bind fun bt204 => (if bt204.1 < 0 then (laws_FnExactFlexShares.j0 k l0 a1 t190 t196 true) else ((laws_eqIntS.f k t196 t190).bind fun t206 => (laws_FnExactFlexShares.j0 k l0 a1 t190 t196 (!t206))))) = some r := by rw [if_pos rfl] at H; exact H
       clear H
       have H := H1
       clear H1
       replace H := oBm H
       obtain ⟨⟨t204, t205⟩, A140, H⟩ := H
       replace H : (if t204 < 0 then (laws_FnExactFlexShares.j0 k l0 a1 t190 t196 true) else ((laws_eqIntS.f k t196 t190).bind fun t206 => (laws_FnExactFlexShares.j0 k l0 a1 t190 t196 (!t206)))) = some r := H
       have A14 := aMk A140
       clear A140
       have HC15 := aMk H
       clear H
       go_enter Try.func7, Try.ntmps7
       go_upto_region 14 with (first | ((with_reducible refine gate_callee (f := 31) rfl ?_); refine goesL_ (some 15) rfl rfl Try.func31 (by kernel_rfl) rfl #[.slice A0 l0.length c0, .int .i64 1048576] rfl (by (try simp only [List.map_toArray, List.map_cons, List.map_nil]); first | done | rfl | (simp only [List.length_drop, List.length_take]; rfl)) ?_; (with_reducible refine (laws_szFlexItemS.calls _ _ l0 1048576 t186 _ ?side1 ?side2 A3.out).mono ?_); (case side1 => repeat (first | exact HR0.out | (with_reducible refine Kd.C_alloc ?_ _) | (with_reducible refine Kd.C_drewN ?_ _) | (with_reducible refine Kd.C_drew ?_))); (case side2 => exact HC0.out); rintro e w' ⟨rfl, ⟨nd, rfl⟩⟩; refine ⟨_, rfl, ?_⟩) | ((with_reducible refine gate_callee (f := 33) rfl ?_); refine goesL_ (some 19) rfl rfl Try.func33 (by kernel_rfl) rfl #[.slice A0 l0.length c0] rfl (by (try simp only [List.map_toArray, List.map_cons, List.map_nil]); first | done | rfl | (simp only [List.length_drop, List.length_take]; rfl)) ?_; (with_reducible refine (laws_toFlexItemS.calls k _ _ l0 t187 _ ?side1 ?side2 A5.out).mono ?_); (case side1 => repeat (first | exact HR0.out | (with_reducible refine Kd.C_alloc ?_ _) | (with_reducible refine Kd.C_drewN ?_ _) | (with_reducible refine Kd.C_drew ?_))); (case side2 => exact HC0.out); rintro e w16 ⟨v188, rfl, ho0, hb⟩; refine ⟨_, rfl, ?_⟩; have n0_ := aMk (Kd.R_lower ho0 (below_size (by repeat (first | (with_reducible first | exact HB.out | apply bAl | apply bDn | apply bD1) | exact HB.out)))); have n1_ := aMk (below_step (by repeat (first | (with_reducible first | exact HB.out | apply bAl | apply bDn | apply bD1) | exact HB.out)) hb); clear HB; have HO189 := n0_; have HB := n1_; clear n0_ n1_; (try clear hb); (try clear hb2); (try clear hk); (try clear hi); (try clear ho0); obtain ⟨Ao17, co17, eo17⟩ := Kd.R_slice HO189.out; subst eo17) | ((with_reducible refine gate_callee (f := 32) rfl ?_); refine goesL_ (some 21) rfl rfl Try.func32 (by kernel_rfl) rfl #[.slice Ao17 t187.length co17, .int .i64 a1] rfl (by (try simp only [List.map_toArray, List.map_cons, List.map_nil]); first | done | rfl | (simp only [List.length_drop, List.length_take]; rfl)) ?_; (with_reducible refine (spec_FlexShares.calls k _ _ t187 a1 t190 _ ?side1 ?side2 A6.out).mono ?_); (case side1 => repeat (first | exact (Kd.R_reads' HO189.out).2.2 | (with_reducible refine Kd.C_alloc ?_ _) | (with_reducible refine Kd.C_drewN ?_ _) | (with_reducible refine Kd.C_drew ?_))); (case side2 => exact (Kd.R_reads' HO189.out).2.1); rintro e w18 ⟨v191, rfl, ho0, hb⟩; refine ⟨_, rfl, ?_⟩; have n0_ := aMk (Kd.R_below (by (with_reducible repeat (first | apply Kd.R_alloc | apply Kd.R_drewN | apply Kd.R_drew)); exact HO189.out) hb); have n1_ := aMk (Kd.R_lower ho0 (below_size (by repeat (first | (with_reducible first | exact HB.out | apply bAl | apply bDn | apply bD1) | exact HB.out)))); have n2_ := aMk (below_step (by repeat (first | (with_reducible first | exact HB.out | apply bAl | apply bDn | apply bD1) | exact HB.out)) hb); clear HO189; clear HB; have HO189 := n0_; have HO192 := n1_; have HB := n2_; clear n0_ n1_ n2_; (try clear hb); (try clear hb2); (try clear hk); (try clear hi); (try clear ho0)) | ((with_reducible refine gate_callee (f := 33) rfl ?_); refine goesL_ (some 23) rfl rfl Try.func33 (by kernel_rfl) rfl #[.slice A0 l0.length c0] rfl (by (try simp only [List.map_toArray, List.map_cons, List.map_nil]); first | done | rfl | (simp only [List.length_drop, List.length_take]; rfl)) ?_; (with_reducible refine (laws_toFlexItemS.calls k _ _ l0 t193 _ ?side1 ?side2 A7.out).mono ?_); (case side1 => repeat (first | exact (Kd.C_below HR0.out HB.out) | (with_reducible refine Kd.C_alloc ?_ _) | (with_reducible refine Kd.C_drewN ?_ _) | (with_reducible refine Kd.C_drew ?_))); (case side2 => exact HC0.out); rintro e w19 ⟨v194, rfl, ho0, hb⟩; refine ⟨_, rfl, ?_⟩; have n0_ := aMk (Kd.R_elder' (by (with_reducible repeat (first | apply Kd.R_alloc | apply Kd.R_drewN | apply Kd.R_drew)); exact HO189.out) (Kd.R_base ho0) hb); have n1_ := aMk (Kd.R_below (by (with_reducible repeat (first | apply Kd.R_alloc | apply Kd.R_drewN | apply Kd.R_drew)); exact HO192.out) hb); have n2_ := aMk (Kd.R_lower (Kd.R_new' ho0 (Kd.R_lt (by (with_reducible repeat (first | apply Kd.R_alloc | apply Kd.R_drewN | apply Kd.R_drew)); exact HO189.out))) (below_size (by repeat (first | (with_reducible first | exact HB.out | apply bAl | apply bDn | apply bD1) | exact HB.out)))); have n3_ := aMk (below_step (by repeat (first | (with_reducible first | exact HB.out | apply bAl | apply bDn | apply bD1) | exact HB.out)) hb); clear HO189; clear HO192; clear HB; have HO189 := n0_; have HO192 := n1_; have HO195 := n2_; have HB := n3_; clear n0_ n1_ n2_ n3_; (try clear hb); (try clear hb2); (try clear hk); (try clear hi); (try clear ho0); obtain ⟨Ao20, co20, eo20⟩ := Kd.R_slice HO195.out; subst eo20) | ((with_reducible refine gate_callee (f := 34) rfl ?_); refine goesL_ (some 26) rfl rfl Try.func34 (by kernel_rfl) rfl #[.slice Ao20 t193.length co20, .int .i64 a1] rfl (by (try simp only [List.map_toArray, List.map_cons, List.map_nil]); first | done | rfl | (simp only [List.length_drop, List.length_take]; rfl)) ?_; (with_reducible refine (impl_FlexShares.calls k _ _ t193 a1 t196 _ ?side1 ?side2 A8.out).mono ?_); (case side1 => repeat (first | exact (Kd.R_reads' HO195.out).2.2 | (with_reducible refine Kd.C_alloc ?_ _) | (with_reducible refine Kd.C_drewN ?_ _) | (with_reducible refine Kd.C_drew ?_))); (case side2 => exact (Kd.R_reads' HO195.out).2.1); rintro e w21 ⟨v197, rfl, ho0, hb⟩; refine ⟨_, rfl, ?_⟩; have n0_ := aMk (Kd.R_below (by (with_reducible repeat (first | apply Kd.R_alloc | apply Kd.R_drewN | apply Kd.R_drew)); exact HO189.out) hb); have n1_ := aMk (Kd.R_elder' (by (with_reducible repeat (first | apply Kd.R_alloc | apply Kd.R_drewN | apply Kd.R_drew)); exact HO192.out) (Kd.R_base ho0) hb); have n2_ := aMk (Kd.R_below (by (with_reducible repeat (first | apply Kd.R_alloc | apply Kd.R_drewN | apply Kd.R_drew)); exact HO195.out) hb); have n3_ := aMk (Kd.R_lower (Kd.R_new' ho0 (Kd.R_lt (by (with_reducible repeat (first | apply Kd.R_alloc | apply Kd.R_drewN | apply Kd.R_drew)); exact HO192.out))) (below_size (by repeat (first | (with_reducible first | exact HB.out | apply bAl | apply bDn | apply bD1) | exact HB.out)))); have n4_ := aMk (below_step (by repeat (first | (with_reducible first | exact HB.out | apply bAl | apply bDn | apply bD1) | exact HB.out)) hb); clear HO189; clear HO192; clear HO195; clear HB; have HO189 := n0_; have HO192 := n1_; have HO195 := n2_; have HO198 := n3_; have HB := n4_; clear n0_ n1_ n2_ n3_ n4_; (try clear hb); (try clear hb2); (try clear hk); (try clear hi); (try clear ho0); obtain ⟨Ao22, co22, eo22⟩ := Kd.R_slice HO198.out; subst eo22; obtain ⟨Ao23, co23, eo23⟩ := Kd.R_slice HO192.out; subst eo23) | ((with_reducible refine gate_callee (f := 15) rfl ?_); refine goesL_ (some 29) rfl rfl Try.func15 (by kernel_rfl) rfl #[.slice Ao22 t196.length co22, .slice Ao23 t190.length co23] rfl (by (try simp only [List.map_toArray, List.map_cons, List.map_nil]); first | done | rfl | (simp only [List.length_drop, List.length_take]; rfl)) ?_; (with_reducible refine (laws_eqIntS.calls k _ _ t196 _ _ t190 true _ ?side1 ?side2 ?side3 ?side4 A9.out).mono ?_); (case side1 => repeat (first | exact (Kd.R_reads' HO198.out).2.2 | (with_reducible refine Kd.C_alloc ?_ _) | (with_reducible refine Kd.C_drewN ?_ _) | (with_reducible refine Kd.C_drew ?_))); (case side2 => exact (Kd.R_reads' HO198.out).2.1); (case side3 => repeat (first | exact (Kd.R_reads' HO192.out).2.2 | (with_reducible refine Kd.C_alloc ?_ _) | (with_reducible refine Kd.C_drewN ?_ _) | (with_reducible refine Kd.C_drew ?_))); (case side4 => exact (Kd.R_reads' HO192.out).2.1); rintro e w' ⟨rfl, ⟨nd, rfl⟩⟩; refine ⟨_, rfl, ?_⟩) | ((with_reducible refine gate_callee (f := 33) rfl ?_); refine goesL_ (some 33) rfl rfl Try.func33 (by kernel_rfl) rfl #[.slice A0 l0.length c0] rfl (by (try simp only [List.map_toArray, List.map_cons, List.map_nil]); first | done | rfl | (simp only [List.length_drop, List.length_take]; rfl)) ?_; (with_reducible refine (laws_toFlexItemS.calls k _ _ l0 t200 _ ?side1 ?side2 A11.out).mono ?_); (case side1 => repeat (first | exact (Kd.C_below HR0.out (by repeat (first | (with_reducible first | exact HB.out | apply bAl | apply bDn | apply bD1) | exact HB.out))) | (with_reducible refine Kd.C_alloc ?_ _) | (with_reducible refine Kd.C_drewN ?_ _) | (with_reducible refine Kd.C_drew ?_))); (case side2 => exact HC0.out); rintro e w24 ⟨v201, rfl, ho0, hb⟩; refine ⟨_, rfl, ?_⟩; have n0_ := aMk (Kd.R_elder' (by (with_reducible repeat (first | apply Kd.R_alloc | apply Kd.R_drewN | apply Kd.R_drew)); exact HO189.out) (Kd.R_base ho0) hb); have n1_ := aMk (Kd.R_below (by (with_reducible repeat (first | apply Kd.R_alloc | apply Kd.R_drewN | apply Kd.R_drew)); exact HO192.out) hb); have n2_ := aMk (Kd.R_elder' (by (with_reducible repeat (first | apply Kd.R_alloc | apply Kd.R_drewN | apply Kd.R_drew)); exact HO195.out) (Kd.R_base ho0) hb); have n3_ := aMk (Kd.R_below (by (with_reducible repeat (first | apply Kd.R_alloc | apply Kd.R_drewN | apply Kd.R_drew)); exact HO198.out) hb); have n4_ := aMk (Kd.R_lower (Kd.R_new' (Kd.R_new' ho0 (Kd.R_lt (by (with_reducible repeat (first | apply Kd.R_alloc | apply Kd.R_drewN | apply Kd.R_drew)); exact HO189.out))) (Kd.R_lt (by (with_reducible repeat (first | apply Kd.R_alloc | apply Kd.R_drewN | apply Kd.R_drew)); exact HO195.out))) (below_size (by repeat (first | (with_reducible first | exact HB.out | apply bAl | apply bDn | apply bD1) | exact HB.out)))); have n5_ := aMk (below_step (by repeat (first | (with_reducible first | exact HB.out | apply bAl | apply bDn | apply bD1) | exact HB.out)) hb); clear HO189; clear HO192; clear HO195; clear HO198; clear HB; have HO189 := n0_; have HO192 := n1_; have HO195 := n2_; have HO198 := n3_; have HO202 := n4_; have HB := n5_; clear n0_ n1_ n2_ n3_ n4_ n5_; (try clear hb); (try clear hb2); (try clear hk); (try clear hi); (try clear ho0); obtain ⟨Ao25, co25, eo25⟩ := Kd.R_slice HO202.out; subst eo25) | ((with_reducible refine gate_callee (f := 35) rfl ?_); refine goesL_ (some 34) rfl rfl Try.func35 (by kernel_rfl) rfl #[.slice Ao20 t193.length co20, .slice Ao25 t200.length co25] rfl (by (try simp only [List.map_toArray, List.map_cons, List.map_nil]); first | done | rfl | (simp only [List.length_drop, List.length_take]; rfl)) ?_; (with_reducible refine (laws_eqFlexItemS.calls k _ _ t193 _ _ t200 true _ ?side1 ?side2 ?side3 ?side4 A12.out).mono ?_); (case side1 => repeat (first | exact (Kd.R_reads' HO195.out).2.2 | (with_reducible refine Kd.C_alloc ?_ _) | (with_reducible refine Kd.C_drewN ?_ _) | (with_reducible refine Kd.C_drew ?_))); (case side2 => exact (Kd.R_reads' HO195.out).2.1); (case side3 => repeat (first | exact (Kd.R_reads' HO202.out).2.2 | (with_reducible refine Kd.C_alloc ?_ _) | (with_reducible refine Kd.C_drewN ?_ _) | (with_reducible refine Kd.C_drew ?_))); (case side4 => exact (Kd.R_reads' HO202.out).2.1); rintro e w26 ⟨rfl, hb⟩; refine ⟨_, rfl, ?_⟩; have n0_ := aMk (Kd.R_below (by (with_reducible repeat (first | apply Kd.R_alloc | apply Kd.R_drewN | apply Kd.R_drew)); exact HO189.out) hb); have n1_ := aMk (Kd.R_below (by (with_reducible repeat (first | apply Kd.R_alloc | apply Kd.R_drewN | apply Kd.R_drew)); exact HO192.out) hb); have n2_ := aMk (Kd.R_below (by (with_reducible repeat (first | apply Kd.R_alloc | apply Kd.R_drewN | apply Kd.R_drew)); exact HO195.out) hb); have n3_ := aMk (Kd.R_below (by (with_reducible repeat (first | apply Kd.R_alloc | apply Kd.R_drewN | apply Kd.R_drew)); exact HO198.out) hb); have n4_ := aMk (Kd.R_below (by (with_reducible repeat (first | apply Kd.R_alloc | apply Kd.R_drewN | apply Kd.R_drew)); exact HO202.out) hb); have n5_ := aMk (below_step (by repeat (first | (with_reducible first | exact HB.out | apply bAl | apply bDn | apply bD1) | exact HB.out)) hb); clear HO189; clear HO192; clear HO195; clear HO198; clear HO202; clear HB; have HO189 := n0_; have HO192 := n1_; have HO195 := n2_; have HO198 := n3_; have HO202 := n4_; have HB := n5_; clear n0_ n1_ n2_ n3_ n4_ n5_; (try clear hb); (try clear hb2); (try clear hk); (try clear hi)) | ((with_reducible refine gate_callee (f := 36) rfl ?_); refine goesL_ (some 38) rfl rfl Try.func36 (by kernel_rfl) rfl #[.slice Ao20 t193.length co20, .int .i64 1] rfl (by (try simp only [List.map_toArray, List.map_cons, List.map_nil]); first | done | rfl | (simp only [List.length_drop, List.length_take]; rfl)) ?_; (with_reducible refine (laws_markFlexItemS.calls k (fun k_ => some k_ = (.slice Ao20 t193.length co20 : Value).ownBlock) (.slice Ao20 t193.length co20) t193 1 t204 t205 w _ ?side1 ?side2 A14.out).mono ?_); (case side1 => repeat (first | (with_reducible first | exact HB.out | apply bAl | apply bDn | apply bD1) | exact HB.out)); (case side2 => exact Kd.R_tight rfl HO195.out); rintro e w27 ⟨rfl, hy0, hb, hkp⟩; refine ⟨_, rfl, ?_⟩; have n0_ := aMk (Kd.R_mono (ok' := fun k_ => some k_ ≠ (.slice Ao20 t193.length co20 : Value).ownBlock ∧ some k_ ≠ (.slice Ao25 t200.length co25 : Value).ownBlock) (Kd.R_keptB (HO189.out) hkp (fun k_ hk_ hs_ => (hk_.1.2) hs_)) (fun k_ hk_ => ⟨hk_.1.1.2, hk_.1.2⟩)); have n1_ := aMk (Kd.R_mono (ok' := fun k_ => some k_ ≠ (.slice Ao22 t196.length co22 : Value).ownBlock) (Kd.R_keptB ((Kd.R_apart' HO192.out (Kd.R_typed HO195.out) (by decide))) hkp (fun k_ hk_ hs_ => (hk_.2) hs_)) (fun k_ hk_ => hk_.1.1.2)); have n2_ := aMk (Kd.R_reok rfl hy0 (fun k_ e_ => HO195.out.1 k_ e_)); have n3_ := aMk (Kd.R_mono (ok' := fun k_ => some k_ ≠ (.slice Ao23 t190.length co23 : Value).ownBlock) (Kd.R_keptB ((Kd.R_apart' HO198.out (Kd.R_typed HO195.out) (by decide))) hkp (fun k_ hk_ hs_ => (hk_.2) hs_)) (fun k_ hk_ => hk_.1.1.2)); have n4_ := aMk (Kd.R_mono (ok' := fun k_ => some k_ ≠ (.slice Ao17 t187.length co17 : Value).ownBlock ∧ some k_ ≠ (.slice Ao20 t193.length co20 : Value).ownBlock) (Kd.R_keptB (HO202.out) hkp (fun k_ hk_ hs_ => (hk_.2) hs_)) (fun k_ hk_ => ⟨hk_.1.1.2, hk_.1.2⟩)); have n5_ := aMk (hb); clear HO189; clear HO192; clear HO195; clear HO198; clear HO202; clear HB; have HO189 := n0_; have HO192 := n1_; have HO195 := n2_; have HO198 := n3_; have HO202 := n4_; have HB := n5_; clear n0_ n1_ n2_ n3_ n4_ n5_; (try clear hb); (try clear hkp); (try clear hy0)))
       (try simp only [Act.put, lSa, lSz, lSs])
       go_cut [46] (fun v46 wc => ∃ (kq : Nat) (x46_14 : Bool), v46 = .bool x46_14 ∧ Aside0 (laws_FnExactFlexShares.j0 kq l0 a1 t190 t196 x46_14 = some r) ∧ Aside0 (kq ≤ k) ∧ Aside0 (Kd.R (Kd.int .i64) 3 wc w.heap.size (fun k_ => some k_ ≠ ((.slice Ao22 t196.length co22) : Value).ownBlock) (.slice Ao23 t190.length co23) t190) ∧ Aside0 (Kd.R (Kd.int .i64) 3 wc w.heap.size (fun k_ => some k_ ≠ ((.slice Ao23 t190.length co23) : Value).ownBlock) (.slice Ao22 t196.length co22) t196) ∧ Aside0 (Below w.heap.size w wc))
       case first =>
        have H := HC15.out
        clear HC15
        by_cases c28 : t204 < 0
        · rw [if_pos c28] at H
          have c28b0 : decide (t204 < 0) = true := decide_eq_true c28
          clear c28
          (first | rw [c28b0] | (simp only [i64_w, i32_w]; rw [c28b0]) | skip)
          have H' := aMk H
          clear H
          go_wp2
          go_meet
          case rel => exact ⟨_, (true), (by first | rfl | (simp; done) | (simp [*]; done)), H', ⟨by first | omega | exact Nat.le_refl _⟩, ⟨by (with_reducible repeat (first | apply Kd.R_alloc | apply Kd.R_drewN | apply Kd.R_drew)); exact HO192.out⟩, ⟨by (with_reducible repeat (first | apply Kd.R_alloc | apply Kd.R_drewN | apply Kd.R_drew)); exact HO198.out⟩, ⟨by repeat (first | (with_reducible first | exact HB.out | apply bAl | apply bDn | apply bD1) | exact HB.out)⟩⟩
        · rw [if_neg c28] at H
          have c28b0 : decide (t204 < 0) = false := decide_eq_false c28
          clear c28
          (first | rw [c28b0] | (simp only [i64_w, i32_w]; rw [c28b0]) | skip)
          replace H := oBm H
          obtain ⟨t206, A290, H⟩ := H
          replace H : (laws_FnExactFlexShares.j0 k l0 a1 t190 t196 (!t206)) = some r := H
          have A29 := aMk A290
          clear A290
          have H' := aMk H
          clear H
          go_wp2_with (first | (go_at_call 15; (with_reducible refine (laws_eqIntS.calls k _ _ t196 _ _ t190 t206 _ ?side1 ?side2 ?side3 ?side4 A29.out).mono ?_); (case side1 => repeat (first | exact (Kd.R_reads' HO198.out).2.2 | (with_reducible refine Kd.C_alloc ?_ _) | (with_reducible refine Kd.C_drewN ?_ _) | (with_reducible refine Kd.C_drew ?_))); (case side2 => exact (Kd.R_reads' HO198.out).2.1); (case side3 => repeat (first | exact (Kd.R_reads' HO192.out).2.2 | (with_reducible refine Kd.C_alloc ?_ _) | (with_reducible refine Kd.C_drewN ?_ _) | (with_reducible refine Kd.C_drew ?_))); (case side4 => exact (Kd.R_reads' HO192.out).2.1); rintro e w' ⟨rfl, ⟨nd, rfl⟩⟩))
          go_meet
          case rel => exact ⟨_, (!t206), (by first | rfl | (simp; done) | (simp [*]; done)), H', ⟨by first | omega | exact Nat.le_refl _⟩, ⟨by (with_reducible repeat (first | apply Kd.R_alloc | apply Kd.R_drewN | apply Kd.R_drew)); exact HO192.out⟩, ⟨by (with_reducible repeat (first | apply Kd.R_alloc | apply Kd.R_drewN | apply Kd.R_drew)); exact HO198.out⟩, ⟨by repeat (first | (with_reducible first | exact HB.out | apply bAl | apply bDn | apply bD1) | exact HB.out)⟩⟩
       case rest =>
        clear HC15
        try clear c1
        try clear c2
        try clear p2
        try clear c3
        try clear c4
        try clear c4b0
        try clear c7
        try clear c10
        try clear c13
        try clear c15
        try clear c28
        try clear c28b0
        obtain ⟨kq, x46_14, rfl, HA, HJ14, HO_6, HO_8, HB⟩ := hcut
        cases kq with
        | zero => exact absurd HA.out (by simp [laws_FnExactFlexShares.j0])
        | succ kj14 =>
         have H := HA.out
         clear HA
         simp only [laws_FnExactFlexShares.j0] at H
         by_cases c30 : x46_14 = true
         · subst c30
           have H1 : (some false) = some r := by rw [if_pos rfl] at H; exact H
           clear H
           have H := H1
           clear H1
           obtain rfl := Option.some.inj H
           go_wp2
           go_ret
           exact ⟨by first | rfl | (simp [errW_none, errW_some] <;> rfl) | (simp [*, errW_none, errW_some] <;> rfl), by repeat (first | (with_reducible first | exact HB.out | apply bAl | apply bDn | apply bD1) | exact HB.out)⟩
         · replace c30 := Bool.eq_false_iff.mpr c30
           subst c30
           have H1 : ((laws_markIntS.f kj14 t196 1).bind fun bt207 => ((laws_heldIntS.f kj14 bt207.2 1).bind fun t209 => (if t209 < 0 then (some false) else (if t209 = bt207.1 then ((laws_toFlexItemS.f kj14 l0).bind fun t210 => ((impl_FlexShares.f kj14 t210 a1).bind fun t213 => ((laws_eqIntS.f kj14 t213 t190).bind fun t216 => (if t216 = true then ((laws_heldIntS.f kj14 bt207.2 1).bind fun t217 => (if t217 < 0 then (some false) else (if t217 = bt207.1 then (some true) else (some false)))) else (some false))))) else (some false))))) = some r := by rw [if_neg (show ¬ (false = true) by decide)] at H; exact H
           clear H
           have H := H1
           clear H1
           replace H := oBm H
           obtain ⟨⟨t207, t208⟩, A310, H⟩ := H
           replace H : ((laws_heldIntS.f kj14 t208 1).bind fun t209 => (if t209 < 0 then (some false) else (if t209 = t207 then ((laws_toFlexItemS.f kj14 l0).bind fun t210 => ((impl_FlexShares.f kj14 t210 a1).bind fun t213 => ((laws_eqIntS.f kj14 t213 t190).bind fun t216 => (if t216 = true then ((laws_heldIntS.f kj14 t208 1).bind fun t217 => (if t217 < 0 then (some false) else (if t217 = t207 then (some true) else (some false)))) else (some false))))) else (some false)))) = some r := H
           have A31 := aMk A310
           clear A310
           replace H := oBm H
           obtain ⟨t209, A320, H⟩ := H
           replace H : (if t209 < 0 then (some false) else (if t209 = t207 then ((laws_toFlexItemS.f kj14 l0).bind fun t210 => ((impl_FlexShares.f kj14 t210 a1).bind fun t213 => ((laws_eqIntS.f kj14 t213 t190).bind fun t216 => (if t216 = true then ((laws_heldIntS.f kj14 t208 1).bind fun t217 => (if t217 < 0 then (some false) else (if t217 = t207 then (some true) else (some false)))) else (some false))))) else (some false))) = some r := H
           have A32 := aMk A320
           clear A320
           by_cases c33 : t209 < 0
           · rw [if_pos c33] at H
             have c33b0 : decide (t209 < 0) = true := decide_eq_true c33
             clear c33
             obtain rfl := Option.some.inj H
             go_wp2_with (first | ((with_reducible refine gate_callee (f := 16) rfl ?_); refine goesL_ (some 49) rfl rfl Try.func16 (by kernel_rfl) rfl #[.slice Ao22 t196.length co22, .int .i64 1] rfl (by (try simp only [List.map_toArray, List.map_cons, List.map_nil]); first | done | rfl | (simp only [List.length_drop, List.length_take]; rfl)) ?_; (with_reducible refine (laws_markIntS.calls kj14 (fun k_ => some k_ = (.slice Ao22 t196.length co22 : Value).ownBlock) (.slice Ao22 t196.length co22) t196 1 t207 t208 w _ ?side1 ?side2 A31.out).mono ?_); (case side1 => repeat (first | (with_reducible first | exact HB.out | apply bAl | apply bDn | apply bD1) | exact HB.out)); (case side2 => exact Kd.R_tight rfl HO_8.out); rintro e w34 ⟨rfl, hy0, hb, hkp⟩; refine ⟨_, rfl, ?_⟩; have n0_ := aMk (Kd.R_mono (ok' := fun k_ => some k_ ≠ (.slice Ao22 t196.length co22 : Value).ownBlock) (Kd.R_keptB (HO_6.out) hkp (fun k_ hk_ hs_ => (hk_) hs_)) (fun k_ hk_ => hk_.1)); have n1_ := aMk (Kd.R_reok rfl hy0 (fun k_ e_ => HO_8.out.1 k_ e_)); have n2_ := aMk (hb); clear HO_6; clear HO_8; clear HB; have HO_6 := n0_; have HO_8 := n1_; have HB := n2_; clear n0_ n1_ n2_; (try clear hb); (try clear hkp); (try clear hy0)) | ((with_reducible refine gate_callee (f := 17) rfl ?_); refine goesL_ (some 52) rfl rfl Try.func17 (by kernel_rfl) rfl #[.slice Ao22 t208.length co22, .int .i64 1] rfl (by (try simp only [List.map_toArray, List.map_cons, List.map_nil]); first | done | (rw [show t208.length = t196.length from (Kd.R_reads' HO_8.out).1.symm] <;> rfl) | rfl | (simp only [List.length_drop, List.length_take]; rfl)) ?_; (with_reducible refine (laws_heldIntS.calls kj14 _ _ t208 1 t209 _ ?side1 ?side2 A32.out).mono ?_); (case side1 => repeat (first | exact (Kd.R_reads' HO_8.out).2.2 | (with_reducible refine Kd.C_alloc ?_ _) | (with_reducible refine Kd.C_drewN ?_ _) | (with_reducible refine Kd.C_drew ?_))); (case side2 => rw [show t208.length = t196.length from (Kd.R_reads' HO_8.out).1.symm]; exact (Kd.R_reads' HO_8.out).2.1); rintro e w' ⟨rfl, ⟨nd, rfl⟩⟩; refine ⟨_, rfl, ?_⟩))
             go_ret
             exact ⟨by first | rfl | (simp [errW_none, errW_some] <;> rfl) | (simp [*, errW_none, errW_some] <;> rfl), by repeat (first | (with_reducible first | exact HB.out | apply bAl | apply bDn | apply bD1) | exact HB.out)⟩
           · rw [if_neg c33] at H
             have c33b0 : decide (t209 < 0) = false := decide_eq_false c33
             clear c33
             by_cases c35 : t209 = t207
             · rw [if_pos c35] at H
               have c35b0 : (t209 == t207) = true := beq_iff_eq.mpr c35
               have c35b1 : (t209 != t207) = false := bne_eq_false_iff_eq.mpr c35
               clear c35
               replace H := oBm H
               obtain ⟨t210, A360, H⟩ := H
               replace H : ((impl_FlexShares.f kj14 t210 a1).bind fun t213 => ((laws_eqIntS.f kj14 t213 t190).bind fun t216 => (if t216 = true then ((laws_heldIntS.f kj14 t208 1).bind fun t217 => (if t217 < 0 then (some false) else (if t217 = t207 then (some true) else (some false)))) else (some false)))) = some r := H
               have A36 := aMk A360
               clear A360
               replace H := oBm H
               obtain ⟨t213, A370, H⟩ := H
               replace H : ((laws_eqIntS.f kj14 t213 t190).bind fun t216 => (if t216 = true then ((laws_heldIntS.f kj14 t208 1).bind fun t217 => (if t217 < 0 then (some false) else (if t217 = t207 then (some true) else (some false)))) else (some false))) = some r := H
               have A37 := aMk A370
               clear A370
               replace H := oBm H
               obtain ⟨t216, A380, H⟩ := H
               replace H : (if t216 = true then ((laws_heldIntS.f kj14 t208 1).bind fun t217 => (if t217 < 0 then (some false) else (if t217 = t207 then (some true) else (some false)))) else (some false)) = some r := H
               have A38 := aMk A380
               clear A380
               by_cases c39 : t216 = true
               · subst c39
                 have H1 : ((laws_heldIntS.f kj14 t208 1).bind fun t217 => (if t217 < 0 then (some false) else (if t217 = t207 then (some true) else (some false)))) = some r := by rw [if_pos rfl] at H; exact H
                 clear H
                 have H := H1
                 clear H1
                 replace H := oBm H
                 obtain ⟨t217, A400, H⟩ := H
                 replace H : (if t217 < 0 then (some false) else (if t217 = t207 then (some true) else (some false))) = some r := H
                 have A40 := aMk A400
                 clear A400
                 by_cases c41 : t217 < 0
                 · rw [if_pos c41] at H
                   have c41b0 : decide (t217 < 0) = true := decide_eq_true c41
                   clear c41
                   obtain rfl := Option.some.inj H
                   go_wp2_with (first | ((with_reducible refine gate_callee (f := 16) rfl ?_); refine goesL_ (some 49) rfl rfl Try.func16 (by kernel_rfl) rfl #[.slice Ao22 t196.length co22, .int .i64 1] rfl (by (try simp only [List.map_toArray, List.map_cons, List.map_nil]); first | done | rfl | (simp only [List.length_drop, List.length_take]; rfl)) ?_; (with_reducible refine (laws_markIntS.calls kj14 (fun k_ => some k_ = (.slice Ao22 t196.length co22 : Value).ownBlock) (.slice Ao22 t196.length co22) t196 1 t207 t208 w _ ?side1 ?side2 A31.out).mono ?_); (case side1 => repeat (first | (with_reducible first | exact HB.out | apply bAl | apply bDn | apply bD1) | exact HB.out)); (case side2 => exact Kd.R_tight rfl HO_8.out); rintro e w42 ⟨rfl, hy0, hb, hkp⟩; refine ⟨_, rfl, ?_⟩; have n0_ := aMk (Kd.R_mono (ok' := fun k_ => some k_ ≠ (.slice Ao22 t196.length co22 : Value).ownBlock) (Kd.R_keptB (HO_6.out) hkp (fun k_ hk_ hs_ => (hk_) hs_)) (fun k_ hk_ => hk_.1)); have n1_ := aMk (Kd.R_reok rfl hy0 (fun k_ e_ => HO_8.out.1 k_ e_)); have n2_ := aMk (hb); clear HO_6; clear HO_8; clear HB; have HO_6 := n0_; have HO_8 := n1_; have HB := n2_; clear n0_ n1_ n2_; (try clear hb); (try clear hkp); (try clear hy0)) | ((with_reducible refine gate_callee (f := 17) rfl ?_); refine goesL_ (some 52) rfl rfl Try.func17 (by kernel_rfl) rfl #[.slice Ao22 t208.length co22, .int .i64 1] rfl (by (try simp only [List.map_toArray, List.map_cons, List.map_nil]); first | done | (rw [show t208.length = t196.length from (Kd.R_reads' HO_8.out).1.symm] <;> rfl) | rfl | (simp only [List.length_drop, List.length_take]; rfl)) ?_; (with_reducible refine (laws_heldIntS.calls kj14 _ _ t208 1 t209 _ ?side1 ?side2 A32.out).mono ?_); (case side1 => repeat (first | exact (Kd.R_reads' HO_8.out).2.2 | (with_reducible refine Kd.C_alloc ?_ _) | (with_reducible refine Kd.C_drewN ?_ _) | (with_reducible refine Kd.C_drew ?_))); (case side2 => rw [show t208.length = t196.length from (Kd.R_reads' HO_8.out).1.symm]; exact (Kd.R_reads' HO_8.out).2.1); rintro e w' ⟨rfl, ⟨nd, rfl⟩⟩; refine ⟨_, rfl, ?_⟩) | ((with_reducible refine gate_callee (f := 33) rfl ?_); refine goesL_ (some 59) rfl rfl Try.func33 (by kernel_rfl) rfl #[.slice A0 l0.length c0] rfl (by (try simp only [List.map_toArray, List.map_cons, List.map_nil]); first | done | rfl | (simp only [List.length_drop, List.length_take]; rfl)) ?_; (with_reducible refine (laws_toFlexItemS.calls kj14 _ _ l0 t210 _ ?side1 ?side2 A36.out).mono ?_); (case side1 => repeat (first | exact (Kd.C_below HR0.out (by repeat (first | (with_reducible first | exact HB.out | apply bAl | apply bDn | apply bD1) | exact HB.out))) | (with_reducible refine Kd.C_alloc ?_ _) | (with_reducible refine Kd.C_drewN ?_ _) | (with_reducible refine Kd.C_drew ?_))); (case side2 => exact HC0.out); rintro e w43 ⟨v211, rfl, ho0, hb⟩; refine ⟨_, rfl, ?_⟩; have n0_ := aMk (Kd.R_below (by (with_reducible repeat (first | apply Kd.R_alloc | apply Kd.R_drewN | apply Kd.R_drew)); exact HO_6.out) hb); have n1_ := aMk (Kd.R_below (by (with_reducible repeat (first | apply Kd.R_alloc | apply Kd.R_drewN | apply Kd.R_drew)); exact HO_8.out) hb); have n2_ := aMk (Kd.R_lower ho0 (below_size (by repeat (first | (with_reducible first | exact HB.out | apply bAl | apply bDn | apply bD1) | exact HB.out)))); have n3_ := aMk (below_step (by repeat (first | (with_reducible first | exact HB.out | apply bAl | apply bDn | apply bD1) | exact HB.out)) hb); clear HO_6; clear HO_8; clear HB; have HO_6 := n0_; have HO_8 := n1_; have HO212 := n2_; have HB := n3_; clear n0_ n1_ n2_ n3_; (try clear hb); (try clear hb2); (try clear hk); (try clear hi); (try clear ho0); obtain ⟨Ao44, co44, eo44⟩ := Kd.R_slice HO212.out; subst eo44) | ((with_reducible refine gate_callee (f := 34) rfl ?_); refine goesL_ (some 61) rfl rfl Try.func34 (by kernel_rfl) rfl #[.slice Ao44 t210.length co44, .int .i64 a1] rfl (by (try simp only [List.map_toArray, List.map_cons, List.map_nil]); first | done | rfl | (simp only [List.length_drop, List.length_take]; rfl)) ?_; (with_reducible refine (impl_FlexShares.calls kj14 _ _ t210 a1 t213 _ ?side1 ?side2 A37.out).mono ?_); (case side1 => repeat (first | exact (Kd.R_reads' HO212.out).2.2 | (with_reducible refine Kd.C_alloc ?_ _) | (with_reducible refine Kd.C_drewN ?_ _) | (with_reducible refine Kd.C_drew ?_))); (case side2 => exact (Kd.R_reads' HO212.out).2.1); rintro e w45 ⟨v214, rfl, ho0, hb⟩; refine ⟨_, rfl, ?_⟩; have n0_ := aMk (Kd.R_elder' (by (with_reducible repeat (first | apply Kd.R_alloc | apply Kd.R_drewN | apply Kd.R_drew)); exact HO_6.out) (Kd.R_base ho0) hb); have n1_ := aMk (Kd.R_elder' (by (with_reducible repeat (first | apply Kd.R_alloc | apply Kd.R_drewN | apply Kd.R_drew)); exact HO_8.out) (Kd.R_base ho0) hb); have n2_ := aMk (Kd.R_below (by (with_reducible repeat (first | apply Kd.R_alloc | apply Kd.R_drewN | apply Kd.R_drew)); exact HO212.out) hb); have n3_ := aMk (Kd.R_lower (Kd.R_new' (Kd.R_new' ho0 (Kd.R_lt (by (with_reducible repeat (first | apply Kd.R_alloc | apply Kd.R_drewN | apply Kd.R_drew)); exact HO_6.out))) (Kd.R_lt (by (with_reducible repeat (first | apply Kd.R_alloc | apply Kd.R_drewN | apply Kd.R_drew)); exact HO_8.out))) (below_size (by repeat (first | (with_reducible first | exact HB.out | apply bAl | apply bDn | apply bD1) | exact HB.out)))); have n4_ := aMk (below_step (by repeat (first | (with_reducible first | exact HB.out | apply bAl | apply bDn | apply bD1) | exact HB.out)) hb); clear HO_6; clear HO_8; clear HO212; clear HB; have HO_6 := n0_; have HO_8 := n1_; have HO212 := n2_; have HO215 := n3_; have HB := n4_; clear n0_ n1_ n2_ n3_ n4_; (try clear hb); (try clear hb2); (try clear hk); (try clear hi); (try clear ho0); obtain ⟨Ao46, co46, eo46⟩ := Kd.R_slice HO215.out; subst eo46) | ((with_reducible refine gate_callee (f := 15) rfl ?_); refine goesL_ (some 64) rfl rfl Try.func15 (by kernel_rfl) rfl #[.slice Ao46 t213.length co46, .slice Ao23 t190.length co23] rfl (by (try simp only [List.map_toArray, List.map_cons, List.map_nil]); first | done | rfl | (simp only [List.length_drop, List.length_take]; rfl)) ?_; (with_reducible refine (laws_eqIntS.calls kj14 _ _ t213 _ _ t190 true _ ?side1 ?side2 ?side3 ?side4 A38.out).mono ?_); (case side1 => repeat (first | exact (Kd.R_reads' HO215.out).2.2 | (with_reducible refine Kd.C_alloc ?_ _) | (with_reducible refine Kd.C_drewN ?_ _) | (with_reducible refine Kd.C_drew ?_))); (case side2 => exact (Kd.R_reads' HO215.out).2.1); (case side3 => repeat (first | exact (Kd.R_reads' HO_6.out).2.2 | (with_reducible refine Kd.C_alloc ?_ _) | (with_reducible refine Kd.C_drewN ?_ _) | (with_reducible refine Kd.C_drew ?_))); (case side4 => exact (Kd.R_reads' HO_6.out).2.1); rintro e w' ⟨rfl, ⟨nd, rfl⟩⟩; refine ⟨_, rfl, ?_⟩) | ((with_reducible refine gate_callee (f := 17) rfl ?_); refine goesL_ (some 68) rfl rfl Try.func17 (by kernel_rfl) rfl #[.slice Ao22 t208.length co22, .int .i64 1] rfl (by (try simp only [List.map_toArray, List.map_cons, List.map_nil]); first | done | (rw [show t208.length = t196.length from (Kd.R_reads' HO_8.out).1.symm] <;> rfl) | rfl | (simp only [List.length_drop, List.length_take]; rfl)) ?_; (with_reducible refine (laws_heldIntS.calls kj14 _ _ t208 1 t217 _ ?side1 ?side2 A40.out).mono ?_); (case side1 => repeat (first | exact (Kd.R_reads' HO_8.out).2.2 | (with_reducible refine Kd.C_alloc ?_ _) | (with_reducible refine Kd.C_drewN ?_ _) | (with_reducible refine Kd.C_drew ?_))); (case side2 => rw [show t208.length = t196.length from (Kd.R_reads' HO_8.out).1.symm]; exact (Kd.R_reads' HO_8.out).2.1); rintro e w' ⟨rfl, ⟨nd, rfl⟩⟩; refine ⟨_, rfl, ?_⟩))
                   go_ret
                   exact ⟨by first | rfl | (simp [errW_none, errW_some] <;> rfl) | (simp [*, errW_none, errW_some] <;> rfl), by repeat (first | (with_reducible first | exact HB.out | apply bAl | apply bDn | apply bD1) | exact HB.out)⟩
                 · rw [if_neg c41] at H
                   have c41b0 : decide (t217 < 0) = false := decide_eq_false c41
                   clear c41
                   by_cases c47 : t217 = t207
                   · rw [if_pos c47] at H
                     have c47b0 : (t217 == t207) = true := beq_iff_eq.mpr c47
                     have c47b1 : (t217 != t207) = false := bne_eq_false_iff_eq.mpr c47
                     clear c47
                     obtain rfl := Option.some.inj H
                     go_wp2_with (first | ((with_reducible refine gate_callee (f := 16) rfl ?_); refine goesL_ (some 49) rfl rfl Try.func16 (by kernel_rfl) rfl #[.slice Ao22 t196.length co22, .int .i64 1] rfl (by (try simp only [List.map_toArray, List.map_cons, List.map_nil]); first | done | rfl | (simp only [List.length_drop, List.length_take]; rfl)) ?_; (with_reducible refine (laws_markIntS.calls kj14 (fun k_ => some k_ = (.slice Ao22 t196.length co22 : Value).ownBlock) (.slice Ao22 t196.length co22) t196 1 t207 t208 w _ ?side1 ?side2 A31.out).mono ?_); (case side1 => repeat (first | (with_reducible first | exact HB.out | apply bAl | apply bDn | apply bD1) | exact HB.out)); (case side2 => exact Kd.R_tight rfl HO_8.out); rintro e w48 ⟨rfl, hy0, hb, hkp⟩; refine ⟨_, rfl, ?_⟩; have n0_ := aMk (Kd.R_mono (ok' := fun k_ => some k_ ≠ (.slice Ao22 t196.length co22 : Value).ownBlock) (Kd.R_keptB (HO_6.out) hkp (fun k_ hk_ hs_ => (hk_) hs_)) (fun k_ hk_ => hk_.1)); have n1_ := aMk (Kd.R_reok rfl hy0 (fun k_ e_ => HO_8.out.1 k_ e_)); have n2_ := aMk (hb); clear HO_6; clear HO_8; clear HB; have HO_6 := n0_; have HO_8 := n1_; have HB := n2_; clear n0_ n1_ n2_; (try clear hb); (try clear hkp); (try clear hy0)) | ((with_reducible refine gate_callee (f := 17) rfl ?_); refine goesL_ (some 52) rfl rfl Try.func17 (by kernel_rfl) rfl #[.slice Ao22 t208.length co22, .int .i64 1] rfl (by (try simp only [List.map_toArray, List.map_cons, List.map_nil]); first | done | (rw [show t208.length = t196.length from (Kd.R_reads' HO_8.out).1.symm] <;> rfl) | rfl | (simp only [List.length_drop, List.length_take]; rfl)) ?_; (with_reducible refine (laws_heldIntS.calls kj14 _ _ t208 1 t209 _ ?side1 ?side2 A32.out).mono ?_); (case side1 => repeat (first | exact (Kd.R_reads' HO_8.out).2.2 | (with_reducible refine Kd.C_alloc ?_ _) | (with_reducible refine Kd.C_drewN ?_ _) | (with_reducible refine Kd.C_drew ?_))); (case side2 => rw [show t208.length = t196.length from (Kd.R_reads' HO_8.out).1.symm]; exact (Kd.R_reads' HO_8.out).2.1); rintro e w' ⟨rfl, ⟨nd, rfl⟩⟩; refine ⟨_, rfl, ?_⟩) | ((with_reducible refine gate_callee (f := 33) rfl ?_); refine goesL_ (some 59) rfl rfl Try.func33 (by kernel_rfl) rfl #[.slice A0 l0.length c0] rfl (by (try simp only [List.map_toArray, List.map_cons, List.map_nil]); first | done | rfl | (simp only [List.length_drop, List.length_take]; rfl)) ?_; (with_reducible refine (laws_toFlexItemS.calls kj14 _ _ l0 t210 _ ?side1 ?side2 A36.out).mono ?_); (case side1 => repeat (first | exact (Kd.C_below HR0.out (by repeat (first | (with_reducible first | exact HB.out | apply bAl | apply bDn | apply bD1) | exact HB.out))) | (with_reducible refine Kd.C_alloc ?_ _) | (with_reducible refine Kd.C_drewN ?_ _) | (with_reducible refine Kd.C_drew ?_))); (case side2 => exact HC0.out); rintro e w49 ⟨v211, rfl, ho0, hb⟩; refine ⟨_, rfl, ?_⟩; have n0_ := aMk (Kd.R_below (by (with_reducible repeat (first | apply Kd.R_alloc | apply Kd.R_drewN | apply Kd.R_drew)); exact HO_6.out) hb); have n1_ := aMk (Kd.R_below (by (with_reducible repeat (first | apply Kd.R_alloc | apply Kd.R_drewN | apply Kd.R_drew)); exact HO_8.out) hb); have n2_ := aMk (Kd.R_lower ho0 (below_size (by repeat (first | (with_reducible first | exact HB.out | apply bAl | apply bDn | apply bD1) | exact HB.out)))); have n3_ := aMk (below_step (by repeat (first | (with_reducible first | exact HB.out | apply bAl | apply bDn | apply bD1) | exact HB.out)) hb); clear HO_6; clear HO_8; clear HB; have HO_6 := n0_; have HO_8 := n1_; have HO212 := n2_; have HB := n3_; clear n0_ n1_ n2_ n3_; (try clear hb); (try clear hb2); (try clear hk); (try clear hi); (try clear ho0); obtain ⟨Ao50, co50, eo50⟩ := Kd.R_slice HO212.out; subst eo50) | ((with_reducible refine gate_callee (f := 34) rfl ?_); refine goesL_ (some 61) rfl rfl Try.func34 (by kernel_rfl) rfl #[.slice Ao50 t210.length co50, .int .i64 a1] rfl (by (try simp only [List.map_toArray, List.map_cons, List.map_nil]); first | done | rfl | (simp only [List.length_drop, List.length_take]; rfl)) ?_; (with_reducible refine (impl_FlexShares.calls kj14 _ _ t210 a1 t213 _ ?side1 ?side2 A37.out).mono ?_); (case side1 => repeat (first | exact (Kd.R_reads' HO212.out).2.2 | (with_reducible refine Kd.C_alloc ?_ _) | (with_reducible refine Kd.C_drewN ?_ _) | (with_reducible refine Kd.C_drew ?_))); (case side2 => exact (Kd.R_reads' HO212.out).2.1); rintro e w51 ⟨v214, rfl, ho0, hb⟩; refine ⟨_, rfl, ?_⟩; have n0_ := aMk (Kd.R_elder' (by (with_reducible repeat (first | apply Kd.R_alloc | apply Kd.R_drewN | apply Kd.R_drew)); exact HO_6.out) (Kd.R_base ho0) hb); have n1_ := aMk (Kd.R_elder' (by (with_reducible repeat (first | apply Kd.R_alloc | apply Kd.R_drewN | apply Kd.R_drew)); exact HO_8.out) (Kd.R_base ho0) hb); have n2_ := aMk (Kd.R_below (by (with_reducible repeat (first | apply Kd.R_alloc | apply Kd.R_drewN | apply Kd.R_drew)); exact HO212.out) hb); have n3_ := aMk (Kd.R_lower (Kd.R_new' (Kd.R_new' ho0 (Kd.R_lt (by (with_reducible repeat (first | apply Kd.R_alloc | apply Kd.R_drewN | apply Kd.R_drew)); exact HO_6.out))) (Kd.R_lt (by (with_reducible repeat (first | apply Kd.R_alloc | apply Kd.R_drewN | apply Kd.R_drew)); exact HO_8.out))) (below_size (by repeat (first | (with_reducible first | exact HB.out | apply bAl | apply bDn | apply bD1) | exact HB.out)))); have n4_ := aMk (below_step (by repeat (first | (with_reducible first | exact HB.out | apply bAl | apply bDn | apply bD1) | exact HB.out)) hb); clear HO_6; clear HO_8; clear HO212; clear HB; have HO_6 := n0_; have HO_8 := n1_; have HO212 := n2_; have HO215 := n3_; have HB := n4_; clear n0_ n1_ n2_ n3_ n4_; (try clear hb); (try clear hb2); (try clear hk); (try clear hi); (try clear ho0); obtain ⟨Ao52, co52, eo52⟩ := Kd.R_slice HO215.out; subst eo52) | ((with_reducible refine gate_callee (f := 15) rfl ?_); refine goesL_ (some 64) rfl rfl Try.func15 (by kernel_rfl) rfl #[.slice Ao52 t213.length co52, .slice Ao23 t190.length co23] rfl (by (try simp only [List.map_toArray, List.map_cons, List.map_nil]); first | done | rfl | (simp only [List.length_drop, List.length_take]; rfl)) ?_; (with_reducible refine (laws_eqIntS.calls kj14 _ _ t213 _ _ t190 true _ ?side1 ?side2 ?side3 ?side4 A38.out).mono ?_); (case side1 => repeat (first | exact (Kd.R_reads' HO215.out).2.2 | (with_reducible refine Kd.C_alloc ?_ _) | (with_reducible refine Kd.C_drewN ?_ _) | (with_reducible refine Kd.C_drew ?_))); (case side2 => exact (Kd.R_reads' HO215.out).2.1); (case side3 => repeat (first | exact (Kd.R_reads' HO_6.out).2.2 | (with_reducible refine Kd.C_alloc ?_ _) | (with_reducible refine Kd.C_drewN ?_ _) | (with_reducible refine Kd.C_drew ?_))); (case side4 => exact (Kd.R_reads' HO_6.out).2.1); rintro e w' ⟨rfl, ⟨nd, rfl⟩⟩; refine ⟨_, rfl, ?_⟩) | ((with_reducible refine gate_callee (f := 17) rfl ?_); refine goesL_ (some 68) rfl rfl Try.func17 (by kernel_rfl) rfl #[.slice Ao22 t208.length co22, .int .i64 1] rfl (by (try simp only [List.map_toArray, List.map_cons, List.map_nil]); first | done | (rw [show t208.length = t196.length from (Kd.R_reads' HO_8.out).1.symm] <;> rfl) | rfl | (simp only [List.length_drop, List.length_take]; rfl)) ?_; (with_reducible refine (laws_heldIntS.calls kj14 _ _ t208 1 t217 _ ?side1 ?side2 A40.out).mono ?_); (case side1 => repeat (first | exact (Kd.R_reads' HO_8.out).2.2 | (with_reducible refine Kd.C_alloc ?_ _) | (with_reducible refine Kd.C_drewN ?_ _) | (with_reducible refine Kd.C_drew ?_))); (case side2 => rw [show t208.length = t196.length from (Kd.R_reads' HO_8.out).1.symm]; exact (Kd.R_reads' HO_8.out).2.1); rintro e w' ⟨rfl, ⟨nd, rfl⟩⟩; refine ⟨_, rfl, ?_⟩))
                     go_ret
                     exact ⟨by first | rfl | (simp [errW_none, errW_some] <;> rfl) | (simp [*, errW_none, errW_some] <;> rfl), by repeat (first | (with_reducible first | exact HB.out | apply bAl | apply bDn | apply bD1) | exact HB.out)⟩
                   · rw [if_neg c47] at H
                     have c47b0 : (t217 == t207) = false := beq_eq_false_iff_ne.mpr c47
                     have c47b1 : (t217 != t207) = true := bne_iff_ne.mpr c47
                     obtain rfl := Option.some.inj H
                     go_wp2_with (first | ((with_reducible refine gate_callee (f := 16) rfl ?_); refine goesL_ (some 49) rfl rfl Try.func16 (by kernel_rfl) rfl #[.slice Ao22 t196.length co22, .int .i64 1] rfl (by (try simp only [List.map_toArray, List.map_cons, List.map_nil]); first | done | rfl | (simp only [List.length_drop, List.length_take]; rfl)) ?_; (with_reducible refine (laws_markIntS.calls kj14 (fun k_ => some k_ = (.slice Ao22 t196.length co22 : Value).ownBlock) (.slice Ao22 t196.length co22) t196 1 t207 t208 w _ ?side1 ?side2 A31.out).mono ?_); (case side1 => repeat (first | (with_reducible first | exact HB.out | apply bAl | apply bDn | apply bD1) | exact HB.out)); (case side2 => exact Kd.R_tight rfl HO_8.out); rintro e w53 ⟨rfl, hy0, hb, hkp⟩; refine ⟨_, rfl, ?_⟩; have n0_ := aMk (Kd.R_mono (ok' := fun k_ => some k_ ≠ (.slice Ao22 t196.length co22 : Value).ownBlock) (Kd.R_keptB (HO_6.out) hkp (fun k_ hk_ hs_ => (hk_) hs_)) (fun k_ hk_ => hk_.1)); have n1_ := aMk (Kd.R_reok rfl hy0 (fun k_ e_ => HO_8.out.1 k_ e_)); have n2_ := aMk (hb); clear HO_6; clear HO_8; clear HB; have HO_6 := n0_; have HO_8 := n1_; have HB := n2_; clear n0_ n1_ n2_; (try clear hb); (try clear hkp); (try clear hy0)) | ((with_reducible refine gate_callee (f := 17) rfl ?_); refine goesL_ (some 52) rfl rfl Try.func17 (by kernel_rfl) rfl #[.slice Ao22 t208.length co22, .int .i64 1] rfl (by (try simp only [List.map_toArray, List.map_cons, List.map_nil]); first | done | (rw [show t208.length = t196.length from (Kd.R_reads' HO_8.out).1.symm] <;> rfl) | rfl | (simp only [List.length_drop, List.length_take]; rfl)) ?_; (with_reducible refine (laws_heldIntS.calls kj14 _ _ t208 1 t209 _ ?side1 ?side2 A32.out).mono ?_); (case side1 => repeat (first | exact (Kd.R_reads' HO_8.out).2.2 | (with_reducible refine Kd.C_alloc ?_ _) | (with_reducible refine Kd.C_drewN ?_ _) | (with_reducible refine Kd.C_drew ?_))); (case side2 => rw [show t208.length = t196.length from (Kd.R_reads' HO_8.out).1.symm]; exact (Kd.R_reads' HO_8.out).2.1); rintro e w' ⟨rfl, ⟨nd, rfl⟩⟩; refine ⟨_, rfl, ?_⟩) | ((with_reducible refine gate_callee (f := 33) rfl ?_); refine goesL_ (some 59) rfl rfl Try.func33 (by kernel_rfl) rfl #[.slice A0 l0.length c0] rfl (by (try simp only [List.map_toArray, List.map_cons, List.map_nil]); first | done | rfl | (simp only [List.length_drop, List.length_take]; rfl)) ?_; (with_reducible refine (laws_toFlexItemS.calls kj14 _ _ l0 t210 _ ?side1 ?side2 A36.out).mono ?_); (case side1 => repeat (first | exact (Kd.C_below HR0.out (by repeat (first | (with_reducible first | exact HB.out | apply bAl | apply bDn | apply bD1) | exact HB.out))) | (with_reducible refine Kd.C_alloc ?_ _) | (with_reducible refine Kd.C_drewN ?_ _) | (with_reducible refine Kd.C_drew ?_))); (case side2 => exact HC0.out); rintro e w54 ⟨v211, rfl, ho0, hb⟩; refine ⟨_, rfl, ?_⟩; have n0_ := aMk (Kd.R_below (by (with_reducible repeat (first | apply Kd.R_alloc | apply Kd.R_drewN | apply Kd.R_drew)); exact HO_6.out) hb); have n1_ := aMk (Kd.R_below (by (with_reducible repeat (first | apply Kd.R_alloc | apply Kd.R_drewN | apply Kd.R_drew)); exact HO_8.out) hb); have n2_ := aMk (Kd.R_lower ho0 (below_size (by repeat (first | (with_reducible first | exact HB.out | apply bAl | apply bDn | apply bD1) | exact HB.out)))); have n3_ := aMk (below_step (by repeat (first | (with_reducible first | exact HB.out | apply bAl | apply bDn | apply bD1) | exact HB.out)) hb); clear HO_6; clear HO_8; clear HB; have HO_6 := n0_; have HO_8 := n1_; have HO212 := n2_; have HB := n3_; clear n0_ n1_ n2_ n3_; (try clear hb); (try clear hb2); (try clear hk); (try clear hi); (try clear ho0); obtain ⟨Ao55, co55, eo55⟩ := Kd.R_slice HO212.out; subst eo55) | ((with_reducible refine gate_callee (f := 34) rfl ?_); refine goesL_ (some 61) rfl rfl Try.func34 (by kernel_rfl) rfl #[.slice Ao55 t210.length co55, .int .i64 a1] rfl (by (try simp only [List.map_toArray, List.map_cons, List.map_nil]); first | done | rfl | (simp only [List.length_drop, List.length_take]; rfl)) ?_; (with_reducible refine (impl_FlexShares.calls kj14 _ _ t210 a1 t213 _ ?side1 ?side2 A37.out).mono ?_); (case side1 => repeat (first | exact (Kd.R_reads' HO212.out).2.2 | (with_reducible refine Kd.C_alloc ?_ _) | (with_reducible refine Kd.C_drewN ?_ _) | (with_reducible refine Kd.C_drew ?_))); (case side2 => exact (Kd.R_reads' HO212.out).2.1); rintro e w56 ⟨v214, rfl, ho0, hb⟩; refine ⟨_, rfl, ?_⟩; have n0_ := aMk (Kd.R_elder' (by (with_reducible repeat (first | apply Kd.R_alloc | apply Kd.R_drewN | apply Kd.R_drew)); exact HO_6.out) (Kd.R_base ho0) hb); have n1_ := aMk (Kd.R_elder' (by (with_reducible repeat (first | apply Kd.R_alloc | apply Kd.R_drewN | apply Kd.R_drew)); exact HO_8.out) (Kd.R_base ho0) hb); have n2_ := aMk (Kd.R_below (by (with_reducible repeat (first | apply Kd.R_alloc | apply Kd.R_drewN | apply Kd.R_drew)); exact HO212.out) hb); have n3_ := aMk (Kd.R_lower (Kd.R_new' (Kd.R_new' ho0 (Kd.R_lt (by (with_reducible repeat (first | apply Kd.R_alloc | apply Kd.R_drewN | apply Kd.R_drew)); exact HO_6.out))) (Kd.R_lt (by (with_reducible repeat (first | apply Kd.R_alloc | apply Kd.R_drewN | apply Kd.R_drew)); exact HO_8.out))) (below_size (by repeat (first | (with_reducible first | exact HB.out | apply bAl | apply bDn | apply bD1) | exact HB.out)))); have n4_ := aMk (below_step (by repeat (first | (with_reducible first | exact HB.out | apply bAl | apply bDn | apply bD1) | exact HB.out)) hb); clear HO_6; clear HO_8; clear HO212; clear HB; have HO_6 := n0_; have HO_8 := n1_; have HO212 := n2_; have HO215 := n3_; have HB := n4_; clear n0_ n1_ n2_ n3_ n4_; (try clear hb); (try clear hb2); (try clear hk); (try clear hi); (try clear ho0); obtain ⟨Ao57, co57, eo57⟩ := Kd.R_slice HO215.out; subst eo57) | ((with_reducible refine gate_callee (f := 15) rfl ?_); refine goesL_ (some 64) rfl rfl Try.func15 (by kernel_rfl) rfl #[.slice Ao57 t213.length co57, .slice Ao23 t190.length co23] rfl (by (try simp only [List.map_toArray, List.map_cons, List.map_nil]); first | done | rfl | (simp only [List.length_drop, List.length_take]; rfl)) ?_; (with_reducible refine (laws_eqIntS.calls kj14 _ _ t213 _ _ t190 true _ ?side1 ?side2 ?side3 ?side4 A38.out).mono ?_); (case side1 => repeat (first | exact (Kd.R_reads' HO215.out).2.2 | (with_reducible refine Kd.C_alloc ?_ _) | (with_reducible refine Kd.C_drewN ?_ _) | (with_reducible refine Kd.C_drew ?_))); (case side2 => exact (Kd.R_reads' HO215.out).2.1); (case side3 => repeat (first | exact (Kd.R_reads' HO_6.out).2.2 | (with_reducible refine Kd.C_alloc ?_ _) | (with_reducible refine Kd.C_drewN ?_ _) | (with_reducible refine Kd.C_drew ?_))); (case side4 => exact (Kd.R_reads' HO_6.out).2.1); rintro e w' ⟨rfl, ⟨nd, rfl⟩⟩; refine ⟨_, rfl, ?_⟩) | ((with_reducible refine gate_callee (f := 17) rfl ?_); refine goesL_ (some 68) rfl rfl Try.func17 (by kernel_rfl) rfl #[.slice Ao22 t208.length co22, .int .i64 1] rfl (by (try simp only [List.map_toArray, List.map_cons, List.map_nil]); first | done | (rw [show t208.length = t196.length from (Kd.R_reads' HO_8.out).1.symm] <;> rfl) | rfl | (simp only [List.length_drop, List.length_take]; rfl)) ?_; (with_reducible refine (laws_heldIntS.calls kj14 _ _ t208 1 t217 _ ?side1 ?side2 A40.out).mono ?_); (case side1 => repeat (first | exact (Kd.R_reads' HO_8.out).2.2 | (with_reducible refine Kd.C_alloc ?_ _) | (with_reducible refine Kd.C_drewN ?_ _) | (with_reducible refine Kd.C_drew ?_))); (case side2 => rw [show t208.length = t196.length from (Kd.R_reads' HO_8.out).1.symm]; exact (Kd.R_reads' HO_8.out).2.1); rintro e w' ⟨rfl, ⟨nd, rfl⟩⟩; refine ⟨_, rfl, ?_⟩))
                     go_ret
                     exact ⟨by first | rfl | (simp [errW_none, errW_some] <;> rfl) | (simp [*, errW_none, errW_some] <;> rfl), by repeat (first | (with_reducible first | exact HB.out | apply bAl | apply bDn | apply bD1) | exact HB.out)⟩
               · replace c39 := Bool.eq_false_iff.mpr c39
                 subst c39
                 have H1 : (some false) = some r := by rw [if_neg (show ¬ (false = true) by decide)] at H; exact H
                 clear H
                 have H := H1
                 clear H1
                 obtain rfl := Option.some.inj H
                 go_wp2_with (first | ((with_reducible refine gate_callee (f := 16) rfl ?_); refine goesL_ (some 49) rfl rfl Try.func16 (by kernel_rfl) rfl #[.slice Ao22 t196.length co22, .int .i64 1] rfl (by (try simp only [List.map_toArray, List.map_cons, List.map_nil]); first | done | rfl | (simp only [List.length_drop, List.length_take]; rfl)) ?_; (with_reducible refine (laws_markIntS.calls kj14 (fun k_ => some k_ = (.slice Ao22 t196.length co22 : Value).ownBlock) (.slice Ao22 t196.length co22) t196 1 t207 t208 w _ ?side1 ?side2 A31.out).mono ?_); (case side1 => repeat (first | (with_reducible first | exact HB.out | apply bAl | apply bDn | apply bD1) | exact HB.out)); (case side2 => exact Kd.R_tight rfl HO_8.out); rintro e w58 ⟨rfl, hy0, hb, hkp⟩; refine ⟨_, rfl, ?_⟩; have n0_ := aMk (Kd.R_mono (ok' := fun k_ => some k_ ≠ (.slice Ao22 t196.length co22 : Value).ownBlock) (Kd.R_keptB (HO_6.out) hkp (fun k_ hk_ hs_ => (hk_) hs_)) (fun k_ hk_ => hk_.1)); have n1_ := aMk (Kd.R_reok rfl hy0 (fun k_ e_ => HO_8.out.1 k_ e_)); have n2_ := aMk (hb); clear HO_6; clear HO_8; clear HB; have HO_6 := n0_; have HO_8 := n1_; have HB := n2_; clear n0_ n1_ n2_; (try clear hb); (try clear hkp); (try clear hy0)) | ((with_reducible refine gate_callee (f := 17) rfl ?_); refine goesL_ (some 52) rfl rfl Try.func17 (by kernel_rfl) rfl #[.slice Ao22 t208.length co22, .int .i64 1] rfl (by (try simp only [List.map_toArray, List.map_cons, List.map_nil]); first | done | (rw [show t208.length = t196.length from (Kd.R_reads' HO_8.out).1.symm] <;> rfl) | rfl | (simp only [List.length_drop, List.length_take]; rfl)) ?_; (with_reducible refine (laws_heldIntS.calls kj14 _ _ t208 1 t209 _ ?side1 ?side2 A32.out).mono ?_); (case side1 => repeat (first | exact (Kd.R_reads' HO_8.out).2.2 | (with_reducible refine Kd.C_alloc ?_ _) | (with_reducible refine Kd.C_drewN ?_ _) | (with_reducible refine Kd.C_drew ?_))); (case side2 => rw [show t208.length = t196.length from (Kd.R_reads' HO_8.out).1.symm]; exact (Kd.R_reads' HO_8.out).2.1); rintro e w' ⟨rfl, ⟨nd, rfl⟩⟩; refine ⟨_, rfl, ?_⟩) | ((with_reducible refine gate_callee (f := 33) rfl ?_); refine goesL_ (some 59) rfl rfl Try.func33 (by kernel_rfl) rfl #[.slice A0 l0.length c0] rfl (by (try simp only [List.map_toArray, List.map_cons, List.map_nil]); first | done | rfl | (simp only [List.length_drop, List.length_take]; rfl)) ?_; (with_reducible refine (laws_toFlexItemS.calls kj14 _ _ l0 t210 _ ?side1 ?side2 A36.out).mono ?_); (case side1 => repeat (first | exact (Kd.C_below HR0.out (by repeat (first | (with_reducible first | exact HB.out | apply bAl | apply bDn | apply bD1) | exact HB.out))) | (with_reducible refine Kd.C_alloc ?_ _) | (with_reducible refine Kd.C_drewN ?_ _) | (with_reducible refine Kd.C_drew ?_))); (case side2 => exact HC0.out); rintro e w59 ⟨v211, rfl, ho0, hb⟩; refine ⟨_, rfl, ?_⟩; have n0_ := aMk (Kd.R_below (by (with_reducible repeat (first | apply Kd.R_alloc | apply Kd.R_drewN | apply Kd.R_drew)); exact HO_6.out) hb); have n1_ := aMk (Kd.R_below (by (with_reducible repeat (first | apply Kd.R_alloc | apply Kd.R_drewN | apply Kd.R_drew)); exact HO_8.out) hb); have n2_ := aMk (Kd.R_lower ho0 (below_size (by repeat (first | (with_reducible first | exact HB.out | apply bAl | apply bDn | apply bD1) | exact HB.out)))); have n3_ := aMk (below_step (by repeat (first | (with_reducible first | exact HB.out | apply bAl | apply bDn | apply bD1) | exact HB.out)) hb); clear HO_6; clear HO_8; clear HB; have HO_6 := n0_; have HO_8 := n1_; have HO212 := n2_; have HB := n3_; clear n0_ n1_ n2_ n3_; (try clear hb); (try clear hb2); (try clear hk); (try clear hi); (try clear ho0); obtain ⟨Ao60, co60, eo60⟩ := Kd.R_slice HO212.out; subst eo60) | ((with_reducible refine gate_callee (f := 34) rfl ?_); refine goesL_ (some 61) rfl rfl Try.func34 (by kernel_rfl) rfl #[.slice Ao60 t210.length co60, .int .i64 a1] rfl (by (try simp only [List.map_toArray, List.map_cons, List.map_nil]); first | done | rfl | (simp only [List.length_drop, List.length_take]; rfl)) ?_; (with_reducible refine (impl_FlexShares.calls kj14 _ _ t210 a1 t213 _ ?side1 ?side2 A37.out).mono ?_); (case side1 => repeat (first | exact (Kd.R_reads' HO212.out).2.2 | (with_reducible refine Kd.C_alloc ?_ _) | (with_reducible refine Kd.C_drewN ?_ _) | (with_reducible refine Kd.C_drew ?_))); (case side2 => exact (Kd.R_reads' HO212.out).2.1); rintro e w61 ⟨v214, rfl, ho0, hb⟩; refine ⟨_, rfl, ?_⟩; have n0_ := aMk (Kd.R_elder' (by (with_reducible repeat (first | apply Kd.R_alloc | apply Kd.R_drewN | apply Kd.R_drew)); exact HO_6.out) (Kd.R_base ho0) hb); have n1_ := aMk (Kd.R_elder' (by (with_reducible repeat (first | apply Kd.R_alloc | apply Kd.R_drewN | apply Kd.R_drew)); exact HO_8.out) (Kd.R_base ho0) hb); have n2_ := aMk (Kd.R_below (by (with_reducible repeat (first | apply Kd.R_alloc | apply Kd.R_drewN | apply Kd.R_drew)); exact HO212.out) hb); have n3_ := aMk (Kd.R_lower (Kd.R_new' (Kd.R_new' ho0 (Kd.R_lt (by (with_reducible repeat (first | apply Kd.R_alloc | apply Kd.R_drewN | apply Kd.R_drew)); exact HO_6.out))) (Kd.R_lt (by (with_reducible repeat (first | apply Kd.R_alloc | apply Kd.R_drewN | apply Kd.R_drew)); exact HO_8.out))) (below_size (by repeat (first | (with_reducible first | exact HB.out | apply bAl | apply bDn | apply bD1) | exact HB.out)))); have n4_ := aMk (below_step (by repeat (first | (with_reducible first | exact HB.out | apply bAl | apply bDn | apply bD1) | exact HB.out)) hb); clear HO_6; clear HO_8; clear HO212; clear HB; have HO_6 := n0_; have HO_8 := n1_; have HO212 := n2_; have HO215 := n3_; have HB := n4_; clear n0_ n1_ n2_ n3_ n4_; (try clear hb); (try clear hb2); (try clear hk); (try clear hi); (try clear ho0); obtain ⟨Ao62, co62, eo62⟩ := Kd.R_slice HO215.out; subst eo62) | ((with_reducible refine gate_callee (f := 15) rfl ?_); refine goesL_ (some 64) rfl rfl Try.func15 (by kernel_rfl) rfl #[.slice Ao62 t213.length co62, .slice Ao23 t190.length co23] rfl (by (try simp only [List.map_toArray, List.map_cons, List.map_nil]); first | done | rfl | (simp only [List.length_drop, List.length_take]; rfl)) ?_; (with_reducible refine (laws_eqIntS.calls kj14 _ _ t213 _ _ t190 false _ ?side1 ?side2 ?side3 ?side4 A38.out).mono ?_); (case side1 => repeat (first | exact (Kd.R_reads' HO215.out).2.2 | (with_reducible refine Kd.C_alloc ?_ _) | (with_reducible refine Kd.C_drewN ?_ _) | (with_reducible refine Kd.C_drew ?_))); (case side2 => exact (Kd.R_reads' HO215.out).2.1); (case side3 => repeat (first | exact (Kd.R_reads' HO_6.out).2.2 | (with_reducible refine Kd.C_alloc ?_ _) | (with_reducible refine Kd.C_drewN ?_ _) | (with_reducible refine Kd.C_drew ?_))); (case side4 => exact (Kd.R_reads' HO_6.out).2.1); rintro e w' ⟨rfl, ⟨nd, rfl⟩⟩; refine ⟨_, rfl, ?_⟩))
                 go_ret
                 exact ⟨by first | rfl | (simp [errW_none, errW_some] <;> rfl) | (simp [*, errW_none, errW_some] <;> rfl), by repeat (first | (with_reducible first | exact HB.out | apply bAl | apply bDn | apply bD1) | exact HB.out)⟩
             · rw [if_neg c35] at H
               have c35b0 : (t209 == t207) = false := beq_eq_false_iff_ne.mpr c35
               have c35b1 : (t209 != t207) = true := bne_iff_ne.mpr c35
               obtain rfl := Option.some.inj H
               go_wp2_with (first | ((with_reducible refine gate_callee (f := 16) rfl ?_); refine goesL_ (some 49) rfl rfl Try.func16 (by kernel_rfl) rfl #[.slice Ao22 t196.length co22, .int .i64 1] rfl (by (try simp only [List.map_toArray, List.map_cons, List.map_nil]); first | done | rfl | (simp only [List.length_drop, List.length_take]; rfl)) ?_; (with_reducible refine (laws_markIntS.calls kj14 (fun k_ => some k_ = (.slice Ao22 t196.length co22 : Value).ownBlock) (.slice Ao22 t196.length co22) t196 1 t207 t208 w _ ?side1 ?side2 A31.out).mono ?_); (case side1 => repeat (first | (with_reducible first | exact HB.out | apply bAl | apply bDn | apply bD1) | exact HB.out)); (case side2 => exact Kd.R_tight rfl HO_8.out); rintro e w63 ⟨rfl, hy0, hb, hkp⟩; refine ⟨_, rfl, ?_⟩; have n0_ := aMk (Kd.R_mono (ok' := fun k_ => some k_ ≠ (.slice Ao22 t196.length co22 : Value).ownBlock) (Kd.R_keptB (HO_6.out) hkp (fun k_ hk_ hs_ => (hk_) hs_)) (fun k_ hk_ => hk_.1)); have n1_ := aMk (Kd.R_reok rfl hy0 (fun k_ e_ => HO_8.out.1 k_ e_)); have n2_ := aMk (hb); clear HO_6; clear HO_8; clear HB; have HO_6 := n0_; have HO_8 := n1_; have HB := n2_; clear n0_ n1_ n2_; (try clear hb); (try clear hkp); (try clear hy0)) | ((with_reducible refine gate_callee (f := 17) rfl ?_); refine goesL_ (some 52) rfl rfl Try.func17 (by kernel_rfl) rfl #[.slice Ao22 t208.length co22, .int .i64 1] rfl (by (try simp only [List.map_toArray, List.map_cons, List.map_nil]); first | done | (rw [show t208.length = t196.length from (Kd.R_reads' HO_8.out).1.symm] <;> rfl) | rfl | (simp only [List.length_drop, List.length_take]; rfl)) ?_; (with_reducible refine (laws_heldIntS.calls kj14 _ _ t208 1 t209 _ ?side1 ?side2 A32.out).mono ?_); (case side1 => repeat (first | exact (Kd.R_reads' HO_8.out).2.2 | (with_reducible refine Kd.C_alloc ?_ _) | (with_reducible refine Kd.C_drewN ?_ _) | (with_reducible refine Kd.C_drew ?_))); (case side2 => rw [show t208.length = t196.length from (Kd.R_reads' HO_8.out).1.symm]; exact (Kd.R_reads' HO_8.out).2.1); rintro e w' ⟨rfl, ⟨nd, rfl⟩⟩; refine ⟨_, rfl, ?_⟩))
               go_ret
               exact ⟨by first | rfl | (simp [errW_none, errW_some] <;> rfl) | (simp [*, errW_none, errW_some] <;> rfl), by repeat (first | (with_reducible first | exact HB.out | apply bAl | apply bDn | apply bD1) | exact HB.out)⟩
     · replace c13 := Bool.eq_false_iff.mpr c13
       subst c13
       have H1 : (some false) = some r := by rw [if_neg (show ¬ (false = true) by decide)] at H; exact H
       clear H
       have H := H1
       clear H1
       obtain rfl := Option.some.inj H
       go_enter Try.func7, Try.ntmps7
       go_wp2_with (first | ((with_reducible refine gate_callee (f := 31) rfl ?_); refine goesL_ (some 15) rfl rfl Try.func31 (by kernel_rfl) rfl #[.slice A0 l0.length c0, .int .i64 1048576] rfl (by (try simp only [List.map_toArray, List.map_cons, List.map_nil]); first | done | rfl | (simp only [List.length_drop, List.length_take]; rfl)) ?_; (with_reducible refine (laws_szFlexItemS.calls _ _ l0 1048576 t186 _ ?side1 ?side2 A3.out).mono ?_); (case side1 => repeat (first | exact HR0.out | (with_reducible refine Kd.C_alloc ?_ _) | (with_reducible refine Kd.C_drewN ?_ _) | (with_reducible refine Kd.C_drew ?_))); (case side2 => exact HC0.out); rintro e w' ⟨rfl, ⟨nd, rfl⟩⟩; refine ⟨_, rfl, ?_⟩) | ((with_reducible refine gate_callee (f := 33) rfl ?_); refine goesL_ (some 19) rfl rfl Try.func33 (by kernel_rfl) rfl #[.slice A0 l0.length c0] rfl (by (try simp only [List.map_toArray, List.map_cons, List.map_nil]); first | done | rfl | (simp only [List.length_drop, List.length_take]; rfl)) ?_; (with_reducible refine (laws_toFlexItemS.calls k _ _ l0 t187 _ ?side1 ?side2 A5.out).mono ?_); (case side1 => repeat (first | exact HR0.out | (with_reducible refine Kd.C_alloc ?_ _) | (with_reducible refine Kd.C_drewN ?_ _) | (with_reducible refine Kd.C_drew ?_))); (case side2 => exact HC0.out); rintro e w64 ⟨v188, rfl, ho0, hb⟩; refine ⟨_, rfl, ?_⟩; have n0_ := aMk (Kd.R_lower ho0 (below_size (by repeat (first | (with_reducible first | exact HB.out | apply bAl | apply bDn | apply bD1) | exact HB.out)))); have n1_ := aMk (below_step (by repeat (first | (with_reducible first | exact HB.out | apply bAl | apply bDn | apply bD1) | exact HB.out)) hb); clear HB; have HO189 := n0_; have HB := n1_; clear n0_ n1_; (try clear hb); (try clear hb2); (try clear hk); (try clear hi); (try clear ho0); obtain ⟨Ao65, co65, eo65⟩ := Kd.R_slice HO189.out; subst eo65) | ((with_reducible refine gate_callee (f := 32) rfl ?_); refine goesL_ (some 21) rfl rfl Try.func32 (by kernel_rfl) rfl #[.slice Ao65 t187.length co65, .int .i64 a1] rfl (by (try simp only [List.map_toArray, List.map_cons, List.map_nil]); first | done | rfl | (simp only [List.length_drop, List.length_take]; rfl)) ?_; (with_reducible refine (spec_FlexShares.calls k _ _ t187 a1 t190 _ ?side1 ?side2 A6.out).mono ?_); (case side1 => repeat (first | exact (Kd.R_reads' HO189.out).2.2 | (with_reducible refine Kd.C_alloc ?_ _) | (with_reducible refine Kd.C_drewN ?_ _) | (with_reducible refine Kd.C_drew ?_))); (case side2 => exact (Kd.R_reads' HO189.out).2.1); rintro e w66 ⟨v191, rfl, ho0, hb⟩; refine ⟨_, rfl, ?_⟩; have n0_ := aMk (Kd.R_below (by (with_reducible repeat (first | apply Kd.R_alloc | apply Kd.R_drewN | apply Kd.R_drew)); exact HO189.out) hb); have n1_ := aMk (Kd.R_lower ho0 (below_size (by repeat (first | (with_reducible first | exact HB.out | apply bAl | apply bDn | apply bD1) | exact HB.out)))); have n2_ := aMk (below_step (by repeat (first | (with_reducible first | exact HB.out | apply bAl | apply bDn | apply bD1) | exact HB.out)) hb); clear HO189; clear HB; have HO189 := n0_; have HO192 := n1_; have HB := n2_; clear n0_ n1_ n2_; (try clear hb); (try clear hb2); (try clear hk); (try clear hi); (try clear ho0)) | ((with_reducible refine gate_callee (f := 33) rfl ?_); refine goesL_ (some 23) rfl rfl Try.func33 (by kernel_rfl) rfl #[.slice A0 l0.length c0] rfl (by (try simp only [List.map_toArray, List.map_cons, List.map_nil]); first | done | rfl | (simp only [List.length_drop, List.length_take]; rfl)) ?_; (with_reducible refine (laws_toFlexItemS.calls k _ _ l0 t193 _ ?side1 ?side2 A7.out).mono ?_); (case side1 => repeat (first | exact (Kd.C_below HR0.out HB.out) | (with_reducible refine Kd.C_alloc ?_ _) | (with_reducible refine Kd.C_drewN ?_ _) | (with_reducible refine Kd.C_drew ?_))); (case side2 => exact HC0.out); rintro e w67 ⟨v194, rfl, ho0, hb⟩; refine ⟨_, rfl, ?_⟩; have n0_ := aMk (Kd.R_elder' (by (with_reducible repeat (first | apply Kd.R_alloc | apply Kd.R_drewN | apply Kd.R_drew)); exact HO189.out) (Kd.R_base ho0) hb); have n1_ := aMk (Kd.R_below (by (with_reducible repeat (first | apply Kd.R_alloc | apply Kd.R_drewN | apply Kd.R_drew)); exact HO192.out) hb); have n2_ := aMk (Kd.R_lower (Kd.R_new' ho0 (Kd.R_lt (by (with_reducible repeat (first | apply Kd.R_alloc | apply Kd.R_drewN | apply Kd.R_drew)); exact HO189.out))) (below_size (by repeat (first | (with_reducible first | exact HB.out | apply bAl | apply bDn | apply bD1) | exact HB.out)))); have n3_ := aMk (below_step (by repeat (first | (with_reducible first | exact HB.out | apply bAl | apply bDn | apply bD1) | exact HB.out)) hb); clear HO189; clear HO192; clear HB; have HO189 := n0_; have HO192 := n1_; have HO195 := n2_; have HB := n3_; clear n0_ n1_ n2_ n3_; (try clear hb); (try clear hb2); (try clear hk); (try clear hi); (try clear ho0); obtain ⟨Ao68, co68, eo68⟩ := Kd.R_slice HO195.out; subst eo68) | ((with_reducible refine gate_callee (f := 34) rfl ?_); refine goesL_ (some 26) rfl rfl Try.func34 (by kernel_rfl) rfl #[.slice Ao68 t193.length co68, .int .i64 a1] rfl (by (try simp only [List.map_toArray, List.map_cons, List.map_nil]); first | done | rfl | (simp only [List.length_drop, List.length_take]; rfl)) ?_; (with_reducible refine (impl_FlexShares.calls k _ _ t193 a1 t196 _ ?side1 ?side2 A8.out).mono ?_); (case side1 => repeat (first | exact (Kd.R_reads' HO195.out).2.2 | (with_reducible refine Kd.C_alloc ?_ _) | (with_reducible refine Kd.C_drewN ?_ _) | (with_reducible refine Kd.C_drew ?_))); (case side2 => exact (Kd.R_reads' HO195.out).2.1); rintro e w69 ⟨v197, rfl, ho0, hb⟩; refine ⟨_, rfl, ?_⟩; have n0_ := aMk (Kd.R_below (by (with_reducible repeat (first | apply Kd.R_alloc | apply Kd.R_drewN | apply Kd.R_drew)); exact HO189.out) hb); have n1_ := aMk (Kd.R_elder' (by (with_reducible repeat (first | apply Kd.R_alloc | apply Kd.R_drewN | apply Kd.R_drew)); exact HO192.out) (Kd.R_base ho0) hb); have n2_ := aMk (Kd.R_below (by (with_reducible repeat (first | apply Kd.R_alloc | apply Kd.R_drewN | apply Kd.R_drew)); exact HO195.out) hb); have n3_ := aMk (Kd.R_lower (Kd.R_new' ho0 (Kd.R_lt (by (with_reducible repeat (first | apply Kd.R_alloc | apply Kd.R_drewN | apply Kd.R_drew)); exact HO192.out))) (below_size (by repeat (first | (with_reducible first | exact HB.out | apply bAl | apply bDn | apply bD1) | exact HB.out)))); have n4_ := aMk (below_step (by repeat (first | (with_reducible first | exact HB.out | apply bAl | apply bDn | apply bD1) | exact HB.out)) hb); clear HO189; clear HO192; clear HO195; clear HB; have HO189 := n0_; have HO192 := n1_; have HO195 := n2_; have HO198 := n3_; have HB := n4_; clear n0_ n1_ n2_ n3_ n4_; (try clear hb); (try clear hb2); (try clear hk); (try clear hi); (try clear ho0); obtain ⟨Ao70, co70, eo70⟩ := Kd.R_slice HO198.out; subst eo70; obtain ⟨Ao71, co71, eo71⟩ := Kd.R_slice HO192.out; subst eo71) | ((with_reducible refine gate_callee (f := 15) rfl ?_); refine goesL_ (some 29) rfl rfl Try.func15 (by kernel_rfl) rfl #[.slice Ao70 t196.length co70, .slice Ao71 t190.length co71] rfl (by (try simp only [List.map_toArray, List.map_cons, List.map_nil]); first | done | rfl | (simp only [List.length_drop, List.length_take]; rfl)) ?_; (with_reducible refine (laws_eqIntS.calls k _ _ t196 _ _ t190 true _ ?side1 ?side2 ?side3 ?side4 A9.out).mono ?_); (case side1 => repeat (first | exact (Kd.R_reads' HO198.out).2.2 | (with_reducible refine Kd.C_alloc ?_ _) | (with_reducible refine Kd.C_drewN ?_ _) | (with_reducible refine Kd.C_drew ?_))); (case side2 => exact (Kd.R_reads' HO198.out).2.1); (case side3 => repeat (first | exact (Kd.R_reads' HO192.out).2.2 | (with_reducible refine Kd.C_alloc ?_ _) | (with_reducible refine Kd.C_drewN ?_ _) | (with_reducible refine Kd.C_drew ?_))); (case side4 => exact (Kd.R_reads' HO192.out).2.1); rintro e w' ⟨rfl, ⟨nd, rfl⟩⟩; refine ⟨_, rfl, ?_⟩) | ((with_reducible refine gate_callee (f := 33) rfl ?_); refine goesL_ (some 33) rfl rfl Try.func33 (by kernel_rfl) rfl #[.slice A0 l0.length c0] rfl (by (try simp only [List.map_toArray, List.map_cons, List.map_nil]); first | done | rfl | (simp only [List.length_drop, List.length_take]; rfl)) ?_; (with_reducible refine (laws_toFlexItemS.calls k _ _ l0 t200 _ ?side1 ?side2 A11.out).mono ?_); (case side1 => repeat (first | exact (Kd.C_below HR0.out (by repeat (first | (with_reducible first | exact HB.out | apply bAl | apply bDn | apply bD1) | exact HB.out))) | (with_reducible refine Kd.C_alloc ?_ _) | (with_reducible refine Kd.C_drewN ?_ _) | (with_reducible refine Kd.C_drew ?_))); (case side2 => exact HC0.out); rintro e w72 ⟨v201, rfl, ho0, hb⟩; refine ⟨_, rfl, ?_⟩; have n0_ := aMk (Kd.R_elder' (by (with_reducible repeat (first | apply Kd.R_alloc | apply Kd.R_drewN | apply Kd.R_drew)); exact HO189.out) (Kd.R_base ho0) hb); have n1_ := aMk (Kd.R_below (by (with_reducible repeat (first | apply Kd.R_alloc | apply Kd.R_drewN | apply Kd.R_drew)); exact HO192.out) hb); have n2_ := aMk (Kd.R_elder' (by (with_reducible repeat (first | apply Kd.R_alloc | apply Kd.R_drewN | apply Kd.R_drew)); exact HO195.out) (Kd.R_base ho0) hb); have n3_ := aMk (Kd.R_below (by (with_reducible repeat (first | apply Kd.R_alloc | apply Kd.R_drewN | apply Kd.R_drew)); exact HO198.out) hb); have n4_ := aMk (Kd.R_lower (Kd.R_new' (Kd.R_new' ho0 (Kd.R_lt (by (with_reducible repeat (first | apply Kd.R_alloc | apply Kd.R_drewN | apply Kd.R_drew)); exact HO189.out))) (Kd.R_lt (by (with_reducible repeat (first | apply Kd.R_alloc | apply Kd.R_drewN | apply Kd.R_drew)); exact HO195.out))) (below_size (by repeat (first | (with_reducible first | exact HB.out | apply bAl | apply bDn | apply bD1) | exact HB.out)))); have n5_ := aMk (below_step (by repeat (first | (with_reducible first | exact HB.out | apply bAl | apply bDn | apply bD1) | exact HB.out)) hb); clear HO189; clear HO192; clear HO195; clear HO198; clear HB; have HO189 := n0_; have HO192 := n1_; have HO195 := n2_; have HO198 := n3_; have HO202 := n4_; have HB := n5_; clear n0_ n1_ n2_ n3_ n4_ n5_; (try clear hb); (try clear hb2); (try clear hk); (try clear hi); (try clear ho0); obtain ⟨Ao73, co73, eo73⟩ := Kd.R_slice HO202.out; subst eo73) | ((with_reducible refine gate_callee (f := 35) rfl ?_); refine goesL_ (some 34) rfl rfl Try.func35 (by kernel_rfl) rfl #[.slice Ao68 t193.length co68, .slice Ao73 t200.length co73] rfl (by (try simp only [List.map_toArray, List.map_cons, List.map_nil]); first | done | rfl | (simp only [List.length_drop, List.length_take]; rfl)) ?_; (with_reducible refine (laws_eqFlexItemS.calls k _ _ t193 _ _ t200 false _ ?side1 ?side2 ?side3 ?side4 A12.out).mono ?_); (case side1 => repeat (first | exact (Kd.R_reads' HO195.out).2.2 | (with_reducible refine Kd.C_alloc ?_ _) | (with_reducible refine Kd.C_drewN ?_ _) | (with_reducible refine Kd.C_drew ?_))); (case side2 => exact (Kd.R_reads' HO195.out).2.1); (case side3 => repeat (first | exact (Kd.R_reads' HO202.out).2.2 | (with_reducible refine Kd.C_alloc ?_ _) | (with_reducible refine Kd.C_drewN ?_ _) | (with_reducible refine Kd.C_drew ?_))); (case side4 => exact (Kd.R_reads' HO202.out).2.1); rintro e w74 ⟨rfl, hb⟩; refine ⟨_, rfl, ?_⟩; have n0_ := aMk (Kd.R_below (by (with_reducible repeat (first | apply Kd.R_alloc | apply Kd.R_drewN | apply Kd.R_drew)); exact HO189.out) hb); have n1_ := aMk (Kd.R_below (by (with_reducible repeat (first | apply Kd.R_alloc | apply Kd.R_drewN | apply Kd.R_drew)); exact HO192.out) hb); have n2_ := aMk (Kd.R_below (by (with_reducible repeat (first | apply Kd.R_alloc | apply Kd.R_drewN | apply Kd.R_drew)); exact HO195.out) hb); have n3_ := aMk (Kd.R_below (by (with_reducible repeat (first | apply Kd.R_alloc | apply Kd.R_drewN | apply Kd.R_drew)); exact HO198.out) hb); have n4_ := aMk (Kd.R_below (by (with_reducible repeat (first | apply Kd.R_alloc | apply Kd.R_drewN | apply Kd.R_drew)); exact HO202.out) hb); have n5_ := aMk (below_step (by repeat (first | (with_reducible first | exact HB.out | apply bAl | apply bDn | apply bD1) | exact HB.out)) hb); clear HO189; clear HO192; clear HO195; clear HO198; clear HO202; clear HB; have HO189 := n0_; have HO192 := n1_; have HO195 := n2_; have HO198 := n3_; have HO202 := n4_; have HB := n5_; clear n0_ n1_ n2_ n3_ n4_ n5_; (try clear hb); (try clear hb2); (try clear hk); (try clear hi)))
       go_ret
       exact ⟨by first | rfl | (simp [errW_none, errW_some] <;> rfl) | (simp [*, errW_none, errW_some] <;> rfl), by repeat (first | (with_reducible first | exact HB.out | apply bAl | apply bDn | apply bD1) | exact HB.out)⟩
   · replace c10 := Bool.eq_false_iff.mpr c10
     subst c10
     have H1 : (some false) = some r := by rw [if_neg (show ¬ (false = true) by decide)] at H; exact H
     clear H
     have H := H1
     clear H1
     obtain rfl := Option.some.inj H
     go_enter Try.func7, Try.ntmps7
     go_wp2_with (first | ((with_reducible refine gate_callee (f := 31) rfl ?_); refine goesL_ (some 15) rfl rfl Try.func31 (by kernel_rfl) rfl #[.slice A0 l0.length c0, .int .i64 1048576] rfl (by (try simp only [List.map_toArray, List.map_cons, List.map_nil]); first | done | rfl | (simp only [List.length_drop, List.length_take]; rfl)) ?_; (with_reducible refine (laws_szFlexItemS.calls _ _ l0 1048576 t186 _ ?side1 ?side2 A3.out).mono ?_); (case side1 => repeat (first | exact HR0.out | (with_reducible refine Kd.C_alloc ?_ _) | (with_reducible refine Kd.C_drewN ?_ _) | (with_reducible refine Kd.C_drew ?_))); (case side2 => exact HC0.out); rintro e w' ⟨rfl, ⟨nd, rfl⟩⟩; refine ⟨_, rfl, ?_⟩) | ((with_reducible refine gate_callee (f := 33) rfl ?_); refine goesL_ (some 19) rfl rfl Try.func33 (by kernel_rfl) rfl #[.slice A0 l0.length c0] rfl (by (try simp only [List.map_toArray, List.map_cons, List.map_nil]); first | done | rfl | (simp only [List.length_drop, List.length_take]; rfl)) ?_; (with_reducible refine (laws_toFlexItemS.calls k _ _ l0 t187 _ ?side1 ?side2 A5.out).mono ?_); (case side1 => repeat (first | exact HR0.out | (with_reducible refine Kd.C_alloc ?_ _) | (with_reducible refine Kd.C_drewN ?_ _) | (with_reducible refine Kd.C_drew ?_))); (case side2 => exact HC0.out); rintro e w75 ⟨v188, rfl, ho0, hb⟩; refine ⟨_, rfl, ?_⟩; have n0_ := aMk (Kd.R_lower ho0 (below_size (by repeat (first | (with_reducible first | exact HB.out | apply bAl | apply bDn | apply bD1) | exact HB.out)))); have n1_ := aMk (below_step (by repeat (first | (with_reducible first | exact HB.out | apply bAl | apply bDn | apply bD1) | exact HB.out)) hb); clear HB; have HO189 := n0_; have HB := n1_; clear n0_ n1_; (try clear hb); (try clear hb2); (try clear hk); (try clear hi); (try clear ho0); obtain ⟨Ao76, co76, eo76⟩ := Kd.R_slice HO189.out; subst eo76) | ((with_reducible refine gate_callee (f := 32) rfl ?_); refine goesL_ (some 21) rfl rfl Try.func32 (by kernel_rfl) rfl #[.slice Ao76 t187.length co76, .int .i64 a1] rfl (by (try simp only [List.map_toArray, List.map_cons, List.map_nil]); first | done | rfl | (simp only [List.length_drop, List.length_take]; rfl)) ?_; (with_reducible refine (spec_FlexShares.calls k _ _ t187 a1 t190 _ ?side1 ?side2 A6.out).mono ?_); (case side1 => repeat (first | exact (Kd.R_reads' HO189.out).2.2 | (with_reducible refine Kd.C_alloc ?_ _) | (with_reducible refine Kd.C_drewN ?_ _) | (with_reducible refine Kd.C_drew ?_))); (case side2 => exact (Kd.R_reads' HO189.out).2.1); rintro e w77 ⟨v191, rfl, ho0, hb⟩; refine ⟨_, rfl, ?_⟩; have n0_ := aMk (Kd.R_below (by (with_reducible repeat (first | apply Kd.R_alloc | apply Kd.R_drewN | apply Kd.R_drew)); exact HO189.out) hb); have n1_ := aMk (Kd.R_lower ho0 (below_size (by repeat (first | (with_reducible first | exact HB.out | apply bAl | apply bDn | apply bD1) | exact HB.out)))); have n2_ := aMk (below_step (by repeat (first | (with_reducible first | exact HB.out | apply bAl | apply bDn | apply bD1) | exact HB.out)) hb); clear HO189; clear HB; have HO189 := n0_; have HO192 := n1_; have HB := n2_; clear n0_ n1_ n2_; (try clear hb); (try clear hb2); (try clear hk); (try clear hi); (try clear ho0)) | ((with_reducible refine gate_callee (f := 33) rfl ?_); refine goesL_ (some 23) rfl rfl Try.func33 (by kernel_rfl) rfl #[.slice A0 l0.length c0] rfl (by (try simp only [List.map_toArray, List.map_cons, List.map_nil]); first | done | rfl | (simp only [List.length_drop, List.length_take]; rfl)) ?_; (with_reducible refine (laws_toFlexItemS.calls k _ _ l0 t193 _ ?side1 ?side2 A7.out).mono ?_); (case side1 => repeat (first | exact (Kd.C_below HR0.out HB.out) | (with_reducible refine Kd.C_alloc ?_ _) | (with_reducible refine Kd.C_drewN ?_ _) | (with_reducible refine Kd.C_drew ?_))); (case side2 => exact HC0.out); rintro e w78 ⟨v194, rfl, ho0, hb⟩; refine ⟨_, rfl, ?_⟩; have n0_ := aMk (Kd.R_elder' (by (with_reducible repeat (first | apply Kd.R_alloc | apply Kd.R_drewN | apply Kd.R_drew)); exact HO189.out) (Kd.R_base ho0) hb); have n1_ := aMk (Kd.R_below (by (with_reducible repeat (first | apply Kd.R_alloc | apply Kd.R_drewN | apply Kd.R_drew)); exact HO192.out) hb); have n2_ := aMk (Kd.R_lower (Kd.R_new' ho0 (Kd.R_lt (by (with_reducible repeat (first | apply Kd.R_alloc | apply Kd.R_drewN | apply Kd.R_drew)); exact HO189.out))) (below_size (by repeat (first | (with_reducible first | exact HB.out | apply bAl | apply bDn | apply bD1) | exact HB.out)))); have n3_ := aMk (below_step (by repeat (first | (with_reducible first | exact HB.out | apply bAl | apply bDn | apply bD1) | exact HB.out)) hb); clear HO189; clear HO192; clear HB; have HO189 := n0_; have HO192 := n1_; have HO195 := n2_; have HB := n3_; clear n0_ n1_ n2_ n3_; (try clear hb); (try clear hb2); (try clear hk); (try clear hi); (try clear ho0); obtain ⟨Ao79, co79, eo79⟩ := Kd.R_slice HO195.out; subst eo79) | ((with_reducible refine gate_callee (f := 34) rfl ?_); refine goesL_ (some 26) rfl rfl Try.func34 (by kernel_rfl) rfl #[.slice Ao79 t193.length co79, .int .i64 a1] rfl (by (try simp only [List.map_toArray, List.map_cons, List.map_nil]); first | done | rfl | (simp only [List.length_drop, List.length_take]; rfl)) ?_; (with_reducible refine (impl_FlexShares.calls k _ _ t193 a1 t196 _ ?side1 ?side2 A8.out).mono ?_); (case side1 => repeat (first | exact (Kd.R_reads' HO195.out).2.2 | (with_reducible refine Kd.C_alloc ?_ _) | (with_reducible refine Kd.C_drewN ?_ _) | (with_reducible refine Kd.C_drew ?_))); (case side2 => exact (Kd.R_reads' HO195.out).2.1); rintro e w80 ⟨v197, rfl, ho0, hb⟩; refine ⟨_, rfl, ?_⟩; have n0_ := aMk (Kd.R_below (by (with_reducible repeat (first | apply Kd.R_alloc | apply Kd.R_drewN | apply Kd.R_drew)); exact HO189.out) hb); have n1_ := aMk (Kd.R_elder' (by (with_reducible repeat (first | apply Kd.R_alloc | apply Kd.R_drewN | apply Kd.R_drew)); exact HO192.out) (Kd.R_base ho0) hb); have n2_ := aMk (Kd.R_below (by (with_reducible repeat (first | apply Kd.R_alloc | apply Kd.R_drewN | apply Kd.R_drew)); exact HO195.out) hb); have n3_ := aMk (Kd.R_lower (Kd.R_new' ho0 (Kd.R_lt (by (with_reducible repeat (first | apply Kd.R_alloc | apply Kd.R_drewN | apply Kd.R_drew)); exact HO192.out))) (below_size (by repeat (first | (with_reducible first | exact HB.out | apply bAl | apply bDn | apply bD1) | exact HB.out)))); have n4_ := aMk (below_step (by repeat (first | (with_reducible first | exact HB.out | apply bAl | apply bDn | apply bD1) | exact HB.out)) hb); clear HO189; clear HO192; clear HO195; clear HB; have HO189 := n0_; have HO192 := n1_; have HO195 := n2_; have HO198 := n3_; have HB := n4_; clear n0_ n1_ n2_ n3_ n4_; (try clear hb); (try clear hb2); (try clear hk); (try clear hi); (try clear ho0); obtain ⟨Ao81, co81, eo81⟩ := Kd.R_slice HO198.out; subst eo81; obtain ⟨Ao82, co82, eo82⟩ := Kd.R_slice HO192.out; subst eo82) | ((with_reducible refine gate_callee (f := 15) rfl ?_); refine goesL_ (some 29) rfl rfl Try.func15 (by kernel_rfl) rfl #[.slice Ao81 t196.length co81, .slice Ao82 t190.length co82] rfl (by (try simp only [List.map_toArray, List.map_cons, List.map_nil]); first | done | rfl | (simp only [List.length_drop, List.length_take]; rfl)) ?_; (with_reducible refine (laws_eqIntS.calls k _ _ t196 _ _ t190 false _ ?side1 ?side2 ?side3 ?side4 A9.out).mono ?_); (case side1 => repeat (first | exact (Kd.R_reads' HO198.out).2.2 | (with_reducible refine Kd.C_alloc ?_ _) | (with_reducible refine Kd.C_drewN ?_ _) | (with_reducible refine Kd.C_drew ?_))); (case side2 => exact (Kd.R_reads' HO198.out).2.1); (case side3 => repeat (first | exact (Kd.R_reads' HO192.out).2.2 | (with_reducible refine Kd.C_alloc ?_ _) | (with_reducible refine Kd.C_drewN ?_ _) | (with_reducible refine Kd.C_drew ?_))); (case side4 => exact (Kd.R_reads' HO192.out).2.1); rintro e w' ⟨rfl, ⟨nd, rfl⟩⟩; refine ⟨_, rfl, ?_⟩))
     go_ret
     exact ⟨by first | rfl | (simp [errW_none, errW_some] <;> rfl) | (simp [*, errW_none, errW_some] <;> rfl), by repeat (first | (with_reducible first | exact HB.out | apply bAl | apply bDn | apply bD1) | exact HB.out)⟩
/-- THE ONE PURE STATEMENT of laws_FnExactFlexShares: yours. -/
def laws_FnExactFlexShares.Pure : Prop := ∀ (l0 : List (S100)) (a1 : Int), (l0.length ≤ maxLen ∧ ∀ x ∈ l0, ok100 x) → (Lit.int .i64 a1).wf = true → ∃ k, laws_FnExactFlexShares.f k l0 a1 = some true
end Go.Proofs.Ytpknhndanbgkmaa.MFnExactFlexShares
