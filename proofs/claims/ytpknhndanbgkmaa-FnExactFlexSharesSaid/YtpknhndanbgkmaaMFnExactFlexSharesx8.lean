-- Written by this session's own program (wip/gen/myprint.py).
import Derived.Test.YtpknhndanbgkmaaMFnExactFlexSharesx0
import Derived.Test.YtpknhndanbgkmaaMFnExactFlexSharesx1
import Derived.Test.YtpknhndanbgkmaaMFnExactFlexSharesx4
import Derived.Test.YtpknhndanbgkmaaMFnExactFlexSharesx7
namespace Go.Proofs.Ytpknhndanbgkmaa.MFnExactFlexShares
open Go.RowKit Go.Proofs.YtpknhndanbgkmaaW.PrintWords Go.Proofs.YtpknhndanbgkmaaW.PrintLast Go.Proofs.YtpknhndanbgkmaaW.PrintMore
attribute [local go_sem] max2_int min2_int max_two min_two max_three min_three max_four min_four   -- for this text's walks alone
set_option linter.unusedVariables false
set_option linter.unusedSimpArgs false
def spec_FlexShares.f (k : Nat) (l0 : List (S66)) (a1 : Int) : Option (List Int) := (spec_l16ItemsOk.f k l0 a1).bind fun t147 => (if t147 = true then ((spec_l16Flex.f k l0 a1).bind fun t148 => (some t148)) else (some (([] : List Int))))
set_option maxHeartbeats 8000000 in
set_option maxRecDepth 100000 in
theorem spec_FlexShares.calls (k : Nat) (A0 : Option Addr) (c0 : Nat) (l0 : List (S66)) (a1 : Int) (r : List Int) (w : World) (hr0 : Kd.C k66 w A0 l0.length l0) (hc0 : l0.length ≤ c0) (h : spec_FlexShares.f k l0 a1 = some r) :
 Calls Try.prog 32 #[.slice A0 l0.length c0, .int .i64 a1] w fun e w' => ∃ v0_ : Value, e = .returned (v0_) ∧ Kd.R (Kd.int .i64) 3 w' w.heap.size (fun _ => True) v0_ r ∧ Below w.heap.size w w' := by
 have HR0 := aMk hr0
 have HC0 := aMk hc0
 clear hr0 hc0
 have HB := aMk (Below.refl w.heap.size w)
 have H : ((spec_l16ItemsOk.f k l0 a1).bind fun t147 => (if t147 = true then ((spec_l16Flex.f k l0 a1).bind fun t148 => (some t148)) else (some (([] : List Int))))) = some r := h
 clear h
 replace H := oBm H
 obtain ⟨t147, A30, H⟩ := H
 replace H : (if t147 = true then ((spec_l16Flex.f k l0 a1).bind fun t148 => (some t148)) else (some (([] : List Int)))) = some r := H
 have A3 := aMk A30
 clear A30
 by_cases c4 : t147 = true
 · subst c4
   have H1 : ((spec_l16Flex.f k l0 a1).bind fun t148 => (some t148)) = some r := by rw [if_pos rfl] at H; exact H
   clear H
   have H := H1
   clear H1
   replace H := oBm H
   obtain ⟨t148, A50, H⟩ := H
   replace H : (some t148) = some r := H
   have A5 := aMk A50
   clear A50
   obtain rfl := Option.some.inj H
   go_enter Try.func32, Try.ntmps32
   go_wp2_with (first | ((with_reducible refine gate_callee (f := 79) rfl ?_); refine goesL_ (some 7) rfl rfl Try.func79 (by kernel_rfl) rfl #[.slice A0 l0.length c0, .int .i64 a1] rfl (by (try simp only [List.map_toArray, List.map_cons, List.map_nil]); first | done | rfl | (simp only [List.length_drop, List.length_take]; rfl)) ?_; (with_reducible refine (spec_l16ItemsOk.calls k _ _ l0 a1 true _ ?side1 ?side2 A3.out).mono ?_); (case side1 => repeat (first | exact HR0.out | (with_reducible refine Kd.C_alloc ?_ _) | (with_reducible refine Kd.C_drewN ?_ _) | (with_reducible refine Kd.C_drew ?_))); (case side2 => exact HC0.out); rintro e w6 ⟨rfl, hb⟩; refine ⟨_, rfl, ?_⟩; have n0_ := aMk (below_step (by repeat (first | (with_reducible first | exact HB.out | apply bAl | apply bDn | apply bD1) | exact HB.out)) hb); clear HB; have HB := n0_; clear n0_; (try clear hb); (try clear hb2); (try clear hk); (try clear hi)) | ((with_reducible refine gate_callee (f := 80) rfl ?_); refine goesL_ (some 12) rfl rfl Try.func80 (by kernel_rfl) rfl #[.slice A0 l0.length c0, .int .i64 a1] rfl (by (try simp only [List.map_toArray, List.map_cons, List.map_nil]); first | done | rfl | (simp only [List.length_drop, List.length_take]; rfl)) ?_; (with_reducible refine (spec_l16Flex.calls k _ _ l0 a1 t148 _ ?side1 ?side2 A5.out).mono ?_); (case side1 => repeat (first | exact (Kd.C_below HR0.out HB.out) | (with_reducible refine Kd.C_alloc ?_ _) | (with_reducible refine Kd.C_drewN ?_ _) | (with_reducible refine Kd.C_drew ?_))); (case side2 => exact HC0.out); rintro e w7 ⟨v149, rfl, ho0, hb⟩; refine ⟨_, rfl, ?_⟩; have n0_ := aMk (Kd.R_lower ho0 (below_size (by repeat (first | (with_reducible first | exact HB.out | apply bAl | apply bDn | apply bD1) | exact HB.out)))); have n1_ := aMk (below_step (by repeat (first | (with_reducible first | exact HB.out | apply bAl | apply bDn | apply bD1) | exact HB.out)) hb); clear HB; have HO150 := n0_; have HB := n1_; clear n0_ n1_; (try clear hb); (try clear hb2); (try clear hk); (try clear hi); (try clear ho0)))
   go_ret
   exact ⟨_, by first | rfl | (simp [errW_none, errW_some] <;> rfl) | (simp [*, errW_none, errW_some] <;> rfl), by (with_reducible repeat (first | apply Kd.R_alloc | apply Kd.R_drewN | apply Kd.R_drew)); exact HO150.out, by repeat (first | (with_reducible first | exact HB.out | apply bAl | apply bDn | apply bD1) | exact HB.out)⟩
 · replace c4 := Bool.eq_false_iff.mpr c4
   subst c4
   have H1 : (some (([] : List Int))) = some r := by rw [if_neg (show ¬ (false = true) by decide)] at H; exact H
   clear H
   have H := H1
   clear H1
   obtain ⟨y151, hy151⟩ : ∃ y_ : List Int, y_ = (([] : List Int)) := ⟨_, rfl⟩
   replace H : (some y151) = some r := by first | (rw [hy151]; with_reducible exact H) | (have H2_ := (Option.bind_some _ _).symm.trans H; rw [hy151]; with_reducible exact H2_) | (have H2_ := (Option.bind_some _ _).symm.trans H; with_reducible exact H2_) | with_reducible exact H | (rw [hy151]; exact H) | exact H
   have Ny151 := aMk hy151
   clear hy151
   obtain rfl := Option.some.inj H
   go_enter Try.func32, Try.ntmps32
   go_wp2_with (first | ((with_reducible refine gate_callee (f := 79) rfl ?_); refine goesL_ (some 7) rfl rfl Try.func79 (by kernel_rfl) rfl #[.slice A0 l0.length c0, .int .i64 a1] rfl (by (try simp only [List.map_toArray, List.map_cons, List.map_nil]); first | done | rfl | (simp only [List.length_drop, List.length_take]; rfl)) ?_; (with_reducible refine (spec_l16ItemsOk.calls k _ _ l0 a1 false _ ?side1 ?side2 A3.out).mono ?_); (case side1 => repeat (first | exact HR0.out | (with_reducible refine Kd.C_alloc ?_ _) | (with_reducible refine Kd.C_drewN ?_ _) | (with_reducible refine Kd.C_drew ?_))); (case side2 => exact HC0.out); rintro e w8 ⟨rfl, hb⟩; refine ⟨_, rfl, ?_⟩; have n0_ := aMk (below_step (by repeat (first | (with_reducible first | exact HB.out | apply bAl | apply bDn | apply bD1) | exact HB.out)) hb); clear HB; have HB := n0_; clear n0_; (try clear hb); (try clear hb2); (try clear hk); (try clear hi)) | ((with_reducible refine gate_dst (N := 9) rfl ?_); refine Kd.R_lit (Kd.int .i64) _ 3 ?hg (N := 9) ?hd (xs := ([] : List Int)) (inner := []) (ok := fun _ => True) (okp := fun _ => True) ?hr ?hp (fun _ hk => hk) trivial (Below.refl _ _) (Nat.le_refl _) (by simp) ?_; (case hd => rfl); (case hg => rfl); (case hr => first | (go_simp; done) | (go_simp; rfl)); (case hp => exact (Reps.none _ _)); intro v152 w9 ho10 hb hg_ hnew_; clear hg_ hnew_; (first | rw [← Ny151.out] at ho10 | (simp only [Int.reduceToNat] at ho10; rw [← Ny151.out] at ho10)); have n0_ := aMk (Kd.R_lower ho10 (below_size (by repeat (first | (with_reducible first | exact HB.out | apply bAl | apply bDn | apply bD1) | exact HB.out)))); have n1_ := aMk (below_step (by repeat (first | (with_reducible first | exact HB.out | apply bAl | apply bDn | apply bD1) | exact HB.out)) hb); clear HB; have HO153 := n0_; have HB := n1_; clear n0_ n1_; clear hb ho10))
   go_ret
   exact ⟨_, by first | rfl | (simp [errW_none, errW_some] <;> rfl) | (simp [*, errW_none, errW_some] <;> rfl), by (with_reducible repeat (first | apply Kd.R_alloc | apply Kd.R_drewN | apply Kd.R_drew)); exact HO153.out, by repeat (first | (with_reducible first | exact HB.out | apply bAl | apply bDn | apply bD1) | exact HB.out)⟩
def laws_toFlexItem.f (a0_0 : Int) (a0_1 : Int) (a0_2 : Int) (a0_3 : Int) (a0_4 : Int) : Option (Int × Int × Int × Int × Int) := some (a0_0, a0_1, a0_2, a0_3, a0_4)
set_option maxHeartbeats 8000000 in
set_option maxRecDepth 100000 in
theorem laws_toFlexItem.calls (a0_0 : Int) (a0_1 : Int) (a0_2 : Int) (a0_3 : Int) (a0_4 : Int) (r1 : Int) (r2 : Int) (r3 : Int) (r4 : Int) (r5 : Int) (w : World) (h : laws_toFlexItem.f a0_0 a0_1 a0_2 a0_3 a0_4 = some (r1, r2, r3, r4, r5)) :
 Calls Try.prog 81 #[.agg #[.int .i64 a0_0, .int .i64 a0_1, .int .i64 a0_2, .int .i64 a0_3, .int .i64 a0_4]] w fun e w' => e = .returned (.agg #[.int .i64 r1, .int .i64 r2, .int .i64 r3, .int .i64 r4, .int .i64 r5]) ∧ Below w.heap.size w w' := by
 have hu100 := Try.underlying100
 have hu66 := Try.underlying66
 have HB := aMk (Below.refl w.heap.size w)
 have H : (some (a0_0, a0_1, a0_2, a0_3, a0_4)) = some (r1, r2, r3, r4, r5) := h
 clear h
 simp only [Option.some.injEq, Prod.mk.injEq] at H
 obtain ⟨rfl, rfl, rfl, rfl, rfl⟩ := H
 go_enter Try.func81, Try.ntmps81
 go_wp2_with (first | ((with_reducible refine gate_dst (N := 1) rfl ?_); refine box_event ?hg (N := 1) ?hd (cs := #[.int .i64 a0_0, .int .i64 a0_1, .int .i64 a0_2, .int .i64 a0_3, .int .i64 a0_4]) (t := 100) ?hr ?_; (case hd => rfl); (case hg => rfl); (case hr => first | (go_simp; done) | (go_simp; rfl)); intro gb154 hg w2 hbox hb; have n0_ := aMk (below_step (by repeat (first | (with_reducible first | exact HB.out | apply bAl | apply bDn | apply bD1) | exact HB.out)) hb); have n1_ := aMk (hbox); have n2_ := aMk ((by rw [hg]; exact (below_size (by repeat (first | (with_reducible first | exact HB.out | apply bAl | apply bDn | apply bD1) | exact HB.out))) : w.heap.size ≤ gb154)); have n3_ := aMk ((by rw [hg]; exact (below_size (by repeat (first | (with_reducible first | exact HB.out | apply bAl | apply bDn | apply bD1) | exact HB.out))) : w.heap.size ≤ gb154)); clear HB; have HB := n0_; have BK154 := n1_; have GW154 := n2_; have GE154 := n3_; clear n0_ n1_ n2_ n3_; clear hb hbox hg) | ((with_reducible refine gate_dst (N := 2) rfl ?_); refine box_event ?hg (N := 2) ?hd (cs := #[.int .i64 0, .int .i64 0, .int .i64 0, .int .i64 0, .int .i64 0]) (t := 66) ?hr ?_; (case hd => rfl); (case hg => rfl); (case hr => first | (go_simp; done) | (go_simp; rfl)); intro gb155 hg w3 hbox hb; have n0_ := aMk (blk_below (g := gb154) (o := .cells #[.int .i64 a0_0, .int .i64 a0_1, .int .i64 a0_2, .int .i64 a0_3, .int .i64 a0_4] 100 (0, 0)) (by (with_reducible repeat (first | refine bkD ?_ _ | refine blk_drew ?_ | refine bkA ?_ _)); exact BK154.out) hb); have n1_ := aMk (below_step (by repeat (first | (with_reducible first | exact HB.out | apply bAl | apply bDn | apply bD1 | refine bSe ?_ GE154.out) | exact HB.out)) hb); have n2_ := aMk (hbox); have n3_ := aMk ((by rw [hg]; exact (below_size (by repeat (first | (with_reducible first | exact HB.out | apply bAl | apply bDn | apply bD1 | refine bSe ?_ GE154.out) | exact HB.out))) : w.heap.size ≤ gb155)); have n4_ := aMk ((by rw [hg]; exact (below_size (by repeat (first | (with_reducible first | exact HB.out | apply bAl | apply bDn | apply bD1 | refine bSe ?_ GE154.out) | exact HB.out))) : w.heap.size ≤ gb155)); have n5_ := aMk ((by rw [hg]; exact Nat.ne_of_lt (blk_lt (g := gb154) (o := .cells #[.int .i64 a0_0, .int .i64 a0_1, .int .i64 a0_2, .int .i64 a0_3, .int .i64 a0_4] 100 (0, 0)) (by (with_reducible repeat (first | refine bkD ?_ _ | refine blk_drew ?_ | refine bkA ?_ _)); exact BK154.out)) : gb154 ≠ gb155)); have n6_ := aMk ((by rw [hg]; exact Nat.ne_of_gt (blk_lt (g := gb154) (o := .cells #[.int .i64 a0_0, .int .i64 a0_1, .int .i64 a0_2, .int .i64 a0_3, .int .i64 a0_4] 100 (0, 0)) (by (with_reducible repeat (first | refine bkD ?_ _ | refine blk_drew ?_ | refine bkA ?_ _)); exact BK154.out)) : gb155 ≠ gb154)); clear BK154; clear HB; have BK154 := n0_; have HB := n1_; have BK155 := n2_; have GW155 := n3_; have GE155 := n4_; have NB154_155 := n5_; have NB155_154 := n6_; clear n0_ n1_ n2_ n3_ n4_ n5_ n6_; clear hb hbox hg) | ((with_reducible refine gate_dst (N := 3) rfl ?_); refine box_event ?hg (N := 3) ?hd (cs := #[.int .i64 0, .int .i64 0, .int .i64 0, .int .i64 0, .int .i64 0]) (t := 66) ?hr ?_; (case hd => rfl); (case hg => rfl); (case hr => first | (go_simp; done) | (go_simp; rfl)); intro gb156 hg w4 hbox hb; have n0_ := aMk (blk_below (g := gb154) (o := .cells #[.int .i64 a0_0, .int .i64 a0_1, .int .i64 a0_2, .int .i64 a0_3, .int .i64 a0_4] 100 (0, 0)) (by (with_reducible repeat (first | refine bkD ?_ _ | refine blk_drew ?_ | refine bkA ?_ _)); exact BK154.out) hb); have n1_ := aMk (blk_below (g := gb155) (o := .cells #[.int .i64 0, .int .i64 0, .int .i64 0, .int .i64 0, .int .i64 0] 66 (0, 0)) (by (with_reducible repeat (first | refine bkD ?_ _ | refine blk_drew ?_ | refine bkA ?_ _)); exact BK155.out) hb); have n2_ := aMk (below_step (by repeat (first | (with_reducible first | exact HB.out | apply bAl | apply bDn | apply bD1 | refine bSe ?_ GE154.out | refine bSe ?_ GE155.out) | exact HB.out)) hb); have n3_ := aMk (hbox); have n4_ := aMk ((by rw [hg]; exact (below_size (by repeat (first | (with_reducible first | exact HB.out | apply bAl | apply bDn | apply bD1 | refine bSe ?_ GE154.out | refine bSe ?_ GE155.out) | exact HB.out))) : w.heap.size ≤ gb156)); have n5_ := aMk ((by rw [hg]; exact (below_size (by repeat (first | (with_reducible first | exact HB.out | apply bAl | apply bDn | apply bD1 | refine bSe ?_ GE154.out | refine bSe ?_ GE155.out) | exact HB.out))) : w.heap.size ≤ gb156)); have n6_ := aMk ((by rw [hg]; exact Nat.ne_of_lt (blk_lt (g := gb154) (o := .cells #[.int .i64 a0_0, .int .i64 a0_1, .int .i64 a0_2, .int .i64 a0_3, .int .i64 a0_4] 100 (0, 0)) (by (with_reducible repeat (first | refine bkD ?_ _ | refine blk_drew ?_ | refine bkA ?_ _)); exact BK154.out)) : gb154 ≠ gb156)); have n7_ := aMk ((by rw [hg]; exact Nat.ne_of_gt (blk_lt (g := gb154) (o := .cells #[.int .i64 a0_0, .int .i64 a0_1, .int .i64 a0_2, .int .i64 a0_3, .int .i64 a0_4] 100 (0, 0)) (by (with_reducible repeat (first | refine bkD ?_ _ | refine blk_drew ?_ | refine bkA ?_ _)); exact BK154.out)) : gb156 ≠ gb154)); have n8_ := aMk ((by rw [hg]; exact Nat.ne_of_lt (blk_lt (g := gb155) (o := .cells #[.int .i64 0, .int .i64 0, .int .i64 0, .int .i64 0, .int .i64 0] 66 (0, 0)) (by (with_reducible repeat (first | refine bkD ?_ _ | refine blk_drew ?_ | refine bkA ?_ _)); exact BK155.out)) : gb155 ≠ gb156)); have n9_ := aMk ((by rw [hg]; exact Nat.ne_of_gt (blk_lt (g := gb155) (o := .cells #[.int .i64 0, .int .i64 0, .int .i64 0, .int .i64 0, .int .i64 0] 66 (0, 0)) (by (with_reducible repeat (first | refine bkD ?_ _ | refine blk_drew ?_ | refine bkA ?_ _)); exact BK155.out)) : gb156 ≠ gb155)); clear BK154; clear BK155; clear HB; have BK154 := n0_; have BK155 := n1_; have HB := n2_; have BK156 := n3_; have GW156 := n4_; have GE156 := n5_; have NB154_156 := n6_; have NB156_154 := n7_; have NB155_156 := n8_; have NB156_155 := n9_; clear n0_ n1_ n2_ n3_ n4_ n5_ n6_ n7_ n8_ n9_; clear hb hbox hg; have hnb5 := NB154_155.out; have hnc5 := NB155_154.out; have hnb6 := NB154_156.out; have hnc6 := NB156_154.out; have hcz7_0 : w4.cell? ⟨gb154, 0, none⟩ = some (.int .i64 a0_0) := (bCe BK154.out 0).trans rfl; have hcz7_1 : w4.cell? ⟨gb154, 1, none⟩ = some (.int .i64 a0_1) := (bCe BK154.out 1).trans rfl; have hcz7_2 : w4.cell? ⟨gb154, 2, none⟩ = some (.int .i64 a0_2) := (bCe BK154.out 2).trans rfl; have hcz7_3 : w4.cell? ⟨gb154, 3, none⟩ = some (.int .i64 a0_3) := (bCe BK154.out 3).trans rfl; have hcz7_4 : w4.cell? ⟨gb154, 4, none⟩ = some (.int .i64 a0_4) := (bCe BK154.out 4).trans rfl; have hfz7_0 := bFr BK154.out 0; have hfz7_1 := bFr BK154.out 1; have hfz7_2 := bFr BK154.out 2; have hfz7_3 := bFr BK154.out 3; have hfz7_4 := bFr BK154.out 4; have hnb8 := NB156_155.out; have hnc8 := NB155_156.out; have hcz9_0 : w4.cell? ⟨gb156, 0, none⟩ = some (.int .i64 0) := (bCe BK156.out 0).trans rfl; have hcz9_1 : w4.cell? ⟨gb156, 1, none⟩ = some (.int .i64 0) := (bCe BK156.out 1).trans rfl; have hcz9_2 : w4.cell? ⟨gb156, 2, none⟩ = some (.int .i64 0) := (bCe BK156.out 2).trans rfl; have hcz9_3 : w4.cell? ⟨gb156, 3, none⟩ = some (.int .i64 0) := (bCe BK156.out 3).trans rfl; have hcz9_4 : w4.cell? ⟨gb156, 4, none⟩ = some (.int .i64 0) := (bCe BK156.out 4).trans rfl; have hfz9_0 := bFr BK156.out 0; have hfz9_1 := bFr BK156.out 1; have hfz9_2 := bFr BK156.out 2; have hfz9_3 := bFr BK156.out 3; have hfz9_4 := bFr BK156.out 4; have hcz10_0 : w4.cell? ⟨gb155, 0, none⟩ = some (.int .i64 0) := (bCe BK155.out 0).trans rfl; have hcz10_1 : w4.cell? ⟨gb155, 1, none⟩ = some (.int .i64 0) := (bCe BK155.out 1).trans rfl; have hcz10_2 : w4.cell? ⟨gb155, 2, none⟩ = some (.int .i64 0) := (bCe BK155.out 2).trans rfl; have hcz10_3 : w4.cell? ⟨gb155, 3, none⟩ = some (.int .i64 0) := (bCe BK155.out 3).trans rfl; have hcz10_4 : w4.cell? ⟨gb155, 4, none⟩ = some (.int .i64 0) := (bCe BK155.out 4).trans rfl; have hfz10_0 := bFr BK155.out 0; have hfz10_1 := bFr BK155.out 1; have hfz10_2 := bFr BK155.out 2; have hfz10_3 := bFr BK155.out 3; have hfz10_4 := bFr BK155.out 4))
 refine bodyPost_ret (results_cell_row rfl _ _ gb155 66 #[.int .i64 a0_0, .int .i64 a0_1, .int .i64 a0_2, .int .i64 a0_3, .int .i64 a0_4] (0, 0) _ rfl (by (with_reducible repeat (first | refine bkD ?_ _ | refine blk_drew ?_ | refine bkA ?_ _)); refine blk_put (cs := #[.int .i64 a0_0, .int .i64 a0_1, .int .i64 a0_2, .int .i64 a0_3, .int .i64 0]) ?_ 4 _ rfl; (with_reducible repeat (first | refine bkD ?_ _ | refine blk_drew ?_ | refine bkA ?_ _)); refine blk_put (cs := #[.int .i64 a0_0, .int .i64 a0_1, .int .i64 a0_2, .int .i64 0, .int .i64 0]) ?_ 3 _ rfl; (with_reducible repeat (first | refine bkD ?_ _ | refine blk_drew ?_ | refine bkA ?_ _)); refine blk_put (cs := #[.int .i64 a0_0, .int .i64 a0_1, .int .i64 0, .int .i64 0, .int .i64 0]) ?_ 2 _ rfl; (with_reducible repeat (first | refine bkD ?_ _ | refine blk_drew ?_ | refine bkA ?_ _)); refine blk_put (cs := #[.int .i64 a0_0, .int .i64 0, .int .i64 0, .int .i64 0, .int .i64 0]) ?_ 1 _ rfl; (with_reducible repeat (first | refine bkD ?_ _ | refine blk_drew ?_ | refine bkA ?_ _)); refine blk_put (cs := #[.int .i64 0, .int .i64 0, .int .i64 0, .int .i64 0, .int .i64 0]) ?_ 0 _ rfl; (with_reducible repeat (first | refine bkD ?_ _ | refine blk_drew ?_ | refine bkA ?_ _)); refine blk_far ?_ NB155_156.out _; (with_reducible repeat (first | refine bkD ?_ _ | refine blk_drew ?_ | refine bkA ?_ _)); refine blk_far ?_ NB155_156.out _; (with_reducible repeat (first | refine bkD ?_ _ | refine blk_drew ?_ | refine bkA ?_ _)); refine blk_far ?_ NB155_156.out _; (with_reducible repeat (first | refine bkD ?_ _ | refine blk_drew ?_ | refine bkA ?_ _)); refine blk_far ?_ NB155_156.out _; (with_reducible repeat (first | refine bkD ?_ _ | refine blk_drew ?_ | refine bkA ?_ _)); refine blk_far ?_ NB155_156.out _; (with_reducible repeat (first | refine bkD ?_ _ | refine blk_drew ?_ | refine bkA ?_ _)); exact BK155.out) Try.underlying66 rfl (by kernel_rfl)) rfl ?_
 exact ⟨by first | rfl | (simp [errW_none, errW_some] <;> rfl) | (simp [*, errW_none, errW_some] <;> rfl), by repeat (first | (with_reducible first | exact HB.out | apply bAl | apply bDn | apply bD1 | refine bSe ?_ GE154.out | refine bSe ?_ GE155.out | refine bSe ?_ GE156.out) | exact HB.out)⟩
def laws_toFlexItemS.l0 : Nat → List (S100) → List (S66) → Int → Option ((List (S66)))
 | 0, _, _, _ => none
 | k + 1, x0, x3, x4 => if x4 < (x0.length : Int) then (if 0 ≤ x4 then ((laws_toFlexItem.f ((rd_T100 x0 x4).f0) ((rd_T100 x0 x4).f1) ((rd_T100 x0 x4).f2) ((rd_T100 x0 x4).f3) ((rd_T100 x0 x4).f4)).bind fun bt161 => (if x4 < (x3.length : Int) then (laws_toFlexItemS.l0 k x0 (x3.set (x4 : Int).toNat (⟨bt161.1, bt161.2.1, bt161.2.2.1, bt161.2.2.2.1, bt161.2.2.2.2⟩ : S66)) (wrap64 (x4 + 1))) else (none))) else (none)) else (some x3)
def laws_toFlexItemS.f (k : Nat) (l0 : List (S100)) : Option ((List (S66))) := if 0 ≤ (l0.length : Int) then (if ((l0.length : Int) : Int).toNat ≤ 7036874417766 then (laws_toFlexItemS.l0 k l0 (List.replicate ((l0.length : Int) : Int).toNat z66) 0) else (none)) else (none)
set_option maxHeartbeats 8000000 in
set_option maxRecDepth 100000 in
theorem laws_toFlexItemS.calls (k : Nat) (A0 : Option Addr) (c0 : Nat) (l0 : List (S100)) (r : List (S66)) (w : World) (hr0 : Kd.C k100 w A0 l0.length l0) (hc0 : l0.length ≤ c0) (h : laws_toFlexItemS.f k l0 = some r) :
 Calls Try.prog 33 #[.slice A0 l0.length c0] w fun e w' => ∃ v0_ : Value, e = .returned (v0_) ∧ Kd.R k66 66 w' w.heap.size (fun _ => True) v0_ r ∧ Below w.heap.size w w' := by
 have hu100 := Try.underlying100
 have hu66 := Try.underlying66
 have HR0 := aMk hr0
 have HC0 := aMk hc0
 clear hr0 hc0
 have HB := aMk (Below.refl w.heap.size w)
 have H : (if 0 ≤ (l0.length : Int) then (if ((l0.length : Int) : Int).toNat ≤ 7036874417766 then (laws_toFlexItemS.l0 k l0 (List.replicate ((l0.length : Int) : Int).toNat z66) 0) else (none)) else (none)) = some r := h
 clear h
 by_cases c2 : 0 ≤ (l0.length : Int)
 · rw [if_pos c2] at H
   have c2b0 := eq_true c2
   have c2b1 : decide (0 ≤ (l0.length : Int)) = true := decide_eq_true c2
   clear c2
   by_cases c3 : ((l0.length : Int) : Int).toNat ≤ 7036874417766
   · rw [if_pos c3] at H
     have c3b0 := eq_true c3
     have c3b1 : decide (((l0.length : Int) : Int).toNat ≤ 7036874417766) = true := decide_eq_true c3
     clear c3
     obtain ⟨y157, hy157⟩ : ∃ y_ : List (S66), y_ = (List.replicate ((l0.length : Int) : Int).toNat z66) := ⟨_, rfl⟩
     replace H : (laws_toFlexItemS.l0 k l0 y157 0) = some r := by first | (rw [hy157]; with_reducible exact H) | (have H2_ := (Option.bind_some _ _).symm.trans H; rw [hy157]; with_reducible exact H2_) | (have H2_ := (Option.bind_some _ _).symm.trans H; with_reducible exact H2_) | with_reducible exact H | (rw [hy157]; exact H) | exact H
     have Ny157 := aMk hy157
     clear hy157
     have H' := aMk H
     clear H
     go_enter Try.func33, Try.ntmps33
     go_wp2_with (first | ((with_reducible refine gate_dst (N := 7) rfl ?_); refine Kd.R_make k66 _ 66 rfl (N := 7) rfl 42 _ _ rfl (l0.length : Int) rfl rfl Try.underlying42 (.agg #[(.int .i64 0), (.int .i64 0), (.int .i64 0), (.int .i64 0), (.int .i64 0)]) 40 info66 rfl (by decide) (by omega) z66 (ok := fun _ => True) (okp := fun _ => True) (k66_mkM _ _ _ z66 ) (fun _ hk => hk) trivial (oDt (by first | (with_reducible assumption) | assumption)) (Nat.le_trans (Nat.mul_le_mul_right _ (oDt (by first | (with_reducible assumption) | assumption) : (l0.length : Int).toNat ≤ 7036874417766)) (by omega)) (Below.refl _ _) (Nat.le_refl _) ?_; intro v158 w4 ho5 hb hg_ hnew_; clear hg_ hnew_; (first | rw [← Ny157.out] at ho5 | (simp only [Int.reduceToNat] at ho5; rw [← Ny157.out] at ho5)); have n0_ := aMk (Kd.R_lower ho5 (below_size (by repeat (first | (with_reducible first | exact HB.out | apply bAl | apply bDn | apply bD1) | exact HB.out)))); have n1_ := aMk (below_step (by repeat (first | (with_reducible first | exact HB.out | apply bAl | apply bDn | apply bD1) | exact HB.out)) hb); clear HB; have HO159 := n0_; have HB := n1_; clear n0_ n1_; clear hb ho5))
     go_loopg [4] k (fun kq v4 w' => ∃ (x3_1 : List (S66)) (x4_1 : Int), v4 = .int .i64 x4_1 ∧ Aside0 (laws_toFlexItemS.l0 kq l0 x3_1 x4_1 = some r) ∧ Aside0 (kq ≤ k) ∧ Aside0 (Kd.R k66 66 w' w.heap.size (fun _ => True) v158 x3_1) ∧ Aside0 (Below w.heap.size w w'))
     case atStart => exact ⟨(y157), (0), (by first | rfl | (simp; done) | (simp [*]; done)), H', ⟨Nat.le_refl _⟩, ⟨by (with_reducible repeat (first | apply Kd.R_alloc | apply Kd.R_drewN | apply Kd.R_drew)); exact HO159.out⟩, ⟨by repeat (first | (with_reducible first | exact HB.out | apply bAl | apply bDn | apply bD1) | exact HB.out)⟩⟩
     case round =>
      clear H'
      try clear c2
      try clear c2b0
      try clear c2b1
      try clear p2
      try clear c3
      try clear c3b0
      try clear c3b1
      obtain ⟨x3_1, x4_1, rfl, HA, HK1, HO_3, HB⟩ := hrel
      cases gk with
      | zero => exact absurd HA.out (by simp [laws_toFlexItemS.l0])
      | succ k1 =>
       have H := HA.out
       clear HA
       simp only [laws_toFlexItemS.l0] at H
       by_cases c6 : x4_1 < (l0.length : Int)
       · rw [if_pos c6] at H
         have c6b0 : decide (x4_1 < (l0.length : Int)) = true := decide_eq_true c6
         clear c6
         by_cases c7 : 0 ≤ x4_1
         · rw [if_pos c7] at H
           have c7b0 : decide (0 ≤ x4_1) = true := decide_eq_true c7
           clear c7
           replace H := oBm H
           obtain ⟨⟨t161, t162, t163, t164, t165⟩, A80, H⟩ := H
           replace H : (if x4_1 < (x3_1.length : Int) then (laws_toFlexItemS.l0 k1 l0 (x3_1.set (x4_1 : Int).toNat (⟨t161, t162, t163, t164, t165⟩ : S66)) (wrap64 (x4_1 + 1))) else (none)) = some r := H
           have A8 := aMk A80
           clear A80
           by_cases c9 : x4_1 < (x3_1.length : Int)
           · rw [if_pos c9] at H
             have c9b0 : decide (x4_1 < (x3_1.length : Int)) = true := decide_eq_true c9
             clear c9
             obtain ⟨y166, hy166⟩ : ∃ y_ : List (S66), y_ = (x3_1.set (x4_1 : Int).toNat (⟨t161, t162, t163, t164, t165⟩ : S66)) := ⟨_, rfl⟩
             replace H : (laws_toFlexItemS.l0 k1 l0 y166 (wrap64 (x4_1 + 1))) = some r := by first | (rw [hy166]; with_reducible exact H) | (have H2_ := (Option.bind_some _ _).symm.trans H; rw [hy166]; with_reducible exact H2_) | (have H2_ := (Option.bind_some _ _).symm.trans H; with_reducible exact H2_) | with_reducible exact H | (rw [hy166]; exact H) | exact H
             have Ny166 := aMk hy166
             clear hy166
             have H' := aMk H
             clear H
             have p160 : 0 ≤ (x4_1 : Int) := oDt (by first | (with_reducible assumption) | assumption)
             have q160 : x4_1 < (l0.length : Int) := oDt (by first | (with_reducible assumption) | assumption)
             obtain ⟨ad160, e160, hx160_0, hx160_1, hx160_2, hx160_3, hx160_4⟩ := at_T100 HR0.out x4_1 p160 q160
             cases e160
             replace hx160_0 := (HB.out.cell (wBl w _ hx160_0)).trans hx160_0
             replace hx160_1 := (HB.out.cell (wBl w _ hx160_1)).trans hx160_1
             replace hx160_2 := (HB.out.cell (wBl w _ hx160_2)).trans hx160_2
             replace hx160_3 := (HB.out.cell (wBl w _ hx160_3)).trans hx160_3
             replace hx160_4 := (HB.out.cell (wBl w _ hx160_4)).trans hx160_4
             replace p160 := eq_true p160
             replace q160 := eq_true q160
             go_wp2_with (first | ((with_reducible refine gate_callee (f := 81) rfl ?_); refine goesL_ (some 20) rfl rfl Try.func81 (by kernel_rfl) rfl #[.agg #[.int .i64 ((rd_T100 l0 x4_1).f0), .int .i64 ((rd_T100 l0 x4_1).f1), .int .i64 ((rd_T100 l0 x4_1).f2), .int .i64 ((rd_T100 l0 x4_1).f3), .int .i64 ((rd_T100 l0 x4_1).f4)]] rfl (by (try simp only [List.map_toArray, List.map_cons, List.map_nil]); first | done | rfl | (simp only [List.length_drop, List.length_take]; rfl)) ?_; (with_reducible refine (laws_toFlexItem.calls ((rd_T100 l0 x4_1).f0) ((rd_T100 l0 x4_1).f1) ((rd_T100 l0 x4_1).f2) ((rd_T100 l0 x4_1).f3) ((rd_T100 l0 x4_1).f4) t161 t162 t163 t164 t165 _ A8.out).mono ?_); rintro e w11 ⟨rfl, hb⟩; refine ⟨_, rfl, ?_⟩; have n0_ := aMk (Kd.R_below (by (with_reducible repeat (first | apply Kd.R_alloc | apply Kd.R_drewN | apply Kd.R_drew)); exact HO_3.out) hb); have n1_ := aMk (below_step (by repeat (first | (with_reducible first | exact HB.out | apply bAl | apply bDn | apply bD1) | exact HB.out)) hb); clear HO_3; clear HB; have HO_3 := n0_; have HB := n1_; clear n0_ n1_; (try clear hb); (try clear hb2); (try clear hk); (try clear hi); have p10 : 0 ≤ (x4_1 : Int) := oDt (by first | (with_reducible assumption) | assumption); have q10 : (x4_1 : Int) < ((x3_1.length : Int) : Int) := oDt (by first | (with_reducible assumption) | assumption); obtain ⟨go10, co10, eo10, gb10, gl10, cl10, HG10⟩ := Kd.R_form HO_3.out (by omega); (first | cases eo10 | (injection eo10 with ea_ en_ ec_; (first | subst ea_ | (injection ea_ with ea_; subst ea_)); subst ec_; clear en_)); have GB10 := aMk gb10; have GG10 := aMk HG10; clear gb10 gl10 HG10; obtain ⟨ce10, hcl10, hM10, hcc10, hfr10⟩ := Kd.R_elem HO_3.out z66 (x4_1 : Int) p10 q10; obtain rfl := k66_openM hM10; have hx10_0 : w11.cell? ⟨go10, (x4_1 : Int).toNat * 5, none⟩ = some (.int .i64 ((rd_T66 x3_1 x4_1).f0)) := hcc10 0 _ rfl; have hx10_1 : w11.cell? ⟨go10, (x4_1 : Int).toNat * 5 + 1, none⟩ = some (.int .i64 ((rd_T66 x3_1 x4_1).f1)) := hcc10 1 _ rfl; have hx10_2 : w11.cell? ⟨go10, (x4_1 : Int).toNat * 5 + 2, none⟩ = some (.int .i64 ((rd_T66 x3_1 x4_1).f2)) := hcc10 2 _ rfl; have hx10_3 : w11.cell? ⟨go10, (x4_1 : Int).toNat * 5 + 3, none⟩ = some (.int .i64 ((rd_T66 x3_1 x4_1).f3)) := hcc10 3 _ rfl; have hx10_4 : w11.cell? ⟨go10, (x4_1 : Int).toNat * 5 + 4, none⟩ = some (.int .i64 ((rd_T66 x3_1 x4_1).f4)) := hcc10 4 _ rfl; have hf10_0 : w11.frozen? ⟨go10, (x4_1 : Int).toNat * 5, none⟩ = false := hfr10 0; have hf10_1 : w11.frozen? ⟨go10, (x4_1 : Int).toNat * 5 + 1, none⟩ = false := hfr10 1; have hf10_2 : w11.frozen? ⟨go10, (x4_1 : Int).toNat * 5 + 2, none⟩ = false := hfr10 2; have hf10_3 : w11.frozen? ⟨go10, (x4_1 : Int).toNat * 5 + 3, none⟩ = false := hfr10 3; have hf10_4 : w11.frozen? ⟨go10, (x4_1 : Int).toNat * 5 + 4, none⟩ = false := hfr10 4; clear hcl10 hcc10 hfr10 hM10; replace p10 := eq_true p10; replace q10 := eq_true q10; have HX12 := aMk (show Kd.R k66 66 w11 w.heap.size (fun _ => True) (.slice (some ⟨go10, 0, none⟩) x3_1.length co10) x3_1 from (by (with_reducible repeat (first | apply Kd.R_alloc | apply Kd.R_drewN | apply Kd.R_drew)); exact HO_3.out)); obtain ⟨ce12, hcl12, hM12, hcc12, hfr12⟩ := Kd.R_elem HX12.out z66 (x4_1 : Int) (oDt (by first | (with_reducible assumption) | assumption)) (by have h_ : (x4_1 : Int) < ((x3_1.length : Int) : Int) := oDt (by first | (with_reducible assumption) | assumption); first | exact h_ | (have e_ := (Kd.R_reads' HO_3.out).1; omega) | simpa using h_); obtain rfl := k66_openM hM12; have HP12 := Kd.R_seg HX12.out (x4_1 : Int) (oDt (by first | (with_reducible assumption) | assumption)) (by have h_ : (x4_1 : Int) < ((x3_1.length : Int) : Int) := oDt (by first | (with_reducible assumption) | assumption); first | exact h_ | (have e_ := (Kd.R_reads' HO_3.out).1; omega) | simpa using h_) (seg := [.int .i64 t161, .int .i64 t162, .int .i64 t163, .int .i64 t164, .int .i64 t165]) (j := 0) hcl12 hcc12 (show 5 ≤ 5 from by decide) (x' := (⟨t161, t162, t163, t164, t165⟩ : S66)) (k66_mkM _ _ _ (⟨t161, t162, t163, t164, t165⟩ : S66) ) (fun _ hk => hk); have hx12_0 := hcc12 0 _ rfl; (try simp only [show (k66).sz = 5 from rfl, Nat.mul_one, Nat.add_zero] at hx12_0); have hf12_0 := hfr12 0; (try simp only [show (k66).sz = 5 from rfl, Nat.mul_one, Nat.add_zero] at hf12_0); have hx12_1 := hcc12 1 _ rfl; (try simp only [show (k66).sz = 5 from rfl, Nat.mul_one, Nat.add_zero] at hx12_1); have hf12_1 := hfr12 1; (try simp only [show (k66).sz = 5 from rfl, Nat.mul_one, Nat.add_zero] at hf12_1); have hx12_2 := hcc12 2 _ rfl; (try simp only [show (k66).sz = 5 from rfl, Nat.mul_one, Nat.add_zero] at hx12_2); have hf12_2 := hfr12 2; (try simp only [show (k66).sz = 5 from rfl, Nat.mul_one, Nat.add_zero] at hf12_2); have hx12_3 := hcc12 3 _ rfl; (try simp only [show (k66).sz = 5 from rfl, Nat.mul_one, Nat.add_zero] at hx12_3); have hf12_3 := hfr12 3; (try simp only [show (k66).sz = 5 from rfl, Nat.mul_one, Nat.add_zero] at hf12_3); have hx12_4 := hcc12 4 _ rfl; (try simp only [show (k66).sz = 5 from rfl, Nat.mul_one, Nat.add_zero] at hx12_4); have hf12_4 := hfr12 4; (try simp only [show (k66).sz = 5 from rfl, Nat.mul_one, Nat.add_zero] at hf12_4); clear hcl12 hcc12 hfr12 hM12) | ((with_reducible refine gate_store (t := 66) (p := 21) rfl ?_); refine store_event (t := 66) (p := 21) (v := ?vo_w13) (w1 := (((((w11.setCell ⟨go10, (x4_1 : Int).toNat * 5, none⟩ (.int .i64 t161)).setCell ⟨go10, (x4_1 : Int).toNat * 5 + 1, none⟩ (.int .i64 t162)).setCell ⟨go10, (x4_1 : Int).toNat * 5 + 2, none⟩ (.int .i64 t163)).setCell ⟨go10, (x4_1 : Int).toNat * 5 + 3, none⟩ (.int .i64 t164)).setCell ⟨go10, (x4_1 : Int).toNat * 5 + 4, none⟩ (.int .i64 t165))) ?hg ?ho ?hn ?hr ?_; (case ho => rfl); (case hg => rfl); (case hn => rfl); (case hr => first | (go_simp; done) | (go_simp; rfl)); intro w13 hw; have hg : w11.grownBy w13 (some go10) := (by rw [hw]; exact HP12.2); have hp_ : Kd.R k66 66 w13 w.heap.size (fun _ => True) (.slice (some ⟨go10, 0, none⟩) x3_1.length co10) y166 := (by rw [hw, Ny166.out]; exact HP12.1); clear HP12; have n0_ := aMk (hp_); have n1_ := aMk ((by rw [hw]; exact bSe (bSe (bSe (bSe (bSe (HB.out) GB10.out) GB10.out) GB10.out) GB10.out) GB10.out : Below w.heap.size w w13)); clear HO_3; clear HB; have HO_3 := n0_; have HB := n1_; clear n0_ n1_; clear hg hw hp_))
             go_roundg k1
             case measure => have := HK1.out; omega
             case rel => exact ⟨(y166), (wrap64 (x4_1 + 1)), (by first | rfl | (simp; done) | (simp [*]; done)), H', ⟨by have := HK1.out; omega⟩, ⟨by (with_reducible repeat (first | apply Kd.R_alloc | apply Kd.R_drewN | apply Kd.R_drew)); exact HO_3.out⟩, ⟨by repeat (first | (with_reducible first | exact HB.out | apply bAl | apply bDn | apply bD1) | exact HB.out)⟩⟩
           · rw [if_neg c9] at H
             exact absurd H (by simp)
         · rw [if_neg c7] at H
           exact absurd H (by simp)
       · rw [if_neg c6] at H
         have c6b0 : decide (x4_1 < (l0.length : Int)) = false := decide_eq_false c6
         clear c6
         obtain rfl := Option.some.inj H
         go_wp2
         go_ret
         exact ⟨_, by first | rfl | (simp [errW_none, errW_some] <;> rfl) | (simp [*, errW_none, errW_some] <;> rfl), by (with_reducible repeat (first | apply Kd.R_alloc | apply Kd.R_drewN | apply Kd.R_drew)); exact HO_3.out, by repeat (first | (with_reducible first | exact HB.out | apply bAl | apply bDn | apply bD1) | exact HB.out)⟩
   · rw [if_neg c3] at H
     exact absurd H (by simp)
 · rw [if_neg c2] at H
   exact absurd H (by simp)
def impl_nonNegative.f (a0 : Int) : Option (Bool) := if a0 ≥ 0 then (some (decide (a0 ≤ 100000000))) else (some false)
set_option maxHeartbeats 8000000 in
set_option maxRecDepth 100000 in
theorem impl_nonNegative.calls (a0 : Int) (r : Bool) (w : World) (h : impl_nonNegative.f a0 = some r) :
 Calls Try.prog 82 #[.int .i64 a0] w fun e w' => e = .returned (.bool r) ∧ Drawn0 w w' := by
 have H : (if a0 ≥ 0 then (some (decide (a0 ≤ 100000000))) else (some false)) = some r := h
 clear h
 by_cases c2 : a0 ≥ 0
 · rw [if_pos c2] at H
   have c2b0 : decide (0 ≤ a0) = true := decide_eq_true c2
   clear c2
   obtain rfl := Option.some.inj H
   go_enter Try.func82, Try.ntmps82
   go_wp2
   go_ret
   exact ⟨by first | rfl | (simp; done) | (simp [*]; done), by repeat (first | exact Drawn0.refl _ | apply Drawn0.step)⟩
 · rw [if_neg c2] at H
   have c2b0 : decide (0 ≤ a0) = false := decide_eq_false c2
   clear c2
   obtain rfl := Option.some.inj H
   go_enter Try.func82, Try.ntmps82
   go_wp2
   go_ret
   exact ⟨by first | rfl | (simp; done) | (simp [*]; done), by repeat (first | exact Drawn0.refl _ | apply Drawn0.step)⟩
mutual
def impl_FlexShares.j0 : Nat → List (S66) → Int → Bool → Option (List Int)
 | 0, _, _, _ => none
 | k + 1, x0, x1, x14 => if x14 = true then (some ([] : List Int)) else (impl_FlexShares.l0 k x0 x1 x0 (x0.length : Int) 0)
def impl_FlexShares.l0 : Nat → List (S66) → Int → List (S66) → Int → Int → Option (List Int)
 | 0, _, _, _, _, _ => none
 | k + 1, x0, x1, x15, x16, x17 => if x17 < x16 then (if 0 ≤ x17 then (if x17 < (x15.length : Int) then ((impl_nonNegative.f ((rd_T66 x15 x17).f0)).bind fun t173 => (if t173 = true then ((impl_nonNegative.f ((rd_T66 x15 x17).f3)).bind fun t174 => (if t174 = true then (if ((rd_T66 x15 x17).f4) = (-1) then (impl_FlexShares.l0 k x0 x1 x15 x16 (wrap64 (x17 + 1))) else ((impl_nonNegative.f ((rd_T66 x15 x17).f4)).bind fun t175 => (if t175 = true then (impl_FlexShares.l0 k x0 x1 x15 x16 (wrap64 (x17 + 1))) else (some ([] : List Int))))) else (some ([] : List Int)))) else (some ([] : List Int)))) else (none)) else (none)) else ((impl_flexShares.f k x0 x1).bind fun t168 => (some t168))
end
def impl_FlexShares.f (k : Nat) (l0 : List (S66)) (a1 : Int) : Option (List Int) := if (l0.length : Int) > 400 then (impl_FlexShares.j0 k l0 a1 true) else ((impl_nonNegative.f a1).bind fun t167 => (impl_FlexShares.j0 k l0 a1 (!t167)))
set_option maxHeartbeats 8000000 in
set_option maxRecDepth 100000 in
theorem impl_FlexShares.calls (k : Nat) (A0 : Option Addr) (c0 : Nat) (l0 : List (S66)) (a1 : Int) (r : List Int) (w : World) (hr0 : Kd.C k66 w A0 l0.length l0) (hc0 : l0.length ≤ c0) (h : impl_FlexShares.f k l0 a1 = some r) :
 Calls Try.prog 34 #[.slice A0 l0.length c0, .int .i64 a1] w fun e w' => ∃ v0_ : Value, e = .returned (v0_) ∧ Kd.R (Kd.int .i64) 3 w' w.heap.size (fun _ => True) v0_ r ∧ Below w.heap.size w w' := by
 have hu66 := Try.underlying66
 have HR0 := aMk hr0
 have HC0 := aMk hc0
 clear hr0 hc0
 have HB := aMk (Below.refl w.heap.size w)
 have H : (if (l0.length : Int) > 400 then (impl_FlexShares.j0 k l0 a1 true) else ((impl_nonNegative.f a1).bind fun t167 => (impl_FlexShares.j0 k l0 a1 (!t167)))) = some r := h
 clear h
 have HC3 := aMk H
 clear H
 go_enter Try.func34, Try.ntmps34
 go_upto_region 1 with (fail)
 go_cut [14] (fun v14 wc => ∃ (kq : Nat) (x14_2 : Bool), v14 = .bool x14_2 ∧ Aside0 (impl_FlexShares.j0 kq l0 a1 x14_2 = some r) ∧ Aside0 (kq ≤ k) ∧ Aside0 (Below w.heap.size w wc))
 case first =>
  have H := HC3.out
  clear HC3
  by_cases c4 : (l0.length : Int) > 400
  · rw [if_pos c4] at H
    have c4b0 : decide (400 < (l0.length : Int)) = true := decide_eq_true c4
    have c4b1 : decide (400 < l0.length) = true := decide_eq_true (by omega)
    clear c4
    (first | rw [c4b0] | (simp only [i64_w, i32_w]; rw [c4b0]) | skip)
    have H' := aMk H
    clear H
    go_wp2
    go_meet
    case rel => exact ⟨_, (true), (by first | rfl | (simp; done) | (simp [*]; done)), H', ⟨by first | omega | exact Nat.le_refl _⟩, ⟨by repeat (first | (with_reducible first | exact HB.out | apply bAl | apply bDn | apply bD1) | exact HB.out)⟩⟩
  · rw [if_neg c4] at H
    have c4b0 : decide (400 < (l0.length : Int)) = false := decide_eq_false c4
    have c4b1 : decide (400 < l0.length) = false := decide_eq_false (by omega)
    clear c4
    (first | rw [c4b0] | (simp only [i64_w, i32_w]; rw [c4b0]) | skip)
    replace H := oBm H
    obtain ⟨t167, A50, H⟩ := H
    replace H : (impl_FlexShares.j0 k l0 a1 (!t167)) = some r := H
    have A5 := aMk A50
    clear A50
    have H' := aMk H
    clear H
    go_wp2_with (first | (go_at_call 82; (with_reducible refine (impl_nonNegative.calls a1 t167 _ A5.out).mono ?_); rintro e w' ⟨rfl, ⟨nd, rfl⟩⟩))
    go_meet
    case rel => exact ⟨_, (!t167), (by first | rfl | (simp; done) | (simp [*]; done)), H', ⟨by first | omega | exact Nat.le_refl _⟩, ⟨by repeat (first | (with_reducible first | exact HB.out | apply bAl | apply bDn | apply bD1) | exact HB.out)⟩⟩
 case rest =>
  clear HC3
  try clear p2
  try clear c3
  try clear c4
  try clear c4b0
  try clear c4b1
  obtain ⟨kq, x14_2, rfl, HA, HJ2, HB⟩ := hcut
  cases kq with
  | zero => exact absurd HA.out (by simp [impl_FlexShares.j0])
  | succ kj2 =>
   have H := HA.out
   clear HA
   simp only [impl_FlexShares.j0] at H
   by_cases c6 : x14_2 = true
   · subst c6
     have H1 : (some ([] : List Int)) = some r := by rw [if_pos rfl] at H; exact H
     clear H
     have H := H1
     clear H1
     obtain rfl := Option.some.inj H
     go_wp2
     go_ret
     exact ⟨_, by first | rfl | (simp [errW_none, errW_some] <;> rfl) | (simp [*, errW_none, errW_some] <;> rfl), by first | exact Kd.R_nil _ _ _ _ _ | exact Kd.N_nil _ _ _ _ _ | exact Kd.V_nil _ _ _ _ _ | exact Kd.Q_nil _ _ _ _ _ | exact Kd.S_nil _ _ _ _ _, by repeat (first | (with_reducible first | exact HB.out | apply bAl | apply bDn | apply bD1) | exact HB.out)⟩
   · replace c6 := Bool.eq_false_iff.mpr c6
     subst c6
     have H1 : (impl_FlexShares.l0 kj2 l0 a1 l0 (l0.length : Int) 0) = some r := by rw [if_neg (show ¬ (false = true) by decide)] at H; exact H
     clear H
     have H := H1
     clear H1
     have H' := aMk H
     clear H
     go_wp2
     go_loopg [17] kj2 (fun kq v17 w' => ∃ (x17_2 : Int), v17 = .int .i64 x17_2 ∧ Aside0 (impl_FlexShares.l0 kq l0 a1 l0 (l0.length : Int) x17_2 = some r) ∧ Aside0 (kq ≤ kj2) ∧ Aside0 (Below w.heap.size w w'))
     case atStart => exact ⟨(0), (by first | rfl | (simp; done) | (simp [*]; done)), H', ⟨Nat.le_refl _⟩, ⟨by repeat (first | (with_reducible first | exact HB.out | apply bAl | apply bDn | apply bD1) | exact HB.out)⟩⟩
     case round =>
      clear H'
      try clear p2
      try clear c3
      try clear c4
      try clear c4b0
      try clear c4b1
      try clear c6
      try clear p2
      obtain ⟨x17_2, rfl, HA, HK2, HB⟩ := hrel
      cases gk with
      | zero => exact absurd HA.out (by simp [impl_FlexShares.l0])
      | succ k2 =>
       have H := HA.out
       clear HA
       simp only [impl_FlexShares.l0] at H
       by_cases c7 : x17_2 < (l0.length : Int)
       · rw [if_pos c7] at H
         have c7b0 : decide (x17_2 < (l0.length : Int)) = true := decide_eq_true c7
         clear c7
         by_cases c8 : 0 ≤ x17_2
         · rw [if_pos c8] at H
           have c8b0 : decide (0 ≤ x17_2) = true := decide_eq_true c8
           clear c8
           by_cases c9 : x17_2 < (l0.length : Int)
           · rw [if_pos c9] at H
             have c9b0 : decide (x17_2 < (l0.length : Int)) = true := decide_eq_true c9
             clear c9
             replace H := oBm H
             obtain ⟨t173, A100, H⟩ := H
             replace H : (if t173 = true then ((impl_nonNegative.f ((rd_T66 l0 x17_2).f3)).bind fun t174 => (if t174 = true then (if ((rd_T66 l0 x17_2).f4) = (-1) then (impl_FlexShares.l0 k2 l0 a1 l0 (l0.length : Int) (wrap64 (x17_2 + 1))) else ((impl_nonNegative.f ((rd_T66 l0 x17_2).f4)).bind fun t175 => (if t175 = true then (impl_FlexShares.l0 k2 l0 a1 l0 (l0.length : Int) (wrap64 (x17_2 + 1))) else (some ([] : List Int))))) else (some ([] : List Int)))) else (some ([] : List Int))) = some r := H
             have A10 := aMk A100
             clear A100
             by_cases c11 : t173 = true
             · subst c11
               have H1 : ((impl_nonNegative.f ((rd_T66 l0 x17_2).f3)).bind fun t174 => (if t174 = true then (if ((rd_T66 l0 x17_2).f4) = (-1) then (impl_FlexShares.l0 k2 l0 a1 l0 (l0.length : Int) (wrap64 (x17_2 + 1))) else ((impl_nonNegative.f ((rd_T66 l0 x17_2).f4)).bind fun t175 => (if t175 = true then (impl_FlexShares.l0 k2 l0 a1 l0 (l0.length : Int) (wrap64 (x17_2 + 1))) else (some ([] : List Int))))) else (some ([] : List Int)))) = some r := by rw [if_pos rfl] at H; exact H
               clear H
               have H := H1
               clear H1
               replace H := oBm H
               obtain ⟨t174, A120, H⟩ := H
               replace H : (if t174 = true then (if ((rd_T66 l0 x17_2).f4) = (-1) then (impl_FlexShares.l0 k2 l0 a1 l0 (l0.length : Int) (wrap64 (x17_2 + 1))) else ((impl_nonNegative.f ((rd_T66 l0 x17_2).f4)).bind fun t175 => (if t175 = true then (impl_FlexShares.l0 k2 l0 a1 l0 (l0.length : Int) (wrap64 (x17_2 + 1))) else (some ([] : List Int))))) else (some ([] : List Int))) = some r := H
               have A12 := aMk A120
               clear A120
               by_cases c13 : t174 = true
               · subst c13
                 have H1 : (if ((rd_T66 l0 x17_2).f4) = (-1) then (impl_FlexShares.l0 k2 l0 a1 l0 (l0.length : Int) (wrap64 (x17_2 + 1))) else ((impl_nonNegative.f ((rd_T66 l0 x17_2).f4)).bind fun t175 => (if t175 = true then (impl_FlexShares.l0 k2 l0 a1 l0 (l0.length : Int) (wrap64 (x17_2 + 1))) else (some ([] : List Int))))) = some r := by rw [if_pos rfl] at H; exact H
                 clear H
                 have H := H1
                 clear H1
                 by_cases c14 : ((rd_T66 l0 x17_2).f4) = (-1)
                 · rw [if_pos c14] at H
                   have c14b0 : (((rd_T66 l0 x17_2).f4) == (-1)) = true := beq_iff_eq.mpr c14
                   have c14b1 : (((rd_T66 l0 x17_2).f4) != (-1)) = false := bne_eq_false_iff_eq.mpr c14
                   clear c14
                   have H' := aMk H
                   clear H
                   have p171 : 0 ≤ (x17_2 : Int) := oDt (by first | (with_reducible assumption) | assumption)
                   have q171 : x17_2 < (l0.length : Int) := oDt (by first | (with_reducible assumption) | assumption)
                   obtain ⟨ad171, e171, hx171_0, hx171_1, hx171_2, hx171_3, hx171_4⟩ := at_T66 HR0.out x17_2 p171 q171
                   cases e171
                   replace hx171_0 := (HB.out.cell (wBl w _ hx171_0)).trans hx171_0
                   replace hx171_1 := (HB.out.cell (wBl w _ hx171_1)).trans hx171_1
                   replace hx171_2 := (HB.out.cell (wBl w _ hx171_2)).trans hx171_2
                   replace hx171_3 := (HB.out.cell (wBl w _ hx171_3)).trans hx171_3
                   replace hx171_4 := (HB.out.cell (wBl w _ hx171_4)).trans hx171_4
                   replace p171 := eq_true p171
                   replace q171 := eq_true q171
                   go_wp2_with (first | ((with_reducible refine gate_dst (N := 6) rfl ?_); refine box_event ?hg (N := 6) ?hd (cs := #[.int .i64 0, .int .i64 0, .int .i64 0, .int .i64 0, .int .i64 0]) (t := 66) ?hr ?_; (case hd => rfl); (case hg => rfl); (case hr => first | (go_simp; done) | (go_simp; rfl)); intro gb172 hg w15 hbox hb; have n0_ := aMk (below_step (by repeat (first | (with_reducible first | exact HB.out | apply bAl | apply bDn | apply bD1) | exact HB.out)) hb); have n1_ := aMk (hbox); have n2_ := aMk ((by rw [hg]; exact (below_size (by repeat (first | (with_reducible first | exact HB.out | apply bAl | apply bDn | apply bD1) | exact HB.out))) : w.heap.size ≤ gb172)); have n3_ := aMk ((by rw [hg]; exact (below_size (by repeat (first | (with_reducible first | exact HB.out | apply bAl | apply bDn | apply bD1) | exact HB.out))) : w.heap.size ≤ gb172)); clear HB; have HB := n0_; have BK172 := n1_; have GW172 := n2_; have GE172 := n3_; clear n0_ n1_ n2_ n3_; clear hb hbox hg; have hcz16_0 : w15.cell? ⟨gb172, 0, none⟩ = some (.int .i64 0) := (bCe BK172.out 0).trans rfl; have hcz16_1 : w15.cell? ⟨gb172, 1, none⟩ = some (.int .i64 0) := (bCe BK172.out 1).trans rfl; have hcz16_2 : w15.cell? ⟨gb172, 2, none⟩ = some (.int .i64 0) := (bCe BK172.out 2).trans rfl; have hcz16_3 : w15.cell? ⟨gb172, 3, none⟩ = some (.int .i64 0) := (bCe BK172.out 3).trans rfl; have hcz16_4 : w15.cell? ⟨gb172, 4, none⟩ = some (.int .i64 0) := (bCe BK172.out 4).trans rfl; have hfz16_0 := bFr BK172.out 0; have hfz16_1 := bFr BK172.out 1; have hfz16_2 := bFr BK172.out 2; have hfz16_3 := bFr BK172.out 3; have hfz16_4 := bFr BK172.out 4) | ((with_reducible refine gate_callee (f := 82) rfl ?_); refine goesL_ (some 23) rfl rfl Try.func82 (by kernel_rfl) rfl #[.int .i64 ((rd_T66 l0 x17_2).f0)] rfl (by (try simp only [List.map_toArray, List.map_cons, List.map_nil]); first | done | rfl | (simp only [List.length_drop, List.length_take]; rfl)) ?_; (with_reducible refine (impl_nonNegative.calls ((rd_T66 l0 x17_2).f0) true _ A10.out).mono ?_); rintro e w' ⟨rfl, ⟨nd, rfl⟩⟩; refine ⟨_, rfl, ?_⟩) | (go_at_call 82; (with_reducible refine (impl_nonNegative.calls ((rd_T66 l0 x17_2).f3) true _ A12.out).mono ?_); rintro e w' ⟨rfl, ⟨nd, rfl⟩⟩))
                   go_roundg k2
                   case measure => have := HJ2.out; have := HK2.out; omega
                   case rel => exact ⟨(wrap64 (x17_2 + 1)), (by first | rfl | (simp; done) | (simp [*]; done)), H', ⟨by have := HJ2.out; have := HK2.out; omega⟩, ⟨by repeat (first | (with_reducible first | exact HB.out | apply bAl | apply bDn | apply bD1 | refine bSe ?_ GE172.out) | exact HB.out)⟩⟩
                 · rw [if_neg c14] at H
                   have c14b0 : (((rd_T66 l0 x17_2).f4) == (-1)) = false := beq_eq_false_iff_ne.mpr c14
                   have c14b1 : (((rd_T66 l0 x17_2).f4) != (-1)) = true := bne_iff_ne.mpr c14
                   replace H := oBm H
                   obtain ⟨t175, A170, H⟩ := H
                   replace H : (if t175 = true then (impl_FlexShares.l0 k2 l0 a1 l0 (l0.length : Int) (wrap64 (x17_2 + 1))) else (some ([] : List Int))) = some r := H
                   have A17 := aMk A170
                   clear A170
                   by_cases c18 : t175 = true
                   · subst c18
                     have H1 : (impl_FlexShares.l0 k2 l0 a1 l0 (l0.length : Int) (wrap64 (x17_2 + 1))) = some r := by rw [if_pos rfl] at H; exact H
                     clear H
                     have H := H1
                     clear H1
                     have H' := aMk H
                     clear H
                     have p171 : 0 ≤ (x17_2 : Int) := oDt (by first | (with_reducible assumption) | assumption)
                     have q171 : x17_2 < (l0.length : Int) := oDt (by first | (with_reducible assumption) | assumption)
                     obtain ⟨ad171, e171, hx171_0, hx171_1, hx171_2, hx171_3, hx171_4⟩ := at_T66 HR0.out x17_2 p171 q171
                     cases e171
                     replace hx171_0 := (HB.out.cell (wBl w _ hx171_0)).trans hx171_0
                     replace hx171_1 := (HB.out.cell (wBl w _ hx171_1)).trans hx171_1
                     replace hx171_2 := (HB.out.cell (wBl w _ hx171_2)).trans hx171_2
                     replace hx171_3 := (HB.out.cell (wBl w _ hx171_3)).trans hx171_3
                     replace hx171_4 := (HB.out.cell (wBl w _ hx171_4)).trans hx171_4
                     replace p171 := eq_true p171
                     replace q171 := eq_true q171
                     go_wp2_with (first | ((with_reducible refine gate_dst (N := 6) rfl ?_); refine box_event ?hg (N := 6) ?hd (cs := #[.int .i64 0, .int .i64 0, .int .i64 0, .int .i64 0, .int .i64 0]) (t := 66) ?hr ?_; (case hd => rfl); (case hg => rfl); (case hr => first | (go_simp; done) | (go_simp; rfl)); intro gb172 hg w19 hbox hb; have n0_ := aMk (below_step (by repeat (first | (with_reducible first | exact HB.out | apply bAl | apply bDn | apply bD1) | exact HB.out)) hb); have n1_ := aMk (hbox); have n2_ := aMk ((by rw [hg]; exact (below_size (by repeat (first | (with_reducible first | exact HB.out | apply bAl | apply bDn | apply bD1) | exact HB.out))) : w.heap.size ≤ gb172)); have n3_ := aMk ((by rw [hg]; exact (below_size (by repeat (first | (with_reducible first | exact HB.out | apply bAl | apply bDn | apply bD1) | exact HB.out))) : w.heap.size ≤ gb172)); clear HB; have HB := n0_; have BK172 := n1_; have GW172 := n2_; have GE172 := n3_; clear n0_ n1_ n2_ n3_; clear hb hbox hg; have hcz20_0 : w19.cell? ⟨gb172, 0, none⟩ = some (.int .i64 0) := (bCe BK172.out 0).trans rfl; have hcz20_1 : w19.cell? ⟨gb172, 1, none⟩ = some (.int .i64 0) := (bCe BK172.out 1).trans rfl; have hcz20_2 : w19.cell? ⟨gb172, 2, none⟩ = some (.int .i64 0) := (bCe BK172.out 2).trans rfl; have hcz20_3 : w19.cell? ⟨gb172, 3, none⟩ = some (.int .i64 0) := (bCe BK172.out 3).trans rfl; have hcz20_4 : w19.cell? ⟨gb172, 4, none⟩ = some (.int .i64 0) := (bCe BK172.out 4).trans rfl; have hfz20_0 := bFr BK172.out 0; have hfz20_1 := bFr BK172.out 1; have hfz20_2 := bFr BK172.out 2; have hfz20_3 := bFr BK172.out 3; have hfz20_4 := bFr BK172.out 4) | ((with_reducible refine gate_callee (f := 82) rfl ?_); refine goesL_ (some 23) rfl rfl Try.func82 (by kernel_rfl) rfl #[.int .i64 ((rd_T66 l0 x17_2).f0)] rfl (by (try simp only [List.map_toArray, List.map_cons, List.map_nil]); first | done | rfl | (simp only [List.length_drop, List.length_take]; rfl)) ?_; (with_reducible refine (impl_nonNegative.calls ((rd_T66 l0 x17_2).f0) true _ A10.out).mono ?_); rintro e w' ⟨rfl, ⟨nd, rfl⟩⟩; refine ⟨_, rfl, ?_⟩) | (go_at_call 82; (with_reducible refine (impl_nonNegative.calls ((rd_T66 l0 x17_2).f3) true _ A12.out).mono ?_); rintro e w' ⟨rfl, ⟨nd, rfl⟩⟩) | (go_at_call 82; (with_reducible refine (impl_nonNegative.calls ((rd_T66 l0 x17_2).f4) true _ A17.out).mono ?_); rintro e w' ⟨rfl, ⟨nd, rfl⟩⟩))
                     go_roundg k2
                     case measure => have := HJ2.out; have := HK2.out; omega
                     case rel => exact ⟨(wrap64 (x17_2 + 1)), (by first | rfl | (simp; done) | (simp [*]; done)), H', ⟨by have := HJ2.out; have := HK2.out; omega⟩, ⟨by repeat (first | (with_reducible first | exact HB.out | apply bAl | apply bDn | apply bD1 | refine bSe ?_ GE172.out) | exact HB.out)⟩⟩
                   · replace c18 := Bool.eq_false_iff.mpr c18
                     subst c18
                     have H1 : (some ([] : List Int)) = some r := by rw [if_neg (show ¬ (false = true) by decide)] at H; exact H
                     clear H
                     have H := H1
                     clear H1
                     obtain rfl := Option.some.inj H
                     have p171 : 0 ≤ (x17_2 : Int) := oDt (by first | (with_reducible assumption) | assumption)
                     have q171 : x17_2 < (l0.length : Int) := oDt (by first | (with_reducible assumption) | assumption)
                     obtain ⟨ad171, e171, hx171_0, hx171_1, hx171_2, hx171_3, hx171_4⟩ := at_T66 HR0.out x17_2 p171 q171
                     cases e171
                     replace hx171_0 := (HB.out.cell (wBl w _ hx171_0)).trans hx171_0
                     replace hx171_1 := (HB.out.cell (wBl w _ hx171_1)).trans hx171_1
                     replace hx171_2 := (HB.out.cell (wBl w _ hx171_2)).trans hx171_2
                     replace hx171_3 := (HB.out.cell (wBl w _ hx171_3)).trans hx171_3
                     replace hx171_4 := (HB.out.cell (wBl w _ hx171_4)).trans hx171_4
                     replace p171 := eq_true p171
                     replace q171 := eq_true q171
                     go_wp2_with (first | ((with_reducible refine gate_dst (N := 6) rfl ?_); refine box_event ?hg (N := 6) ?hd (cs := #[.int .i64 0, .int .i64 0, .int .i64 0, .int .i64 0, .int .i64 0]) (t := 66) ?hr ?_; (case hd => rfl); (case hg => rfl); (case hr => first | (go_simp; done) | (go_simp; rfl)); intro gb172 hg w21 hbox hb; have n0_ := aMk (below_step (by repeat (first | (with_reducible first | exact HB.out | apply bAl | apply bDn | apply bD1) | exact HB.out)) hb); have n1_ := aMk (hbox); have n2_ := aMk ((by rw [hg]; exact (below_size (by repeat (first | (with_reducible first | exact HB.out | apply bAl | apply bDn | apply bD1) | exact HB.out))) : w.heap.size ≤ gb172)); have n3_ := aMk ((by rw [hg]; exact (below_size (by repeat (first | (with_reducible first | exact HB.out | apply bAl | apply bDn | apply bD1) | exact HB.out))) : w.heap.size ≤ gb172)); clear HB; have HB := n0_; have BK172 := n1_; have GW172 := n2_; have GE172 := n3_; clear n0_ n1_ n2_ n3_; clear hb hbox hg; have hcz22_0 : w21.cell? ⟨gb172, 0, none⟩ = some (.int .i64 0) := (bCe BK172.out 0).trans rfl; have hcz22_1 : w21.cell? ⟨gb172, 1, none⟩ = some (.int .i64 0) := (bCe BK172.out 1).trans rfl; have hcz22_2 : w21.cell? ⟨gb172, 2, none⟩ = some (.int .i64 0) := (bCe BK172.out 2).trans rfl; have hcz22_3 : w21.cell? ⟨gb172, 3, none⟩ = some (.int .i64 0) := (bCe BK172.out 3).trans rfl; have hcz22_4 : w21.cell? ⟨gb172, 4, none⟩ = some (.int .i64 0) := (bCe BK172.out 4).trans rfl; have hfz22_0 := bFr BK172.out 0; have hfz22_1 := bFr BK172.out 1; have hfz22_2 := bFr BK172.out 2; have hfz22_3 := bFr BK172.out 3; have hfz22_4 := bFr BK172.out 4) | ((with_reducible refine gate_callee (f := 82) rfl ?_); refine goesL_ (some 23) rfl rfl Try.func82 (by kernel_rfl) rfl #[.int .i64 ((rd_T66 l0 x17_2).f0)] rfl (by (try simp only [List.map_toArray, List.map_cons, List.map_nil]); first | done | rfl | (simp only [List.length_drop, List.length_take]; rfl)) ?_; (with_reducible refine (impl_nonNegative.calls ((rd_T66 l0 x17_2).f0) true _ A10.out).mono ?_); rintro e w' ⟨rfl, ⟨nd, rfl⟩⟩; refine ⟨_, rfl, ?_⟩) | (go_at_call 82; (with_reducible refine (impl_nonNegative.calls ((rd_T66 l0 x17_2).f3) true _ A12.out).mono ?_); rintro e w' ⟨rfl, ⟨nd, rfl⟩⟩) | (go_at_call 82; (with_reducible refine (impl_nonNegative.calls ((rd_T66 l0 x17_2).f4) false _ A17.out).mono ?_); rintro e w' ⟨rfl, ⟨nd, rfl⟩⟩))
                     go_ret
                     exact ⟨_, by first | rfl | (simp [errW_none, errW_some] <;> rfl) | (simp [*, errW_none, errW_some] <;> rfl), by first | exact Kd.R_nil _ _ _ _ _ | exact Kd.N_nil _ _ _ _ _ | exact Kd.V_nil _ _ _ _ _ | exact Kd.Q_nil _ _ _ _ _ | exact Kd.S_nil _ _ _ _ _, by repeat (first | (with_reducible first | exact HB.out | apply bAl | apply bDn | apply bD1 | refine bSe ?_ GE172.out) | exact HB.out)⟩
               · replace c13 := Bool.eq_false_iff.mpr c13
                 subst c13
                 have H1 : (some ([] : List Int)) = some r := by rw [if_neg (show ¬ (false = true) by decide)] at H; exact H
                 clear H
                 have H := H1
                 clear H1
                 obtain rfl := Option.some.inj H
                 have p171 : 0 ≤ (x17_2 : Int) := oDt (by first | (with_reducible assumption) | assumption)
                 have q171 : x17_2 < (l0.length : Int) := oDt (by first | (with_reducible assumption) | assumption)
                 obtain ⟨ad171, e171, hx171_0, hx171_1, hx171_2, hx171_3, hx171_4⟩ := at_T66 HR0.out x17_2 p171 q171
                 cases e171
                 replace hx171_0 := (HB.out.cell (wBl w _ hx171_0)).trans hx171_0
                 replace hx171_1 := (HB.out.cell (wBl w _ hx171_1)).trans hx171_1
                 replace hx171_2 := (HB.out.cell (wBl w _ hx171_2)).trans hx171_2
                 replace hx171_3 := (HB.out.cell (wBl w _ hx171_3)).trans hx171_3
                 replace hx171_4 := (HB.out.cell (wBl w _ hx171_4)).trans hx171_4
                 replace p171 := eq_true p171
                 replace q171 := eq_true q171
                 go_wp2_with (first | ((with_reducible refine gate_dst (N := 6) rfl ?_); refine box_event ?hg (N := 6) ?hd (cs := #[.int .i64 0, .int .i64 0, .int .i64 0, .int .i64 0, .int .i64 0]) (t := 66) ?hr ?_; (case hd => rfl); (case hg => rfl); (case hr => first | (go_simp; done) | (go_simp; rfl)); intro gb172 hg w23 hbox hb; have n0_ := aMk (below_step (by repeat (first | (with_reducible first | exact HB.out | apply bAl | apply bDn | apply bD1) | exact HB.out)) hb); have n1_ := aMk (hbox); have n2_ := aMk ((by rw [hg]; exact (below_size (by repeat (first | (with_reducible first | exact HB.out | apply bAl | apply bDn | apply bD1) | exact HB.out))) : w.heap.size ≤ gb172)); have n3_ := aMk ((by rw [hg]; exact (below_size (by repeat (first | (with_reducible first | exact HB.out | apply bAl | apply bDn | apply bD1) | exact HB.out))) : w.heap.size ≤ gb172)); clear HB; have HB := n0_; have BK172 := n1_; have GW172 := n2_; have GE172 := n3_; clear n0_ n1_ n2_ n3_; clear hb hbox hg; have hcz24_0 : w23.cell? ⟨gb172, 0, none⟩ = some (.int .i64 0) := (bCe BK172.out 0).trans rfl; have hcz24_1 : w23.cell? ⟨gb172, 1, none⟩ = some (.int .i64 0) := (bCe BK172.out 1).trans rfl; have hcz24_2 : w23.cell? ⟨gb172, 2, none⟩ = some (.int .i64 0) := (bCe BK172.out 2).trans rfl; have hcz24_3 : w23.cell? ⟨gb172, 3, none⟩ = some (.int .i64 0) := (bCe BK172.out 3).trans rfl; have hcz24_4 : w23.cell? ⟨gb172, 4, none⟩ = some (.int .i64 0) := (bCe BK172.out 4).trans rfl; have hfz24_0 := bFr BK172.out 0; have hfz24_1 := bFr BK172.out 1; have hfz24_2 := bFr BK172.out 2; have hfz24_3 := bFr BK172.out 3; have hfz24_4 := bFr BK172.out 4) | ((with_reducible refine gate_callee (f := 82) rfl ?_); refine goesL_ (some 23) rfl rfl Try.func82 (by kernel_rfl) rfl #[.int .i64 ((rd_T66 l0 x17_2).f0)] rfl (by (try simp only [List.map_toArray, List.map_cons, List.map_nil]); first | done | rfl | (simp only [List.length_drop, List.length_take]; rfl)) ?_; (with_reducible refine (impl_nonNegative.calls ((rd_T66 l0 x17_2).f0) true _ A10.out).mono ?_); rintro e w' ⟨rfl, ⟨nd, rfl⟩⟩; refine ⟨_, rfl, ?_⟩) | (go_at_call 82; (with_reducible refine (impl_nonNegative.calls ((rd_T66 l0 x17_2).f3) false _ A12.out).mono ?_); rintro e w' ⟨rfl, ⟨nd, rfl⟩⟩))
                 go_ret
                 exact ⟨_, by first | rfl | (simp [errW_none, errW_some] <;> rfl) | (simp [*, errW_none, errW_some] <;> rfl), by first | exact Kd.R_nil _ _ _ _ _ | exact Kd.N_nil _ _ _ _ _ | exact Kd.V_nil _ _ _ _ _ | exact Kd.Q_nil _ _ _ _ _ | exact Kd.S_nil _ _ _ _ _, by repeat (first | (with_reducible first | exact HB.out | apply bAl | apply bDn | apply bD1 | refine bSe ?_ GE172.out) | exact HB.out)⟩
             · replace c11 := Bool.eq_false_iff.mpr c11
               subst c11
               have H1 : (some ([] : List Int)) = some r := by rw [if_neg (show ¬ (false = true) by decide)] at H; exact H
               clear H
               have H := H1
               clear H1
               obtain rfl := Option.some.inj H
               have p171 : 0 ≤ (x17_2 : Int) := oDt (by first | (with_reducible assumption) | assumption)
               have q171 : x17_2 < (l0.length : Int) := oDt (by first | (with_reducible assumption) | assumption)
               obtain ⟨ad171, e171, hx171_0, hx171_1, hx171_2, hx171_3, hx171_4⟩ := at_T66 HR0.out x17_2 p171 q171
               cases e171
               replace hx171_0 := (HB.out.cell (wBl w _ hx171_0)).trans hx171_0
               replace hx171_1 := (HB.out.cell (wBl w _ hx171_1)).trans hx171_1
               replace hx171_2 := (HB.out.cell (wBl w _ hx171_2)).trans hx171_2
               replace hx171_3 := (HB.out.cell (wBl w _ hx171_3)).trans hx171_3
               replace hx171_4 := (HB.out.cell (wBl w _ hx171_4)).trans hx171_4
               replace p171 := eq_true p171
               replace q171 := eq_true q171
               go_wp2_with (first | ((with_reducible refine gate_dst (N := 6) rfl ?_); refine box_event ?hg (N := 6) ?hd (cs := #[.int .i64 0, .int .i64 0, .int .i64 0, .int .i64 0, .int .i64 0]) (t := 66) ?hr ?_; (case hd => rfl); (case hg => rfl); (case hr => first | (go_simp; done) | (go_simp; rfl)); intro gb172 hg w25 hbox hb; have n0_ := aMk (below_step (by repeat (first | (with_reducible first | exact HB.out | apply bAl | apply bDn | apply bD1) | exact HB.out)) hb); have n1_ := aMk (hbox); have n2_ := aMk ((by rw [hg]; exact (below_size (by repeat (first | (with_reducible first | exact HB.out | apply bAl | apply bDn | apply bD1) | exact HB.out))) : w.heap.size ≤ gb172)); have n3_ := aMk ((by rw [hg]; exact (below_size (by repeat (first | (with_reducible first | exact HB.out | apply bAl | apply bDn | apply bD1) | exact HB.out))) : w.heap.size ≤ gb172)); clear HB; have HB := n0_; have BK172 := n1_; have GW172 := n2_; have GE172 := n3_; clear n0_ n1_ n2_ n3_; clear hb hbox hg; have hcz26_0 : w25.cell? ⟨gb172, 0, none⟩ = some (.int .i64 0) := (bCe BK172.out 0).trans rfl; have hcz26_1 : w25.cell? ⟨gb172, 1, none⟩ = some (.int .i64 0) := (bCe BK172.out 1).trans rfl; have hcz26_2 : w25.cell? ⟨gb172, 2, none⟩ = some (.int .i64 0) := (bCe BK172.out 2).trans rfl; have hcz26_3 : w25.cell? ⟨gb172, 3, none⟩ = some (.int .i64 0) := (bCe BK172.out 3).trans rfl; have hcz26_4 : w25.cell? ⟨gb172, 4, none⟩ = some (.int .i64 0) := (bCe BK172.out 4).trans rfl; have hfz26_0 := bFr BK172.out 0; have hfz26_1 := bFr BK172.out 1; have hfz26_2 := bFr BK172.out 2; have hfz26_3 := bFr BK172.out 3; have hfz26_4 := bFr BK172.out 4) | ((with_reducible refine gate_callee (f := 82) rfl ?_); refine goesL_ (some 23) rfl rfl Try.func82 (by kernel_rfl) rfl #[.int .i64 ((rd_T66 l0 x17_2).f0)] rfl (by (try simp only [List.map_toArray, List.map_cons, List.map_nil]); first | done | rfl | (simp only [List.length_drop, List.length_take]; rfl)) ?_; (with_reducible refine (impl_nonNegative.calls ((rd_T66 l0 x17_2).f0) false _ A10.out).mono ?_); rintro e w' ⟨rfl, ⟨nd, rfl⟩⟩; refine ⟨_, rfl, ?_⟩))
               go_ret
               exact ⟨_, by first | rfl | (simp [errW_none, errW_some] <;> rfl) | (simp [*, errW_none, errW_some] <;> rfl), by first | exact Kd.R_nil _ _ _ _ _ | exact Kd.N_nil _ _ _ _ _ | exact Kd.V_nil _ _ _ _ _ | exact Kd.Q_nil _ _ _ _ _ | exact Kd.S_nil _ _ _ _ _, by repeat (first | (with_reducible first | exact HB.out | apply bAl | apply bDn | apply bD1 | refine bSe ?_ GE172.out) | exact HB.out)⟩
           · rw [if_neg c9] at H
             exact absurd H (by simp)
         · rw [if_neg c8] at H
           exact absurd H (by simp)
       · rw [if_neg c7] at H
         have c7b0 : decide (x17_2 < (l0.length : Int)) = false := decide_eq_false c7
         clear c7
         replace H := oBm H
         obtain ⟨t168, A270, H⟩ := H
         replace H : (some t168) = some r := H
         have A27 := aMk A270
         clear A270
         obtain rfl := Option.some.inj H
         go_wp2_with (first | ((with_reducible refine gate_callee (f := 83) rfl ?_); refine goesL_ (some 45) rfl rfl Try.func83 (by kernel_rfl) rfl #[.slice A0 l0.length c0, .int .i64 a1] rfl (by (try simp only [List.map_toArray, List.map_cons, List.map_nil]); first | done | rfl | (simp only [List.length_drop, List.length_take]; rfl)) ?_; (with_reducible refine (impl_flexShares.calls k2 _ _ l0 a1 t168 _ ?side1 ?side2 A27.out).mono ?_); (case side1 => repeat (first | exact (Kd.C_below HR0.out HB.out) | (with_reducible refine Kd.C_alloc ?_ _) | (with_reducible refine Kd.C_drewN ?_ _) | (with_reducible refine Kd.C_drew ?_))); (case side2 => exact HC0.out); rintro e w28 ⟨v169, rfl, ho0, hb⟩; refine ⟨_, rfl, ?_⟩; have n0_ := aMk (Kd.R_lower ho0 (below_size (by repeat (first | (with_reducible first | exact HB.out | apply bAl | apply bDn | apply bD1) | exact HB.out)))); have n1_ := aMk (below_step (by repeat (first | (with_reducible first | exact HB.out | apply bAl | apply bDn | apply bD1) | exact HB.out)) hb); clear HB; have HO170 := n0_; have HB := n1_; clear n0_ n1_; (try clear hb); (try clear hb2); (try clear hk); (try clear hi); (try clear ho0)))
         go_ret
         exact ⟨_, by first | rfl | (simp [errW_none, errW_some] <;> rfl) | (simp [*, errW_none, errW_some] <;> rfl), by (with_reducible repeat (first | apply Kd.R_alloc | apply Kd.R_drewN | apply Kd.R_drew)); exact HO170.out, by repeat (first | (with_reducible first | exact HB.out | apply bAl | apply bDn | apply bD1) | exact HB.out)⟩
def laws_eqFlexItem.f (a0_0 : Int) (a0_1 : Int) (a0_2 : Int) (a0_3 : Int) (a0_4 : Int) (a1_0 : Int) (a1_1 : Int) (a1_2 : Int) (a1_3 : Int) (a1_4 : Int) : Option (Bool) := if a0_0 = a1_0 then (if a0_1 = a1_1 then (if a0_2 = a1_2 then (if a0_3 = a1_3 then (if a0_4 = a1_4 then (some true) else (some false)) else (some false)) else (some false)) else (some false)) else (some false)
set_option maxHeartbeats 8000000 in
set_option maxRecDepth 100000 in
theorem laws_eqFlexItem.calls (a0_0 : Int) (a0_1 : Int) (a0_2 : Int) (a0_3 : Int) (a0_4 : Int) (a1_0 : Int) (a1_1 : Int) (a1_2 : Int) (a1_3 : Int) (a1_4 : Int) (r : Bool) (w : World) (h : laws_eqFlexItem.f a0_0 a0_1 a0_2 a0_3 a0_4 a1_0 a1_1 a1_2 a1_3 a1_4 = some r) :
 Calls Try.prog 84 #[.agg #[.int .i64 a0_0, .int .i64 a0_1, .int .i64 a0_2, .int .i64 a0_3, .int .i64 a0_4], .agg #[.int .i64 a1_0, .int .i64 a1_1, .int .i64 a1_2, .int .i64 a1_3, .int .i64 a1_4]] w fun e w' => e = .returned (.bool r) ∧ Below w.heap.size w w' := by
 have hu66 := Try.underlying66
 have HB := aMk (Below.refl w.heap.size w)
 have H : (if a0_0 = a1_0 then (if a0_1 = a1_1 then (if a0_2 = a1_2 then (if a0_3 = a1_3 then (if a0_4 = a1_4 then (some true) else (some false)) else (some false)) else (some false)) else (some false)) else (some false)) = some r := h
 clear h
 by_cases c3 : a0_0 = a1_0
 · rw [if_pos c3] at H
   have c3b0 : (a0_0 == a1_0) = true := beq_iff_eq.mpr c3
   have c3b1 : (a0_0 != a1_0) = false := bne_eq_false_iff_eq.mpr c3
   clear c3
   by_cases c4 : a0_1 = a1_1
   · rw [if_pos c4] at H
     have c4b0 : (a0_1 == a1_1) = true := beq_iff_eq.mpr c4
     have c4b1 : (a0_1 != a1_1) = false := bne_eq_false_iff_eq.mpr c4
     clear c4
     by_cases c5 : a0_2 = a1_2
     · rw [if_pos c5] at H
       have c5b0 : (a0_2 == a1_2) = true := beq_iff_eq.mpr c5
       have c5b1 : (a0_2 != a1_2) = false := bne_eq_false_iff_eq.mpr c5
       clear c5
       by_cases c6 : a0_3 = a1_3
       · rw [if_pos c6] at H
         have c6b0 : (a0_3 == a1_3) = true := beq_iff_eq.mpr c6
         have c6b1 : (a0_3 != a1_3) = false := bne_eq_false_iff_eq.mpr c6
         clear c6
         by_cases c7 : a0_4 = a1_4
         · rw [if_pos c7] at H
           have c7b0 : (a0_4 == a1_4) = true := beq_iff_eq.mpr c7
           have c7b1 : (a0_4 != a1_4) = false := bne_eq_false_iff_eq.mpr c7
           clear c7
           obtain rfl := Option.some.inj H
           go_enter Try.func84, Try.ntmps84
           go_wp2_with (first | ((with_reducible refine gate_dst (N := 2) rfl ?_); refine box_event ?hg (N := 2) ?hd (cs := #[.int .i64 a0_0, .int .i64 a0_1, .int .i64 a0_2, .int .i64 a0_3, .int .i64 a0_4]) (t := 66) ?hr ?_; (case hd => rfl); (case hg => rfl); (case hr => first | (go_simp; done) | (go_simp; rfl)); intro gb176 hg w8 hbox hb; have n0_ := aMk (below_step (by repeat (first | (with_reducible first | exact HB.out | apply bAl | apply bDn | apply bD1) | exact HB.out)) hb); have n1_ := aMk (hbox); have n2_ := aMk ((by rw [hg]; exact (below_size (by repeat (first | (with_reducible first | exact HB.out | apply bAl | apply bDn | apply bD1) | exact HB.out))) : w.heap.size ≤ gb176)); have n3_ := aMk ((by rw [hg]; exact (below_size (by repeat (first | (with_reducible first | exact HB.out | apply bAl | apply bDn | apply bD1) | exact HB.out))) : w.heap.size ≤ gb176)); clear HB; have HB := n0_; have BK176 := n1_; have GW176 := n2_; have GE176 := n3_; clear n0_ n1_ n2_ n3_; clear hb hbox hg) | ((with_reducible refine gate_dst (N := 3) rfl ?_); refine box_event ?hg (N := 3) ?hd (cs := #[.int .i64 a1_0, .int .i64 a1_1, .int .i64 a1_2, .int .i64 a1_3, .int .i64 a1_4]) (t := 66) ?hr ?_; (case hd => rfl); (case hg => rfl); (case hr => first | (go_simp; done) | (go_simp; rfl)); intro gb177 hg w9 hbox hb; have n0_ := aMk (blk_below (g := gb176) (o := .cells #[.int .i64 a0_0, .int .i64 a0_1, .int .i64 a0_2, .int .i64 a0_3, .int .i64 a0_4] 66 (0, 0)) (by (with_reducible repeat (first | refine bkD ?_ _ | refine blk_drew ?_ | refine bkA ?_ _)); exact BK176.out) hb); have n1_ := aMk (below_step (by repeat (first | (with_reducible first | exact HB.out | apply bAl | apply bDn | apply bD1 | refine bSe ?_ GE176.out) | exact HB.out)) hb); have n2_ := aMk (hbox); have n3_ := aMk ((by rw [hg]; exact (below_size (by repeat (first | (with_reducible first | exact HB.out | apply bAl | apply bDn | apply bD1 | refine bSe ?_ GE176.out) | exact HB.out))) : w.heap.size ≤ gb177)); have n4_ := aMk ((by rw [hg]; exact (below_size (by repeat (first | (with_reducible first | exact HB.out | apply bAl | apply bDn | apply bD1 | refine bSe ?_ GE176.out) | exact HB.out))) : w.heap.size ≤ gb177)); have n5_ := aMk ((by rw [hg]; exact Nat.ne_of_lt (blk_lt (g := gb176) (o := .cells #[.int .i64 a0_0, .int .i64 a0_1, .int .i64 a0_2, .int .i64 a0_3, .int .i64 a0_4] 66 (0, 0)) (by (with_reducible repeat (first | refine bkD ?_ _ | refine blk_drew ?_ | refine bkA ?_ _)); exact BK176.out)) : gb176 ≠ gb177)); have n6_ := aMk ((by rw [hg]; exact Nat.ne_of_gt (blk_lt (g := gb176) (o := .cells #[.int .i64 a0_0, .int .i64 a0_1, .int .i64 a0_2, .int .i64 a0_3, .int .i64 a0_4] 66 (0, 0)) (by (with_reducible repeat (first | refine bkD ?_ _ | refine blk_drew ?_ | refine bkA ?_ _)); exact BK176.out)) : gb177 ≠ gb176)); clear BK176; clear HB; have BK176 := n0_; have HB := n1_; have BK177 := n2_; have GW177 := n3_; have GE177 := n4_; have NB176_177 := n5_; have NB177_176 := n6_; clear n0_ n1_ n2_ n3_ n4_ n5_ n6_; clear hb hbox hg; have hnb10 := NB176_177.out; have hnc10 := NB177_176.out; have hcz11_0 : w9.cell? ⟨gb176, 0, none⟩ = some (.int .i64 a0_0) := (bCe BK176.out 0).trans rfl; have hcz11_1 : w9.cell? ⟨gb176, 1, none⟩ = some (.int .i64 a0_1) := (bCe BK176.out 1).trans rfl; have hcz11_2 : w9.cell? ⟨gb176, 2, none⟩ = some (.int .i64 a0_2) := (bCe BK176.out 2).trans rfl; have hcz11_3 : w9.cell? ⟨gb176, 3, none⟩ = some (.int .i64 a0_3) := (bCe BK176.out 3).trans rfl; have hcz11_4 : w9.cell? ⟨gb176, 4, none⟩ = some (.int .i64 a0_4) := (bCe BK176.out 4).trans rfl; have hfz11_0 := bFr BK176.out 0; have hfz11_1 := bFr BK176.out 1; have hfz11_2 := bFr BK176.out 2; have hfz11_3 := bFr BK176.out 3; have hfz11_4 := bFr BK176.out 4; have hcz12_0 : w9.cell? ⟨gb177, 0, none⟩ = some (.int .i64 a1_0) := (bCe BK177.out 0).trans rfl; have hcz12_1 : w9.cell? ⟨gb177, 1, none⟩ = some (.int .i64 a1_1) := (bCe BK177.out 1).trans rfl; have hcz12_2 : w9.cell? ⟨gb177, 2, none⟩ = some (.int .i64 a1_2) := (bCe BK177.out 2).trans rfl; have hcz12_3 : w9.cell? ⟨gb177, 3, none⟩ = some (.int .i64 a1_3) := (bCe BK177.out 3).trans rfl; have hcz12_4 : w9.cell? ⟨gb177, 4, none⟩ = some (.int .i64 a1_4) := (bCe BK177.out 4).trans rfl; have hfz12_0 := bFr BK177.out 0; have hfz12_1 := bFr BK177.out 1; have hfz12_2 := bFr BK177.out 2; have hfz12_3 := bFr BK177.out 3; have hfz12_4 := bFr BK177.out 4))
           go_ret
           exact ⟨by first | rfl | (simp [errW_none, errW_some] <;> rfl) | (simp [*, errW_none, errW_some] <;> rfl), by repeat (first | (with_reducible first | exact HB.out | apply bAl | apply bDn | apply bD1 | refine bSe ?_ GE176.out | refine bSe ?_ GE177.out) | exact HB.out)⟩
         · rw [if_neg c7] at H
           have c7b0 : (a0_4 == a1_4) = false := beq_eq_false_iff_ne.mpr c7
           have c7b1 : (a0_4 != a1_4) = true := bne_iff_ne.mpr c7
           obtain rfl := Option.some.inj H
           go_enter Try.func84, Try.ntmps84
           go_wp2_with (first | ((with_reducible refine gate_dst (N := 2) rfl ?_); refine box_event ?hg (N := 2) ?hd (cs := #[.int .i64 a0_0, .int .i64 a0_1, .int .i64 a0_2, .int .i64 a0_3, .int .i64 a0_4]) (t := 66) ?hr ?_; (case hd => rfl); (case hg => rfl); (case hr => first | (go_simp; done) | (go_simp; rfl)); intro gb176 hg w13 hbox hb; have n0_ := aMk (below_step (by repeat (first | (with_reducible first | exact HB.out | apply bAl | apply bDn | apply bD1) | exact HB.out)) hb); have n1_ := aMk (hbox); have n2_ := aMk ((by rw [hg]; exact (below_size (by repeat (first | (with_reducible first | exact HB.out | apply bAl | apply bDn | apply bD1) | exact HB.out))) : w.heap.size ≤ gb176)); have n3_ := aMk ((by rw [hg]; exact (below_size (by repeat (first | (with_reducible first | exact HB.out | apply bAl | apply bDn | apply bD1) | exact HB.out))) : w.heap.size ≤ gb176)); clear HB; have HB := n0_; have BK176 := n1_; have GW176 := n2_; have GE176 := n3_; clear n0_ n1_ n2_ n3_; clear hb hbox hg) | ((with_reducible refine gate_dst (N := 3) rfl ?_); refine box_event ?hg (N := 3) ?hd (cs := #[.int .i64 a1_0, .int .i64 a1_1, .int .i64 a1_2, .int .i64 a1_3, .int .i64 a1_4]) (t := 66) ?hr ?_; (case hd => rfl); (case hg => rfl); (case hr => first | (go_simp; done) | (go_simp; rfl)); intro gb177 hg w14 hbox hb; have n0_ := aMk (blk_below (g := gb176) (o := .cells #[.int .i64 a0_0, .int .i64 a0_1, .int .i64 a0_2, .int .i64 a0_3, .int .i64 a0_4] 66 (0, 0)) (by (with_reducible repeat (first | refine bkD ?_ _ | refine blk_drew ?_ | refine bkA ?_ _)); exact BK176.out) hb); have n1_ := aMk (below_step (by repeat (first | (with_reducible first | exact HB.out | apply bAl | apply bDn | apply bD1 | refine bSe ?_ GE176.out) | exact HB.out)) hb); have n2_ := aMk (hbox); have n3_ := aMk ((by rw [hg]; exact (below_size (by repeat (first | (with_reducible first | exact HB.out | apply bAl | apply bDn | apply bD1 | refine bSe ?_ GE176.out) | exact HB.out))) : w.heap.size ≤ gb177)); have n4_ := aMk ((by rw [hg]; exact (below_size (by repeat (first | (with_reducible first | exact HB.out | apply bAl | apply bDn | apply bD1 | refine bSe ?_ GE176.out) | exact HB.out))) : w.heap.size ≤ gb177)); have n5_ := aMk ((by rw [hg]; exact Nat.ne_of_lt (blk_lt (g := gb176) (o := .cells #[.int .i64 a0_0, .int .i64 a0_1, .int .i64 a0_2, .int .i64 a0_3, .int .i64 a0_4] 66 (0, 0)) (by (with_reducible repeat (first | refine bkD ?_ _ | refine blk_drew ?_ | refine bkA ?_ _)); exact BK176.out)) : gb176 ≠ gb177)); have n6_ := aMk ((by rw [hg]; exact Nat.ne_of_gt (blk_lt (g := gb176) (o := .cells #[.int .i64 a0_0, .int .i64 a0_1, .int .i64 a0_2, .int .i64 a0_3, .int .i64 a0_4] 66 (0, 0)) (by (with_reducible repeat (first | refine bkD ?_ _ | refine blk_drew ?_ | refine bkA ?_ _)); exact BK176.out)) : gb177 ≠ gb176)); clear BK176; clear HB; have BK176 := n0_; have HB := n1_; have BK177 := n2_; have GW177 := n3_; have GE177 := n4_; have NB176_177 := n5_; have NB177_176 := n6_; clear n0_ n1_ n2_ n3_ n4_ n5_ n6_; clear hb hbox hg; have hnb15 := NB176_177.out; have hnc15 := NB177_176.out; have hcz16_0 : w14.cell? ⟨gb176, 0, none⟩ = some (.int .i64 a0_0) := (bCe BK176.out 0).trans rfl; have hcz16_1 : w14.cell? ⟨gb176, 1, none⟩ = some (.int .i64 a0_1) := (bCe BK176.out 1).trans rfl; have hcz16_2 : w14.cell? ⟨gb176, 2, none⟩ = some (.int .i64 a0_2) := (bCe BK176.out 2).trans rfl; have hcz16_3 : w14.cell? ⟨gb176, 3, none⟩ = some (.int .i64 a0_3) := (bCe BK176.out 3).trans rfl; have hcz16_4 : w14.cell? ⟨gb176, 4, none⟩ = some (.int .i64 a0_4) := (bCe BK176.out 4).trans rfl; have hfz16_0 := bFr BK176.out 0; have hfz16_1 := bFr BK176.out 1; have hfz16_2 := bFr BK176.out 2; have hfz16_3 := bFr BK176.out 3; have hfz16_4 := bFr BK176.out 4; have hcz17_0 : w14.cell? ⟨gb177, 0, none⟩ = some (.int .i64 a1_0) := (bCe BK177.out 0).trans rfl; have hcz17_1 : w14.cell? ⟨gb177, 1, none⟩ = some (.int .i64 a1_1) := (bCe BK177.out 1).trans rfl; have hcz17_2 : w14.cell? ⟨gb177, 2, none⟩ = some (.int .i64 a1_2) := (bCe BK177.out 2).trans rfl; have hcz17_3 : w14.cell? ⟨gb177, 3, none⟩ = some (.int .i64 a1_3) := (bCe BK177.out 3).trans rfl; have hcz17_4 : w14.cell? ⟨gb177, 4, none⟩ = some (.int .i64 a1_4) := (bCe BK177.out 4).trans rfl; have hfz17_0 := bFr BK177.out 0; have hfz17_1 := bFr BK177.out 1; have hfz17_2 := bFr BK177.out 2; have hfz17_3 := bFr BK177.out 3; have hfz17_4 := bFr BK177.out 4))
           go_ret
           exact ⟨by first | rfl | (simp [errW_none, errW_some] <;> rfl) | (simp [*, errW_none, errW_some] <;> rfl), by repeat (first | (with_reducible first | exact HB.out | apply bAl | apply bDn | apply bD1 | refine bSe ?_ GE176.out | refine bSe ?_ GE177.out) | exact HB.out)⟩
       · rw [if_neg c6] at H
         have c6b0 : (a0_3 == a1_3) = false := beq_eq_false_iff_ne.mpr c6
         have c6b1 : (a0_3 != a1_3) = true := bne_iff_ne.mpr c6
         obtain rfl := Option.some.inj H
         go_enter Try.func84, Try.ntmps84
         go_wp2_with (first | ((with_reducible refine gate_dst (N := 2) rfl ?_); refine box_event ?hg (N := 2) ?hd (cs := #[.int .i64 a0_0, .int .i64 a0_1, .int .i64 a0_2, .int .i64 a0_3, .int .i64 a0_4]) (t := 66) ?hr ?_; (case hd => rfl); (case hg => rfl); (case hr => first | (go_simp; done) | (go_simp; rfl)); intro gb176 hg w18 hbox hb; have n0_ := aMk (below_step (by repeat (first | (with_reducible first | exact HB.out | apply bAl | apply bDn | apply bD1) | exact HB.out)) hb); have n1_ := aMk (hbox); have n2_ := aMk ((by rw [hg]; exact (below_size (by repeat (first | (with_reducible first | exact HB.out | apply bAl | apply bDn | apply bD1) | exact HB.out))) : w.heap.size ≤ gb176)); have n3_ := aMk ((by rw [hg]; exact (below_size (by repeat (first | (with_reducible first | exact HB.out | apply bAl | apply bDn | apply bD1) | exact HB.out))) : w.heap.size ≤ gb176)); clear HB; have HB := n0_; have BK176 := n1_; have GW176 := n2_; have GE176 := n3_; clear n0_ n1_ n2_ n3_; clear hb hbox hg) | ((with_reducible refine gate_dst (N := 3) rfl ?_); refine box_event ?hg (N := 3) ?hd (cs := #[.int .i64 a1_0, .int .i64 a1_1, .int .i64 a1_2, .int .i64 a1_3, .int .i64 a1_4]) (t := 66) ?hr ?_; (case hd => rfl); (case hg => rfl); (case hr => first | (go_simp; done) | (go_simp; rfl)); intro gb177 hg w19 hbox hb; have n0_ := aMk (blk_below (g := gb176) (o := .cells #[.int .i64 a0_0, .int .i64 a0_1, .int .i64 a0_2, .int .i64 a0_3, .int .i64 a0_4] 66 (0, 0)) (by (with_reducible repeat (first | refine bkD ?_ _ | refine blk_drew ?_ | refine bkA ?_ _)); exact BK176.out) hb); have n1_ := aMk (below_step (by repeat (first | (with_reducible first | exact HB.out | apply bAl | apply bDn | apply bD1 | refine bSe ?_ GE176.out) | exact HB.out)) hb); have n2_ := aMk (hbox); have n3_ := aMk ((by rw [hg]; exact (below_size (by repeat (first | (with_reducible first | exact HB.out | apply bAl | apply bDn | apply bD1 | refine bSe ?_ GE176.out) | exact HB.out))) : w.heap.size ≤ gb177)); have n4_ := aMk ((by rw [hg]; exact (below_size (by repeat (first | (with_reducible first | exact HB.out | apply bAl | apply bDn | apply bD1 | refine bSe ?_ GE176.out) | exact HB.out))) : w.heap.size ≤ gb177)); have n5_ := aMk ((by rw [hg]; exact Nat.ne_of_lt (blk_lt (g := gb176) (o := .cells #[.int .i64 a0_0, .int .i64 a0_1, .int .i64 a0_2, .int .i64 a0_3, .int .i64 a0_4] 66 (0, 0)) (by (with_reducible repeat (first | refine bkD ?_ _ | refine blk_drew ?_ | refine bkA ?_ _)); exact BK176.out)) : gb176 ≠ gb177)); have n6_ := aMk ((by rw [hg]; exact Nat.ne_of_gt (blk_lt (g := gb176) (o := .cells #[.int .i64 a0_0, .int .i64 a0_1, .int .i64 a0_2, .int .i64 a0_3, .int .i64 a0_4] 66 (0, 0)) (by (with_reducible repeat (first | refine bkD ?_ _ | refine blk_drew ?_ | refine bkA ?_ _)); exact BK176.out)) : gb177 ≠ gb176)); clear BK176; clear HB; have BK176 := n0_; have HB := n1_; have BK177 := n2_; have GW177 := n3_; have GE177 := n4_; have NB176_177 := n5_; have NB177_176 := n6_; clear n0_ n1_ n2_ n3_ n4_ n5_ n6_; clear hb hbox hg; have hnb20 := NB176_177.out; have hnc20 := NB177_176.out; have hcz21_0 : w19.cell? ⟨gb176, 0, none⟩ = some (.int .i64 a0_0) := (bCe BK176.out 0).trans rfl; have hcz21_1 : w19.cell? ⟨gb176, 1, none⟩ = some (.int .i64 a0_1) := (bCe BK176.out 1).trans rfl; have hcz21_2 : w19.cell? ⟨gb176, 2, none⟩ = some (.int .i64 a0_2) := (bCe BK176.out 2).trans rfl; have hcz21_3 : w19.cell? ⟨gb176, 3, none⟩ = some (.int .i64 a0_3) := (bCe BK176.out 3).trans rfl; have hcz21_4 : w19.cell? ⟨gb176, 4, none⟩ = some (.int .i64 a0_4) := (bCe BK176.out 4).trans rfl; have hfz21_0 := bFr BK176.out 0; have hfz21_1 := bFr BK176.out 1; have hfz21_2 := bFr BK176.out 2; have hfz21_3 := bFr BK176.out 3; have hfz21_4 := bFr BK176.out 4; have hcz22_0 : w19.cell? ⟨gb177, 0, none⟩ = some (.int .i64 a1_0) := (bCe BK177.out 0).trans rfl; have hcz22_1 : w19.cell? ⟨gb177, 1, none⟩ = some (.int .i64 a1_1) := (bCe BK177.out 1).trans rfl; have hcz22_2 : w19.cell? ⟨gb177, 2, none⟩ = some (.int .i64 a1_2) := (bCe BK177.out 2).trans rfl; have hcz22_3 : w19.cell? ⟨gb177, 3, none⟩ = some (.int .i64 a1_3) := (bCe BK177.out 3).trans rfl; have hcz22_4 : w19.cell? ⟨gb177, 4, none⟩ = some (.int .i64 a1_4) := (bCe BK177.out 4).trans rfl; have hfz22_0 := bFr BK177.out 0; have hfz22_1 := bFr BK177.out 1; have hfz22_2 := bFr BK177.out 2; have hfz22_3 := bFr BK177.out 3; have hfz22_4 := bFr BK177.out 4))
         go_ret
         exact ⟨by first | rfl | (simp [errW_none, errW_some] <;> rfl) | (simp [*, errW_none, errW_some] <;> rfl), by repeat (first | (with_reducible first | exact HB.out | apply bAl | apply bDn | apply bD1 | refine bSe ?_ GE176.out | refine bSe ?_ GE177.out) | exact HB.out)⟩
     · rw [if_neg c5] at H
       have c5b0 : (a0_2 == a1_2) = false := beq_eq_false_iff_ne.mpr c5
       have c5b1 : (a0_2 != a1_2) = true := bne_iff_ne.mpr c5
       obtain rfl := Option.some.inj H
       go_enter Try.func84, Try.ntmps84
       go_wp2_with (first | ((with_reducible refine gate_dst (N := 2) rfl ?_); refine box_event ?hg (N := 2) ?hd (cs := #[.int .i64 a0_0, .int .i64 a0_1, .int .i64 a0_2, .int .i64 a0_3, .int .i64 a0_4]) (t := 66) ?hr ?_; (case hd => rfl); (case hg => rfl); (case hr => first | (go_simp; done) | (go_simp; rfl)); intro gb176 hg w23 hbox hb; have n0_ := aMk (below_step (by repeat (first | (with_reducible first | exact HB.out | apply bAl | apply bDn | apply bD1) | exact HB.out)) hb); have n1_ := aMk (hbox); have n2_ := aMk ((by rw [hg]; exact (below_size (by repeat (first | (with_reducible first | exact HB.out | apply bAl | apply bDn | apply bD1) | exact HB.out))) : w.heap.size ≤ gb176)); have n3_ := aMk ((by rw [hg]; exact (below_size (by repeat (first | (with_reducible first | exact HB.out | apply bAl | apply bDn | apply bD1) | exact HB.out))) : w.heap.size ≤ gb176)); clear HB; have HB := n0_; have BK176 := n1_; have GW176 := n2_; have GE176 := n3_; clear n0_ n1_ n2_ n3_; clear hb hbox hg) | ((with_reducible refine gate_dst (N := 3) rfl ?_); refine box_event ?hg (N := 3) ?hd (cs := #[.int .i64 a1_0, .int .i64 a1_1, .int .i64 a1_2, .int .i64 a1_3, .int .i64 a1_4]) (t := 66) ?hr ?_; (case hd => rfl); (case hg => rfl); (case hr => first | (go_simp; done) | (go_simp; rfl)); intro gb177 hg w24 hbox hb; have n0_ := aMk (blk_below (g := gb176) (o := .cells #[.int .i64 a0_0, .int .i64 a0_1, .int .i64 a0_2, .int .i64 a0_3, .int .i64 a0_4] 66 (0, 0)) (by (with_reducible repeat (first | refine bkD ?_ _ | refine blk_drew ?_ | refine bkA ?_ _)); exact BK176.out) hb); have n1_ := aMk (below_step (by repeat (first | (with_reducible first | exact HB.out | apply bAl | apply bDn | apply bD1 | refine bSe ?_ GE176.out) | exact HB.out)) hb); have n2_ := aMk (hbox); have n3_ := aMk ((by rw [hg]; exact (below_size (by repeat (first | (with_reducible first | exact HB.out | apply bAl | apply bDn | apply bD1 | refine bSe ?_ GE176.out) | exact HB.out))) : w.heap.size ≤ gb177)); have n4_ := aMk ((by rw [hg]; exact (below_size (by repeat (first | (with_reducible first | exact HB.out | apply bAl | apply bDn | apply bD1 | refine bSe ?_ GE176.out) | exact HB.out))) : w.heap.size ≤ gb177)); have n5_ := aMk ((by rw [hg]; exact Nat.ne_of_lt (blk_lt (g := gb176) (o := .cells #[.int .i64 a0_0, .int .i64 a0_1, .int .i64 a0_2, .int .i64 a0_3, .int .i64 a0_4] 66 (0, 0)) (by (with_reducible repeat (first | refine bkD ?_ _ | refine blk_drew ?_ | refine bkA ?_ _)); exact BK176.out)) : gb176 ≠ gb177)); have n6_ := aMk ((by rw [hg]; exact Nat.ne_of_gt (blk_lt (g := gb176) (o := .cells #[.int .i64 a0_0, .int .i64 a0_1, .int .i64 a0_2, .int .i64 a0_3, .int .i64 a0_4] 66 (0, 0)) (by (with_reducible repeat (first | refine bkD ?_ _ | refine blk_drew ?_ | refine bkA ?_ _)); exact BK176.out)) : gb177 ≠ gb176)); clear BK176; clear HB; have BK176 := n0_; have HB := n1_; have BK177 := n2_; have GW177 := n3_; have GE177 := n4_; have NB176_177 := n5_; have NB177_176 := n6_; clear n0_ n1_ n2_ n3_ n4_ n5_ n6_; clear hb hbox hg; have hnb25 := NB176_177.out; have hnc25 := NB177_176.out; have hcz26_0 : w24.cell? ⟨gb176, 0, none⟩ = some (.int .i64 a0_0) := (bCe BK176.out 0).trans rfl; have hcz26_1 : w24.cell? ⟨gb176, 1, none⟩ = some (.int .i64 a0_1) := (bCe BK176.out 1).trans rfl; have hcz26_2 : w24.cell? ⟨gb176, 2, none⟩ = some (.int .i64 a0_2) := (bCe BK176.out 2).trans rfl; have hcz26_3 : w24.cell? ⟨gb176, 3, none⟩ = some (.int .i64 a0_3) := (bCe BK176.out 3).trans rfl; have hcz26_4 : w24.cell? ⟨gb176, 4, none⟩ = some (.int .i64 a0_4) := (bCe BK176.out 4).trans rfl; have hfz26_0 := bFr BK176.out 0; have hfz26_1 := bFr BK176.out 1; have hfz26_2 := bFr BK176.out 2; have hfz26_3 := bFr BK176.out 3; have hfz26_4 := bFr BK176.out 4; have hcz27_0 : w24.cell? ⟨gb177, 0, none⟩ = some (.int .i64 a1_0) := (bCe BK177.out 0).trans rfl; have hcz27_1 : w24.cell? ⟨gb177, 1, none⟩ = some (.int .i64 a1_1) := (bCe BK177.out 1).trans rfl; have hcz27_2 : w24.cell? ⟨gb177, 2, none⟩ = some (.int .i64 a1_2) := (bCe BK177.out 2).trans rfl; have hcz27_3 : w24.cell? ⟨gb177, 3, none⟩ = some (.int .i64 a1_3) := (bCe BK177.out 3).trans rfl; have hcz27_4 : w24.cell? ⟨gb177, 4, none⟩ = some (.int .i64 a1_4) := (bCe BK177.out 4).trans rfl; have hfz27_0 := bFr BK177.out 0; have hfz27_1 := bFr BK177.out 1; have hfz27_2 := bFr BK177.out 2; have hfz27_3 := bFr BK177.out 3; have hfz27_4 := bFr BK177.out 4))
       go_ret
       exact ⟨by first | rfl | (simp [errW_none, errW_some] <;> rfl) | (simp [*, errW_none, errW_some] <;> rfl), by repeat (first | (with_reducible first | exact HB.out | apply bAl | apply bDn | apply bD1 | refine bSe ?_ GE176.out | refine bSe ?_ GE177.out) | exact HB.out)⟩
   · rw [if_neg c4] at H
     have c4b0 : (a0_1 == a1_1) = false := beq_eq_false_iff_ne.mpr c4
     have c4b1 : (a0_1 != a1_1) = true := bne_iff_ne.mpr c4
     obtain rfl := Option.some.inj H
     go_enter Try.func84, Try.ntmps84
     go_wp2_with (first | ((with_reducible refine gate_dst (N := 2) rfl ?_); refine box_event ?hg (N := 2) ?hd (cs := #[.int .i64 a0_0, .int .i64 a0_1, .int .i64 a0_2, .int .i64 a0_3, .int .i64 a0_4]) (t := 66) ?hr ?_; (case hd => rfl); (case hg => rfl); (case hr => first | (go_simp; done) | (go_simp; rfl)); intro gb176 hg w28 hbox hb; have n0_ := aMk (below_step (by repeat (first | (with_reducible first | exact HB.out | apply bAl | apply bDn | apply bD1) | exact HB.out)) hb); have n1_ := aMk (hbox); have n2_ := aMk ((by rw [hg]; exact (below_size (by repeat (first | (with_reducible first | exact HB.out | apply bAl | apply bDn | apply bD1) | exact HB.out))) : w.heap.size ≤ gb176)); have n3_ := aMk ((by rw [hg]; exact (below_size (by repeat (first | (with_reducible first | exact HB.out | apply bAl | apply bDn | apply bD1) | exact HB.out))) : w.heap.size ≤ gb176)); clear HB; have HB := n0_; have BK176 := n1_; have GW176 := n2_; have GE176 := n3_; clear n0_ n1_ n2_ n3_; clear hb hbox hg) | ((with_reducible refine gate_dst (N := 3) rfl ?_); refine box_event ?hg (N := 3) ?hd (cs := #[.int .i64 a1_0, .int .i64 a1_1, .int .i64 a1_2, .int .i64 a1_3, .int .i64 a1_4]) (t := 66) ?hr ?_; (case hd => rfl); (case hg => rfl); (case hr => first | (go_simp; done) | (go_simp; rfl)); intro gb177 hg w29 hbox hb; have n0_ := aMk (blk_below (g := gb176) (o := .cells #[.int .i64 a0_0, .int .i64 a0_1, .int .i64 a0_2, .int .i64 a0_3, .int .i64 a0_4] 66 (0, 0)) (by (with_reducible repeat (first | refine bkD ?_ _ | refine blk_drew ?_ | refine bkA ?_ _)); exact BK176.out) hb); have n1_ := aMk (below_step (by repeat (first | (with_reducible first | exact HB.out | apply bAl | apply bDn | apply bD1 | refine bSe ?_ GE176.out) | exact HB.out)) hb); have n2_ := aMk (hbox); have n3_ := aMk ((by rw [hg]; exact (below_size (by repeat (first | (with_reducible first | exact HB.out | apply bAl | apply bDn | apply bD1 | refine bSe ?_ GE176.out) | exact HB.out))) : w.heap.size ≤ gb177)); have n4_ := aMk ((by rw [hg]; exact (below_size (by repeat (first | (with_reducible first | exact HB.out | apply bAl | apply bDn | apply bD1 | refine bSe ?_ GE176.out) | exact HB.out))) : w.heap.size ≤ gb177)); have n5_ := aMk ((by rw [hg]; exact Nat.ne_of_lt (blk_lt (g := gb176) (o := .cells #[.int .i64 a0_0, .int .i64 a0_1, .int .i64 a0_2, .int .i64 a0_3, .int .i64 a0_4] 66 (0, 0)) (by (with_reducible repeat (first | refine bkD ?_ _ | refine blk_drew ?_ | refine bkA ?_ _)); exact BK176.out)) : gb176 ≠ gb177)); have n6_ := aMk ((by rw [hg]; exact Nat.ne_of_gt (blk_lt (g := gb176) (o := .cells #[.int .i64 a0_0, .int .i64 a0_1, .int .i64 a0_2, .int .i64 a0_3, .int .i64 a0_4] 66 (0, 0)) (by (with_reducible repeat (first | refine bkD ?_ _ | refine blk_drew ?_ | refine bkA ?_ _)); exact BK176.out)) : gb177 ≠ gb176)); clear BK176; clear HB; have BK176 := n0_; have HB := n1_; have BK177 := n2_; have GW177 := n3_; have GE177 := n4_; have NB176_177 := n5_; have NB177_176 := n6_; clear n0_ n1_ n2_ n3_ n4_ n5_ n6_; clear hb hbox hg; have hnb30 := NB176_177.out; have hnc30 := NB177_176.out; have hcz31_0 : w29.cell? ⟨gb176, 0, none⟩ = some (.int .i64 a0_0) := (bCe BK176.out 0).trans rfl; have hcz31_1 : w29.cell? ⟨gb176, 1, none⟩ = some (.int .i64 a0_1) := (bCe BK176.out 1).trans rfl; have hcz31_2 : w29.cell? ⟨gb176, 2, none⟩ = some (.int .i64 a0_2) := (bCe BK176.out 2).trans rfl; have hcz31_3 : w29.cell? ⟨gb176, 3, none⟩ = some (.int .i64 a0_3) := (bCe BK176.out 3).trans rfl; have hcz31_4 : w29.cell? ⟨gb176, 4, none⟩ = some (.int .i64 a0_4) := (bCe BK176.out 4).trans rfl; have hfz31_0 := bFr BK176.out 0; have hfz31_1 := bFr BK176.out 1; have hfz31_2 := bFr BK176.out 2; have hfz31_3 := bFr BK176.out 3; have hfz31_4 := bFr BK176.out 4; have hcz32_0 : w29.cell? ⟨gb177, 0, none⟩ = some (.int .i64 a1_0) := (bCe BK177.out 0).trans rfl; have hcz32_1 : w29.cell? ⟨gb177, 1, none⟩ = some (.int .i64 a1_1) := (bCe BK177.out 1).trans rfl; have hcz32_2 : w29.cell? ⟨gb177, 2, none⟩ = some (.int .i64 a1_2) := (bCe BK177.out 2).trans rfl; have hcz32_3 : w29.cell? ⟨gb177, 3, none⟩ = some (.int .i64 a1_3) := (bCe BK177.out 3).trans rfl; have hcz32_4 : w29.cell? ⟨gb177, 4, none⟩ = some (.int .i64 a1_4) := (bCe BK177.out 4).trans rfl; have hfz32_0 := bFr BK177.out 0; have hfz32_1 := bFr BK177.out 1; have hfz32_2 := bFr BK177.out 2; have hfz32_3 := bFr BK177.out 3; have hfz32_4 := bFr BK177.out 4))
     go_ret
     exact ⟨by first | rfl | (simp [errW_none, errW_some] <;> rfl) | (simp [*, errW_none, errW_some] <;> rfl), by repeat (first | (with_reducible first | exact HB.out | apply bAl | apply bDn | apply bD1 | refine bSe ?_ GE176.out | refine bSe ?_ GE177.out) | exact HB.out)⟩
 · rw [if_neg c3] at H
   have c3b0 : (a0_0 == a1_0) = false := beq_eq_false_iff_ne.mpr c3
   have c3b1 : (a0_0 != a1_0) = true := bne_iff_ne.mpr c3
   obtain rfl := Option.some.inj H
   go_enter Try.func84, Try.ntmps84
   go_wp2_with (first | ((with_reducible refine gate_dst (N := 2) rfl ?_); refine box_event ?hg (N := 2) ?hd (cs := #[.int .i64 a0_0, .int .i64 a0_1, .int .i64 a0_2, .int .i64 a0_3, .int .i64 a0_4]) (t := 66) ?hr ?_; (case hd => rfl); (case hg => rfl); (case hr => first | (go_simp; done) | (go_simp; rfl)); intro gb176 hg w33 hbox hb; have n0_ := aMk (below_step (by repeat (first | (with_reducible first | exact HB.out | apply bAl | apply bDn | apply bD1) | exact HB.out)) hb); have n1_ := aMk (hbox); have n2_ := aMk ((by rw [hg]; exact (below_size (by repeat (first | (with_reducible first | exact HB.out | apply bAl | apply bDn | apply bD1) | exact HB.out))) : w.heap.size ≤ gb176)); have n3_ := aMk ((by rw [hg]; exact (below_size (by repeat (first | (with_reducible first | exact HB.out | apply bAl | apply bDn | apply bD1) | exact HB.out))) : w.heap.size ≤ gb176)); clear HB; have HB := n0_; have BK176 := n1_; have GW176 := n2_; have GE176 := n3_; clear n0_ n1_ n2_ n3_; clear hb hbox hg) | ((with_reducible refine gate_dst (N := 3) rfl ?_); refine box_event ?hg (N := 3) ?hd (cs := #[.int .i64 a1_0, .int .i64 a1_1, .int .i64 a1_2, .int .i64 a1_3, .int .i64 a1_4]) (t := 66) ?hr ?_; (case hd => rfl); (case hg => rfl); (case hr => first | (go_simp; done) | (go_simp; rfl)); intro gb177 hg w34 hbox hb; have n0_ := aMk (blk_below (g := gb176) (o := .cells #[.int .i64 a0_0, .int .i64 a0_1, .int .i64 a0_2, .int .i64 a0_3, .int .i64 a0_4] 66 (0, 0)) (by (with_reducible repeat (first | refine bkD ?_ _ | refine blk_drew ?_ | refine bkA ?_ _)); exact BK176.out) hb); have n1_ := aMk (below_step (by repeat (first | (with_reducible first | exact HB.out | apply bAl | apply bDn | apply bD1 | refine bSe ?_ GE176.out) | exact HB.out)) hb); have n2_ := aMk (hbox); have n3_ := aMk ((by rw [hg]; exact (below_size (by repeat (first | (with_reducible first | exact HB.out | apply bAl | apply bDn | apply bD1 | refine bSe ?_ GE176.out) | exact HB.out))) : w.heap.size ≤ gb177)); have n4_ := aMk ((by rw [hg]; exact (below_size (by repeat (first | (with_reducible first | exact HB.out | apply bAl | apply bDn | apply bD1 | refine bSe ?_ GE176.out) | exact HB.out))) : w.heap.size ≤ gb177)); have n5_ := aMk ((by rw [hg]; exact Nat.ne_of_lt (blk_lt (g := gb176) (o := .cells #[.int .i64 a0_0, .int .i64 a0_1, .int .i64 a0_2, .int .i64 a0_3, .int .i64 a0_4] 66 (0, 0)) (by (with_reducible repeat (first | refine bkD ?_ _ | refine blk_drew ?_ | refine bkA ?_ _)); exact BK176.out)) : gb176 ≠ gb177)); have n6_ := aMk ((by rw [hg]; exact Nat.ne_of_gt (blk_lt (g := gb176) (o := .cells #[.int .i64 a0_0, .int .i64 a0_1, .int .i64 a0_2, .int .i64 a0_3, .int .i64 a0_4] 66 (0, 0)) (by (with_reducible repeat (first | refine bkD ?_ _ | refine blk_drew ?_ | refine bkA ?_ _)); exact BK176.out)) : gb177 ≠ gb176)); clear BK176; clear HB; have BK176 := n0_; have HB := n1_; have BK177 := n2_; have GW177 := n3_; have GE177 := n4_; have NB176_177 := n5_; have NB177_176 := n6_; clear n0_ n1_ n2_ n3_ n4_ n5_ n6_; clear hb hbox hg; have hnb35 := NB176_177.out; have hnc35 := NB177_176.out; have hcz36_0 : w34.cell? ⟨gb176, 0, none⟩ = some (.int .i64 a0_0) := (bCe BK176.out 0).trans rfl; have hcz36_1 : w34.cell? ⟨gb176, 1, none⟩ = some (.int .i64 a0_1) := (bCe BK176.out 1).trans rfl; have hcz36_2 : w34.cell? ⟨gb176, 2, none⟩ = some (.int .i64 a0_2) := (bCe BK176.out 2).trans rfl; have hcz36_3 : w34.cell? ⟨gb176, 3, none⟩ = some (.int .i64 a0_3) := (bCe BK176.out 3).trans rfl; have hcz36_4 : w34.cell? ⟨gb176, 4, none⟩ = some (.int .i64 a0_4) := (bCe BK176.out 4).trans rfl; have hfz36_0 := bFr BK176.out 0; have hfz36_1 := bFr BK176.out 1; have hfz36_2 := bFr BK176.out 2; have hfz36_3 := bFr BK176.out 3; have hfz36_4 := bFr BK176.out 4; have hcz37_0 : w34.cell? ⟨gb177, 0, none⟩ = some (.int .i64 a1_0) := (bCe BK177.out 0).trans rfl; have hcz37_1 : w34.cell? ⟨gb177, 1, none⟩ = some (.int .i64 a1_1) := (bCe BK177.out 1).trans rfl; have hcz37_2 : w34.cell? ⟨gb177, 2, none⟩ = some (.int .i64 a1_2) := (bCe BK177.out 2).trans rfl; have hcz37_3 : w34.cell? ⟨gb177, 3, none⟩ = some (.int .i64 a1_3) := (bCe BK177.out 3).trans rfl; have hcz37_4 : w34.cell? ⟨gb177, 4, none⟩ = some (.int .i64 a1_4) := (bCe BK177.out 4).trans rfl; have hfz37_0 := bFr BK177.out 0; have hfz37_1 := bFr BK177.out 1; have hfz37_2 := bFr BK177.out 2; have hfz37_3 := bFr BK177.out 3; have hfz37_4 := bFr BK177.out 4))
   go_ret
   exact ⟨by first | rfl | (simp [errW_none, errW_some] <;> rfl) | (simp [*, errW_none, errW_some] <;> rfl), by repeat (first | (with_reducible first | exact HB.out | apply bAl | apply bDn | apply bD1 | refine bSe ?_ GE176.out | refine bSe ?_ GE177.out) | exact HB.out)⟩
end Go.Proofs.Ytpknhndanbgkmaa.MFnExactFlexShares
