-- Written by this session's own program (wip/gen/myprint.py).
import Derived.Test.YtpknhndanbgkmaaMFnSharesx0
import Derived.Test.YtpknhndanbgkmaaMFnSharesx2
namespace Go.Proofs.Ytpknhndanbgkmaa.MFnShares
open Go.RowKit Go.Proofs.YtpknhndanbgkmaaW.PrintWords Go.Proofs.YtpknhndanbgkmaaW.PrintLast Go.Proofs.YtpknhndanbgkmaaW.PrintMore
attribute [local go_sem] max2_int min2_int max_two min_two max_three min_three max_four min_four   -- for this text's walks alone
set_option linter.unusedVariables false
set_option linter.unusedSimpArgs false
mutual
def impl_spread.l0 : Nat → Int → List Int → Int → List Int → Int → Int → Option (List Int)
 | 0, _, _, _, _, _, _ => none
 | k + 1, x0, x1, x5, x15, x16, x17 => if x17 < x16 then (if 0 ≤ x17 then (if x17 < (x15.length : Int) then (impl_spread.l0 k x0 x1 (wrap64 (x5 + (rd x15 x17))) x15 x16 (wrap64 (x17 + 1))) else (none)) else (none)) else (impl_spread.l1 k x0 x1 x5 (([] : List Int)) 0 x1 (x1.length : Int) 0)
def impl_spread.l1 : Nat → Int → List Int → Int → List Int → Int → List Int → Int → Int → Option (List Int)
 | 0, _, _, _, _, _, _, _, _ => none
 | k + 1, x0, x1, x5, x8, x9, x26, x27, x28 => if x28 < x27 then (if 0 ≤ x28 then (if x28 < (x26.length : Int) then (if x5 = 0 then (impl_spread.j2 k x0 x1 x5 x8 x9 (rd x26 x28) x28 (wrap64 (x28 + 1)) x26 x27 x28) else (impl_spread.j2 k x0 x1 x5 x8 x9 (rd x26 x28) x9 (wrap64 (x9 + (rd x26 x28))) x26 x27 x28)) else (none)) else (none)) else (some x8)
def impl_spread.j2 : Nat → Int → List Int → Int → List Int → Int → Int → Int → Int → List Int → Int → Int → Option (List Int)
 | 0, _, _, _, _, _, _, _, _, _, _, _ => none
 | k + 1, x0, x1, x5, x8, x9, x11, x12, x13, x26, x27, x28 => if x5 = 0 then ((impl_MulDiv.f k x0 x13 (x1.length : Int)).bind fun t119 => ((impl_MulDiv.f k x0 x12 (x1.length : Int)).bind fun t120 => (if x8.length < 17592186044416 then (impl_spread.l1 k x0 x1 x5 (x8 ++ [wrap64 (t119 - t120)]) (wrap64 (x9 + x11)) x26 x27 (wrap64 (x28 + 1))) else (none)))) else ((impl_MulDiv.f k x0 x13 x5).bind fun t124 => ((impl_MulDiv.f k x0 x12 x5).bind fun t125 => (if x8.length < 17592186044416 then (impl_spread.l1 k x0 x1 x5 (x8 ++ [wrap64 (t124 - t125)]) (wrap64 (x9 + x11)) x26 x27 (wrap64 (x28 + 1))) else (none))))
end
def impl_spread.f (k : Nat) (a0 : Int) (l1 : List Int) : Option (List Int) := impl_spread.l0 k a0 l1 0 l1 (l1.length : Int) 0
set_option maxHeartbeats 8000000 in
set_option maxRecDepth 100000 in
theorem impl_spread.calls (k : Nat) (a0 : Int) (A1 : Option Addr) (c1 : Nat) (l1 : List Int) (r : List Int) (w : World) (hr1 : Kd.C (Kd.int .i64) w A1 l1.length l1) (hc1 : l1.length ≤ c1) (h : impl_spread.f k a0 l1 = some r) :
 Calls Try.prog 93 #[.int .i64 a0, .slice A1 l1.length c1] w fun e w' => ∃ v0_ : Value, e = .returned (v0_) ∧ Kd.R (Kd.int .i64) 3 w' w.heap.size (fun _ => True) v0_ r ∧ Below w.heap.size w w' := by
 have HR1 := aMk hr1
 have HC1 := aMk hc1
 clear hr1 hc1
 have HB := aMk (Below.refl w.heap.size w)
 have H : (impl_spread.l0 k a0 l1 0 l1 (l1.length : Int) 0) = some r := h
 clear h
 have H' := aMk H
 clear H
 go_enter Try.func93, Try.ntmps93
 go_wp2
 go_loopg [5, 17] k (fun kq v5 v17 w' => ∃ (x5_1 : Int) (x17_1 : Int), v5 = .int .i64 x5_1 ∧ v17 = .int .i64 x17_1 ∧ Aside0 (impl_spread.l0 kq a0 l1 x5_1 l1 (l1.length : Int) x17_1 = some r) ∧ Aside0 (kq ≤ k) ∧ Aside0 (Below w.heap.size w w'))
 case atStart => exact ⟨(0), (0), (by first | rfl | (simp; done) | (simp [*]; done)), (by first | rfl | (simp; done) | (simp [*]; done)), H', ⟨Nat.le_refl _⟩, ⟨by repeat (first | (with_reducible first | exact HB.out | apply bAl | apply bDn | apply bD1) | exact HB.out)⟩⟩
 case round =>
  clear H'
  try clear c1
  try clear p2
  obtain ⟨x5_1, x17_1, rfl, rfl, HA, HK1, HB⟩ := hrel
  cases gk with
  | zero => exact absurd HA.out (by simp [impl_spread.l0])
  | succ k1 =>
   have H := HA.out
   clear HA
   simp only [impl_spread.l0] at H
   by_cases c3 : x17_1 < (l1.length : Int)
   · rw [if_pos c3] at H
     have c3b0 : decide (x17_1 < (l1.length : Int)) = true := decide_eq_true c3
     clear c3
     by_cases c4 : 0 ≤ x17_1
     · rw [if_pos c4] at H
       have c4b0 : decide (0 ≤ x17_1) = true := decide_eq_true c4
       clear c4
       by_cases c5 : x17_1 < (l1.length : Int)
       · rw [if_pos c5] at H
         have c5b0 : decide (x17_1 < (l1.length : Int)) = true := decide_eq_true c5
         clear c5
         have H' := aMk H
         clear H
         have p114 : 0 ≤ (x17_1 : Int) := oDt (by first | (with_reducible assumption) | assumption)
         have q114 : x17_1 < (l1.length : Int) := oDt (by first | (with_reducible assumption) | assumption)
         obtain ⟨ad114, e114, hx114_0⟩ := Kd.at_int HR1.out x17_1 p114 q114
         cases e114
         replace hx114_0 := (HB.out.cell (wBl w _ hx114_0)).trans hx114_0
         replace p114 := eq_true p114
         replace q114 := eq_true q114
         go_wp2
         go_roundg k1
         case measure => have := HK1.out; omega
         case rel => exact ⟨(wrap64 (x5_1 + (rd l1 x17_1))), (wrap64 (x17_1 + 1)), (by first | rfl | (simp; done) | (simp [*]; done)), (by first | rfl | (simp; done) | (simp [*]; done)), H', ⟨by have := HK1.out; omega⟩, ⟨by repeat (first | (with_reducible first | exact HB.out | apply bAl | apply bDn | apply bD1) | exact HB.out)⟩⟩
       · rw [if_neg c5] at H
         exact absurd H (by simp)
     · rw [if_neg c4] at H
       exact absurd H (by simp)
   · rw [if_neg c3] at H
     have c3b0 : decide (x17_1 < (l1.length : Int)) = false := decide_eq_false c3
     clear c3
     obtain ⟨y115, hy115⟩ : ∃ y_ : List Int, y_ = (([] : List Int)) := ⟨_, rfl⟩
     replace H : (impl_spread.l1 k1 a0 l1 x5_1 y115 0 l1 (l1.length : Int) 0) = some r := by first | (rw [hy115]; with_reducible exact H) | (have H2_ := (Option.bind_some _ _).symm.trans H; rw [hy115]; with_reducible exact H2_) | (have H2_ := (Option.bind_some _ _).symm.trans H; with_reducible exact H2_) | with_reducible exact H | (rw [hy115]; exact H) | exact H
     have Ny115 := aMk hy115
     clear hy115
     have H' := aMk H
     clear H
     go_wp2_with (first | ((with_reducible refine gate_dst (N := 25) rfl ?_); refine Kd.R_lit (Kd.int .i64) _ 3 ?hg (N := 25) ?hd (xs := ([] : List Int)) (inner := []) (ok := fun _ => True) (okp := fun _ => True) ?hr ?hp (fun _ hk => hk) trivial (Below.refl _ _) (Nat.le_refl _) (by simp) ?_; (case hd => rfl); (case hg => rfl); (case hr => first | (go_simp; done) | (go_simp; rfl)); (case hp => exact (Reps.none _ _)); intro v116 w6 ho7 hb hg_ hnew_; clear hg_ hnew_; (first | rw [← Ny115.out] at ho7 | (simp only [Int.reduceToNat] at ho7; rw [← Ny115.out] at ho7)); have n0_ := aMk (Kd.R_lower ho7 (below_size (by repeat (first | (with_reducible first | exact HB.out | apply bAl | apply bDn | apply bD1) | exact HB.out)))); have n1_ := aMk (below_step (by repeat (first | (with_reducible first | exact HB.out | apply bAl | apply bDn | apply bD1) | exact HB.out)) hb); clear HB; have HO117 := n0_; have HB := n1_; clear n0_ n1_; clear hb ho7))
     go_loopg [8, 9, 28] k1 (fun kq v8 v9 v28 w' => ∃ (x8_2 : List Int) (x9_2 : Int) (x28_2 : Int), v9 = .int .i64 x9_2 ∧ v28 = .int .i64 x28_2 ∧ Aside0 (impl_spread.l1 kq a0 l1 x5_1 x8_2 x9_2 l1 (l1.length : Int) x28_2 = some r) ∧ Aside0 (kq ≤ k1) ∧ Aside0 (Kd.R (Kd.int .i64) 3 w' w.heap.size (fun _ => True) v8 x8_2) ∧ Aside0 (Below w.heap.size w w'))
     case atStart => exact ⟨(y115), (0), (0), (by first | rfl | (simp; done) | (simp [*]; done)), (by first | rfl | (simp; done) | (simp [*]; done)), H', ⟨Nat.le_refl _⟩, ⟨by (with_reducible repeat (first | apply Kd.R_alloc | apply Kd.R_drewN | apply Kd.R_drew)); exact HO117.out⟩, ⟨by repeat (first | (with_reducible first | exact HB.out | apply bAl | apply bDn | apply bD1) | exact HB.out)⟩⟩
     case round =>
      clear H'
      try clear c1
      try clear p1
      try clear q1
      try clear hx1
      try clear p2
      try clear c3
      try clear c3b0
      try clear c4
      try clear c4b0
      try clear c5
      try clear c5b0
      try clear p6
      try clear hx114_0
      try clear p114
      try clear p2
      try clear q114
      obtain ⟨x8_2, x9_2, x28_2, rfl, rfl, HA, HK2, HO_8, HB⟩ := hrel
      cases gk with
      | zero => exact absurd HA.out (by simp [impl_spread.l1])
      | succ k2 =>
       have H := HA.out
       clear HA
       simp only [impl_spread.l1] at H
       by_cases c8 : x28_2 < (l1.length : Int)
       · rw [if_pos c8] at H
         have c8b0 : decide (x28_2 < (l1.length : Int)) = true := decide_eq_true c8
         clear c8
         by_cases c9 : 0 ≤ x28_2
         · rw [if_pos c9] at H
           have c9b0 : decide (0 ≤ x28_2) = true := decide_eq_true c9
           clear c9
           by_cases c10 : x28_2 < (l1.length : Int)
           · rw [if_pos c10] at H
             have c10b0 : decide (x28_2 < (l1.length : Int)) = true := decide_eq_true c10
             clear c10
             have HC11 := aMk H
             clear H
             have p118 : 0 ≤ (x28_2 : Int) := oDt (by first | (with_reducible assumption) | assumption)
             have q118 : x28_2 < (l1.length : Int) := oDt (by first | (with_reducible assumption) | assumption)
             obtain ⟨ad118, e118, hx118_0⟩ := Kd.at_int HR1.out x28_2 p118 q118
             cases e118
             replace hx118_0 := (HB.out.cell (wBl w _ hx118_0)).trans hx118_0
             replace p118 := eq_true p118
             replace q118 := eq_true q118
             go_upto_if 38 with (fail)
             go_cut [12, 13] (fun v12 v13 wc => ∃ (kq : Nat) (x12_10 : Int) (x13_10 : Int), v12 = .int .i64 x12_10 ∧ v13 = .int .i64 x13_10 ∧ Aside0 (impl_spread.j2 kq a0 l1 x5_1 x8_2 x9_2 (rd l1 x28_2) x12_10 x13_10 l1 (l1.length : Int) x28_2 = some r) ∧ Aside0 (kq ≤ k2) ∧ Aside0 (Kd.R (Kd.int .i64) 3 wc w.heap.size (fun _ => True) u8 x8_2) ∧ Aside0 (Below w.heap.size w wc))
             case first =>
              have H := HC11.out
              clear HC11
              by_cases c12 : x5_1 = 0
              · rw [if_pos c12] at H
                have c12b0 : (x5_1 == 0) = true := beq_iff_eq.mpr c12
                have c12b1 : (x5_1 != 0) = false := bne_eq_false_iff_eq.mpr c12
                clear c12
                (first | rw [c12b0] | (simp only [i64_w, i32_w]; rw [c12b0]) | skip)
                have H' := aMk H
                clear H
                go_wp2
                go_meet
                case rel => exact ⟨_, (x28_2), (wrap64 (x28_2 + 1)), (by first | rfl | (simp; done) | (simp [*]; done)), (by first | rfl | (simp; done) | (simp [*]; done)), H', ⟨by have := HK1.out; have := HK2.out; first | omega | exact Nat.le_refl _⟩, ⟨by (with_reducible repeat (first | apply Kd.R_alloc | apply Kd.R_drewN | apply Kd.R_drew)); exact HO_8.out⟩, ⟨by repeat (first | (with_reducible first | exact HB.out | apply bAl | apply bDn | apply bD1) | exact HB.out)⟩⟩
              · rw [if_neg c12] at H
                have c12b0 : (x5_1 == 0) = false := beq_eq_false_iff_ne.mpr c12
                have c12b1 : (x5_1 != 0) = true := bne_iff_ne.mpr c12
                (first | rw [c12b0] | (simp only [i64_w, i32_w]; rw [c12b0]) | skip)
                have H' := aMk H
                clear H
                go_wp2
                go_meet
                case rel => exact ⟨_, (x9_2), (wrap64 (x9_2 + (rd l1 x28_2))), (by first | rfl | (simp; done) | (simp [*]; done)), (by first | rfl | (simp; done) | (simp [*]; done)), H', ⟨by have := HK1.out; have := HK2.out; first | omega | exact Nat.le_refl _⟩, ⟨by (with_reducible repeat (first | apply Kd.R_alloc | apply Kd.R_drewN | apply Kd.R_drew)); exact HO_8.out⟩, ⟨by repeat (first | (with_reducible first | exact HB.out | apply bAl | apply bDn | apply bD1) | exact HB.out)⟩⟩
             case rest =>
              clear HC11
              try clear c1
              try clear p1
              try clear q1
              try clear hx1
              try clear p2
              try clear c3
              try clear c3b0
              try clear c4
              try clear c4b0
              try clear c5
              try clear c5b0
              try clear p6
              try clear c8
              try clear c8b0
              try clear c9
              try clear c9b0
              try clear c10
              try clear c10b0
              try clear p11
              try clear q11
              try clear hx11
              try clear c12
              try clear c12b0
              try clear c12b1
              try clear hx114_0
              try clear hx118_0
              try clear p1
              try clear p114
              try clear p118
              try clear p2
              try clear p6
              try clear q1
              try clear q114
              try clear q118
              obtain ⟨kq, x12_10, x13_10, rfl, rfl, HA, HJ10, HO_8, HB⟩ := hcut
              cases kq with
              | zero => exact absurd HA.out (by simp [impl_spread.j2])
              | succ kj10 =>
               have H := HA.out
               clear HA
               simp only [impl_spread.j2] at H
               by_cases c13 : x5_1 = 0
               · rw [if_pos c13] at H
                 have c13b0 : (x5_1 == 0) = true := beq_iff_eq.mpr c13
                 have c13b1 : (x5_1 != 0) = false := bne_eq_false_iff_eq.mpr c13
                 clear c13
                 replace H := oBm H
                 obtain ⟨t119, A140, H⟩ := H
                 replace H : ((impl_MulDiv.f kj10 a0 x12_10 (l1.length : Int)).bind fun t120 => (if x8_2.length < 17592186044416 then (impl_spread.l1 kj10 a0 l1 x5_1 (x8_2 ++ [wrap64 (t119 - t120)]) (wrap64 (x9_2 + (rd l1 x28_2))) l1 (l1.length : Int) (wrap64 (x28_2 + 1))) else (none))) = some r := H
                 have A14 := aMk A140
                 clear A140
                 replace H := oBm H
                 obtain ⟨t120, A150, H⟩ := H
                 replace H : (if x8_2.length < 17592186044416 then (impl_spread.l1 kj10 a0 l1 x5_1 (x8_2 ++ [wrap64 (t119 - t120)]) (wrap64 (x9_2 + (rd l1 x28_2))) l1 (l1.length : Int) (wrap64 (x28_2 + 1))) else (none)) = some r := H
                 have A15 := aMk A150
                 clear A150
                 by_cases c16 : x8_2.length < 17592186044416
                 · rw [if_pos c16] at H
                   have LMc16 := aMk c16
                   clear c16
                   obtain ⟨y121, hy121⟩ : ∃ y_ : List Int, y_ = (x8_2 ++ [wrap64 (t119 - t120)]) := ⟨_, rfl⟩
                   replace H : (impl_spread.l1 kj10 a0 l1 x5_1 y121 (wrap64 (x9_2 + (rd l1 x28_2))) l1 (l1.length : Int) (wrap64 (x28_2 + 1))) = some r := by first | (rw [hy121]; with_reducible exact H) | (have H2_ := (Option.bind_some _ _).symm.trans H; rw [hy121]; with_reducible exact H2_) | (have H2_ := (Option.bind_some _ _).symm.trans H; with_reducible exact H2_) | with_reducible exact H | (rw [hy121]; exact H) | exact H
                   have Ny121 := aMk hy121
                   clear hy121
                   have H' := aMk H
                   clear H
                   go_wp2_with (first | ((with_reducible refine gate_callee (f := 45) rfl ?_); refine goesL_ (some 51) rfl rfl Try.func45 (by kernel_rfl) rfl #[.int .i64 a0, .int .i64 x13_10, .int .i64 (l1.length : Int)] rfl (by (try simp only [List.map_toArray, List.map_cons, List.map_nil]); first | done | rfl | (simp only [List.length_drop, List.length_take]; rfl)) ?_; (with_reducible refine (impl_MulDiv.calls kj10 a0 x13_10 (l1.length : Int) t119 _ A14.out).mono ?_); rintro e w' ⟨rfl, ⟨nd, rfl⟩⟩; refine ⟨_, rfl, ?_⟩) | ((with_reducible refine gate_callee (f := 45) rfl ?_); refine goesL_ (some 55) rfl rfl Try.func45 (by kernel_rfl) rfl #[.int .i64 a0, .int .i64 x12_10, .int .i64 (l1.length : Int)] rfl (by (try simp only [List.map_toArray, List.map_cons, List.map_nil]); first | done | rfl | (simp only [List.length_drop, List.length_take]; rfl)) ?_; (with_reducible refine (impl_MulDiv.calls kj10 a0 x12_10 (l1.length : Int) t120 _ A15.out).mono ?_); rintro e w' ⟨rfl, ⟨nd, rfl⟩⟩; refine ⟨_, rfl, ?_⟩) | ((with_reducible refine gate_builtin (b := .append) (xs := #[.tmp 47, .tmp 57]) rfl ?_); at_builtin; refine Kd.R_append (Kd.int .i64) (w0 := w) w.heap.size rfl (.tmp 47) (.tmp 57) 22 3 (.int .i64 0) 8 rfl Try.underlying22 info3 rfl (by decide) (by omega) u8 x8_2 (wrap64 (t119 - t120)) [.int .i64 (wrap64 (t119 - t120))] (fun _ => True) (fun _ => False) rfl rfl ?aP (fun _ hk => hk.elim) ?aF ?aO ?aB ?aS ?aL ?_; (case aP => exact rfl); (case aB => exact (by repeat (first | (with_reducible first | exact HB.out | apply bAl | apply bDn | apply bD1) | exact HB.out))); (case aF => exact (fun _ _ => trivial)); (case aO => exact (by (with_reducible repeat (first | apply Kd.R_alloc | apply Kd.R_drewN | apply Kd.R_drew)); exact HO_8.out)); (case aS => exact (below_size (by repeat (first | (with_reducible first | exact HB.out | apply bAl | apply bDn | apply bD1) | exact HB.out)))); (case aL => have := LMc16.out; omega); intro v122 w17 ho hb hg hat; rw [← Ny121.out] at ho; have n0_ := aMk (hb); have n1_ := aMk (ho); clear HB; clear HO_8; have HB := n0_; have HO123 := n1_; clear n0_ n1_; clear ho hb hg hat))
                   go_roundg kj10
                   case measure => have := HK1.out; have := HK2.out; have := HJ10.out; omega
                   case rel => exact ⟨(y121), (wrap64 (x9_2 + (rd l1 x28_2))), (wrap64 (x28_2 + 1)), (by first | rfl | (simp; done) | (simp [*]; done)), (by first | rfl | (simp; done) | (simp [*]; done)), H', ⟨by have := HK1.out; have := HK2.out; have := HJ10.out; omega⟩, ⟨by (with_reducible repeat (first | apply Kd.R_alloc | apply Kd.R_drewN | apply Kd.R_drew)); exact HO123.out⟩, ⟨by repeat (first | (with_reducible first | exact HB.out | apply bAl | apply bDn | apply bD1) | exact HB.out)⟩⟩
                 · rw [if_neg c16] at H
                   exact absurd H (by simp)
               · rw [if_neg c13] at H
                 have c13b0 : (x5_1 == 0) = false := beq_eq_false_iff_ne.mpr c13
                 have c13b1 : (x5_1 != 0) = true := bne_iff_ne.mpr c13
                 replace H := oBm H
                 obtain ⟨t124, A180, H⟩ := H
                 replace H : ((impl_MulDiv.f kj10 a0 x12_10 x5_1).bind fun t125 => (if x8_2.length < 17592186044416 then (impl_spread.l1 kj10 a0 l1 x5_1 (x8_2 ++ [wrap64 (t124 - t125)]) (wrap64 (x9_2 + (rd l1 x28_2))) l1 (l1.length : Int) (wrap64 (x28_2 + 1))) else (none))) = some r := H
                 have A18 := aMk A180
                 clear A180
                 replace H := oBm H
                 obtain ⟨t125, A190, H⟩ := H
                 replace H : (if x8_2.length < 17592186044416 then (impl_spread.l1 kj10 a0 l1 x5_1 (x8_2 ++ [wrap64 (t124 - t125)]) (wrap64 (x9_2 + (rd l1 x28_2))) l1 (l1.length : Int) (wrap64 (x28_2 + 1))) else (none)) = some r := H
                 have A19 := aMk A190
                 clear A190
                 by_cases c20 : x8_2.length < 17592186044416
                 · rw [if_pos c20] at H
                   have LMc20 := aMk c20
                   clear c20
                   obtain ⟨y126, hy126⟩ : ∃ y_ : List Int, y_ = (x8_2 ++ [wrap64 (t124 - t125)]) := ⟨_, rfl⟩
                   replace H : (impl_spread.l1 kj10 a0 l1 x5_1 y126 (wrap64 (x9_2 + (rd l1 x28_2))) l1 (l1.length : Int) (wrap64 (x28_2 + 1))) = some r := by first | (rw [hy126]; with_reducible exact H) | (have H2_ := (Option.bind_some _ _).symm.trans H; rw [hy126]; with_reducible exact H2_) | (have H2_ := (Option.bind_some _ _).symm.trans H; with_reducible exact H2_) | with_reducible exact H | (rw [hy126]; exact H) | exact H
                   have Ny126 := aMk hy126
                   clear hy126
                   have H' := aMk H
                   clear H
                   go_wp2_with (first | ((with_reducible refine gate_callee (f := 45) rfl ?_); refine goesL_ (some 51) rfl rfl Try.func45 (by kernel_rfl) rfl #[.int .i64 a0, .int .i64 x13_10, .int .i64 x5_1] rfl (by (try simp only [List.map_toArray, List.map_cons, List.map_nil]); first | done | rfl | (simp only [List.length_drop, List.length_take]; rfl)) ?_; (with_reducible refine (impl_MulDiv.calls kj10 a0 x13_10 x5_1 t124 _ A18.out).mono ?_); rintro e w' ⟨rfl, ⟨nd, rfl⟩⟩; refine ⟨_, rfl, ?_⟩) | ((with_reducible refine gate_callee (f := 45) rfl ?_); refine goesL_ (some 55) rfl rfl Try.func45 (by kernel_rfl) rfl #[.int .i64 a0, .int .i64 x12_10, .int .i64 x5_1] rfl (by (try simp only [List.map_toArray, List.map_cons, List.map_nil]); first | done | rfl | (simp only [List.length_drop, List.length_take]; rfl)) ?_; (with_reducible refine (impl_MulDiv.calls kj10 a0 x12_10 x5_1 t125 _ A19.out).mono ?_); rintro e w' ⟨rfl, ⟨nd, rfl⟩⟩; refine ⟨_, rfl, ?_⟩) | ((with_reducible refine gate_builtin (b := .append) (xs := #[.tmp 47, .tmp 57]) rfl ?_); at_builtin; refine Kd.R_append (Kd.int .i64) (w0 := w) w.heap.size rfl (.tmp 47) (.tmp 57) 22 3 (.int .i64 0) 8 rfl Try.underlying22 info3 rfl (by decide) (by omega) u8 x8_2 (wrap64 (t124 - t125)) [.int .i64 (wrap64 (t124 - t125))] (fun _ => True) (fun _ => False) rfl rfl ?aP (fun _ hk => hk.elim) ?aF ?aO ?aB ?aS ?aL ?_; (case aP => exact rfl); (case aB => exact (by repeat (first | (with_reducible first | exact HB.out | apply bAl | apply bDn | apply bD1) | exact HB.out))); (case aF => exact (fun _ _ => trivial)); (case aO => exact (by (with_reducible repeat (first | apply Kd.R_alloc | apply Kd.R_drewN | apply Kd.R_drew)); exact HO_8.out)); (case aS => exact (below_size (by repeat (first | (with_reducible first | exact HB.out | apply bAl | apply bDn | apply bD1) | exact HB.out)))); (case aL => have := LMc20.out; omega); intro v127 w21 ho hb hg hat; rw [← Ny126.out] at ho; have n0_ := aMk (hb); have n1_ := aMk (ho); clear HB; clear HO_8; have HB := n0_; have HO128 := n1_; clear n0_ n1_; clear ho hb hg hat))
                   go_roundg kj10
                   case measure => have := HK1.out; have := HK2.out; have := HJ10.out; omega
                   case rel => exact ⟨(y126), (wrap64 (x9_2 + (rd l1 x28_2))), (wrap64 (x28_2 + 1)), (by first | rfl | (simp; done) | (simp [*]; done)), (by first | rfl | (simp; done) | (simp [*]; done)), H', ⟨by have := HK1.out; have := HK2.out; have := HJ10.out; omega⟩, ⟨by (with_reducible repeat (first | apply Kd.R_alloc | apply Kd.R_drewN | apply Kd.R_drew)); exact HO128.out⟩, ⟨by repeat (first | (with_reducible first | exact HB.out | apply bAl | apply bDn | apply bD1) | exact HB.out)⟩⟩
                 · rw [if_neg c20] at H
                   exact absurd H (by simp)
           · rw [if_neg c10] at H
             exact absurd H (by simp)
         · rw [if_neg c9] at H
           exact absurd H (by simp)
       · rw [if_neg c8] at H
         have c8b0 : decide (x28_2 < (l1.length : Int)) = false := decide_eq_false c8
         clear c8
         obtain rfl := Option.some.inj H
         go_wp2
         go_ret
         exact ⟨_, by first | rfl | (simp [errW_none, errW_some] <;> rfl) | (simp [*, errW_none, errW_some] <;> rfl), by (with_reducible repeat (first | apply Kd.R_alloc | apply Kd.R_drewN | apply Kd.R_drew)); exact HO_8.out, by repeat (first | (with_reducible first | exact HB.out | apply bAl | apply bDn | apply bD1) | exact HB.out)⟩
/-- A state of type 145 at block g of W; what its slices lead to came in by w0. -/
def IsS145 (w0 W : World) (g : Nat) (f0 : Int) (f1 : Int) (f2 : Int) (f3 : Int) (f4 : Int) (f5 : Int) (f6 : Int) (f7 : Bool) (f8 : Int) : Prop := W.heap[g]? = some (.cells #[.int .i64 f0, .int .i64 f1, .int .i64 f2, .int .i64 f3, .int .i64 f4, .int .i64 f5, .int .i64 f6, .bool f7, .int .i64 f8] 145 (0, 0)) ∧ w0.heap.size ≤ g
theorem IsS145.grown {w0 W : World} {g : Nat} {f0 : Int} {f1 : Int} {f2 : Int} {f3 : Int} {f4 : Int} {f5 : Int} {f6 : Int} {f7 : Bool} {f8 : Int} {W1 : World} {row : Option Nat} (h : IsS145 w0 W g f0 f1 f2 f3 f4 f5 f6 f7 f8) (hw : W.grownBy W1 row) (hne : some g ≠ row) : IsS145 w0 W1 g f0 f1 f2 f3 f4 f5 f6 f7 f8 := by
 obtain ⟨hb, hg⟩ := h
 exact ⟨blk_grown hb hw hne, hg⟩
theorem IsS145.kept {w0 W : World} {g : Nat} {f0 : Int} {f1 : Int} {f2 : Int} {f3 : Int} {f4 : Int} {f5 : Int} {f6 : Int} {f7 : Bool} {f8 : Int} {W1 : World} {S : Nat → Prop} (h : IsS145 w0 W g f0 f1 f2 f3 f4 f5 f6 f7 f8) (hk : Kept W W1 S) (hne : ¬ S g) : IsS145 w0 W1 g f0 f1 f2 f3 f4 f5 f6 f7 f8 := by
 obtain ⟨hb, hg⟩ := h
 exact ⟨blk_kept hb hk hne, hg⟩
theorem IsS145.like {w0 W : World} {g : Nat} {f0 : Int} {f1 : Int} {f2 : Int} {f3 : Int} {f4 : Int} {f5 : Int} {f6 : Int} {f7 : Bool} {f8 : Int} {W1 : World} (h0 : IsS145 w0 W1 g f0 f1 f2 f3 f4 f5 f6 f7 f8) (h : IsS145 w0 W g f0 f1 f2 f3 f4 f5 f6 f7 f8) : IsS145 w0 W g f0 f1 f2 f3 f4 f5 f6 f7 f8 := h
theorem IsS145.below {w0 W : World} {g : Nat} {f0 : Int} {f1 : Int} {f2 : Int} {f3 : Int} {f4 : Int} {f5 : Int} {f6 : Int} {f7 : Bool} {f8 : Int} {W1 : World} (h : IsS145 w0 W g f0 f1 f2 f3 f4 f5 f6 f7 f8) (hw : Below W.heap.size W W1) : IsS145 w0 W1 g f0 f1 f2 f3 f4 f5 f6 f7 f8 := h.grown (grown_of_below hw none) (by simp)
theorem IsS145.alloc {w0 W : World} {g : Nat} {f0 : Int} {f1 : Int} {f2 : Int} {f3 : Int} {f4 : Int} {f5 : Int} {f6 : Int} {f7 : Bool} {f8 : Int} (h : IsS145 w0 W g f0 f1 f2 f3 f4 f5 f6 f7 f8) (o : Obj) : IsS145 w0 (W.alloc o) g f0 f1 f2 f3 f4 f5 f6 f7 f8 := h.below (bAl (Below.refl _ _) o)
theorem IsS145.drewN {w0 W : World} {g : Nat} {f0 : Int} {f1 : Int} {f2 : Int} {f3 : Int} {f4 : Int} {f5 : Int} {f6 : Int} {f7 : Bool} {f8 : Int} (h : IsS145 w0 W g f0 f1 f2 f3 f4 f5 f6 f7 f8) (m : Nat) : IsS145 w0 (W.drewN m) g f0 f1 f2 f3 f4 f5 f6 f7 f8 := h
theorem IsS145.drew {w0 W : World} {g : Nat} {f0 : Int} {f1 : Int} {f2 : Int} {f3 : Int} {f4 : Int} {f5 : Int} {f6 : Int} {f7 : Bool} {f8 : Int} (h : IsS145 w0 W g f0 f1 f2 f3 f4 f5 f6 f7 f8) : IsS145 w0 W.drew g f0 f1 f2 f3 f4 f5 f6 f7 f8 := h
theorem IsS145.at_ {w0 W : World} {g : Nat} {f0 : Int} {f1 : Int} {f2 : Int} {f3 : Int} {f4 : Int} {f5 : Int} {f6 : Int} {f7 : Bool} {f8 : Int} {w' : World} {m : Nat} (hq : W.drewN m = w') (h : IsS145 w0 W g f0 f1 f2 f3 f4 f5 f6 f7 f8) : IsS145 w0 w' g f0 f1 f2 f3 f4 f5 f6 f7 f8 := by subst hq; exact IsS145.drewN h m
theorem IsS145.apart {w0 W : World} {g : Nat} {f0 : Int} {f1 : Int} {f2 : Int} {f3 : Int} {f4 : Int} {f5 : Int} {f6 : Int} {f7 : Bool} {f8 : Int} {α : Type} {d : Kd α} {e : Nat} {base : Nat} {ok : Nat → Prop} {v : Value} {xs : List α} (h : IsS145 w0 W g f0 f1 f2 f3 f4 f5 f6 f7 f8) (ho : d.R e W base ok v xs) (ht : ∀ q, q ∈ e :: d.E → q ≠ 145) : d.R e W base (fun k => ok k ∧ k ≠ g) v xs := by
 obtain ⟨hb, hg⟩ := h
 exact Kd.R_types ho hb ht
theorem IsS145.own_ne {w0 W : World} {g : Nat} {f0 : Int} {f1 : Int} {f2 : Int} {f3 : Int} {f4 : Int} {f5 : Int} {f6 : Int} {f7 : Bool} {f8 : Int} {α : Type} {d : Kd α} {e : Nat} {base : Nat} {ok : Nat → Prop} {v : Value} {xs : List α} (h : IsS145 w0 W g f0 f1 f2 f3 f4 f5 f6 f7 f8) (ho : d.R e W base ok v xs) (ht : e ≠ 145) : some g ≠ v.ownBlock := by
 obtain ⟨hb, hg⟩ := h
 exact Kd.R_ne ho hb ht
theorem IsS145.lt {w0 W : World} {g : Nat} {f0 : Int} {f1 : Int} {f2 : Int} {f3 : Int} {f4 : Int} {f5 : Int} {f6 : Int} {f7 : Bool} {f8 : Int} (h : IsS145 w0 W g f0 f1 f2 f3 f4 f5 f6 f7 f8) : g < W.heap.size := by
 obtain ⟨hb, hg⟩ := h
 exact blk_lt hb
theorem IsS145.ge {w0 W : World} {g : Nat} {f0 : Int} {f1 : Int} {f2 : Int} {f3 : Int} {f4 : Int} {f5 : Int} {f6 : Int} {f7 : Bool} {f8 : Int} (h : IsS145 w0 W g f0 f1 f2 f3 f4 f5 f6 f7 f8) : w0.heap.size ≤ g := by
 obtain ⟨hb, hg⟩ := h
 exact hg
theorem IsS145.ne_blk {w0 W : World} {g : Nat} {f0 : Int} {f1 : Int} {f2 : Int} {f3 : Int} {f4 : Int} {f5 : Int} {f6 : Int} {f7 : Bool} {f8 : Int} {a : Nat} {cs : Array Value} {t : TypeId} {fr : Nat × Nat} (h : IsS145 w0 W g f0 f1 f2 f3 f4 f5 f6 f7 f8) (hb2 : W.heap[a]? = some (.cells cs t fr)) (ht : t ≠ 145) : g ≠ a := by
 obtain ⟨hb, hg⟩ := h
 rintro rfl
 rw [hb] at hb2
 injection hb2 with hb2
 injection hb2 with _ ht2
 exact ht ht2.symm
theorem IsS145.far {w0 W : World} {g : Nat} {f0 : Int} {f1 : Int} {f2 : Int} {f3 : Int} {f4 : Int} {f5 : Int} {f6 : Int} {f7 : Bool} {f8 : Int} {p : Addr} (h : IsS145 w0 W g f0 f1 f2 f3 f4 f5 f6 f7 f8) (hne : g ≠ p.block) (u : Value) : IsS145 w0 (W.setCell p u) g f0 f1 f2 f3 f4 f5 f6 f7 f8 := by
 obtain ⟨hb, hg⟩ := h
 exact ⟨blk_far hb hne u, hg⟩
theorem cellS145_0 {W : World} {g : Nat} {f0 : Int} {f1 : Int} {f2 : Int} {f3 : Int} {f4 : Int} {f5 : Int} {f6 : Int} {f7 : Bool} {f8 : Int} (h : W.heap[g]? = some (.cells #[.int .i64 f0, .int .i64 f1, .int .i64 f2, .int .i64 f3, .int .i64 f4, .int .i64 f5, .int .i64 f6, .bool f7, .int .i64 f8] 145 (0, 0))) : W.cell? ⟨g, 0, none⟩ = some (.int .i64 f0) := (bCe h 0).trans rfl
theorem IsS145.set_0 {w0 W : World} {g : Nat} {f0 : Int} {f1 : Int} {f2 : Int} {f3 : Int} {f4 : Int} {f5 : Int} {f6 : Int} {f7 : Bool} {f8 : Int} (h : IsS145 w0 W g f0 f1 f2 f3 f4 f5 f6 f7 f8) (x : Int) : IsS145 w0 (W.setCell ⟨g, 0, none⟩ (.int .i64 x)) g x f1 f2 f3 f4 f5 f6 f7 f8 := by
 obtain ⟨hb, hg⟩ := h
 exact ⟨by simpa using blk_set hb 0 (.int .i64 x), hg⟩
theorem cellS145_1 {W : World} {g : Nat} {f0 : Int} {f1 : Int} {f2 : Int} {f3 : Int} {f4 : Int} {f5 : Int} {f6 : Int} {f7 : Bool} {f8 : Int} (h : W.heap[g]? = some (.cells #[.int .i64 f0, .int .i64 f1, .int .i64 f2, .int .i64 f3, .int .i64 f4, .int .i64 f5, .int .i64 f6, .bool f7, .int .i64 f8] 145 (0, 0))) : W.cell? ⟨g, 1, none⟩ = some (.int .i64 f1) := (bCe h 1).trans rfl
theorem IsS145.set_1 {w0 W : World} {g : Nat} {f0 : Int} {f1 : Int} {f2 : Int} {f3 : Int} {f4 : Int} {f5 : Int} {f6 : Int} {f7 : Bool} {f8 : Int} (h : IsS145 w0 W g f0 f1 f2 f3 f4 f5 f6 f7 f8) (x : Int) : IsS145 w0 (W.setCell ⟨g, 1, none⟩ (.int .i64 x)) g f0 x f2 f3 f4 f5 f6 f7 f8 := by
 obtain ⟨hb, hg⟩ := h
 exact ⟨by simpa using blk_set hb 1 (.int .i64 x), hg⟩
theorem cellS145_2 {W : World} {g : Nat} {f0 : Int} {f1 : Int} {f2 : Int} {f3 : Int} {f4 : Int} {f5 : Int} {f6 : Int} {f7 : Bool} {f8 : Int} (h : W.heap[g]? = some (.cells #[.int .i64 f0, .int .i64 f1, .int .i64 f2, .int .i64 f3, .int .i64 f4, .int .i64 f5, .int .i64 f6, .bool f7, .int .i64 f8] 145 (0, 0))) : W.cell? ⟨g, 2, none⟩ = some (.int .i64 f2) := (bCe h 2).trans rfl
theorem IsS145.set_2 {w0 W : World} {g : Nat} {f0 : Int} {f1 : Int} {f2 : Int} {f3 : Int} {f4 : Int} {f5 : Int} {f6 : Int} {f7 : Bool} {f8 : Int} (h : IsS145 w0 W g f0 f1 f2 f3 f4 f5 f6 f7 f8) (x : Int) : IsS145 w0 (W.setCell ⟨g, 2, none⟩ (.int .i64 x)) g f0 f1 x f3 f4 f5 f6 f7 f8 := by
 obtain ⟨hb, hg⟩ := h
 exact ⟨by simpa using blk_set hb 2 (.int .i64 x), hg⟩
theorem cellS145_3 {W : World} {g : Nat} {f0 : Int} {f1 : Int} {f2 : Int} {f3 : Int} {f4 : Int} {f5 : Int} {f6 : Int} {f7 : Bool} {f8 : Int} (h : W.heap[g]? = some (.cells #[.int .i64 f0, .int .i64 f1, .int .i64 f2, .int .i64 f3, .int .i64 f4, .int .i64 f5, .int .i64 f6, .bool f7, .int .i64 f8] 145 (0, 0))) : W.cell? ⟨g, 3, none⟩ = some (.int .i64 f3) := (bCe h 3).trans rfl
theorem IsS145.set_3 {w0 W : World} {g : Nat} {f0 : Int} {f1 : Int} {f2 : Int} {f3 : Int} {f4 : Int} {f5 : Int} {f6 : Int} {f7 : Bool} {f8 : Int} (h : IsS145 w0 W g f0 f1 f2 f3 f4 f5 f6 f7 f8) (x : Int) : IsS145 w0 (W.setCell ⟨g, 3, none⟩ (.int .i64 x)) g f0 f1 f2 x f4 f5 f6 f7 f8 := by
 obtain ⟨hb, hg⟩ := h
 exact ⟨by simpa using blk_set hb 3 (.int .i64 x), hg⟩
theorem cellS145_4 {W : World} {g : Nat} {f0 : Int} {f1 : Int} {f2 : Int} {f3 : Int} {f4 : Int} {f5 : Int} {f6 : Int} {f7 : Bool} {f8 : Int} (h : W.heap[g]? = some (.cells #[.int .i64 f0, .int .i64 f1, .int .i64 f2, .int .i64 f3, .int .i64 f4, .int .i64 f5, .int .i64 f6, .bool f7, .int .i64 f8] 145 (0, 0))) : W.cell? ⟨g, 4, none⟩ = some (.int .i64 f4) := (bCe h 4).trans rfl
theorem IsS145.set_4 {w0 W : World} {g : Nat} {f0 : Int} {f1 : Int} {f2 : Int} {f3 : Int} {f4 : Int} {f5 : Int} {f6 : Int} {f7 : Bool} {f8 : Int} (h : IsS145 w0 W g f0 f1 f2 f3 f4 f5 f6 f7 f8) (x : Int) : IsS145 w0 (W.setCell ⟨g, 4, none⟩ (.int .i64 x)) g f0 f1 f2 f3 x f5 f6 f7 f8 := by
 obtain ⟨hb, hg⟩ := h
 exact ⟨by simpa using blk_set hb 4 (.int .i64 x), hg⟩
theorem cellS145_5 {W : World} {g : Nat} {f0 : Int} {f1 : Int} {f2 : Int} {f3 : Int} {f4 : Int} {f5 : Int} {f6 : Int} {f7 : Bool} {f8 : Int} (h : W.heap[g]? = some (.cells #[.int .i64 f0, .int .i64 f1, .int .i64 f2, .int .i64 f3, .int .i64 f4, .int .i64 f5, .int .i64 f6, .bool f7, .int .i64 f8] 145 (0, 0))) : W.cell? ⟨g, 5, none⟩ = some (.int .i64 f5) := (bCe h 5).trans rfl
theorem IsS145.set_5 {w0 W : World} {g : Nat} {f0 : Int} {f1 : Int} {f2 : Int} {f3 : Int} {f4 : Int} {f5 : Int} {f6 : Int} {f7 : Bool} {f8 : Int} (h : IsS145 w0 W g f0 f1 f2 f3 f4 f5 f6 f7 f8) (x : Int) : IsS145 w0 (W.setCell ⟨g, 5, none⟩ (.int .i64 x)) g f0 f1 f2 f3 f4 x f6 f7 f8 := by
 obtain ⟨hb, hg⟩ := h
 exact ⟨by simpa using blk_set hb 5 (.int .i64 x), hg⟩
theorem cellS145_6 {W : World} {g : Nat} {f0 : Int} {f1 : Int} {f2 : Int} {f3 : Int} {f4 : Int} {f5 : Int} {f6 : Int} {f7 : Bool} {f8 : Int} (h : W.heap[g]? = some (.cells #[.int .i64 f0, .int .i64 f1, .int .i64 f2, .int .i64 f3, .int .i64 f4, .int .i64 f5, .int .i64 f6, .bool f7, .int .i64 f8] 145 (0, 0))) : W.cell? ⟨g, 6, none⟩ = some (.int .i64 f6) := (bCe h 6).trans rfl
theorem IsS145.set_6 {w0 W : World} {g : Nat} {f0 : Int} {f1 : Int} {f2 : Int} {f3 : Int} {f4 : Int} {f5 : Int} {f6 : Int} {f7 : Bool} {f8 : Int} (h : IsS145 w0 W g f0 f1 f2 f3 f4 f5 f6 f7 f8) (x : Int) : IsS145 w0 (W.setCell ⟨g, 6, none⟩ (.int .i64 x)) g f0 f1 f2 f3 f4 f5 x f7 f8 := by
 obtain ⟨hb, hg⟩ := h
 exact ⟨by simpa using blk_set hb 6 (.int .i64 x), hg⟩
theorem cellS145_7 {W : World} {g : Nat} {f0 : Int} {f1 : Int} {f2 : Int} {f3 : Int} {f4 : Int} {f5 : Int} {f6 : Int} {f7 : Bool} {f8 : Int} (h : W.heap[g]? = some (.cells #[.int .i64 f0, .int .i64 f1, .int .i64 f2, .int .i64 f3, .int .i64 f4, .int .i64 f5, .int .i64 f6, .bool f7, .int .i64 f8] 145 (0, 0))) : W.cell? ⟨g, 7, none⟩ = some (.bool f7) := (bCe h 7).trans rfl
theorem IsS145.set_7 {w0 W : World} {g : Nat} {f0 : Int} {f1 : Int} {f2 : Int} {f3 : Int} {f4 : Int} {f5 : Int} {f6 : Int} {f7 : Bool} {f8 : Int} (h : IsS145 w0 W g f0 f1 f2 f3 f4 f5 f6 f7 f8) (x : Bool) : IsS145 w0 (W.setCell ⟨g, 7, none⟩ (.bool x)) g f0 f1 f2 f3 f4 f5 f6 x f8 := by
 obtain ⟨hb, hg⟩ := h
 exact ⟨by simpa using blk_set hb 7 (.bool x), hg⟩
theorem cellS145_8 {W : World} {g : Nat} {f0 : Int} {f1 : Int} {f2 : Int} {f3 : Int} {f4 : Int} {f5 : Int} {f6 : Int} {f7 : Bool} {f8 : Int} (h : W.heap[g]? = some (.cells #[.int .i64 f0, .int .i64 f1, .int .i64 f2, .int .i64 f3, .int .i64 f4, .int .i64 f5, .int .i64 f6, .bool f7, .int .i64 f8] 145 (0, 0))) : W.cell? ⟨g, 8, none⟩ = some (.int .i64 f8) := (bCe h 8).trans rfl
theorem IsS145.set_8 {w0 W : World} {g : Nat} {f0 : Int} {f1 : Int} {f2 : Int} {f3 : Int} {f4 : Int} {f5 : Int} {f6 : Int} {f7 : Bool} {f8 : Int} (h : IsS145 w0 W g f0 f1 f2 f3 f4 f5 f6 f7 f8) (x : Int) : IsS145 w0 (W.setCell ⟨g, 8, none⟩ (.int .i64 x)) g f0 f1 f2 f3 f4 f5 f6 f7 x := by
 obtain ⟨hb, hg⟩ := h
 exact ⟨by simpa using blk_set hb 8 (.int .i64 x), hg⟩
theorem IsS145.new (w0 W : World) (f0 : Int) (f1 : Int) (f2 : Int) (f3 : Int) (f4 : Int) (f5 : Int) (f6 : Int) (f7 : Bool) (f8 : Int) (hB : Below w0.heap.size w0 W) : IsS145 w0 (W.alloc (.cells #[.int .i64 f0, .int .i64 f1, .int .i64 f2, .int .i64 f3, .int .i64 f4, .int .i64 f5, .int .i64 f6, .bool f7, .int .i64 f8] 145)) W.heap.size f0 f1 f2 f3 f4 f5 f6 f7 f8 := ⟨by simpa using heap_alloc_new W _, hB.size⟩
def impl_flexing_fit.f (s0_0 : Int) (s0_1 : Int) (s0_2 : Int) (s0_3 : Int) (s0_4 : Int) (s0_5 : Int) (s0_6 : Int) (s0_7 : Bool) (s0_8 : Int) (a1 : Int) : Option (Int × Int × Int × Int × Int × Int × Int × Int × Bool × Int) := if s0_4 ≥ 0 then (some (mx (mn a1 s0_4) s0_3, s0_0, s0_1, s0_2, s0_3, s0_4, s0_5, s0_6, s0_7, s0_8)) else (some (mx a1 s0_3, s0_0, s0_1, s0_2, s0_3, s0_4, s0_5, s0_6, s0_7, s0_8))
set_option maxHeartbeats 8000000 in
set_option maxRecDepth 100000 in
theorem impl_flexing_fit.calls (g : Nat) (s0_0 : Int) (s0_1 : Int) (s0_2 : Int) (s0_3 : Int) (s0_4 : Int) (s0_5 : Int) (s0_6 : Int) (s0_7 : Bool) (s0_8 : Int) (a1 : Int) (r1 : Int) (r2 : Int) (r3 : Int) (r4 : Int) (r5 : Int) (r6 : Int) (r7 : Int) (r8 : Int) (r9 : Bool) (r10 : Int) (w0 w : World) (hI : IsS145 w0 w g s0_0 s0_1 s0_2 s0_3 s0_4 s0_5 s0_6 s0_7 s0_8) (hB : Below w0.heap.size w0 w) (h : impl_flexing_fit.f s0_0 s0_1 s0_2 s0_3 s0_4 s0_5 s0_6 s0_7 s0_8 a1 = some (r1, r2, r3, r4, r5, r6, r7, r8, r9, r10)) :
 Calls Try.prog 147 #[.pointer (some ⟨g, 0, none⟩), .int .i64 a1] w fun e w' => e = .returned (.int .i64 r1) ∧ IsS145 w0 w' g r2 r3 r4 r5 r6 r7 r8 r9 r10 ∧ Below w0.heap.size w0 w' ∧ KeepBut w w' g none := by
 have HI0 := aMk hI
 have HK := aMk (KeepBut.refl w g none)
 have HL := aMk hB.size
 clear hI
 have HW0 := aMk hB.size
 have HB := aMk hB
 clear hB
 have H : (if s0_4 ≥ 0 then (some (mx (mn a1 s0_4) s0_3, s0_0, s0_1, s0_2, s0_3, s0_4, s0_5, s0_6, s0_7, s0_8)) else (some (mx a1 s0_3, s0_0, s0_1, s0_2, s0_3, s0_4, s0_5, s0_6, s0_7, s0_8))) = some (r1, r2, r3, r4, r5, r6, r7, r8, r9, r10) := h
 clear h
 by_cases c3 : s0_4 ≥ 0
 · rw [if_pos c3] at H
   have c3b0 : decide (0 ≤ s0_4) = true := decide_eq_true c3
   clear c3
   obtain ⟨ji4, hji4⟩ : ∃ j_ : Int, (mn a1 s0_4) = j_ := ⟨_, rfl⟩
   replace H : (some (mx (ji4) s0_3, s0_0, s0_1, s0_2, s0_3, s0_4, s0_5, s0_6, s0_7, s0_8)) = some (r1, r2, r3, r4, r5, r6, r7, r8, r9, r10) := by first | (rw [hji4] at H; exact H) | (simp only [hji4] at H ⊢; exact H)
   have hji4_ : (if s0_4 < a1 then s0_4 else a1) = ji4 := hji4
   obtain ⟨ji5, hji5⟩ : ∃ j_ : Int, (mx (ji4) s0_3) = j_ := ⟨_, rfl⟩
   replace H : (some (ji5, s0_0, s0_1, s0_2, s0_3, s0_4, s0_5, s0_6, s0_7, s0_8)) = some (r1, r2, r3, r4, r5, r6, r7, r8, r9, r10) := by first | (rw [hji5] at H; exact H) | (simp only [hji5] at H ⊢; exact H)
   have hji5_ : (if (ji4) < s0_3 then s0_3 else (ji4)) = ji5 := hji5
   simp only [Option.some.injEq, Prod.mk.injEq] at H
   obtain ⟨rfl, rfl, rfl, rfl, rfl, rfl, rfl, rfl, rfl, rfl⟩ := H
   obtain ⟨HGz6, hgz6⟩ := HI0.out
   have hcz6_0 := cellS145_0 HGz6
   have hcz6_1 := cellS145_1 HGz6
   have hcz6_2 := cellS145_2 HGz6
   have hcz6_3 := cellS145_3 HGz6
   have hcz6_4 := cellS145_4 HGz6
   have hcz6_5 := cellS145_5 HGz6
   have hcz6_6 := cellS145_6 HGz6
   have hcz6_7 := cellS145_7 HGz6
   have hcz6_8 := cellS145_8 HGz6
   have hfz6_0 := bFr HGz6 0
   have hfz6_1 := bFr HGz6 1
   have hfz6_2 := bFr HGz6 2
   have hfz6_3 := bFr HGz6 3
   have hfz6_4 := bFr HGz6 4
   have hfz6_5 := bFr HGz6 5
   have hfz6_6 := bFr HGz6 6
   have hfz6_7 := bFr HGz6 7
   have hfz6_8 := bFr HGz6 8
   clear HGz6 hgz6
   go_enter Try.func147, Try.ntmps147
   go_wp2
   go_ret
   exact ⟨by first | rfl | (simp [errW_none, errW_some] <;> rfl) | (simp only [← hji4, ← hji5]; first | rfl | (simp [errW_none, errW_some] <;> rfl)) | (simp [*, errW_none, errW_some] <;> rfl), by repeat (first | (with_reducible first | exact HI0.out | apply IsS145.alloc | apply IsS145.drewN | apply IsS145.drew | apply IsS145.set_0 | apply IsS145.set_1 | apply IsS145.set_2 | apply IsS145.set_3 | apply IsS145.set_4 | apply IsS145.set_5 | apply IsS145.set_6 | apply IsS145.set_7 | apply IsS145.set_8) | exact HI0.out), by repeat (first | (with_reducible first | exact HB.out | apply bAl | apply bDn | apply bD1 | refine bSe ?_ (IsS145.ge HI0.out)) | exact HB.out), by repeat (first | (with_reducible first | exact HK.out | apply KeepBut.set_ | apply keep_drewN | apply keep_drew | apply keep_alloc) | exact HK.out)⟩
 · rw [if_neg c3] at H
   have c3b0 : decide (0 ≤ s0_4) = false := decide_eq_false c3
   clear c3
   obtain ⟨ji7, hji7⟩ : ∃ j_ : Int, (mx a1 s0_3) = j_ := ⟨_, rfl⟩
   replace H : (some (ji7, s0_0, s0_1, s0_2, s0_3, s0_4, s0_5, s0_6, s0_7, s0_8)) = some (r1, r2, r3, r4, r5, r6, r7, r8, r9, r10) := by first | (rw [hji7] at H; exact H) | (simp only [hji7] at H ⊢; exact H)
   have hji7_ : (if a1 < s0_3 then s0_3 else a1) = ji7 := hji7
   simp only [Option.some.injEq, Prod.mk.injEq] at H
   obtain ⟨rfl, rfl, rfl, rfl, rfl, rfl, rfl, rfl, rfl, rfl⟩ := H
   obtain ⟨HGz8, hgz8⟩ := HI0.out
   have hcz8_0 := cellS145_0 HGz8
   have hcz8_1 := cellS145_1 HGz8
   have hcz8_2 := cellS145_2 HGz8
   have hcz8_3 := cellS145_3 HGz8
   have hcz8_4 := cellS145_4 HGz8
   have hcz8_5 := cellS145_5 HGz8
   have hcz8_6 := cellS145_6 HGz8
   have hcz8_7 := cellS145_7 HGz8
   have hcz8_8 := cellS145_8 HGz8
   have hfz8_0 := bFr HGz8 0
   have hfz8_1 := bFr HGz8 1
   have hfz8_2 := bFr HGz8 2
   have hfz8_3 := bFr HGz8 3
   have hfz8_4 := bFr HGz8 4
   have hfz8_5 := bFr HGz8 5
   have hfz8_6 := bFr HGz8 6
   have hfz8_7 := bFr HGz8 7
   have hfz8_8 := bFr HGz8 8
   clear HGz8 hgz8
   go_enter Try.func147, Try.ntmps147
   go_wp2
   go_ret
   exact ⟨by first | rfl | (simp [errW_none, errW_some] <;> rfl) | (simp only [← hji7]; first | rfl | (simp [errW_none, errW_some] <;> rfl)) | (simp [*, errW_none, errW_some] <;> rfl), by repeat (first | (with_reducible first | exact HI0.out | apply IsS145.alloc | apply IsS145.drewN | apply IsS145.drew | apply IsS145.set_0 | apply IsS145.set_1 | apply IsS145.set_2 | apply IsS145.set_3 | apply IsS145.set_4 | apply IsS145.set_5 | apply IsS145.set_6 | apply IsS145.set_7 | apply IsS145.set_8) | exact HI0.out), by repeat (first | (with_reducible first | exact HB.out | apply bAl | apply bDn | apply bD1 | refine bSe ?_ (IsS145.ge HI0.out)) | exact HB.out), by repeat (first | (with_reducible first | exact HK.out | apply KeepBut.set_ | apply keep_drewN | apply keep_drew | apply keep_alloc) | exact HK.out)⟩
def impl_clamp.f (a0 : Int) (a1 : Int) (a2 : Int) : Option (Int) := some (mx a1 (mn a0 a2))
set_option maxHeartbeats 8000000 in
set_option maxRecDepth 100000 in
theorem impl_clamp.calls (a0 : Int) (a1 : Int) (a2 : Int) (r : Int) (w : World) (h : impl_clamp.f a0 a1 a2 = some r) :
 Calls Try.prog 148 #[.int .i64 a0, .int .i64 a1, .int .i64 a2] w fun e w' => e = .returned (.int .i64 r) ∧ Below w.heap.size w w' := by
 have HB := aMk (Below.refl w.heap.size w)
 have H : (some (mx a1 (mn a0 a2))) = some r := h
 clear h
 obtain ⟨ji4, hji4⟩ : ∃ j_ : Int, (mn a0 a2) = j_ := ⟨_, rfl⟩
 replace H : (some (mx a1 (ji4))) = some r := by first | (rw [hji4] at H; exact H) | (simp only [hji4] at H ⊢; exact H)
 have hji4_ : (if a2 < a0 then a2 else a0) = ji4 := hji4
 obtain ⟨ji5, hji5⟩ : ∃ j_ : Int, (mx a1 (ji4)) = j_ := ⟨_, rfl⟩
 replace H : (some ji5) = some r := by first | (rw [hji5] at H; exact H) | (simp only [hji5] at H ⊢; exact H)
 have hji5_ : (if a1 < (ji4) then (ji4) else a1) = ji5 := hji5
 obtain rfl := Option.some.inj H
 go_enter Try.func148, Try.ntmps148
 go_wp2
 go_ret
 exact ⟨by first | rfl | (simp [errW_none, errW_some] <;> rfl) | (simp only [← hji4, ← hji5]; first | rfl | (simp [errW_none, errW_some] <;> rfl)) | (simp [*, errW_none, errW_some] <;> rfl), by repeat (first | (with_reducible first | exact HB.out | apply bAl | apply bDn | apply bD1) | exact HB.out)⟩
def impl_absolute.f (a0 : Int) : Option (Int) := if a0 < 0 then (some (wrap64 (-a0))) else (some a0)
set_option maxHeartbeats 8000000 in
set_option maxRecDepth 100000 in
theorem impl_absolute.calls (a0 : Int) (r : Int) (w : World) (h : impl_absolute.f a0 = some r) :
 Calls Try.prog 149 #[.int .i64 a0] w fun e w' => e = .returned (.int .i64 r) ∧ Drawn0 w w' := by
 have H : (if a0 < 0 then (some (wrap64 (-a0))) else (some a0)) = some r := h
 clear h
 by_cases c2 : a0 < 0
 · rw [if_pos c2] at H
   have c2b0 : decide (a0 < 0) = true := decide_eq_true c2
   clear c2
   obtain rfl := Option.some.inj H
   go_enter Try.func149, Try.ntmps149
   go_wp2
   go_ret
   exact ⟨by first | rfl | (simp; done) | (simp [*]; done), by repeat (first | exact Drawn0.refl _ | apply Drawn0.step)⟩
 · rw [if_neg c2] at H
   have c2b0 : decide (a0 < 0) = false := decide_eq_false c2
   clear c2
   obtain rfl := Option.some.inj H
   go_enter Try.func149, Try.ntmps149
   go_wp2
   go_ret
   exact ⟨by first | rfl | (simp; done) | (simp [*]; done), by repeat (first | exact Drawn0.refl _ | apply Drawn0.step)⟩
end Go.Proofs.Ytpknhndanbgkmaa.MFnShares
