-- Written by this session's own program (wip/gen/myprint.py).
import Derived.Test.YtpknhndanbgkmaaMFnSharesx0
import Derived.Test.YtpknhndanbgkmaaMFnSharesx5
namespace Go.Proofs.Ytpknhndanbgkmaa.MFnShares
open Go.RowKit Go.Proofs.YtpknhndanbgkmaaW.PrintWords Go.Proofs.YtpknhndanbgkmaaW.PrintLast Go.Proofs.YtpknhndanbgkmaaW.PrintMore
attribute [local go_sem] max2_int min2_int max_two min_two max_three min_three max_four min_four   -- for this text's walks alone
set_option linter.unusedVariables false
set_option linter.unusedSimpArgs false
mutual
def spec_l16Spread.l0 : Nat → Int → List Int → List Int → Int → Int → Option (List Int)
 | 0, _, _, _, _, _ => none
 | k + 1, x0, x1, x5, x6, x7 => if x7 < (x1.length : Int) then (if 0 ≤ x7 then (spec_l16Spread.l0 k x0 x1 x5 (wrap64 (x6 + (rd x1 x7))) (wrap64 (x7 + 1))) else (none)) else (if x6 = 0 then (spec_l16Spread.j1 k x0 x1 x5 (x1.length : Int) (x6 == 0)) else (spec_l16Spread.j1 k x0 x1 x5 x6 (x6 == 0)))
def spec_l16Spread.j1 : Nat → Int → List Int → List Int → Int → Bool → Option (List Int)
 | 0, _, _, _, _, _ => none
 | k + 1, x0, x1, x5, x6, x8 => spec_l16Spread.l1 k x0 x1 x5 x6 x8 0 0
def spec_l16Spread.l1 : Nat → Int → List Int → List Int → Int → Bool → Int → Int → Option (List Int)
 | 0, _, _, _, _, _, _, _ => none
 | k + 1, x0, x1, x5, x6, x8, x9, x10 => if x10 < (x1.length : Int) then (if 0 ≤ x10 then (if x8 = true then ((spec_MulDiv.f k x0 (wrap64 ((wrap64 (x9 + (rd x1 x10))) + 1)) x6).bind fun t134 => ((spec_MulDiv.f k x0 x9 x6).bind fun t135 => (if x5.length < 17592186044416 then (spec_l16Spread.l1 k x0 x1 (x5 ++ [wrap64 (t134 - t135)]) x6 x8 (wrap64 ((wrap64 (x9 + (rd x1 x10))) + 1)) (wrap64 (x10 + 1))) else (none)))) else ((spec_MulDiv.f k x0 (wrap64 (x9 + (rd x1 x10))) x6).bind fun t139 => ((spec_MulDiv.f k x0 x9 x6).bind fun t140 => (if x5.length < 17592186044416 then (spec_l16Spread.l1 k x0 x1 (x5 ++ [wrap64 (t139 - t140)]) x6 x8 (wrap64 (x9 + (rd x1 x10))) (wrap64 (x10 + 1))) else (none))))) else (none)) else (some x5)
end
def spec_l16Spread.f (k : Nat) (a0 : Int) (l1 : List Int) : Option (List Int) := spec_l16Spread.l0 k a0 l1 (([] : List Int)) 0 0
set_option maxHeartbeats 8000000 in
set_option maxRecDepth 100000 in
theorem spec_l16Spread.calls (k : Nat) (a0 : Int) (A1 : Option Addr) (c1 : Nat) (l1 : List Int) (r : List Int) (w : World) (hr1 : Kd.C (Kd.int .i64) w A1 l1.length l1) (hc1 : l1.length ≤ c1) (h : spec_l16Spread.f k a0 l1 = some r) :
 Calls Try.prog 94 #[.int .i64 a0, .slice A1 l1.length c1] w fun e w' => ∃ v0_ : Value, e = .returned (v0_) ∧ Kd.R (Kd.int .i64) 3 w' w.heap.size (fun _ => True) v0_ r ∧ Below w.heap.size w w' := by
 have HR1 := aMk hr1
 have HC1 := aMk hc1
 clear hr1 hc1
 have HB := aMk (Below.refl w.heap.size w)
 have H : (spec_l16Spread.l0 k a0 l1 (([] : List Int)) 0 0) = some r := h
 clear h
 obtain ⟨y129, hy129⟩ : ∃ y_ : List Int, y_ = (([] : List Int)) := ⟨_, rfl⟩
 replace H : (spec_l16Spread.l0 k a0 l1 y129 0 0) = some r := by first | (rw [hy129]; with_reducible exact H) | (have H2_ := (Option.bind_some _ _).symm.trans H; rw [hy129]; with_reducible exact H2_) | (have H2_ := (Option.bind_some _ _).symm.trans H; with_reducible exact H2_) | with_reducible exact H | (rw [hy129]; exact H) | exact H
 have Ny129 := aMk hy129
 clear hy129
 have H' := aMk H
 clear H
 go_enter Try.func94, Try.ntmps94
 go_wp2_with (first | ((with_reducible refine gate_dst (N := 12) rfl ?_); refine Kd.R_lit (Kd.int .i64) _ 3 ?hg (N := 12) ?hd (xs := ([] : List Int)) (inner := []) (ok := fun _ => True) (okp := fun _ => True) ?hr ?hp (fun _ hk => hk) trivial (Below.refl _ _) (Nat.le_refl _) (by simp) ?_; (case hd => rfl); (case hg => rfl); (case hr => first | (go_simp; done) | (go_simp; rfl)); (case hp => exact (Reps.none _ _)); intro v130 w3 ho4 hb hg_ hnew_; clear hg_ hnew_; (first | rw [← Ny129.out] at ho4 | (simp only [Int.reduceToNat] at ho4; rw [← Ny129.out] at ho4)); have n0_ := aMk (Kd.R_lower ho4 (below_size (by repeat (first | (with_reducible first | exact HB.out | apply bAl | apply bDn | apply bD1) | exact HB.out)))); have n1_ := aMk (below_step (by repeat (first | (with_reducible first | exact HB.out | apply bAl | apply bDn | apply bD1) | exact HB.out)) hb); clear HB; have HO131 := n0_; have HB := n1_; clear n0_ n1_; clear hb ho4))
 go_loopg [6, 7] k (fun kq v6 v7 w' => ∃ (x6_1 : Int) (x7_1 : Int), v6 = .int .i64 x6_1 ∧ v7 = .int .i64 x7_1 ∧ Aside0 (spec_l16Spread.l0 kq a0 l1 y129 x6_1 x7_1 = some r) ∧ Aside0 (kq ≤ k) ∧ Aside0 (Kd.R (Kd.int .i64) 3 w' w.heap.size (fun _ => True) v130 y129) ∧ Aside0 (Below w.heap.size w w'))
 case atStart => exact ⟨(0), (0), (by first | rfl | (simp; done) | (simp [*]; done)), (by first | rfl | (simp; done) | (simp [*]; done)), H', ⟨Nat.le_refl _⟩, ⟨by (with_reducible repeat (first | apply Kd.R_alloc | apply Kd.R_drewN | apply Kd.R_drew)); exact HO131.out⟩, ⟨by repeat (first | (with_reducible first | exact HB.out | apply bAl | apply bDn | apply bD1) | exact HB.out)⟩⟩
 case round =>
  clear H'
  try clear c1
  try clear p2
  obtain ⟨x6_1, x7_1, rfl, rfl, HA, HK1, HO_5, HB⟩ := hrel
  cases gk with
  | zero => exact absurd HA.out (by simp [spec_l16Spread.l0])
  | succ k1 =>
   have H := HA.out
   clear HA
   simp only [spec_l16Spread.l0] at H
   by_cases c5 : x7_1 < (l1.length : Int)
   · rw [if_pos c5] at H
     have c5b0 : decide (x7_1 < (l1.length : Int)) = true := decide_eq_true c5
     clear c5
     by_cases c6 : 0 ≤ x7_1
     · rw [if_pos c6] at H
       have c6b0 : decide (0 ≤ x7_1) = true := decide_eq_true c6
       clear c6
       have H' := aMk H
       clear H
       have p132 : 0 ≤ (x7_1 : Int) := oDt (by first | (with_reducible assumption) | assumption)
       have q132 : x7_1 < (l1.length : Int) := oDt (by first | (with_reducible assumption) | assumption)
       obtain ⟨ad132, e132, hx132_0⟩ := Kd.at_int HR1.out x7_1 p132 q132
       cases e132
       replace hx132_0 := (HB.out.cell (wBl w _ hx132_0)).trans hx132_0
       replace p132 := eq_true p132
       replace q132 := eq_true q132
       go_wp2
       go_roundg k1
       case measure => have := HK1.out; omega
       case rel => exact ⟨(wrap64 (x6_1 + (rd l1 x7_1))), (wrap64 (x7_1 + 1)), (by first | rfl | (simp; done) | (simp [*]; done)), (by first | rfl | (simp; done) | (simp [*]; done)), H', ⟨by have := HK1.out; omega⟩, ⟨by (with_reducible repeat (first | apply Kd.R_alloc | apply Kd.R_drewN | apply Kd.R_drew)); exact HO_5.out⟩, ⟨by repeat (first | (with_reducible first | exact HB.out | apply bAl | apply bDn | apply bD1) | exact HB.out)⟩⟩
     · rw [if_neg c6] at H
       exact absurd H (by simp)
   · rw [if_neg c5] at H
     have c5b0 : decide (x7_1 < (l1.length : Int)) = false := decide_eq_false c5
     clear c5
     have HC7 := aMk H
     clear H
     go_upto_if 27 with (fail)
     go_cut [6, 8] (fun v6 v8 wc => ∃ (kq : Nat) (x6_6 : Int) (x8_6 : Bool), v6 = .int .i64 x6_6 ∧ v8 = .bool x8_6 ∧ Aside0 (spec_l16Spread.j1 kq a0 l1 y129 x6_6 x8_6 = some r) ∧ Aside0 (kq ≤ k1) ∧ Aside0 (Kd.R (Kd.int .i64) 3 wc w.heap.size (fun _ => True) v130 y129) ∧ Aside0 (Below w.heap.size w wc))
     case first =>
      have H := HC7.out
      clear HC7
      by_cases c8 : x6_1 = 0
      · rw [if_pos c8] at H
        have c8b0 : (x6_1 == 0) = true := beq_iff_eq.mpr c8
        have c8b1 : (x6_1 != 0) = false := bne_eq_false_iff_eq.mpr c8
        clear c8
        (first | rw [c8b0] | (simp only [i64_w, i32_w]; rw [c8b0]) | skip)
        have H' := aMk H
        clear H
        go_wp2
        go_meet
        case rel => exact ⟨_, ((l1.length : Int)), ((x6_1 == 0)), (by first | rfl | (simp; done) | (simp [*]; done)), (by first | rfl | (simp; done) | (simp [*]; done)), H', ⟨by have := HK1.out; first | omega | exact Nat.le_refl _⟩, ⟨by (with_reducible repeat (first | apply Kd.R_alloc | apply Kd.R_drewN | apply Kd.R_drew)); exact HO_5.out⟩, ⟨by repeat (first | (with_reducible first | exact HB.out | apply bAl | apply bDn | apply bD1) | exact HB.out)⟩⟩
      · rw [if_neg c8] at H
        have c8b0 : (x6_1 == 0) = false := beq_eq_false_iff_ne.mpr c8
        have c8b1 : (x6_1 != 0) = true := bne_iff_ne.mpr c8
        (first | rw [c8b0] | (simp only [i64_w, i32_w]; rw [c8b0]) | skip)
        have H' := aMk H
        clear H
        go_wp2
        go_meet
        case rel => exact ⟨_, (x6_1), ((x6_1 == 0)), (by first | rfl | (simp; done) | (simp [*]; done)), (by first | rfl | (simp; done) | (simp [*]; done)), H', ⟨by have := HK1.out; first | omega | exact Nat.le_refl _⟩, ⟨by (with_reducible repeat (first | apply Kd.R_alloc | apply Kd.R_drewN | apply Kd.R_drew)); exact HO_5.out⟩, ⟨by repeat (first | (with_reducible first | exact HB.out | apply bAl | apply bDn | apply bD1) | exact HB.out)⟩⟩
     case rest =>
      clear HC7
      try clear c1
      try clear p1
      try clear q1
      try clear hx1
      try clear p2
      try clear c5
      try clear c5b0
      try clear c6
      try clear c6b0
      try clear p6
      try clear c8
      try clear c8b0
      try clear c8b1
      try clear hx132_0
      try clear p132
      try clear p2
      try clear q132
      obtain ⟨kq, x6_6, x8_6, rfl, rfl, HA, HJ6, HO_5, HB⟩ := hcut
      cases kq with
      | zero => exact absurd HA.out (by simp [spec_l16Spread.j1])
      | succ kj6 =>
       have H := HA.out
       clear HA
       simp only [spec_l16Spread.j1] at H
       have H' := aMk H
       clear H
       go_wp2
       go_loopg [5, 9, 10] kj6 (fun kq v5 v9 v10 w' => ∃ (x5_3 : List Int) (x9_3 : Int) (x10_3 : Int), v9 = .int .i64 x9_3 ∧ v10 = .int .i64 x10_3 ∧ Aside0 (spec_l16Spread.l1 kq a0 l1 x5_3 x6_6 x8_6 x9_3 x10_3 = some r) ∧ Aside0 (kq ≤ kj6) ∧ Aside0 (Kd.R (Kd.int .i64) 3 w' w.heap.size (fun _ => True) v5 x5_3) ∧ Aside0 (Below w.heap.size w w'))
       case atStart => exact ⟨(y129), (0), (0), (by first | rfl | (simp; done) | (simp [*]; done)), (by first | rfl | (simp; done) | (simp [*]; done)), H', ⟨Nat.le_refl _⟩, ⟨by (with_reducible repeat (first | apply Kd.R_alloc | apply Kd.R_drewN | apply Kd.R_drew)); exact HO_5.out⟩, ⟨by repeat (first | (with_reducible first | exact HB.out | apply bAl | apply bDn | apply bD1) | exact HB.out)⟩⟩
       case round =>
        clear H'
        try clear c1
        try clear p1
        try clear q1
        try clear hx1
        try clear p2
        try clear c5
        try clear c5b0
        try clear c6
        try clear c6b0
        try clear p6
        try clear c8
        try clear c8b0
        try clear c8b1
        try clear hx132_0
        try clear p1
        try clear p132
        try clear p2
        try clear p6
        try clear q1
        try clear q132
        obtain ⟨x5_3, x9_3, x10_3, rfl, rfl, HA, HK3, HO_5, HB⟩ := hrel
        cases gk with
        | zero => exact absurd HA.out (by simp [spec_l16Spread.l1])
        | succ k3 =>
         have H := HA.out
         clear HA
         simp only [spec_l16Spread.l1] at H
         by_cases c9 : x10_3 < (l1.length : Int)
         · rw [if_pos c9] at H
           have c9b0 : decide (x10_3 < (l1.length : Int)) = true := decide_eq_true c9
           clear c9
           by_cases c10 : 0 ≤ x10_3
           · rw [if_pos c10] at H
             have c10b0 : decide (0 ≤ x10_3) = true := decide_eq_true c10
             clear c10
             by_cases c11 : x8_6 = true
             · subst c11
               have H1 : ((spec_MulDiv.f k3 a0 (wrap64 ((wrap64 (x9_3 + (rd l1 x10_3))) + 1)) x6_6).bind fun t134 => ((spec_MulDiv.f k3 a0 x9_3 x6_6).bind fun t135 => (if x5_3.length < 17592186044416 then (spec_l16Spread.l1 k3 a0 l1 (x5_3 ++ [wrap64 (t134 - t135)]) x6_6 true (wrap64 ((wrap64 (x9_3 + (rd l1 x10_3))) + 1)) (wrap64 (x10_3 + 1))) else (none)))) = some r := by rw [if_pos rfl] at H; exact H
               clear H
               have H := H1
               clear H1
               replace H := oBm H
               obtain ⟨t134, A120, H⟩ := H
               replace H : ((spec_MulDiv.f k3 a0 x9_3 x6_6).bind fun t135 => (if x5_3.length < 17592186044416 then (spec_l16Spread.l1 k3 a0 l1 (x5_3 ++ [wrap64 (t134 - t135)]) x6_6 true (wrap64 ((wrap64 (x9_3 + (rd l1 x10_3))) + 1)) (wrap64 (x10_3 + 1))) else (none))) = some r := H
               have A12 := aMk A120
               clear A120
               replace H := oBm H
               obtain ⟨t135, A130, H⟩ := H
               replace H : (if x5_3.length < 17592186044416 then (spec_l16Spread.l1 k3 a0 l1 (x5_3 ++ [wrap64 (t134 - t135)]) x6_6 true (wrap64 ((wrap64 (x9_3 + (rd l1 x10_3))) + 1)) (wrap64 (x10_3 + 1))) else (none)) = some r := H
               have A13 := aMk A130
               clear A130
               by_cases c14 : x5_3.length < 17592186044416
               · rw [if_pos c14] at H
                 have LMc14 := aMk c14
                 clear c14
                 obtain ⟨y136, hy136⟩ : ∃ y_ : List Int, y_ = (x5_3 ++ [wrap64 (t134 - t135)]) := ⟨_, rfl⟩
                 replace H : (spec_l16Spread.l1 k3 a0 l1 y136 x6_6 true (wrap64 ((wrap64 (x9_3 + (rd l1 x10_3))) + 1)) (wrap64 (x10_3 + 1))) = some r := by first | (rw [hy136]; with_reducible exact H) | (have H2_ := (Option.bind_some _ _).symm.trans H; rw [hy136]; with_reducible exact H2_) | (have H2_ := (Option.bind_some _ _).symm.trans H; with_reducible exact H2_) | with_reducible exact H | (rw [hy136]; exact H) | exact H
                 have Ny136 := aMk hy136
                 clear hy136
                 have H' := aMk H
                 clear H
                 have p133 : 0 ≤ (x10_3 : Int) := oDt (by first | (with_reducible assumption) | assumption)
                 have q133 : x10_3 < (l1.length : Int) := oDt (by first | (with_reducible assumption) | assumption)
                 obtain ⟨ad133, e133, hx133_0⟩ := Kd.at_int HR1.out x10_3 p133 q133
                 cases e133
                 replace hx133_0 := (HB.out.cell (wBl w _ hx133_0)).trans hx133_0
                 replace p133 := eq_true p133
                 replace q133 := eq_true q133
                 go_wp2_with (first | ((with_reducible refine gate_callee (f := 129) rfl ?_); refine goesL_ (some 50) rfl rfl Try.func129 (by kernel_rfl) rfl #[.int .i64 a0, .int .i64 (wrap64 ((wrap64 (x9_3 + (rd l1 x10_3))) + 1)), .int .i64 x6_6] rfl (by (try simp only [List.map_toArray, List.map_cons, List.map_nil]); first | done | rfl | (simp only [List.length_drop, List.length_take]; rfl)) ?_; (with_reducible refine (spec_MulDiv.calls k3 a0 (wrap64 ((wrap64 (x9_3 + (rd l1 x10_3))) + 1)) x6_6 t134 _ A12.out).mono ?_); rintro e w' ⟨rfl, ⟨nd, rfl⟩⟩; refine ⟨_, rfl, ?_⟩) | ((with_reducible refine gate_callee (f := 129) rfl ?_); refine goesL_ (some 54) rfl rfl Try.func129 (by kernel_rfl) rfl #[.int .i64 a0, .int .i64 x9_3, .int .i64 x6_6] rfl (by (try simp only [List.map_toArray, List.map_cons, List.map_nil]); first | done | rfl | (simp only [List.length_drop, List.length_take]; rfl)) ?_; (with_reducible refine (spec_MulDiv.calls k3 a0 x9_3 x6_6 t135 _ A13.out).mono ?_); rintro e w' ⟨rfl, ⟨nd, rfl⟩⟩; refine ⟨_, rfl, ?_⟩) | ((with_reducible refine gate_builtin (b := .append) (xs := #[.tmp 46, .tmp 56]) rfl ?_); at_builtin; refine Kd.R_append (Kd.int .i64) (w0 := w) w.heap.size rfl (.tmp 46) (.tmp 56) 22 3 (.int .i64 0) 8 rfl Try.underlying22 info3 rfl (by decide) (by omega) u5 x5_3 (wrap64 (t134 - t135)) [.int .i64 (wrap64 (t134 - t135))] (fun _ => True) (fun _ => False) rfl rfl ?aP (fun _ hk => hk.elim) ?aF ?aO ?aB ?aS ?aL ?_; (case aP => exact rfl); (case aB => exact (by repeat (first | (with_reducible first | exact HB.out | apply bAl | apply bDn | apply bD1) | exact HB.out))); (case aF => exact (fun _ _ => trivial)); (case aO => exact (by (with_reducible repeat (first | apply Kd.R_alloc | apply Kd.R_drewN | apply Kd.R_drew)); exact HO_5.out)); (case aS => exact (below_size (by repeat (first | (with_reducible first | exact HB.out | apply bAl | apply bDn | apply bD1) | exact HB.out)))); (case aL => have := LMc14.out; omega); intro v137 w15 ho hb hg hat; rw [← Ny136.out] at ho; have n0_ := aMk (hb); have n1_ := aMk (ho); clear HB; clear HO_5; have HB := n0_; have HO138 := n1_; clear n0_ n1_; clear ho hb hg hat))
                 go_roundg k3
                 case measure => have := HK1.out; have := HJ6.out; have := HK3.out; omega
                 case rel => exact ⟨(y136), (wrap64 ((wrap64 (x9_3 + (rd l1 x10_3))) + 1)), (wrap64 (x10_3 + 1)), (by first | rfl | (simp; done) | (simp [*]; done)), (by first | rfl | (simp; done) | (simp [*]; done)), H', ⟨by have := HK1.out; have := HJ6.out; have := HK3.out; omega⟩, ⟨by (with_reducible repeat (first | apply Kd.R_alloc | apply Kd.R_drewN | apply Kd.R_drew)); exact HO138.out⟩, ⟨by repeat (first | (with_reducible first | exact HB.out | apply bAl | apply bDn | apply bD1) | exact HB.out)⟩⟩
               · rw [if_neg c14] at H
                 exact absurd H (by simp)
             · replace c11 := Bool.eq_false_iff.mpr c11
               subst c11
               have H1 : ((spec_MulDiv.f k3 a0 (wrap64 (x9_3 + (rd l1 x10_3))) x6_6).bind fun t139 => ((spec_MulDiv.f k3 a0 x9_3 x6_6).bind fun t140 => (if x5_3.length < 17592186044416 then (spec_l16Spread.l1 k3 a0 l1 (x5_3 ++ [wrap64 (t139 - t140)]) x6_6 false (wrap64 (x9_3 + (rd l1 x10_3))) (wrap64 (x10_3 + 1))) else (none)))) = some r := by rw [if_neg (show ¬ (false = true) by decide)] at H; exact H
               clear H
               have H := H1
               clear H1
               replace H := oBm H
               obtain ⟨t139, A160, H⟩ := H
               replace H : ((spec_MulDiv.f k3 a0 x9_3 x6_6).bind fun t140 => (if x5_3.length < 17592186044416 then (spec_l16Spread.l1 k3 a0 l1 (x5_3 ++ [wrap64 (t139 - t140)]) x6_6 false (wrap64 (x9_3 + (rd l1 x10_3))) (wrap64 (x10_3 + 1))) else (none))) = some r := H
               have A16 := aMk A160
               clear A160
               replace H := oBm H
               obtain ⟨t140, A170, H⟩ := H
               replace H : (if x5_3.length < 17592186044416 then (spec_l16Spread.l1 k3 a0 l1 (x5_3 ++ [wrap64 (t139 - t140)]) x6_6 false (wrap64 (x9_3 + (rd l1 x10_3))) (wrap64 (x10_3 + 1))) else (none)) = some r := H
               have A17 := aMk A170
               clear A170
               by_cases c18 : x5_3.length < 17592186044416
               · rw [if_pos c18] at H
                 have LMc18 := aMk c18
                 clear c18
                 obtain ⟨y141, hy141⟩ : ∃ y_ : List Int, y_ = (x5_3 ++ [wrap64 (t139 - t140)]) := ⟨_, rfl⟩
                 replace H : (spec_l16Spread.l1 k3 a0 l1 y141 x6_6 false (wrap64 (x9_3 + (rd l1 x10_3))) (wrap64 (x10_3 + 1))) = some r := by first | (rw [hy141]; with_reducible exact H) | (have H2_ := (Option.bind_some _ _).symm.trans H; rw [hy141]; with_reducible exact H2_) | (have H2_ := (Option.bind_some _ _).symm.trans H; with_reducible exact H2_) | with_reducible exact H | (rw [hy141]; exact H) | exact H
                 have Ny141 := aMk hy141
                 clear hy141
                 have H' := aMk H
                 clear H
                 have p133 : 0 ≤ (x10_3 : Int) := oDt (by first | (with_reducible assumption) | assumption)
                 have q133 : x10_3 < (l1.length : Int) := oDt (by first | (with_reducible assumption) | assumption)
                 obtain ⟨ad133, e133, hx133_0⟩ := Kd.at_int HR1.out x10_3 p133 q133
                 cases e133
                 replace hx133_0 := (HB.out.cell (wBl w _ hx133_0)).trans hx133_0
                 replace p133 := eq_true p133
                 replace q133 := eq_true q133
                 go_wp2_with (first | ((with_reducible refine gate_callee (f := 129) rfl ?_); refine goesL_ (some 50) rfl rfl Try.func129 (by kernel_rfl) rfl #[.int .i64 a0, .int .i64 (wrap64 (x9_3 + (rd l1 x10_3))), .int .i64 x6_6] rfl (by (try simp only [List.map_toArray, List.map_cons, List.map_nil]); first | done | rfl | (simp only [List.length_drop, List.length_take]; rfl)) ?_; (with_reducible refine (spec_MulDiv.calls k3 a0 (wrap64 (x9_3 + (rd l1 x10_3))) x6_6 t139 _ A16.out).mono ?_); rintro e w' ⟨rfl, ⟨nd, rfl⟩⟩; refine ⟨_, rfl, ?_⟩) | ((with_reducible refine gate_callee (f := 129) rfl ?_); refine goesL_ (some 54) rfl rfl Try.func129 (by kernel_rfl) rfl #[.int .i64 a0, .int .i64 x9_3, .int .i64 x6_6] rfl (by (try simp only [List.map_toArray, List.map_cons, List.map_nil]); first | done | rfl | (simp only [List.length_drop, List.length_take]; rfl)) ?_; (with_reducible refine (spec_MulDiv.calls k3 a0 x9_3 x6_6 t140 _ A17.out).mono ?_); rintro e w' ⟨rfl, ⟨nd, rfl⟩⟩; refine ⟨_, rfl, ?_⟩) | ((with_reducible refine gate_builtin (b := .append) (xs := #[.tmp 46, .tmp 56]) rfl ?_); at_builtin; refine Kd.R_append (Kd.int .i64) (w0 := w) w.heap.size rfl (.tmp 46) (.tmp 56) 22 3 (.int .i64 0) 8 rfl Try.underlying22 info3 rfl (by decide) (by omega) u5 x5_3 (wrap64 (t139 - t140)) [.int .i64 (wrap64 (t139 - t140))] (fun _ => True) (fun _ => False) rfl rfl ?aP (fun _ hk => hk.elim) ?aF ?aO ?aB ?aS ?aL ?_; (case aP => exact rfl); (case aB => exact (by repeat (first | (with_reducible first | exact HB.out | apply bAl | apply bDn | apply bD1) | exact HB.out))); (case aF => exact (fun _ _ => trivial)); (case aO => exact (by (with_reducible repeat (first | apply Kd.R_alloc | apply Kd.R_drewN | apply Kd.R_drew)); exact HO_5.out)); (case aS => exact (below_size (by repeat (first | (with_reducible first | exact HB.out | apply bAl | apply bDn | apply bD1) | exact HB.out)))); (case aL => have := LMc18.out; omega); intro v142 w19 ho hb hg hat; rw [← Ny141.out] at ho; have n0_ := aMk (hb); have n1_ := aMk (ho); clear HB; clear HO_5; have HB := n0_; have HO143 := n1_; clear n0_ n1_; clear ho hb hg hat))
                 go_roundg k3
                 case measure => have := HK1.out; have := HJ6.out; have := HK3.out; omega
                 case rel => exact ⟨(y141), (wrap64 (x9_3 + (rd l1 x10_3))), (wrap64 (x10_3 + 1)), (by first | rfl | (simp; done) | (simp [*]; done)), (by first | rfl | (simp; done) | (simp [*]; done)), H', ⟨by have := HK1.out; have := HJ6.out; have := HK3.out; omega⟩, ⟨by (with_reducible repeat (first | apply Kd.R_alloc | apply Kd.R_drewN | apply Kd.R_drew)); exact HO143.out⟩, ⟨by repeat (first | (with_reducible first | exact HB.out | apply bAl | apply bDn | apply bD1) | exact HB.out)⟩⟩
               · rw [if_neg c18] at H
                 exact absurd H (by simp)
           · rw [if_neg c10] at H
             exact absurd H (by simp)
         · rw [if_neg c9] at H
           have c9b0 : decide (x10_3 < (l1.length : Int)) = false := decide_eq_false c9
           clear c9
           obtain rfl := Option.some.inj H
           go_wp2
           go_ret
           exact ⟨_, by first | rfl | (simp [errW_none, errW_some] <;> rfl) | (simp [*, errW_none, errW_some] <;> rfl), by (with_reducible repeat (first | apply Kd.R_alloc | apply Kd.R_drewN | apply Kd.R_drew)); exact HO_5.out, by repeat (first | (with_reducible first | exact HB.out | apply bAl | apply bDn | apply bD1) | exact HB.out)⟩
def spec_l16Fit.j0 : Nat → Int → Bool → Int → Int → Int → Int → Int → Option (Int)
 | 0, _, _, _, _, _, _, _ => none
 | k + 1, x1, x13, x145000, x145001, x145002, x145003, x145004 => if x13 = true then (if x145004 < x145003 then (some x145003) else (some x145004)) else (if x1 < x145003 then (some x145003) else (some x1))
def spec_l16Fit.f (k : Nat) (a0_0 : Int) (a0_1 : Int) (a0_2 : Int) (a0_3 : Int) (a0_4 : Int) (a1 : Int) : Option (Int) := if a0_4 ≥ 0 then (spec_l16Fit.j0 k a1 (decide (a1 > a0_4)) a0_0 a0_1 a0_2 a0_3 a0_4) else (spec_l16Fit.j0 k a1 false a0_0 a0_1 a0_2 a0_3 a0_4)
set_option maxHeartbeats 8000000 in
set_option maxRecDepth 100000 in
theorem spec_l16Fit.calls (k : Nat) (a0_0 : Int) (a0_1 : Int) (a0_2 : Int) (a0_3 : Int) (a0_4 : Int) (a1 : Int) (r : Int) (w : World) (h : spec_l16Fit.f k a0_0 a0_1 a0_2 a0_3 a0_4 a1 = some r) :
 Calls Try.prog 117 #[.agg #[.int .i64 a0_0, .int .i64 a0_1, .int .i64 a0_2, .int .i64 a0_3, .int .i64 a0_4], .int .i64 a1] w fun e w' => e = .returned (.int .i64 r) ∧ Below w.heap.size w w' := by
 have hu66 := Try.underlying66
 have HB := aMk (Below.refl w.heap.size w)
 have H : (if a0_4 ≥ 0 then (spec_l16Fit.j0 k a1 (decide (a1 > a0_4)) a0_0 a0_1 a0_2 a0_3 a0_4) else (spec_l16Fit.j0 k a1 false a0_0 a0_1 a0_2 a0_3 a0_4)) = some r := h
 clear h
 have HC3 := aMk H
 clear H
 go_enter Try.func117, Try.ntmps117
 go_upto_region 1 with (first | ((with_reducible refine gate_dst (N := 2) rfl ?_); refine box_event ?hg (N := 2) ?hd (cs := #[.int .i64 a0_0, .int .i64 a0_1, .int .i64 a0_2, .int .i64 a0_3, .int .i64 a0_4]) (t := 66) ?hr ?_; (case hd => rfl); (case hg => rfl); (case hr => first | (go_simp; done) | (go_simp; rfl)); intro gb144 hg w4 hbox hb; have n0_ := aMk (below_step (by repeat (first | (with_reducible first | exact HB.out | apply bAl | apply bDn | apply bD1) | exact HB.out)) hb); have n1_ := aMk (hbox); have n2_ := aMk ((by rw [hg]; exact (below_size (by repeat (first | (with_reducible first | exact HB.out | apply bAl | apply bDn | apply bD1) | exact HB.out))) : w.heap.size ≤ gb144)); have n3_ := aMk ((by rw [hg]; exact (below_size (by repeat (first | (with_reducible first | exact HB.out | apply bAl | apply bDn | apply bD1) | exact HB.out))) : w.heap.size ≤ gb144)); clear HB; have HB := n0_; have BK144 := n1_; have GW144 := n2_; have GE144 := n3_; clear n0_ n1_ n2_ n3_; clear hb hbox hg))
 (try simp only [Act.put, lSa, lSz, lSs])
 go_cut [13] (fun v13 wc => ∃ (kq : Nat) (x13_2 : Bool), v13 = .bool x13_2 ∧ Aside0 (spec_l16Fit.j0 kq a1 x13_2 a0_0 a0_1 a0_2 a0_3 a0_4 = some r) ∧ Aside0 (kq ≤ k) ∧ Aside0 (wc.heap[gb144]? = some (.cells #[.int .i64 a0_0, .int .i64 a0_1, .int .i64 a0_2, .int .i64 a0_3, .int .i64 a0_4] 66 (0, 0))) ∧ Aside0 (Below w.heap.size w wc))
 case first =>
  have H := HC3.out
  clear HC3
  by_cases c5 : a0_4 ≥ 0
  · rw [if_pos c5] at H
    have c5b0 : decide (0 ≤ a0_4) = true := decide_eq_true c5
    clear c5
    (first | rw [c5b0] | (simp only [i64_w, i32_w]; rw [c5b0]) | skip)
    have H' := aMk H
    clear H
    have hcz6_0 : w4.cell? ⟨gb144, 0, none⟩ = some (.int .i64 a0_0) := (bCe BK144.out 0).trans rfl
    have hcz6_1 : w4.cell? ⟨gb144, 1, none⟩ = some (.int .i64 a0_1) := (bCe BK144.out 1).trans rfl
    have hcz6_2 : w4.cell? ⟨gb144, 2, none⟩ = some (.int .i64 a0_2) := (bCe BK144.out 2).trans rfl
    have hcz6_3 : w4.cell? ⟨gb144, 3, none⟩ = some (.int .i64 a0_3) := (bCe BK144.out 3).trans rfl
    have hcz6_4 : w4.cell? ⟨gb144, 4, none⟩ = some (.int .i64 a0_4) := (bCe BK144.out 4).trans rfl
    have hfz6_0 := bFr BK144.out 0
    have hfz6_1 := bFr BK144.out 1
    have hfz6_2 := bFr BK144.out 2
    have hfz6_3 := bFr BK144.out 3
    have hfz6_4 := bFr BK144.out 4
    go_wp2
    go_meet
    case rel => exact ⟨_, (decide (a1 > a0_4)), (by first | rfl | (simp; done) | (simp [*]; done)), H', ⟨by first | omega | exact Nat.le_refl _⟩, ⟨by (with_reducible repeat (first | refine bkD ?_ _ | refine blk_drew ?_ | refine bkA ?_ _)); exact BK144.out⟩, ⟨by repeat (first | (with_reducible first | exact HB.out | apply bAl | apply bDn | apply bD1 | refine bSe ?_ GE144.out) | exact HB.out)⟩⟩
  · rw [if_neg c5] at H
    have c5b0 : decide (0 ≤ a0_4) = false := decide_eq_false c5
    clear c5
    (first | rw [c5b0] | (simp only [i64_w, i32_w]; rw [c5b0]) | skip)
    have H' := aMk H
    clear H
    have hcz7_0 : w4.cell? ⟨gb144, 0, none⟩ = some (.int .i64 a0_0) := (bCe BK144.out 0).trans rfl
    have hcz7_1 : w4.cell? ⟨gb144, 1, none⟩ = some (.int .i64 a0_1) := (bCe BK144.out 1).trans rfl
    have hcz7_2 : w4.cell? ⟨gb144, 2, none⟩ = some (.int .i64 a0_2) := (bCe BK144.out 2).trans rfl
    have hcz7_3 : w4.cell? ⟨gb144, 3, none⟩ = some (.int .i64 a0_3) := (bCe BK144.out 3).trans rfl
    have hcz7_4 : w4.cell? ⟨gb144, 4, none⟩ = some (.int .i64 a0_4) := (bCe BK144.out 4).trans rfl
    have hfz7_0 := bFr BK144.out 0
    have hfz7_1 := bFr BK144.out 1
    have hfz7_2 := bFr BK144.out 2
    have hfz7_3 := bFr BK144.out 3
    have hfz7_4 := bFr BK144.out 4
    go_wp2
    go_meet
    case rel => exact ⟨_, (false), (by first | rfl | (simp; done) | (simp [*]; done)), H', ⟨by first | omega | exact Nat.le_refl _⟩, ⟨by (with_reducible repeat (first | refine bkD ?_ _ | refine blk_drew ?_ | refine bkA ?_ _)); exact BK144.out⟩, ⟨by repeat (first | (with_reducible first | exact HB.out | apply bAl | apply bDn | apply bD1 | refine bSe ?_ GE144.out) | exact HB.out)⟩⟩
 case rest =>
  clear HC3
  try clear c1
  try clear p2
  try clear c5
  try clear c5b0
  try clear hcz6_0
  try clear hcz6_1
  try clear hcz6_2
  try clear hcz6_3
  try clear hcz6_4
  try clear hcz7_0
  try clear hcz7_1
  try clear hcz7_2
  try clear hcz7_3
  try clear hcz7_4
  try clear hfz6_0
  try clear hfz6_1
  try clear hfz6_2
  try clear hfz6_3
  try clear hfz6_4
  try clear hfz7_0
  try clear hfz7_1
  try clear hfz7_2
  try clear hfz7_3
  try clear hfz7_4
  obtain ⟨kq, x13_2, rfl, HA, HJ2, BK144, HB⟩ := hcut
  cases kq with
  | zero => exact absurd HA.out (by simp [spec_l16Fit.j0])
  | succ kj2 =>
   have H := HA.out
   clear HA
   simp only [spec_l16Fit.j0] at H
   by_cases c8 : x13_2 = true
   · subst c8
     have H1 : (if a0_4 < a0_3 then (some a0_3) else (some a0_4)) = some r := by rw [if_pos rfl] at H; exact H
     clear H
     have H := H1
     clear H1
     by_cases c9 : a0_4 < a0_3
     · rw [if_pos c9] at H
       have c9b0 : decide (a0_4 < a0_3) = true := decide_eq_true c9
       clear c9
       obtain rfl := Option.some.inj H
       have hcz10_0 : wc.cell? ⟨gb144, 0, none⟩ = some (.int .i64 a0_0) := (bCe BK144.out 0).trans rfl
       have hcz10_1 : wc.cell? ⟨gb144, 1, none⟩ = some (.int .i64 a0_1) := (bCe BK144.out 1).trans rfl
       have hcz10_2 : wc.cell? ⟨gb144, 2, none⟩ = some (.int .i64 a0_2) := (bCe BK144.out 2).trans rfl
       have hcz10_3 : wc.cell? ⟨gb144, 3, none⟩ = some (.int .i64 a0_3) := (bCe BK144.out 3).trans rfl
       have hcz10_4 : wc.cell? ⟨gb144, 4, none⟩ = some (.int .i64 a0_4) := (bCe BK144.out 4).trans rfl
       have hfz10_0 := bFr BK144.out 0
       have hfz10_1 := bFr BK144.out 1
       have hfz10_2 := bFr BK144.out 2
       have hfz10_3 := bFr BK144.out 3
       have hfz10_4 := bFr BK144.out 4
       go_wp2
       go_ret
       exact ⟨by first | rfl | (simp [errW_none, errW_some] <;> rfl) | (simp [*, errW_none, errW_some] <;> rfl), by repeat (first | (with_reducible first | exact HB.out | apply bAl | apply bDn | apply bD1 | refine bSe ?_ GE144.out) | exact HB.out)⟩
     · rw [if_neg c9] at H
       have c9b0 : decide (a0_4 < a0_3) = false := decide_eq_false c9
       clear c9
       obtain rfl := Option.some.inj H
       have hcz11_0 : wc.cell? ⟨gb144, 0, none⟩ = some (.int .i64 a0_0) := (bCe BK144.out 0).trans rfl
       have hcz11_1 : wc.cell? ⟨gb144, 1, none⟩ = some (.int .i64 a0_1) := (bCe BK144.out 1).trans rfl
       have hcz11_2 : wc.cell? ⟨gb144, 2, none⟩ = some (.int .i64 a0_2) := (bCe BK144.out 2).trans rfl
       have hcz11_3 : wc.cell? ⟨gb144, 3, none⟩ = some (.int .i64 a0_3) := (bCe BK144.out 3).trans rfl
       have hcz11_4 : wc.cell? ⟨gb144, 4, none⟩ = some (.int .i64 a0_4) := (bCe BK144.out 4).trans rfl
       have hfz11_0 := bFr BK144.out 0
       have hfz11_1 := bFr BK144.out 1
       have hfz11_2 := bFr BK144.out 2
       have hfz11_3 := bFr BK144.out 3
       have hfz11_4 := bFr BK144.out 4
       go_wp2
       go_ret
       exact ⟨by first | rfl | (simp [errW_none, errW_some] <;> rfl) | (simp [*, errW_none, errW_some] <;> rfl), by repeat (first | (with_reducible first | exact HB.out | apply bAl | apply bDn | apply bD1 | refine bSe ?_ GE144.out) | exact HB.out)⟩
   · replace c8 := Bool.eq_false_iff.mpr c8
     subst c8
     have H1 : (if a1 < a0_3 then (some a0_3) else (some a1)) = some r := by rw [if_neg (show ¬ (false = true) by decide)] at H; exact H
     clear H
     have H := H1
     clear H1
     by_cases c12 : a1 < a0_3
     · rw [if_pos c12] at H
       have c12b0 : decide (a1 < a0_3) = true := decide_eq_true c12
       clear c12
       obtain rfl := Option.some.inj H
       have hcz13_0 : wc.cell? ⟨gb144, 0, none⟩ = some (.int .i64 a0_0) := (bCe BK144.out 0).trans rfl
       have hcz13_1 : wc.cell? ⟨gb144, 1, none⟩ = some (.int .i64 a0_1) := (bCe BK144.out 1).trans rfl
       have hcz13_2 : wc.cell? ⟨gb144, 2, none⟩ = some (.int .i64 a0_2) := (bCe BK144.out 2).trans rfl
       have hcz13_3 : wc.cell? ⟨gb144, 3, none⟩ = some (.int .i64 a0_3) := (bCe BK144.out 3).trans rfl
       have hcz13_4 : wc.cell? ⟨gb144, 4, none⟩ = some (.int .i64 a0_4) := (bCe BK144.out 4).trans rfl
       have hfz13_0 := bFr BK144.out 0
       have hfz13_1 := bFr BK144.out 1
       have hfz13_2 := bFr BK144.out 2
       have hfz13_3 := bFr BK144.out 3
       have hfz13_4 := bFr BK144.out 4
       go_wp2
       go_ret
       exact ⟨by first | rfl | (simp [errW_none, errW_some] <;> rfl) | (simp [*, errW_none, errW_some] <;> rfl), by repeat (first | (with_reducible first | exact HB.out | apply bAl | apply bDn | apply bD1 | refine bSe ?_ GE144.out) | exact HB.out)⟩
     · rw [if_neg c12] at H
       have c12b0 : decide (a1 < a0_3) = false := decide_eq_false c12
       clear c12
       obtain rfl := Option.some.inj H
       have hcz14_0 : wc.cell? ⟨gb144, 0, none⟩ = some (.int .i64 a0_0) := (bCe BK144.out 0).trans rfl
       have hcz14_1 : wc.cell? ⟨gb144, 1, none⟩ = some (.int .i64 a0_1) := (bCe BK144.out 1).trans rfl
       have hcz14_2 : wc.cell? ⟨gb144, 2, none⟩ = some (.int .i64 a0_2) := (bCe BK144.out 2).trans rfl
       have hcz14_3 : wc.cell? ⟨gb144, 3, none⟩ = some (.int .i64 a0_3) := (bCe BK144.out 3).trans rfl
       have hcz14_4 : wc.cell? ⟨gb144, 4, none⟩ = some (.int .i64 a0_4) := (bCe BK144.out 4).trans rfl
       have hfz14_0 := bFr BK144.out 0
       have hfz14_1 := bFr BK144.out 1
       have hfz14_2 := bFr BK144.out 2
       have hfz14_3 := bFr BK144.out 3
       have hfz14_4 := bFr BK144.out 4
       go_wp2
       go_ret
       exact ⟨by first | rfl | (simp [errW_none, errW_some] <;> rfl) | (simp [*, errW_none, errW_some] <;> rfl), by repeat (first | (with_reducible first | exact HB.out | apply bAl | apply bDn | apply bD1 | refine bSe ?_ GE144.out) | exact HB.out)⟩
def spec_l16Factor.f (a0 : Int) : Option (Int) := if a0 < 0 then (some 0) else (if a0 > 1000000 then (some 1000000) else (some a0))
set_option maxHeartbeats 8000000 in
set_option maxRecDepth 100000 in
theorem spec_l16Factor.calls (a0 : Int) (r : Int) (w : World) (h : spec_l16Factor.f a0 = some r) :
 Calls Try.prog 118 #[.int .i64 a0] w fun e w' => e = .returned (.int .i64 r) ∧ Drawn0 w w' := by
 have H : (if a0 < 0 then (some 0) else (if a0 > 1000000 then (some 1000000) else (some a0))) = some r := h
 clear h
 by_cases c2 : a0 < 0
 · rw [if_pos c2] at H
   have c2b0 : decide (a0 < 0) = true := decide_eq_true c2
   clear c2
   obtain rfl := Option.some.inj H
   go_enter Try.func118, Try.ntmps118
   go_wp2
   go_ret
   exact ⟨by first | rfl | (simp; done) | (simp [*]; done), by repeat (first | exact Drawn0.refl _ | apply Drawn0.step)⟩
 · rw [if_neg c2] at H
   have c2b0 : decide (a0 < 0) = false := decide_eq_false c2
   clear c2
   by_cases c3 : a0 > 1000000
   · rw [if_pos c3] at H
     have c3b0 : decide (1000000 < a0) = true := decide_eq_true c3
     clear c3
     obtain rfl := Option.some.inj H
     go_enter Try.func118, Try.ntmps118
     go_wp2
     go_ret
     exact ⟨by first | rfl | (simp; done) | (simp [*]; done), by repeat (first | exact Drawn0.refl _ | apply Drawn0.step)⟩
   · rw [if_neg c3] at H
     have c3b0 : decide (1000000 < a0) = false := decide_eq_false c3
     clear c3
     obtain rfl := Option.some.inj H
     go_enter Try.func118, Try.ntmps118
     go_wp2
     go_ret
     exact ⟨by first | rfl | (simp; done) | (simp [*]; done), by repeat (first | exact Drawn0.refl _ | apply Drawn0.step)⟩
def spec_l16Abs.f (a0 : Int) : Option (Int) := if a0 < 0 then (some (wrap64 (-a0))) else (some a0)
set_option maxHeartbeats 8000000 in
set_option maxRecDepth 100000 in
theorem spec_l16Abs.calls (a0 : Int) (r : Int) (w : World) (h : spec_l16Abs.f a0 = some r) :
 Calls Try.prog 146 #[.int .i64 a0] w fun e w' => e = .returned (.int .i64 r) ∧ Drawn0 w w' := by
 have H : (if a0 < 0 then (some (wrap64 (-a0))) else (some a0)) = some r := h
 clear h
 by_cases c2 : a0 < 0
 · rw [if_pos c2] at H
   have c2b0 : decide (a0 < 0) = true := decide_eq_true c2
   clear c2
   obtain rfl := Option.some.inj H
   go_enter Try.func146, Try.ntmps146
   go_wp2
   go_ret
   exact ⟨by first | rfl | (simp; done) | (simp [*]; done), by repeat (first | exact Drawn0.refl _ | apply Drawn0.step)⟩
 · rw [if_neg c2] at H
   have c2b0 : decide (a0 < 0) = false := decide_eq_false c2
   clear c2
   obtain rfl := Option.some.inj H
   go_enter Try.func146, Try.ntmps146
   go_wp2
   go_ret
   exact ⟨by first | rfl | (simp; done) | (simp [*]; done), by repeat (first | exact Drawn0.refl _ | apply Drawn0.step)⟩
end Go.Proofs.Ytpknhndanbgkmaa.MFnShares
