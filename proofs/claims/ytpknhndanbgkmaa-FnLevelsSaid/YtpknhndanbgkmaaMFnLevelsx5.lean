-- Written by this session's own program (wip/gen/myprint.py).
import Derived.Test.YtpknhndanbgkmaaMFnLevelsx0
import Derived.Test.YtpknhndanbgkmaaMFnLevelsx1
namespace Go.Proofs.Ytpknhndanbgkmaa.MFnLevels
open Go.RowKit Go.Proofs.YtpknhndanbgkmaaW.PrintWords Go.Proofs.YtpknhndanbgkmaaW.PrintLast Go.Proofs.YtpknhndanbgkmaaW.PrintMore
attribute [local go_sem] max2_int min2_int max_two min_two max_three min_three max_four min_four   -- for this text's walks alone
set_option linter.unusedVariables false
set_option linter.unusedSimpArgs false
mutual
def spec_l14Weak.l0 : Nat → List Int → Int → Int → Int → Int → Option (List Int)
 | 0, _, _, _, _, _ => none
 | k + 1, x0, x1, x5, x6, x7 => if x7 < x5 then (if 0 ≤ x7 then (if x7 < (x0.length : Int) then (if (rd x0 x7) = 8 then ((some (x0.set (x7 : Int).toNat x1 : List Int)).bind fun y151 => (if x7 > 0 then (if 0 ≤ (wrap64 (x7 - 1)) then (if (wrap64 (x7 - 1)) < (x0.length : Int) then (spec_l14Weak.l0 k (y151.set (x7 : Int).toNat (rd y151 (wrap64 (x7 - 1)))) x1 x5 x6 (wrap64 (x7 + 1))) else (none)) else (none)) else (spec_l14Weak.l0 k y151 x1 x5 x6 (wrap64 (x7 + 1))))) else (spec_l14Weak.l0 k x0 x1 x5 x6 (wrap64 (x7 + 1)))) else (none)) else (none)) else (spec_l14Weak.l1 k x0 x1 x5 x6 0)
def spec_l14Weak.l1 : Nat → List Int → Int → Int → Int → Int → Option (List Int)
 | 0, _, _, _, _, _ => none
 | k + 1, x0, x1, x5, x6, x8 => if x8 < x5 then (if 0 ≤ x8 then (if x8 < (x0.length : Int) then (if (rd x0 x8) ≤ 2 then (if (rd x0 x8) = 3 then (if (rd x0 x8) = 2 then (spec_l14Weak.l1 k (x0.set (x8 : Int).toNat 4) x1 x5 (rd x0 x8) (wrap64 (x8 + 1))) else (spec_l14Weak.l1 k x0 x1 x5 (rd x0 x8) (wrap64 (x8 + 1)))) else (spec_l14Weak.l1 k x0 x1 x5 (rd x0 x8) (wrap64 (x8 + 1)))) else (if (rd x0 x8) = 3 then (if x6 = 2 then (spec_l14Weak.l1 k (x0.set (x8 : Int).toNat 4) x1 x5 x6 (wrap64 (x8 + 1))) else (spec_l14Weak.l1 k x0 x1 x5 x6 (wrap64 (x8 + 1)))) else (spec_l14Weak.l1 k x0 x1 x5 x6 (wrap64 (x8 + 1))))) else (none)) else (none)) else (spec_l14Weak.l2 k x0 x1 x5 0)
def spec_l14Weak.l2 : Nat → List Int → Int → Int → Int → Option (List Int)
 | 0, _, _, _, _ => none
 | k + 1, x0, x1, x5, x9 => if x9 < x5 then (if 0 ≤ x9 then (if x9 < (x0.length : Int) then (if (rd x0 x9) = 2 then (spec_l14Weak.l2 k (x0.set (x9 : Int).toNat 1) x1 x5 (wrap64 (x9 + 1))) else (spec_l14Weak.l2 k x0 x1 x5 (wrap64 (x9 + 1)))) else (none)) else (none)) else (spec_l14Weak.l3 k x0 x1 x5 1)
def spec_l14Weak.l3 : Nat → List Int → Int → Int → Int → Option (List Int)
 | 0, _, _, _, _ => none
 | k + 1, x0, x1, x5, x10 => if (wrap64 (x10 + 1)) < x5 then (if 0 ≤ x10 then (if x10 < (x0.length : Int) then (if (rd x0 x10) = 5 then (if 0 ≤ (wrap64 (x10 - 1)) then (if (wrap64 (x10 - 1)) < (x0.length : Int) then (if (rd x0 (wrap64 (x10 - 1))) = 3 then (if 0 ≤ (wrap64 (x10 + 1)) then (if (wrap64 (x10 + 1)) < (x0.length : Int) then (spec_l14Weak.j4 k x0 x1 x5 x10 ((rd x0 (wrap64 (x10 + 1))) == 3)) else (none)) else (none)) else (spec_l14Weak.j4 k x0 x1 x5 x10 false)) else (none)) else (none)) else (if (rd x0 x10) = 7 then (if 0 ≤ (wrap64 (x10 - 1)) then (if (wrap64 (x10 - 1)) < (x0.length : Int) then (if (rd x0 (wrap64 (x10 - 1))) = 3 then (if 0 ≤ (wrap64 (x10 + 1)) then (if (wrap64 (x10 + 1)) < (x0.length : Int) then (spec_l14Weak.j4 k x0 x1 x5 x10 ((rd x0 (wrap64 (x10 + 1))) == 3)) else (none)) else (none)) else (spec_l14Weak.j4 k x0 x1 x5 x10 false)) else (none)) else (none)) else (spec_l14Weak.j4 k x0 x1 x5 x10 false))) else (none)) else (none)) else (spec_l14Weak.l4 k x0 x1 x5 0)
def spec_l14Weak.j4 : Nat → List Int → Int → Int → Int → Bool → Option (List Int)
 | 0, _, _, _, _, _ => none
 | k + 1, x0, x1, x5, x10, x117 => if x117 = true then (if 0 ≤ x10 then (if x10 < (x0.length : Int) then (spec_l14Weak.l3 k (x0.set (x10 : Int).toNat 3) x1 x5 (wrap64 (x10 + 1))) else (none)) else (none)) else (if 0 ≤ x10 then (if x10 < (x0.length : Int) then (if (rd x0 x10) = 7 then (if 0 ≤ (wrap64 (x10 - 1)) then (if (wrap64 (x10 - 1)) < (x0.length : Int) then (if (rd x0 (wrap64 (x10 - 1))) = 4 then (if 0 ≤ (wrap64 (x10 + 1)) then (if (wrap64 (x10 + 1)) < (x0.length : Int) then (if (rd x0 (wrap64 (x10 + 1))) = 4 then (spec_l14Weak.l3 k (x0.set (x10 : Int).toNat 4) x1 x5 (wrap64 (x10 + 1))) else (spec_l14Weak.l3 k x0 x1 x5 (wrap64 (x10 + 1)))) else (none)) else (none)) else (spec_l14Weak.l3 k x0 x1 x5 (wrap64 (x10 + 1)))) else (none)) else (none)) else (spec_l14Weak.l3 k x0 x1 x5 (wrap64 (x10 + 1)))) else (none)) else (none))
def spec_l14Weak.l4 : Nat → List Int → Int → Int → Int → Option (List Int)
 | 0, _, _, _, _ => none
 | k + 1, x0, x1, x5, x11 => if x11 < x5 then (spec_l14Weak.l5 k x0 x1 x5 x11 x11) else (spec_l14Weak.l7 k x0 x5 x1 0)
def spec_l14Weak.j7 : Nat → List Int → Int → Int → Int → Int → Option (List Int)
 | 0, _, _, _, _, _ => none
 | k + 1, x0, x1, x5, x11, x12 => if x11 > x12 then (if x12 > 0 then (if 0 ≤ (wrap64 (x12 - 1)) then (if (wrap64 (x12 - 1)) < (x0.length : Int) then (if (rd x0 (wrap64 (x12 - 1))) = 3 then (spec_l14Weak.j8 k x0 x1 x5 x11 x12 true) else (if x11 < x5 then (if 0 ≤ x11 then (if x11 < (x0.length : Int) then (spec_l14Weak.j8 k x0 x1 x5 x11 x12 ((rd x0 x11) == 3)) else (none)) else (none)) else (spec_l14Weak.j8 k x0 x1 x5 x11 x12 false))) else (none)) else (none)) else (if x11 < x5 then (if 0 ≤ x11 then (if x11 < (x0.length : Int) then (spec_l14Weak.j8 k x0 x1 x5 x11 x12 ((rd x0 x11) == 3)) else (none)) else (none)) else (spec_l14Weak.j8 k x0 x1 x5 x11 x12 false))) else (spec_l14Weak.j8 k x0 x1 x5 x11 x12 false)
def spec_l14Weak.j8 : Nat → List Int → Int → Int → Int → Int → Bool → Option (List Int)
 | 0, _, _, _, _, _, _ => none
 | k + 1, x0, x1, x5, x11, x12, x189 => if x189 = true then (spec_l14Weak.l6 k x0 x1 x5 x11 x12) else (spec_l14Weak.l4 k x0 x1 x5 (wrap64 (x11 + 1)))
def spec_l14Weak.l6 : Nat → List Int → Int → Int → Int → Int → Option (List Int)
 | 0, _, _, _, _, _ => none
 | k + 1, x0, x1, x5, x11, x13 => if x13 < x11 then (if 0 ≤ x13 then (if x13 < (x0.length : Int) then (spec_l14Weak.l6 k (x0.set (x13 : Int).toNat 3) x1 x5 x11 (wrap64 (x13 + 1))) else (none)) else (none)) else (spec_l14Weak.l4 k x0 x1 x5 (wrap64 (x11 + 1)))
def spec_l14Weak.l5 : Nat → List Int → Int → Int → Int → Int → Option (List Int)
 | 0, _, _, _, _, _ => none
 | k + 1, x0, x1, x5, x11, x12 => if x11 < x5 then (if 0 ≤ x11 then (if x11 < (x0.length : Int) then (if (rd x0 x11) = 6 then (spec_l14Weak.l5 k x0 x1 x5 (wrap64 (x11 + 1)) x12) else (spec_l14Weak.j7 k x0 x1 x5 x11 x12)) else (none)) else (none)) else (spec_l14Weak.j7 k x0 x1 x5 x11 x12)
def spec_l14Weak.l7 : Nat → List Int → Int → Int → Int → Option (List Int)
 | 0, _, _, _, _ => none
 | k + 1, x0, x5, x6, x14 => if x14 < x5 then (if 0 ≤ x14 then (if x14 < (x0.length : Int) then ((spec_l12In.f (rd x0 x14) 5 7).bind fun t179 => (if t179 = true then (spec_l14Weak.j11 k (x0.set (x14 : Int).toNat 12) x5 x6 x14) else (spec_l14Weak.j11 k x0 x5 x6 x14))) else (none)) else (none)) else (some x0)
def spec_l14Weak.j11 : Nat → List Int → Int → Int → Int → Option (List Int)
 | 0, _, _, _, _ => none
 | k + 1, x0, x5, x6, x14 => if 0 ≤ x14 then (if x14 < (x0.length : Int) then (if (rd x0 x14) ≤ 1 then (if (rd x0 x14) = 3 then (if (rd x0 x14) = 0 then (spec_l14Weak.l7 k (x0.set (x14 : Int).toNat 0) x5 (rd x0 x14) (wrap64 (x14 + 1))) else (spec_l14Weak.l7 k x0 x5 (rd x0 x14) (wrap64 (x14 + 1)))) else (spec_l14Weak.l7 k x0 x5 (rd x0 x14) (wrap64 (x14 + 1)))) else (if (rd x0 x14) = 3 then (if x6 = 0 then (spec_l14Weak.l7 k (x0.set (x14 : Int).toNat 0) x5 x6 (wrap64 (x14 + 1))) else (spec_l14Weak.l7 k x0 x5 x6 (wrap64 (x14 + 1)))) else (spec_l14Weak.l7 k x0 x5 x6 (wrap64 (x14 + 1))))) else (none)) else (none)
end
def spec_l14Weak.f (k : Nat) (l0 : List Int) (a1 : Int) : Option (List Int) := (some (([] : List Int) : List Int)).bind fun y144 => (if y144.length + l0.length < 17592186044416 then ((some (y144 ++ l0 : List Int)).bind fun y147 => (spec_l14Weak.l0 k y147 a1 (y147.length : Int) a1 0)) else (none))
set_option maxHeartbeats 8000000 in
set_option maxRecDepth 100000 in
theorem spec_l14Weak.calls (k : Nat) (A0 : Option Addr) (c0 : Nat) (l0 : List Int) (a1 : Int) (r : List Int) (w : World) (hr0 : Kd.C (Kd.int .i64) w A0 l0.length l0) (hc0 : l0.length ≤ c0) (h : spec_l14Weak.f k l0 a1 = some r) :
 Calls Try.prog 109 #[.slice A0 l0.length c0, .int .i64 a1] w fun e w' => ∃ v0_ : Value, e = .returned (v0_) ∧ Kd.R (Kd.int .i64) 3 w' w.heap.size (fun _ => True) v0_ r ∧ Below w.heap.size w w' := by
 have HR0 := aMk hr0
 have HC0 := aMk hc0
 clear hr0 hc0
 have HB := aMk (Below.refl w.heap.size w)
 have H : ((some (([] : List Int) : List Int)).bind fun y144 => (if y144.length + l0.length < 17592186044416 then ((some (y144 ++ l0 : List Int)).bind fun y147 => (spec_l14Weak.l0 k y147 a1 (y147.length : Int) a1 0)) else (none))) = some r := h
 clear h
 obtain ⟨y144, hy144⟩ : ∃ y_ : List Int, y_ = (([] : List Int)) := ⟨_, rfl⟩
 replace H : (if y144.length + l0.length < 17592186044416 then ((some (y144 ++ l0 : List Int)).bind fun y147 => (spec_l14Weak.l0 k y147 a1 (y147.length : Int) a1 0)) else (none)) = some r := by first | (rw [hy144]; with_reducible exact H) | (have H2_ := (Option.bind_some _ _).symm.trans H; rw [hy144]; with_reducible exact H2_) | (have H2_ := (Option.bind_some _ _).symm.trans H; with_reducible exact H2_) | with_reducible exact H | (rw [hy144]; exact H) | exact H
 have Ny144 := aMk hy144
 clear hy144
 by_cases c3 : y144.length + l0.length < 17592186044416
 · rw [if_pos c3] at H
   have LMc3 := aMk c3
   clear c3
   obtain ⟨y147, hy147⟩ : ∃ y_ : List Int, y_ = (y144 ++ l0) := ⟨_, rfl⟩
   replace H : (spec_l14Weak.l0 k y147 a1 (y147.length : Int) a1 0) = some r := by first | (rw [hy147]; with_reducible exact H) | (have H2_ := (Option.bind_some _ _).symm.trans H; rw [hy147]; with_reducible exact H2_) | (have H2_ := (Option.bind_some _ _).symm.trans H; with_reducible exact H2_) | with_reducible exact H | (rw [hy147]; exact H) | exact H
   have Ny147 := aMk hy147
   clear hy147
   have H' := aMk H
   clear H
   go_enter Try.func109, Try.ntmps109
   go_wp2_with (first | ((with_reducible refine gate_dst (N := 15) rfl ?_); refine Kd.R_lit (Kd.int .i64) _ 3 ?hg (N := 15) ?hd (xs := ([] : List Int)) (inner := []) (ok := fun _ => True) (okp := fun _ => True) ?hr ?hp (fun _ hk => hk) trivial (Below.refl _ _) (Nat.le_refl _) (by simp) ?_; (case hd => rfl); (case hg => rfl); (case hr => first | (go_simp; done) | (go_simp; rfl)); (case hp => exact (Reps.none _ _)); intro v145 w4 ho5 hb hg_ hnew_; clear hg_ hnew_; (first | rw [← Ny144.out] at ho5 | (simp only [Int.reduceToNat] at ho5; rw [← Ny144.out] at ho5)); have n0_ := aMk (Kd.R_lower ho5 (below_size (by repeat (first | (with_reducible first | exact HB.out | apply bAl | apply bDn | apply bD1) | exact HB.out)))); have n1_ := aMk (below_step (by repeat (first | (with_reducible first | exact HB.out | apply bAl | apply bDn | apply bD1) | exact HB.out)) hb); clear HB; have HO146 := n0_; have HB := n1_; clear n0_ n1_; clear hb ho5) | ((with_reducible refine gate_builtin (b := .append) (xs := #[.tmp 15, .tmp 16]) rfl ?_); at_builtin; refine Kd.R_append_rows (Kd.int .i64) (w0 := w) w.heap.size rfl (.tmp 15) (.tmp 16) 22 3 (.int .i64 0) 8 rfl Try.underlying22 info3 rfl (by decide) (by omega) v145 y144 l0 _ _ _ (fun _ => True) (fun _ => False) rfl rfl ?aO ?aR (fun _ _ h => h) (fun _ h => h.elim) ?aF ?aB ?aS ?aL ?_; (case aR => repeat (first | exact (Kd.C_below HR0.out HB.out) | (with_reducible refine Kd.C_alloc ?_ _) | (with_reducible refine Kd.C_drewN ?_ _) | (with_reducible refine Kd.C_drew ?_))); (case aB => exact (by repeat (first | (with_reducible first | exact HB.out | apply bAl | apply bDn | apply bD1) | exact HB.out))); (case aF => exact (fun _ _ => trivial)); (case aO => exact (by (with_reducible repeat (first | apply Kd.R_alloc | apply Kd.R_drewN | apply Kd.R_drew)); exact HO146.out)); (case aS => exact (below_size (by repeat (first | (with_reducible first | exact HB.out | apply bAl | apply bDn | apply bD1) | exact HB.out)))); (case aL => have := LMc3.out; omega); intro v148 w6 ho hb hg hat; rw [← Ny147.out] at ho; have n0_ := aMk (hb); have n1_ := aMk (ho); clear HB; clear HO146; have HB := n0_; have HO149 := n1_; clear n0_ n1_; clear ho hb hg hat; obtain ⟨Ao7, co7, eo7⟩ := Kd.R_slice HO149.out; subst eo7))
   go_loopg [7] k (fun kq v7 w' => ∃ (x0_1 : List Int) (x7_1 : Int), v7 = .int .i64 x7_1 ∧ Aside0 (spec_l14Weak.l0 kq x0_1 a1 (y147.length : Int) a1 x7_1 = some r) ∧ Aside0 (kq ≤ k) ∧ Aside0 (Kd.R (Kd.int .i64) 3 w' w.heap.size (fun _ => True) (.slice Ao7 y147.length co7) x0_1) ∧ Aside0 (Below w.heap.size w w'))
   case atStart => exact ⟨(y147), (0), (by first | rfl | (simp; done) | (simp [*]; done)), H', ⟨Nat.le_refl _⟩, ⟨by (with_reducible repeat (first | apply Kd.R_alloc | apply Kd.R_drewN | apply Kd.R_drew)); exact HO149.out⟩, ⟨by repeat (first | (with_reducible first | exact HB.out | apply bAl | apply bDn | apply bD1) | exact HB.out)⟩⟩
   case round =>
    clear H'
    (try clear c1); (try clear p2); (try clear c3)
    obtain ⟨x0_1, x7_1, rfl, HA, HK1, HO_0, HB⟩ := hrel
    have hl0_1 := (Kd.R_reads' HO_0.out).1
    rw [hl0_1] at HO_0
    (try simp only [hl0_1])
    cases gk with
    | zero => exact absurd HA.out (by simp [spec_l14Weak.l0])
    | succ k1 =>
     have H := HA.out
     clear HA
     simp only [spec_l14Weak.l0] at H
     by_cases c8 : x7_1 < (y147.length : Int)
     · rw [if_pos c8] at H
       have c8b0 : decide (x7_1 < (y147.length : Int)) = true := decide_eq_true c8
       (try rw [hl0_1] at c8b0)
       (try rw [hl0_114] at c8b0)
       (try rw [hl0_2] at c8b0)
       (try rw [hl0_3] at c8b0)
       (try rw [hl0_4] at c8b0)
       (try rw [hl0_5] at c8b0)
       (try rw [hl0_6] at c8b0)
       (try rw [hl0_8] at c8b0)
       clear c8
       by_cases c9 : 0 ≤ x7_1
       · rw [if_pos c9] at H
         have c9b0 : decide (0 ≤ x7_1) = true := decide_eq_true c9
         clear c9
         by_cases c10 : x7_1 < (x0_1.length : Int)
         · rw [if_pos c10] at H
           have c10b0 : decide (x7_1 < (x0_1.length : Int)) = true := decide_eq_true c10
           (try rw [hl0_1] at c10b0)
           (try rw [hl0_114] at c10b0)
           (try rw [hl0_2] at c10b0)
           (try rw [hl0_3] at c10b0)
           (try rw [hl0_4] at c10b0)
           (try rw [hl0_5] at c10b0)
           (try rw [hl0_6] at c10b0)
           (try rw [hl0_8] at c10b0)
           clear c10
           by_cases c11 : (rd x0_1 x7_1) = 8
           · rw [if_pos c11] at H
             have c11b0 : ((rd x0_1 x7_1) == 8) = true := beq_iff_eq.mpr c11
             have c11b1 : ((rd x0_1 x7_1) != 8) = false := bne_eq_false_iff_eq.mpr c11
             clear c11
             obtain ⟨y151, hy151⟩ : ∃ y_ : List Int, y_ = (x0_1.set (x7_1 : Int).toNat a1) := ⟨_, rfl⟩
             replace H : (if x7_1 > 0 then (if 0 ≤ (wrap64 (x7_1 - 1)) then (if (wrap64 (x7_1 - 1)) < (x0_1.length : Int) then (spec_l14Weak.l0 k1 (y151.set (x7_1 : Int).toNat (rd y151 (wrap64 (x7_1 - 1)))) a1 (y147.length : Int) a1 (wrap64 (x7_1 + 1))) else (none)) else (none)) else (spec_l14Weak.l0 k1 y151 a1 (y147.length : Int) a1 (wrap64 (x7_1 + 1)))) = some r := by first | (rw [hy151]; with_reducible exact H) | (have H2_ := (Option.bind_some _ _).symm.trans H; rw [hy151]; with_reducible exact H2_) | (have H2_ := (Option.bind_some _ _).symm.trans H; with_reducible exact H2_) | with_reducible exact H | (rw [hy151]; exact H) | exact H
             have Ny151 := aMk hy151
             clear hy151
             by_cases c13 : x7_1 > 0
             · rw [if_pos c13] at H
               have c13b0 : decide (0 < x7_1) = true := decide_eq_true c13
               clear c13
               obtain ⟨ji14, hji14⟩ : ∃ j_ : Int, (wrap64 (x7_1 - 1)) = j_ := ⟨_, rfl⟩
               replace H : (if 0 ≤ (ji14) then (if (ji14) < (x0_1.length : Int) then (spec_l14Weak.l0 k1 (y151.set (x7_1 : Int).toNat (rd y151 (ji14))) a1 (y147.length : Int) a1 (wrap64 (x7_1 + 1))) else (none)) else (none)) = some r := by first | (rw [hji14] at H; exact H) | (simp only [hji14] at H ⊢; exact H)
               have hji14w : (IntKind.i64.wrap (x7_1 - 1)) = ji14 := (i64_w _).trans hji14
               by_cases c15 : 0 ≤ (ji14)
               · rw [if_pos c15] at H
                 have c15b0 : decide (0 ≤ (ji14)) = true := decide_eq_true c15
                 clear c15
                 by_cases c16 : (ji14) < (x0_1.length : Int)
                 · rw [if_pos c16] at H
                   have c16b0 : decide ((ji14) < (x0_1.length : Int)) = true := decide_eq_true c16
                   (try rw [hl0_1] at c16b0)
                   (try rw [hl0_114] at c16b0)
                   (try rw [hl0_2] at c16b0)
                   (try rw [hl0_3] at c16b0)
                   (try rw [hl0_4] at c16b0)
                   (try rw [hl0_5] at c16b0)
                   (try rw [hl0_6] at c16b0)
                   (try rw [hl0_8] at c16b0)
                   clear c16
                   obtain ⟨y153, hy153⟩ : ∃ y_ : List Int, y_ = (y151.set (x7_1 : Int).toNat (rd y151 (ji14))) := ⟨_, rfl⟩
                   replace H : (spec_l14Weak.l0 k1 y153 a1 (y147.length : Int) a1 (wrap64 (x7_1 + 1))) = some r := by first | (rw [hy153]; with_reducible exact H) | (have H2_ := (Option.bind_some _ _).symm.trans H; rw [hy153]; with_reducible exact H2_) | (have H2_ := (Option.bind_some _ _).symm.trans H; with_reducible exact H2_) | with_reducible exact H | (rw [hy153]; exact H) | exact H
                   have Ny153 := aMk hy153
                   clear hy153
                   have H' := aMk H
                   clear H
                   have p150 : 0 ≤ (x7_1 : Int) := oDt (by first | (with_reducible assumption) | assumption)
                   have q150 : x7_1 < (x0_1.length : Int) := oDt (by first | (with_reducible assumption) | assumption)
                   obtain ⟨ad150, e150, hx150_0⟩ := Kd.at_int (Kd.R_reads' HO_0.out).2.2 x7_1 p150 q150
                   cases e150
                   replace p150 := eq_true p150
                   replace q150 := eq_true q150
                   have p12 : 0 ≤ (x7_1 : Int) := oDt (by first | (with_reducible assumption) | assumption)
                   have q12 : (x7_1 : Int) < ((x0_1.length : Int) : Int) := oDt (by first | (with_reducible assumption) | assumption)
                   obtain ⟨go12, co12, eo12, gb12, gl12, cl12, HG12⟩ := Kd.R_form HO_0.out (by omega)
                   (first | cases eo12 | (injection eo12 with ea_ en_ ec_; (first | subst ea_ | (injection ea_ with ea_; subst ea_)); subst ec_; clear en_))
                   have GB12 := aMk gb12
                   have GG12 := aMk HG12
                   clear gb12 gl12 HG12
                   (first | simp only [add_plain] at hx150_0 | skip)
                   obtain ⟨hx12_0, hf12_0⟩ := Kd.R_celln 0 HO_0.out (x7_1 : Int) p12 q12
                   replace p12 := eq_true p12
                   replace q12 := eq_true q12
                   have HP18 := Kd.R_putg HO_0.out (x7_1 : Int) a1
                   go_wp2_with (first | ((with_reducible refine gate_store (t := 3) (p := 34) rfl ?_); refine store_event (t := 3) (p := 34) (v := ?vo_w19) (w1 := (wr.setCell ⟨go12, (x7_1 : Int).toNat, none⟩ (.int .i64 a1))) ?hg ?ho ?hn ?hr ?_; (case ho => rfl); (case hg => rfl); (case hn => rfl); (case hr => first | (go_simp; done) | (go_simp; rfl)); intro w19 hw; have hg : wr.grownBy w19 (some go12) := (by rw [hw]; exact HP18.2); have hp_ : Kd.R (Kd.int .i64) 3 w19 w.heap.size (fun _ => True) (.slice (some ⟨go12, 0, none⟩) x0_1.length co7) y151 := (by rw [hw, Ny151.out]; exact HP18.1); clear HP18; have n0_ := aMk (hp_); have n1_ := aMk ((by rw [hw]; exact bSe (HB.out) GB12.out : Below w.heap.size w w19)); clear HO_0; clear HB; have HO_0 := n0_; have HB := n1_; clear n0_ n1_; clear hg hw hp_; have p152 : 0 ≤ ((ji14) : Int) := oDt (by first | (with_reducible assumption) | assumption); have q152 : (ji14) < (y151.length : Int) := (by have h_ : ((ji14) : Int) < ((x0_1.length : Int) : Int) := oDt (by first | (with_reducible assumption) | assumption); first | (have e_ := (Kd.R_reads' HO_0.out).1; omega) | simpa only [Ny151.out, List.length_set] using h_); have ql152 : (((ji14) : Int) < ((x0_1.length : Int) : Int)) = True := eq_true (oDt (by first | (with_reducible assumption) | assumption)); obtain ⟨ad152, e152, hx152_0⟩ := Kd.at_int (Kd.R_reads' HO_0.out).2.2 (ji14) p152 q152; obtain rfl : (⟨go12, 0, none⟩ : Addr) = ad152 := (by injection e152); (first | simp only [add_plain] at hx152_0 | simp only [add_at] at hx152_0 | simp only [Addr.add, Nat.zero_add] at hx152_0 | skip); replace p152 := eq_true p152; replace q152 := eq_true q152; have p17 : 0 ≤ (x7_1 : Int) := oDt (by first | (with_reducible assumption) | assumption); have q17 : (x7_1 : Int) < ((x0_1.length : Int) : Int) := oDt (by first | (with_reducible assumption) | assumption); obtain ⟨hx17_0, hf17_0⟩ := Kd.R_celln 0 HO_0.out (x7_1 : Int) p17 q17; replace p17 := eq_true p17; replace q17 := eq_true q17; obtain ⟨hy20_, hz20_⟩ := Kd.R_celln 0 HO_0.out (x7_1 : Int) (oDt (by first | (with_reducible assumption) | assumption)) (oDt (by first | (with_reducible assumption) | assumption)); have HP20 := Kd.R_putg HO_0.out (x7_1 : Int) (rd y151 (ji14))) | ((with_reducible refine gate_store (t := 3) (p := 44) rfl ?_); refine store_event (t := 3) (p := 44) (v := ?vo_w21) (w1 := (w19.setCell ⟨go12, (x7_1 : Int).toNat, none⟩ (.int .i64 (rd y151 (ji14))))) ?hg ?ho ?hn ?hr ?_; (case ho => rfl); (case hg => rfl); (case hn => rfl); (case hr => first | (go_simp; done) | (go_simp; rfl)); intro w21 hw; have hg : w19.grownBy w21 (some go12) := (by rw [hw]; exact HP20.2); have hp_ : Kd.R (Kd.int .i64) 3 w21 w.heap.size (fun _ => True) (.slice (some ⟨go12, 0, none⟩) x0_1.length co7) y153 := (by rw [hw, Ny153.out]; exact HP20.1); clear HP20; have n0_ := aMk (hp_); have n1_ := aMk ((by rw [hw]; exact bSe (HB.out) GB12.out : Below w.heap.size w w21)); clear HO_0; clear HB; have HO_0 := n0_; have HB := n1_; clear n0_ n1_; clear hg hw hp_))
                   (try simp only [← hl0_1])
                   go_roundg k1
                   case measure => have := HK1.out; omega
                   case rel => exact ⟨(y153), (wrap64 (x7_1 + 1)), (by first | rfl | (simp; done) | (simp [*]; done)), H', ⟨by have := HK1.out; omega⟩, ⟨by (try simp only [hl0_1]); (with_reducible repeat (first | apply Kd.R_alloc | apply Kd.R_drewN | apply Kd.R_drew)); exact HO_0.out⟩, ⟨by repeat (first | (with_reducible first | exact HB.out | apply bAl | apply bDn | apply bD1) | exact HB.out)⟩⟩
                 · rw [if_neg c16] at H
                   exact absurd H (by simp)
               · rw [if_neg c15] at H
                 exact absurd H (by simp)
             · rw [if_neg c13] at H
               have c13b0 : decide (0 < x7_1) = false := decide_eq_false c13
               clear c13
               have H' := aMk H
               clear H
               have p150 : 0 ≤ (x7_1 : Int) := oDt (by first | (with_reducible assumption) | assumption)
               have q150 : x7_1 < (x0_1.length : Int) := oDt (by first | (with_reducible assumption) | assumption)
               obtain ⟨ad150, e150, hx150_0⟩ := Kd.at_int (Kd.R_reads' HO_0.out).2.2 x7_1 p150 q150
               cases e150
               replace p150 := eq_true p150
               replace q150 := eq_true q150
               have p12 : 0 ≤ (x7_1 : Int) := oDt (by first | (with_reducible assumption) | assumption)
               have q12 : (x7_1 : Int) < ((x0_1.length : Int) : Int) := oDt (by first | (with_reducible assumption) | assumption)
               obtain ⟨go12, co12, eo12, gb12, gl12, cl12, HG12⟩ := Kd.R_form HO_0.out (by omega)
               (first | cases eo12 | (injection eo12 with ea_ en_ ec_; (first | subst ea_ | (injection ea_ with ea_; subst ea_)); subst ec_; clear en_))
               have GB12 := aMk gb12
               have GG12 := aMk HG12
               clear gb12 gl12 HG12
               (first | simp only [add_plain] at hx150_0 | skip)
               obtain ⟨hx12_0, hf12_0⟩ := Kd.R_celln 0 HO_0.out (x7_1 : Int) p12 q12
               replace p12 := eq_true p12
               replace q12 := eq_true q12
               have HP22 := Kd.R_putg HO_0.out (x7_1 : Int) a1
               go_wp2_with (first | ((with_reducible refine gate_store (t := 3) (p := 34) rfl ?_); refine store_event (t := 3) (p := 34) (v := ?vo_w23) (w1 := (wr.setCell ⟨go12, (x7_1 : Int).toNat, none⟩ (.int .i64 a1))) ?hg ?ho ?hn ?hr ?_; (case ho => rfl); (case hg => rfl); (case hn => rfl); (case hr => first | (go_simp; done) | (go_simp; rfl)); intro w23 hw; have hg : wr.grownBy w23 (some go12) := (by rw [hw]; exact HP22.2); have hp_ : Kd.R (Kd.int .i64) 3 w23 w.heap.size (fun _ => True) (.slice (some ⟨go12, 0, none⟩) x0_1.length co7) y151 := (by rw [hw, Ny151.out]; exact HP22.1); clear HP22; have n0_ := aMk (hp_); have n1_ := aMk ((by rw [hw]; exact bSe (HB.out) GB12.out : Below w.heap.size w w23)); clear HO_0; clear HB; have HO_0 := n0_; have HB := n1_; clear n0_ n1_; clear hg hw hp_))
               (try simp only [← hl0_1])
               go_roundg k1
               case measure => have := HK1.out; omega
               case rel => exact ⟨(y151), (wrap64 (x7_1 + 1)), (by first | rfl | (simp; done) | (simp [*]; done)), H', ⟨by have := HK1.out; omega⟩, ⟨by (try simp only [hl0_1]); (with_reducible repeat (first | apply Kd.R_alloc | apply Kd.R_drewN | apply Kd.R_drew)); exact HO_0.out⟩, ⟨by repeat (first | (with_reducible first | exact HB.out | apply bAl | apply bDn | apply bD1) | exact HB.out)⟩⟩
           · rw [if_neg c11] at H
             have c11b0 : ((rd x0_1 x7_1) == 8) = false := beq_eq_false_iff_ne.mpr c11
             have c11b1 : ((rd x0_1 x7_1) != 8) = true := bne_iff_ne.mpr c11
             have H' := aMk H
             clear H
             have p150 : 0 ≤ (x7_1 : Int) := oDt (by first | (with_reducible assumption) | assumption)
             have q150 : x7_1 < (x0_1.length : Int) := oDt (by first | (with_reducible assumption) | assumption)
             obtain ⟨ad150, e150, hx150_0⟩ := Kd.at_int (Kd.R_reads' HO_0.out).2.2 x7_1 p150 q150
             cases e150
             replace p150 := eq_true p150
             replace q150 := eq_true q150
             go_wp2
             (try simp only [← hl0_1])
             go_roundg k1
             case measure => have := HK1.out; omega
             case rel => exact ⟨(x0_1), (wrap64 (x7_1 + 1)), (by first | rfl | (simp; done) | (simp [*]; done)), H', ⟨by have := HK1.out; omega⟩, ⟨by (try simp only [hl0_1]); (with_reducible repeat (first | apply Kd.R_alloc | apply Kd.R_drewN | apply Kd.R_drew)); exact HO_0.out⟩, ⟨by repeat (first | (with_reducible first | exact HB.out | apply bAl | apply bDn | apply bD1) | exact HB.out)⟩⟩
         · rw [if_neg c10] at H
           exact absurd H (by simp)
       · rw [if_neg c9] at H
         exact absurd H (by simp)
     · rw [if_neg c8] at H
       have c8b0 : decide (x7_1 < (y147.length : Int)) = false := decide_eq_false c8
       (try rw [hl0_1] at c8b0)
       (try rw [hl0_114] at c8b0)
       (try rw [hl0_2] at c8b0)
       (try rw [hl0_3] at c8b0)
       (try rw [hl0_4] at c8b0)
       (try rw [hl0_5] at c8b0)
       (try rw [hl0_6] at c8b0)
       (try rw [hl0_8] at c8b0)
       clear c8
       have H' := aMk H
       clear H
       go_wp2
       go_loopg [6, 8] k1 (fun kq v6 v8 w' => ∃ (x0_2 : List Int) (x6_2 : Int) (x8_2 : Int), v6 = .int .i64 x6_2 ∧ v8 = .int .i64 x8_2 ∧ Aside0 (spec_l14Weak.l1 kq x0_2 a1 (y147.length : Int) x6_2 x8_2 = some r) ∧ Aside0 (kq ≤ k1) ∧ Aside0 (Kd.R (Kd.int .i64) 3 w' w.heap.size (fun _ => True) (.slice Ao7 x0_1.length co7) x0_2) ∧ Aside0 (Below w.heap.size w w'))
       case atStart => exact ⟨(x0_1), (a1), (0), (by first | rfl | (simp; done) | (simp [*]; done)), (by first | rfl | (simp; done) | (simp [*]; done)), H', ⟨Nat.le_refl _⟩, ⟨by (try simp only [hl0_1]); (with_reducible repeat (first | apply Kd.R_alloc | apply Kd.R_drewN | apply Kd.R_drew)); exact HO_0.out⟩, ⟨by repeat (first | (with_reducible first | exact HB.out | apply bAl | apply bDn | apply bD1) | exact HB.out)⟩⟩
       case round =>
        clear H'
        (try clear c1); (try clear p1); (try clear q1); (try clear hx1); (try clear p2); (try clear c3); (try clear p6); (try clear c8); (try clear c8b0); (try clear c9); (try clear c9b0); (try clear c10); (try clear c10b0); (try clear c11); (try clear c11b0); (try clear c11b1); (try clear p12); (try clear q12); (try clear hx12); (try clear hf12); (try clear c13); (try clear c13b0); (try clear c15); (try clear c15b0); (try clear p15); (try clear q15); (try clear hx15); (try clear c16); (try clear c16b0); (try clear p17); (try clear q17); (try clear hx17); (try clear hf17); (try clear hx12_0); (try clear hx150_0); (try clear hx152_0); (try clear hx17_0); (try clear p12); (try clear p150); (try clear p152); (try clear p17); (try clear p2); (try clear q12); (try clear q150); (try clear q152); (try clear q17)
        obtain ⟨x0_2, x6_2, x8_2, rfl, rfl, HA, HK2, HO_0, HB⟩ := hrel
        have hl0_2 := (Kd.R_reads' HO_0.out).1
        rw [hl0_2] at HO_0
        (try simp only [hl0_2])
        cases gk with
        | zero => exact absurd HA.out (by simp [spec_l14Weak.l1])
        | succ k2 =>
         have H := HA.out
         clear HA
         simp only [spec_l14Weak.l1] at H
         by_cases c24 : x8_2 < (y147.length : Int)
         · rw [if_pos c24] at H
           have c24b0 : decide (x8_2 < (y147.length : Int)) = true := decide_eq_true c24
           (try rw [hl0_1] at c24b0)
           (try rw [hl0_114] at c24b0)
           (try rw [hl0_2] at c24b0)
           (try rw [hl0_3] at c24b0)
           (try rw [hl0_4] at c24b0)
           (try rw [hl0_5] at c24b0)
           (try rw [hl0_6] at c24b0)
           (try rw [hl0_8] at c24b0)
           clear c24
           by_cases c25 : 0 ≤ x8_2
           · rw [if_pos c25] at H
             have c25b0 : decide (0 ≤ x8_2) = true := decide_eq_true c25
             clear c25
             by_cases c26 : x8_2 < (x0_2.length : Int)
             · rw [if_pos c26] at H
               have c26b0 : decide (x8_2 < (x0_2.length : Int)) = true := decide_eq_true c26
               (try rw [hl0_1] at c26b0)
               (try rw [hl0_114] at c26b0)
               (try rw [hl0_2] at c26b0)
               (try rw [hl0_3] at c26b0)
               (try rw [hl0_4] at c26b0)
               (try rw [hl0_5] at c26b0)
               (try rw [hl0_6] at c26b0)
               (try rw [hl0_8] at c26b0)
               clear c26
               by_cases c27 : (rd x0_2 x8_2) ≤ 2
               · rw [if_pos c27] at H
                 have c27b0 : decide ((rd x0_2 x8_2) ≤ 2) = true := decide_eq_true c27
                 clear c27
                 by_cases c28 : (rd x0_2 x8_2) = 3
                 · rw [if_pos c28] at H
                   have c28b0 : ((rd x0_2 x8_2) == 3) = true := beq_iff_eq.mpr c28
                   have c28b1 : ((rd x0_2 x8_2) != 3) = false := bne_eq_false_iff_eq.mpr c28
                   clear c28
                   by_cases c29 : (rd x0_2 x8_2) = 2
                   · rw [if_pos c29] at H
                     have c29b0 : ((rd x0_2 x8_2) == 2) = true := beq_iff_eq.mpr c29
                     have c29b1 : ((rd x0_2 x8_2) != 2) = false := bne_eq_false_iff_eq.mpr c29
                     clear c29
                     obtain ⟨y157, hy157⟩ : ∃ y_ : List Int, y_ = (x0_2.set (x8_2 : Int).toNat 4) := ⟨_, rfl⟩
                     replace H : (spec_l14Weak.l1 k2 y157 a1 (y147.length : Int) (rd x0_2 x8_2) (wrap64 (x8_2 + 1))) = some r := by first | (rw [hy157]; with_reducible exact H) | (have H2_ := (Option.bind_some _ _).symm.trans H; rw [hy157]; with_reducible exact H2_) | (have H2_ := (Option.bind_some _ _).symm.trans H; with_reducible exact H2_) | with_reducible exact H | (rw [hy157]; exact H) | exact H
                     have Ny157 := aMk hy157
                     clear hy157
                     have H' := aMk H
                     clear H
                     have p154 : 0 ≤ (x8_2 : Int) := oDt (by first | (with_reducible assumption) | assumption)
                     have q154 : x8_2 < (x0_2.length : Int) := oDt (by first | (with_reducible assumption) | assumption)
                     obtain ⟨ad154, e154, hx154_0⟩ := Kd.at_int (Kd.R_reads' HO_0.out).2.2 x8_2 p154 q154
                     cases e154
                     replace p154 := eq_true p154
                     replace q154 := eq_true q154
                     have p155 : 0 ≤ (x8_2 : Int) := oDt (by first | (with_reducible assumption) | assumption)
                     have q155 : x8_2 < (x0_2.length : Int) := oDt (by first | (with_reducible assumption) | assumption)
                     obtain ⟨ad155, e155, hx155_0⟩ := Kd.at_int (Kd.R_reads' HO_0.out).2.2 x8_2 p155 q155
                     obtain rfl : ad154 = ad155 := (by injection e155)
                     replace p155 := eq_true p155
                     replace q155 := eq_true q155
                     have p156 : 0 ≤ (x8_2 : Int) := oDt (by first | (with_reducible assumption) | assumption)
                     have q156 : x8_2 < (x0_2.length : Int) := oDt (by first | (with_reducible assumption) | assumption)
                     obtain ⟨ad156, e156, hx156_0⟩ := Kd.at_int (Kd.R_reads' HO_0.out).2.2 x8_2 p156 q156
                     obtain rfl : ad154 = ad156 := (by injection e156)
                     replace p156 := eq_true p156
                     replace q156 := eq_true q156
                     have p30 : 0 ≤ (x8_2 : Int) := oDt (by first | (with_reducible assumption) | assumption)
                     have q30 : (x8_2 : Int) < ((x0_2.length : Int) : Int) := oDt (by first | (with_reducible assumption) | assumption)
                     obtain ⟨go30, co30, eo30, gb30, gl30, cl30, HG30⟩ := Kd.R_form HO_0.out (by omega)
                     (first | cases eo30 | (injection eo30 with ea_ en_ ec_; (first | subst ea_ | (injection ea_ with ea_; subst ea_)); subst ec_; clear en_))
                     have GB30 := aMk gb30
                     have GG30 := aMk HG30
                     clear gb30 gl30 HG30
                     (first | simp only [add_plain] at hx154_0 | skip)
                     (first | simp only [add_plain] at hx155_0 | skip)
                     (first | simp only [add_plain] at hx156_0 | skip)
                     obtain ⟨hx30_0, hf30_0⟩ := Kd.R_celln 0 HO_0.out (x8_2 : Int) p30 q30
                     replace p30 := eq_true p30
                     replace q30 := eq_true q30
                     have HP31 := Kd.R_putg HO_0.out (x8_2 : Int) 4
                     go_wp2_with (first | ((with_reducible refine gate_store (t := 3) (p := 70) rfl ?_); refine store_event (t := 3) (p := 70) (v := ?vo_w32) (w1 := (wr.setCell ⟨go30, (x8_2 : Int).toNat, none⟩ (.int .i64 4))) ?hg ?ho ?hn ?hr ?_; (case ho => rfl); (case hg => rfl); (case hn => rfl); (case hr => first | (go_simp; done) | (go_simp; rfl)); intro w32 hw; have hg : wr.grownBy w32 (some go30) := (by rw [hw]; exact HP31.2); have hp_ : Kd.R (Kd.int .i64) 3 w32 w.heap.size (fun _ => True) (.slice (some ⟨go30, 0, none⟩) x0_2.length co7) y157 := (by rw [hw, Ny157.out]; exact HP31.1); clear HP31; have n0_ := aMk (hp_); have n1_ := aMk ((by rw [hw]; exact bSe (HB.out) GB30.out : Below w.heap.size w w32)); clear HO_0; clear HB; have HO_0 := n0_; have HB := n1_; clear n0_ n1_; clear hg hw hp_))
                     (try simp only [← hl0_2])
                     go_roundg k2
                     case measure => have := HK1.out; have := HK2.out; omega
                     case rel => exact ⟨(y157), (rd x0_2 x8_2), (wrap64 (x8_2 + 1)), (by first | rfl | (simp; done) | (simp [*]; done)), (by first | rfl | (simp; done) | (simp [*]; done)), H', ⟨by have := HK1.out; have := HK2.out; omega⟩, ⟨by (try simp only [hl0_1]); (try simp only [hl0_2]); (with_reducible repeat (first | apply Kd.R_alloc | apply Kd.R_drewN | apply Kd.R_drew)); exact HO_0.out⟩, ⟨by repeat (first | (with_reducible first | exact HB.out | apply bAl | apply bDn | apply bD1) | exact HB.out)⟩⟩
                   · rw [if_neg c29] at H
                     have c29b0 : ((rd x0_2 x8_2) == 2) = false := beq_eq_false_iff_ne.mpr c29
                     have c29b1 : ((rd x0_2 x8_2) != 2) = true := bne_iff_ne.mpr c29
                     have H' := aMk H
                     clear H
                     have p154 : 0 ≤ (x8_2 : Int) := oDt (by first | (with_reducible assumption) | assumption)
                     have q154 : x8_2 < (x0_2.length : Int) := oDt (by first | (with_reducible assumption) | assumption)
                     obtain ⟨ad154, e154, hx154_0⟩ := Kd.at_int (Kd.R_reads' HO_0.out).2.2 x8_2 p154 q154
                     cases e154
                     replace p154 := eq_true p154
                     replace q154 := eq_true q154
                     have p155 : 0 ≤ (x8_2 : Int) := oDt (by first | (with_reducible assumption) | assumption)
                     have q155 : x8_2 < (x0_2.length : Int) := oDt (by first | (with_reducible assumption) | assumption)
                     obtain ⟨ad155, e155, hx155_0⟩ := Kd.at_int (Kd.R_reads' HO_0.out).2.2 x8_2 p155 q155
                     obtain rfl : ad154 = ad155 := (by injection e155)
                     replace p155 := eq_true p155
                     replace q155 := eq_true q155
                     have p156 : 0 ≤ (x8_2 : Int) := oDt (by first | (with_reducible assumption) | assumption)
                     have q156 : x8_2 < (x0_2.length : Int) := oDt (by first | (with_reducible assumption) | assumption)
                     obtain ⟨ad156, e156, hx156_0⟩ := Kd.at_int (Kd.R_reads' HO_0.out).2.2 x8_2 p156 q156
                     obtain rfl : ad154 = ad156 := (by injection e156)
                     replace p156 := eq_true p156
                     replace q156 := eq_true q156
                     go_wp2
                     (try simp only [← hl0_2])
                     go_roundg k2
                     case measure => have := HK1.out; have := HK2.out; omega
                     case rel => exact ⟨(x0_2), (rd x0_2 x8_2), (wrap64 (x8_2 + 1)), (by first | rfl | (simp; done) | (simp [*]; done)), (by first | rfl | (simp; done) | (simp [*]; done)), H', ⟨by have := HK1.out; have := HK2.out; omega⟩, ⟨by (try simp only [hl0_1]); (try simp only [hl0_2]); (with_reducible repeat (first | apply Kd.R_alloc | apply Kd.R_drewN | apply Kd.R_drew)); exact HO_0.out⟩, ⟨by repeat (first | (with_reducible first | exact HB.out | apply bAl | apply bDn | apply bD1) | exact HB.out)⟩⟩
                 · rw [if_neg c28] at H
                   have c28b0 : ((rd x0_2 x8_2) == 3) = false := beq_eq_false_iff_ne.mpr c28
                   have c28b1 : ((rd x0_2 x8_2) != 3) = true := bne_iff_ne.mpr c28
                   have H' := aMk H
                   clear H
                   have p154 : 0 ≤ (x8_2 : Int) := oDt (by first | (with_reducible assumption) | assumption)
                   have q154 : x8_2 < (x0_2.length : Int) := oDt (by first | (with_reducible assumption) | assumption)
                   obtain ⟨ad154, e154, hx154_0⟩ := Kd.at_int (Kd.R_reads' HO_0.out).2.2 x8_2 p154 q154
                   cases e154
                   replace p154 := eq_true p154
                   replace q154 := eq_true q154
                   have p155 : 0 ≤ (x8_2 : Int) := oDt (by first | (with_reducible assumption) | assumption)
                   have q155 : x8_2 < (x0_2.length : Int) := oDt (by first | (with_reducible assumption) | assumption)
                   obtain ⟨ad155, e155, hx155_0⟩ := Kd.at_int (Kd.R_reads' HO_0.out).2.2 x8_2 p155 q155
                   obtain rfl : ad154 = ad155 := (by injection e155)
                   replace p155 := eq_true p155
                   replace q155 := eq_true q155
                   have p156 : 0 ≤ (x8_2 : Int) := oDt (by first | (with_reducible assumption) | assumption)
                   have q156 : x8_2 < (x0_2.length : Int) := oDt (by first | (with_reducible assumption) | assumption)
                   obtain ⟨ad156, e156, hx156_0⟩ := Kd.at_int (Kd.R_reads' HO_0.out).2.2 x8_2 p156 q156
                   obtain rfl : ad154 = ad156 := (by injection e156)
                   replace p156 := eq_true p156
                   replace q156 := eq_true q156
                   go_wp2
                   (try simp only [← hl0_2])
                   go_roundg k2
                   case measure => have := HK1.out; have := HK2.out; omega
                   case rel => exact ⟨(x0_2), (rd x0_2 x8_2), (wrap64 (x8_2 + 1)), (by first | rfl | (simp; done) | (simp [*]; done)), (by first | rfl | (simp; done) | (simp [*]; done)), H', ⟨by have := HK1.out; have := HK2.out; omega⟩, ⟨by (try simp only [hl0_1]); (try simp only [hl0_2]); (with_reducible repeat (first | apply Kd.R_alloc | apply Kd.R_drewN | apply Kd.R_drew)); exact HO_0.out⟩, ⟨by repeat (first | (with_reducible first | exact HB.out | apply bAl | apply bDn | apply bD1) | exact HB.out)⟩⟩
               · rw [if_neg c27] at H
                 have c27b0 : decide ((rd x0_2 x8_2) ≤ 2) = false := decide_eq_false c27
                 clear c27
                 by_cases c33 : (rd x0_2 x8_2) = 3
                 · rw [if_pos c33] at H
                   have c33b0 : ((rd x0_2 x8_2) == 3) = true := beq_iff_eq.mpr c33
                   have c33b1 : ((rd x0_2 x8_2) != 3) = false := bne_eq_false_iff_eq.mpr c33
                   clear c33
                   by_cases c34 : x6_2 = 2
                   · rw [if_pos c34] at H
                     have c34b0 : (x6_2 == 2) = true := beq_iff_eq.mpr c34
                     have c34b1 : (x6_2 != 2) = false := bne_eq_false_iff_eq.mpr c34
                     clear c34
                     obtain ⟨y159, hy159⟩ : ∃ y_ : List Int, y_ = (x0_2.set (x8_2 : Int).toNat 4) := ⟨_, rfl⟩
                     replace H : (spec_l14Weak.l1 k2 y159 a1 (y147.length : Int) x6_2 (wrap64 (x8_2 + 1))) = some r := by first | (rw [hy159]; with_reducible exact H) | (have H2_ := (Option.bind_some _ _).symm.trans H; rw [hy159]; with_reducible exact H2_) | (have H2_ := (Option.bind_some _ _).symm.trans H; with_reducible exact H2_) | with_reducible exact H | (rw [hy159]; exact H) | exact H
                     have Ny159 := aMk hy159
                     clear hy159
                     have H' := aMk H
                     clear H
                     have p154 : 0 ≤ (x8_2 : Int) := oDt (by first | (with_reducible assumption) | assumption)
                     have q154 : x8_2 < (x0_2.length : Int) := oDt (by first | (with_reducible assumption) | assumption)
                     obtain ⟨ad154, e154, hx154_0⟩ := Kd.at_int (Kd.R_reads' HO_0.out).2.2 x8_2 p154 q154
                     cases e154
                     replace p154 := eq_true p154
                     replace q154 := eq_true q154
                     have p158 : 0 ≤ (x8_2 : Int) := oDt (by first | (with_reducible assumption) | assumption)
                     have q158 : x8_2 < (x0_2.length : Int) := oDt (by first | (with_reducible assumption) | assumption)
                     obtain ⟨ad158, e158, hx158_0⟩ := Kd.at_int (Kd.R_reads' HO_0.out).2.2 x8_2 p158 q158
                     obtain rfl : ad154 = ad158 := (by injection e158)
                     replace p158 := eq_true p158
                     replace q158 := eq_true q158
                     have p35 : 0 ≤ (x8_2 : Int) := oDt (by first | (with_reducible assumption) | assumption)
                     have q35 : (x8_2 : Int) < ((x0_2.length : Int) : Int) := oDt (by first | (with_reducible assumption) | assumption)
                     obtain ⟨go35, co35, eo35, gb35, gl35, cl35, HG35⟩ := Kd.R_form HO_0.out (by omega)
                     (first | cases eo35 | (injection eo35 with ea_ en_ ec_; (first | subst ea_ | (injection ea_ with ea_; subst ea_)); subst ec_; clear en_))
                     have GB35 := aMk gb35
                     have GG35 := aMk HG35
                     clear gb35 gl35 HG35
                     (first | simp only [add_plain] at hx154_0 | skip)
                     (first | simp only [add_plain] at hx155_0 | skip)
                     (first | simp only [add_plain] at hx156_0 | skip)
                     (first | simp only [add_plain] at hx158_0 | skip)
                     obtain ⟨hx35_0, hf35_0⟩ := Kd.R_celln 0 HO_0.out (x8_2 : Int) p35 q35
                     replace p35 := eq_true p35
                     replace q35 := eq_true q35
                     have HP36 := Kd.R_putg HO_0.out (x8_2 : Int) 4
                     go_wp2_with (first | ((with_reducible refine gate_store (t := 3) (p := 70) rfl ?_); refine store_event (t := 3) (p := 70) (v := ?vo_w37) (w1 := (wr.setCell ⟨go35, (x8_2 : Int).toNat, none⟩ (.int .i64 4))) ?hg ?ho ?hn ?hr ?_; (case ho => rfl); (case hg => rfl); (case hn => rfl); (case hr => first | (go_simp; done) | (go_simp; rfl)); intro w37 hw; have hg : wr.grownBy w37 (some go35) := (by rw [hw]; exact HP36.2); have hp_ : Kd.R (Kd.int .i64) 3 w37 w.heap.size (fun _ => True) (.slice (some ⟨go35, 0, none⟩) x0_2.length co7) y159 := (by rw [hw, Ny159.out]; exact HP36.1); clear HP36; have n0_ := aMk (hp_); have n1_ := aMk ((by rw [hw]; exact bSe (HB.out) GB35.out : Below w.heap.size w w37)); clear HO_0; clear HB; have HO_0 := n0_; have HB := n1_; clear n0_ n1_; clear hg hw hp_))
                     (try simp only [← hl0_2])
                     go_roundg k2
                     case measure => have := HK1.out; have := HK2.out; omega
                     case rel => exact ⟨(y159), (x6_2), (wrap64 (x8_2 + 1)), (by first | rfl | (simp; done) | (simp [*]; done)), (by first | rfl | (simp; done) | (simp [*]; done)), H', ⟨by have := HK1.out; have := HK2.out; omega⟩, ⟨by (try simp only [hl0_1]); (try simp only [hl0_2]); (with_reducible repeat (first | apply Kd.R_alloc | apply Kd.R_drewN | apply Kd.R_drew)); exact HO_0.out⟩, ⟨by repeat (first | (with_reducible first | exact HB.out | apply bAl | apply bDn | apply bD1) | exact HB.out)⟩⟩
                   · rw [if_neg c34] at H
                     have c34b0 : (x6_2 == 2) = false := beq_eq_false_iff_ne.mpr c34
                     have c34b1 : (x6_2 != 2) = true := bne_iff_ne.mpr c34
                     have H' := aMk H
                     clear H
                     have p154 : 0 ≤ (x8_2 : Int) := oDt (by first | (with_reducible assumption) | assumption)
                     have q154 : x8_2 < (x0_2.length : Int) := oDt (by first | (with_reducible assumption) | assumption)
                     obtain ⟨ad154, e154, hx154_0⟩ := Kd.at_int (Kd.R_reads' HO_0.out).2.2 x8_2 p154 q154
                     cases e154
                     replace p154 := eq_true p154
                     replace q154 := eq_true q154
                     have p158 : 0 ≤ (x8_2 : Int) := oDt (by first | (with_reducible assumption) | assumption)
                     have q158 : x8_2 < (x0_2.length : Int) := oDt (by first | (with_reducible assumption) | assumption)
                     obtain ⟨ad158, e158, hx158_0⟩ := Kd.at_int (Kd.R_reads' HO_0.out).2.2 x8_2 p158 q158
                     obtain rfl : ad154 = ad158 := (by injection e158)
                     replace p158 := eq_true p158
                     replace q158 := eq_true q158
                     go_wp2
                     (try simp only [← hl0_2])
                     go_roundg k2
                     case measure => have := HK1.out; have := HK2.out; omega
                     case rel => exact ⟨(x0_2), (x6_2), (wrap64 (x8_2 + 1)), (by first | rfl | (simp; done) | (simp [*]; done)), (by first | rfl | (simp; done) | (simp [*]; done)), H', ⟨by have := HK1.out; have := HK2.out; omega⟩, ⟨by (try simp only [hl0_1]); (try simp only [hl0_2]); (with_reducible repeat (first | apply Kd.R_alloc | apply Kd.R_drewN | apply Kd.R_drew)); exact HO_0.out⟩, ⟨by repeat (first | (with_reducible first | exact HB.out | apply bAl | apply bDn | apply bD1) | exact HB.out)⟩⟩
                 · rw [if_neg c33] at H
                   have c33b0 : ((rd x0_2 x8_2) == 3) = false := beq_eq_false_iff_ne.mpr c33
                   have c33b1 : ((rd x0_2 x8_2) != 3) = true := bne_iff_ne.mpr c33
                   have H' := aMk H
                   clear H
                   have p154 : 0 ≤ (x8_2 : Int) := oDt (by first | (with_reducible assumption) | assumption)
                   have q154 : x8_2 < (x0_2.length : Int) := oDt (by first | (with_reducible assumption) | assumption)
                   obtain ⟨ad154, e154, hx154_0⟩ := Kd.at_int (Kd.R_reads' HO_0.out).2.2 x8_2 p154 q154
                   cases e154
                   replace p154 := eq_true p154
                   replace q154 := eq_true q154
                   have p158 : 0 ≤ (x8_2 : Int) := oDt (by first | (with_reducible assumption) | assumption)
                   have q158 : x8_2 < (x0_2.length : Int) := oDt (by first | (with_reducible assumption) | assumption)
                   obtain ⟨ad158, e158, hx158_0⟩ := Kd.at_int (Kd.R_reads' HO_0.out).2.2 x8_2 p158 q158
                   obtain rfl : ad154 = ad158 := (by injection e158)
                   replace p158 := eq_true p158
                   replace q158 := eq_true q158
                   go_wp2
                   (try simp only [← hl0_2])
                   go_roundg k2
                   case measure => have := HK1.out; have := HK2.out; omega
                   case rel => exact ⟨(x0_2), (x6_2), (wrap64 (x8_2 + 1)), (by first | rfl | (simp; done) | (simp [*]; done)), (by first | rfl | (simp; done) | (simp [*]; done)), H', ⟨by have := HK1.out; have := HK2.out; omega⟩, ⟨by (try simp only [hl0_1]); (try simp only [hl0_2]); (with_reducible repeat (first | apply Kd.R_alloc | apply Kd.R_drewN | apply Kd.R_drew)); exact HO_0.out⟩, ⟨by repeat (first | (with_reducible first | exact HB.out | apply bAl | apply bDn | apply bD1) | exact HB.out)⟩⟩
             · rw [if_neg c26] at H
               exact absurd H (by simp)
           · rw [if_neg c25] at H
             exact absurd H (by simp)
         · rw [if_neg c24] at H
           have c24b0 : decide (x8_2 < (y147.length : Int)) = false := decide_eq_false c24
           (try rw [hl0_1] at c24b0)
           (try rw [hl0_114] at c24b0)
           (try rw [hl0_2] at c24b0)
           (try rw [hl0_3] at c24b0)
           (try rw [hl0_4] at c24b0)
           (try rw [hl0_5] at c24b0)
           (try rw [hl0_6] at c24b0)
           (try rw [hl0_8] at c24b0)
           clear c24
           have H' := aMk H
           clear H
           go_wp2
           go_loopg [9] k2 (fun kq v9 w' => ∃ (x0_3 : List Int) (x9_3 : Int), v9 = .int .i64 x9_3 ∧ Aside0 (spec_l14Weak.l2 kq x0_3 a1 (y147.length : Int) x9_3 = some r) ∧ Aside0 (kq ≤ k2) ∧ Aside0 (Kd.R (Kd.int .i64) 3 w' w.heap.size (fun _ => True) (.slice Ao7 x0_2.length co7) x0_3) ∧ Aside0 (Below w.heap.size w w'))
           case atStart => exact ⟨(x0_2), (0), (by first | rfl | (simp; done) | (simp [*]; done)), H', ⟨Nat.le_refl _⟩, ⟨by (try simp only [hl0_1]); (try simp only [hl0_2]); (with_reducible repeat (first | apply Kd.R_alloc | apply Kd.R_drewN | apply Kd.R_drew)); exact HO_0.out⟩, ⟨by repeat (first | (with_reducible first | exact HB.out | apply bAl | apply bDn | apply bD1) | exact HB.out)⟩⟩
           case round =>
            clear H'
            (try clear c1); (try clear p1); (try clear q1); (try clear hx1); (try clear c2); (try clear p2); (try clear c3); (try clear p3); (try clear q3); (try clear hx3); (try clear hf3); (try clear p6); (try clear c8); (try clear c8b0); (try clear c9); (try clear c9b0); (try clear c10); (try clear c10b0); (try clear c11); (try clear c11b0); (try clear c11b1); (try clear p12); (try clear q12); (try clear hx12); (try clear hf12); (try clear c13); (try clear c13b0); (try clear c15); (try clear c15b0); (try clear p15); (try clear q15); (try clear hx15); (try clear c16); (try clear c16b0); (try clear p17); (try clear q17); (try clear hx17); (try clear hf17); (try clear c24); (try clear c24b0); (try clear c25); (try clear c25b0); (try clear c26); (try clear c26b0); (try clear c27); (try clear c27b0); (try clear c28); (try clear c28b0); (try clear c28b1); (try clear c29); (try clear c29b0); (try clear c29b1); (try clear p30); (try clear q30); (try clear hx30); (try clear hf30); (try clear c33); (try clear c33b0); (try clear c33b1); (try clear c34); (try clear c34b0); (try clear c34b1); (try clear p35); (try clear q35); (try clear hx35); (try clear hf35); (try clear hx12_0); (try clear hx150_0); (try clear hx152_0); (try clear hx154_0); (try clear hx155_0); (try clear hx156_0); (try clear hx158_0); (try clear hx17_0); (try clear hx30_0); (try clear hx35_0); (try clear p1); (try clear p12); (try clear p15); (try clear p150); (try clear p152); (try clear p154); (try clear p155); (try clear p156); (try clear p158); (try clear p17); (try clear p2); (try clear p30); (try clear p35); (try clear p6); (try clear q1); (try clear q12); (try clear q15); (try clear q150); (try clear q152); (try clear q154); (try clear q155); (try clear q156); (try clear q158); (try clear q17); (try clear q30); (try clear q35)
            obtain ⟨x0_3, x9_3, rfl, HA, HK3, HO_0, HB⟩ := hrel
            have hl0_3 := (Kd.R_reads' HO_0.out).1
            rw [hl0_3] at HO_0
            (try simp only [hl0_3])
            cases gk with
            | zero => exact absurd HA.out (by simp [spec_l14Weak.l2])
            | succ k3 =>
             have H := HA.out
             clear HA
             simp only [spec_l14Weak.l2] at H
             by_cases c38 : x9_3 < (y147.length : Int)
             · rw [if_pos c38] at H
               have c38b0 : decide (x9_3 < (y147.length : Int)) = true := decide_eq_true c38
               (try rw [hl0_1] at c38b0)
               (try rw [hl0_114] at c38b0)
               (try rw [hl0_2] at c38b0)
               (try rw [hl0_3] at c38b0)
               (try rw [hl0_4] at c38b0)
               (try rw [hl0_5] at c38b0)
               (try rw [hl0_6] at c38b0)
               (try rw [hl0_8] at c38b0)
               clear c38
               by_cases c39 : 0 ≤ x9_3
               · rw [if_pos c39] at H
                 have c39b0 : decide (0 ≤ x9_3) = true := decide_eq_true c39
                 clear c39
                 by_cases c40 : x9_3 < (x0_3.length : Int)
                 · rw [if_pos c40] at H
                   have c40b0 : decide (x9_3 < (x0_3.length : Int)) = true := decide_eq_true c40
                   (try rw [hl0_1] at c40b0)
                   (try rw [hl0_114] at c40b0)
                   (try rw [hl0_2] at c40b0)
                   (try rw [hl0_3] at c40b0)
                   (try rw [hl0_4] at c40b0)
                   (try rw [hl0_5] at c40b0)
                   (try rw [hl0_6] at c40b0)
                   (try rw [hl0_8] at c40b0)
                   clear c40
                   by_cases c41 : (rd x0_3 x9_3) = 2
                   · rw [if_pos c41] at H
                     have c41b0 : ((rd x0_3 x9_3) == 2) = true := beq_iff_eq.mpr c41
                     have c41b1 : ((rd x0_3 x9_3) != 2) = false := bne_eq_false_iff_eq.mpr c41
                     clear c41
                     obtain ⟨y161, hy161⟩ : ∃ y_ : List Int, y_ = (x0_3.set (x9_3 : Int).toNat 1) := ⟨_, rfl⟩
                     replace H : (spec_l14Weak.l2 k3 y161 a1 (y147.length : Int) (wrap64 (x9_3 + 1))) = some r := by first | (rw [hy161]; with_reducible exact H) | (have H2_ := (Option.bind_some _ _).symm.trans H; rw [hy161]; with_reducible exact H2_) | (have H2_ := (Option.bind_some _ _).symm.trans H; with_reducible exact H2_) | with_reducible exact H | (rw [hy161]; exact H) | exact H
                     have Ny161 := aMk hy161
                     clear hy161
                     have H' := aMk H
                     clear H
                     have p160 : 0 ≤ (x9_3 : Int) := oDt (by first | (with_reducible assumption) | assumption)
                     have q160 : x9_3 < (x0_3.length : Int) := oDt (by first | (with_reducible assumption) | assumption)
                     obtain ⟨ad160, e160, hx160_0⟩ := Kd.at_int (Kd.R_reads' HO_0.out).2.2 x9_3 p160 q160
                     cases e160
                     replace p160 := eq_true p160
                     replace q160 := eq_true q160
                     have p42 : 0 ≤ (x9_3 : Int) := oDt (by first | (with_reducible assumption) | assumption)
                     have q42 : (x9_3 : Int) < ((x0_3.length : Int) : Int) := oDt (by first | (with_reducible assumption) | assumption)
                     obtain ⟨go42, co42, eo42, gb42, gl42, cl42, HG42⟩ := Kd.R_form HO_0.out (by omega)
                     (first | cases eo42 | (injection eo42 with ea_ en_ ec_; (first | subst ea_ | (injection ea_ with ea_; subst ea_)); subst ec_; clear en_))
                     have GB42 := aMk gb42
                     have GG42 := aMk HG42
                     clear gb42 gl42 HG42
                     (first | simp only [add_plain] at hx160_0 | skip)
                     obtain ⟨hx42_0, hf42_0⟩ := Kd.R_celln 0 HO_0.out (x9_3 : Int) p42 q42
                     replace p42 := eq_true p42
                     replace q42 := eq_true q42
                     have HP43 := Kd.R_putg HO_0.out (x9_3 : Int) 1
                     go_wp2_with (first | ((with_reducible refine gate_store (t := 3) (p := 83) rfl ?_); refine store_event (t := 3) (p := 83) (v := ?vo_w44) (w1 := (wr.setCell ⟨go42, (x9_3 : Int).toNat, none⟩ (.int .i64 1))) ?hg ?ho ?hn ?hr ?_; (case ho => rfl); (case hg => rfl); (case hn => rfl); (case hr => first | (go_simp; done) | (go_simp; rfl)); intro w44 hw; have hg : wr.grownBy w44 (some go42) := (by rw [hw]; exact HP43.2); have hp_ : Kd.R (Kd.int .i64) 3 w44 w.heap.size (fun _ => True) (.slice (some ⟨go42, 0, none⟩) x0_3.length co7) y161 := (by rw [hw, Ny161.out]; exact HP43.1); clear HP43; have n0_ := aMk (hp_); have n1_ := aMk ((by rw [hw]; exact bSe (HB.out) GB42.out : Below w.heap.size w w44)); clear HO_0; clear HB; have HO_0 := n0_; have HB := n1_; clear n0_ n1_; clear hg hw hp_))
                     (try simp only [← hl0_3])
                     go_roundg k3
                     case measure => have := HK1.out; have := HK2.out; have := HK3.out; omega
                     case rel => exact ⟨(y161), (wrap64 (x9_3 + 1)), (by first | rfl | (simp; done) | (simp [*]; done)), H', ⟨by have := HK1.out; have := HK2.out; have := HK3.out; omega⟩, ⟨by (try simp only [hl0_1]); (try simp only [hl0_2]); (try simp only [hl0_3]); (with_reducible repeat (first | apply Kd.R_alloc | apply Kd.R_drewN | apply Kd.R_drew)); exact HO_0.out⟩, ⟨by repeat (first | (with_reducible first | exact HB.out | apply bAl | apply bDn | apply bD1) | exact HB.out)⟩⟩
                   · rw [if_neg c41] at H
                     have c41b0 : ((rd x0_3 x9_3) == 2) = false := beq_eq_false_iff_ne.mpr c41
                     have c41b1 : ((rd x0_3 x9_3) != 2) = true := bne_iff_ne.mpr c41
                     have H' := aMk H
                     clear H
                     have p160 : 0 ≤ (x9_3 : Int) := oDt (by first | (with_reducible assumption) | assumption)
                     have q160 : x9_3 < (x0_3.length : Int) := oDt (by first | (with_reducible assumption) | assumption)
                     obtain ⟨ad160, e160, hx160_0⟩ := Kd.at_int (Kd.R_reads' HO_0.out).2.2 x9_3 p160 q160
                     cases e160
                     replace p160 := eq_true p160
                     replace q160 := eq_true q160
                     go_wp2
                     (try simp only [← hl0_3])
                     go_roundg k3
                     case measure => have := HK1.out; have := HK2.out; have := HK3.out; omega
                     case rel => exact ⟨(x0_3), (wrap64 (x9_3 + 1)), (by first | rfl | (simp; done) | (simp [*]; done)), H', ⟨by have := HK1.out; have := HK2.out; have := HK3.out; omega⟩, ⟨by (try simp only [hl0_1]); (try simp only [hl0_2]); (try simp only [hl0_3]); (with_reducible repeat (first | apply Kd.R_alloc | apply Kd.R_drewN | apply Kd.R_drew)); exact HO_0.out⟩, ⟨by repeat (first | (with_reducible first | exact HB.out | apply bAl | apply bDn | apply bD1) | exact HB.out)⟩⟩
                 · rw [if_neg c40] at H
                   exact absurd H (by simp)
               · rw [if_neg c39] at H
                 exact absurd H (by simp)
             · rw [if_neg c38] at H
               have c38b0 : decide (x9_3 < (y147.length : Int)) = false := decide_eq_false c38
               (try rw [hl0_1] at c38b0)
               (try rw [hl0_114] at c38b0)
               (try rw [hl0_2] at c38b0)
               (try rw [hl0_3] at c38b0)
               (try rw [hl0_4] at c38b0)
               (try rw [hl0_5] at c38b0)
               (try rw [hl0_6] at c38b0)
               (try rw [hl0_8] at c38b0)
               clear c38
               have H' := aMk H
               clear H
               go_wp2
               go_loopg [10] k3 (fun kq v10 w' => ∃ (x0_4 : List Int) (x10_4 : Int), v10 = .int .i64 x10_4 ∧ Aside0 (spec_l14Weak.l3 kq x0_4 a1 (y147.length : Int) x10_4 = some r) ∧ Aside0 (kq ≤ k3) ∧ Aside0 (Kd.R (Kd.int .i64) 3 w' w.heap.size (fun _ => True) (.slice Ao7 x0_3.length co7) x0_4) ∧ Aside0 (Below w.heap.size w w'))
               case atStart => exact ⟨(x0_3), (1), (by first | rfl | (simp; done) | (simp [*]; done)), H', ⟨Nat.le_refl _⟩, ⟨by (try simp only [hl0_1]); (try simp only [hl0_2]); (try simp only [hl0_3]); (with_reducible repeat (first | apply Kd.R_alloc | apply Kd.R_drewN | apply Kd.R_drew)); exact HO_0.out⟩, ⟨by repeat (first | (with_reducible first | exact HB.out | apply bAl | apply bDn | apply bD1) | exact HB.out)⟩⟩
               case round =>
                clear H'
                (try clear c1); (try clear p1); (try clear q1); (try clear hx1); (try clear c2); (try clear p2); (try clear c3); (try clear p3); (try clear q3); (try clear hx3); (try clear hf3); (try clear c4); (try clear p4); (try clear q4); (try clear hx4); (try clear hf4); (try clear p6); (try clear c8); (try clear c8b0); (try clear c9); (try clear c9b0); (try clear c10); (try clear c10b0); (try clear c11); (try clear c11b0); (try clear c11b1); (try clear p12); (try clear q12); (try clear hx12); (try clear hf12); (try clear c13); (try clear c13b0); (try clear c15); (try clear c15b0); (try clear p15); (try clear q15); (try clear hx15); (try clear c16); (try clear c16b0); (try clear p16); (try clear q16); (try clear hx16); (try clear p17); (try clear q17); (try clear hx17); (try clear hf17); (try clear c24); (try clear c24b0); (try clear c25); (try clear c25b0); (try clear c26); (try clear c26b0); (try clear c27); (try clear c27b0); (try clear c28); (try clear c28b0); (try clear c28b1); (try clear c29); (try clear c29b0); (try clear c29b1); (try clear p30); (try clear q30); (try clear hx30); (try clear hf30); (try clear c33); (try clear c33b0); (try clear c33b1); (try clear c34); (try clear c34b0); (try clear c34b1); (try clear p35); (try clear q35); (try clear hx35); (try clear hf35); (try clear c38); (try clear c38b0); (try clear c39); (try clear c39b0); (try clear c40); (try clear c40b0); (try clear c41); (try clear c41b0); (try clear c41b1); (try clear p42); (try clear q42); (try clear hx42); (try clear hf42); (try clear hx12_0); (try clear hx150_0); (try clear hx152_0); (try clear hx154_0); (try clear hx155_0); (try clear hx156_0); (try clear hx158_0); (try clear hx160_0); (try clear hx17_0); (try clear hx30_0); (try clear hx35_0); (try clear hx42_0); (try clear p1); (try clear p12); (try clear p15); (try clear p150); (try clear p152); (try clear p154); (try clear p155); (try clear p156); (try clear p158); (try clear p160); (try clear p17); (try clear p2); (try clear p3); (try clear p30); (try clear p35); (try clear p42); (try clear p6); (try clear q1); (try clear q12); (try clear q15); (try clear q150); (try clear q152); (try clear q154); (try clear q155); (try clear q156); (try clear q158); (try clear q160); (try clear q17); (try clear q3); (try clear q30); (try clear q35); (try clear q42)
                obtain ⟨x0_4, x10_4, rfl, HA, HK4, HO_0, HB⟩ := hrel
                have hl0_4 := (Kd.R_reads' HO_0.out).1
                rw [hl0_4] at HO_0
                (try simp only [hl0_4])
                cases gk with
                | zero => exact absurd HA.out (by simp [spec_l14Weak.l3])
                | succ k4 =>
                 have H := HA.out
                 clear HA
                 simp only [spec_l14Weak.l3] at H
                 by_cases c45 : (wrap64 (x10_4 + 1)) < (y147.length : Int)
                 · rw [if_pos c45] at H
                   have c45b0 : decide ((wrap64 (x10_4 + 1)) < (y147.length : Int)) = true := decide_eq_true c45
                   (try rw [hl0_1] at c45b0)
                   (try rw [hl0_114] at c45b0)
                   (try rw [hl0_2] at c45b0)
                   (try rw [hl0_3] at c45b0)
                   (try rw [hl0_4] at c45b0)
                   (try rw [hl0_5] at c45b0)
                   (try rw [hl0_6] at c45b0)
                   (try rw [hl0_8] at c45b0)
                   clear c45
                   have HC46 := aMk H
                   clear H
                   go_upto_region 26 with (fail)
                   go_cut [117] (fun v117 wc => ∃ (kq : Nat) (x117_45 : Bool), v117 = .bool x117_45 ∧ Aside0 (spec_l14Weak.j4 kq x0_4 a1 (y147.length : Int) x10_4 x117_45 = some r) ∧ Aside0 (kq ≤ k4) ∧ Aside0 (Kd.R (Kd.int .i64) 3 wc w.heap.size (fun _ => True) (.slice Ao7 x0_4.length co7) x0_4) ∧ Aside0 (Below w.heap.size w wc))
                   case first =>
                    have H := HC46.out
                    clear HC46
                    by_cases c47 : 0 ≤ x10_4
                    · rw [if_pos c47] at H
                      have c47b0 : decide (0 ≤ x10_4) = true := decide_eq_true c47
                      clear c47
                      (first | rw [c47b0] | (simp only [i64_w, i32_w]; rw [c47b0]) | skip)
                      by_cases c48 : x10_4 < (x0_4.length : Int)
                      · rw [if_pos c48] at H
                        have c48b0 : decide (x10_4 < (x0_4.length : Int)) = true := decide_eq_true c48
                        (try rw [hl0_1] at c48b0)
                        (try rw [hl0_114] at c48b0)
                        (try rw [hl0_2] at c48b0)
                        (try rw [hl0_3] at c48b0)
                        (try rw [hl0_4] at c48b0)
                        (try rw [hl0_5] at c48b0)
                        (try rw [hl0_6] at c48b0)
                        (try rw [hl0_8] at c48b0)
                        clear c48
                        by_cases c49 : (rd x0_4 x10_4) = 5
                        · rw [if_pos c49] at H
                          have c49b0 : ((rd x0_4 x10_4) == 5) = true := beq_iff_eq.mpr c49
                          have c49b1 : ((rd x0_4 x10_4) != 5) = false := bne_eq_false_iff_eq.mpr c49
                          clear c49
                          obtain ⟨ji50, hji50⟩ : ∃ j_ : Int, (wrap64 (x10_4 - 1)) = j_ := ⟨_, rfl⟩
                          replace H : (if 0 ≤ (ji50) then (if (ji50) < (x0_4.length : Int) then (if (rd x0_4 (ji50)) = 3 then (if 0 ≤ (wrap64 (x10_4 + 1)) then (if (wrap64 (x10_4 + 1)) < (x0_4.length : Int) then (spec_l14Weak.j4 k4 x0_4 a1 (y147.length : Int) x10_4 ((rd x0_4 (wrap64 (x10_4 + 1))) == 3)) else (none)) else (none)) else (spec_l14Weak.j4 k4 x0_4 a1 (y147.length : Int) x10_4 false)) else (none)) else (none)) = some r := by first | (rw [hji50] at H; exact H) | (simp only [hji50] at H ⊢; exact H)
                          have hji50w : (IntKind.i64.wrap (x10_4 - 1)) = ji50 := (i64_w _).trans hji50
                          by_cases c51 : 0 ≤ (ji50)
                          · rw [if_pos c51] at H
                            have c51b0 : decide (0 ≤ (ji50)) = true := decide_eq_true c51
                            clear c51
                            by_cases c52 : (ji50) < (x0_4.length : Int)
                            · rw [if_pos c52] at H
                              have c52b0 : decide ((ji50) < (x0_4.length : Int)) = true := decide_eq_true c52
                              (try rw [hl0_1] at c52b0)
                              (try rw [hl0_114] at c52b0)
                              (try rw [hl0_2] at c52b0)
                              (try rw [hl0_3] at c52b0)
                              (try rw [hl0_4] at c52b0)
                              (try rw [hl0_5] at c52b0)
                              (try rw [hl0_6] at c52b0)
                              (try rw [hl0_8] at c52b0)
                              clear c52
                              by_cases c53 : (rd x0_4 (ji50)) = 3
                              · rw [if_pos c53] at H
                                have c53b0 : ((rd x0_4 (ji50)) == 3) = true := beq_iff_eq.mpr c53
                                have c53b1 : ((rd x0_4 (ji50)) != 3) = false := bne_eq_false_iff_eq.mpr c53
                                clear c53
                                obtain ⟨ji54, hji54⟩ : ∃ j_ : Int, (wrap64 (x10_4 + 1)) = j_ := ⟨_, rfl⟩
                                replace H : (if 0 ≤ (ji54) then (if (ji54) < (x0_4.length : Int) then (spec_l14Weak.j4 k4 x0_4 a1 (y147.length : Int) x10_4 ((rd x0_4 (ji54)) == 3)) else (none)) else (none)) = some r := by first | (rw [hji54] at H; exact H) | (simp only [hji54] at H ⊢; exact H)
                                (try rw [hji54] at c45b0)
                                have hji54w : (IntKind.i64.wrap (x10_4 + 1)) = ji54 := (i64_w _).trans hji54
                                by_cases c55 : 0 ≤ (ji54)
                                · rw [if_pos c55] at H
                                  have c55b0 : decide (0 ≤ (ji54)) = true := decide_eq_true c55
                                  clear c55
                                  by_cases c56 : (ji54) < (x0_4.length : Int)
                                  · rw [if_pos c56] at H
                                    have c56b0 : decide ((ji54) < (x0_4.length : Int)) = true := decide_eq_true c56
                                    (try rw [hl0_1] at c56b0)
                                    (try rw [hl0_114] at c56b0)
                                    (try rw [hl0_2] at c56b0)
                                    (try rw [hl0_3] at c56b0)
                                    (try rw [hl0_4] at c56b0)
                                    (try rw [hl0_5] at c56b0)
                                    (try rw [hl0_6] at c56b0)
                                    (try rw [hl0_8] at c56b0)
                                    clear c56
                                    have H' := aMk H
                                    clear H
                                    have p162 : 0 ≤ (x10_4 : Int) := oDt (by first | (with_reducible assumption) | assumption)
                                    have q162 : x10_4 < (x0_4.length : Int) := oDt (by first | (with_reducible assumption) | assumption)
                                    obtain ⟨ad162, e162, hx162_0⟩ := Kd.at_int (Kd.R_reads' HO_0.out).2.2 x10_4 p162 q162
                                    cases e162
                                    replace p162 := eq_true p162
                                    replace q162 := eq_true q162
                                    have p163 : 0 ≤ ((ji50) : Int) := oDt (by first | (with_reducible assumption) | assumption)
                                    have q163 : (ji50) < (x0_4.length : Int) := oDt (by first | (with_reducible assumption) | assumption)
                                    obtain ⟨ad163, e163, hx163_0⟩ := Kd.at_int (Kd.R_reads' HO_0.out).2.2 (ji50) p163 q163
                                    obtain rfl : ad162 = ad163 := (by injection e163)
                                    replace p163 := eq_true p163
                                    replace q163 := eq_true q163
                                    have p164 : 0 ≤ ((ji54) : Int) := oDt (by first | (with_reducible assumption) | assumption)
                                    have q164 : (ji54) < (x0_4.length : Int) := oDt (by first | (with_reducible assumption) | assumption)
                                    obtain ⟨ad164, e164, hx164_0⟩ := Kd.at_int (Kd.R_reads' HO_0.out).2.2 (ji54) p164 q164
                                    obtain rfl : ad162 = ad164 := (by injection e164)
                                    replace p164 := eq_true p164
                                    replace q164 := eq_true q164
                                    go_wp2
                                    go_meet
                                    case rel => exact ⟨_, (((rd x0_4 (ji54)) == 3)), (by first | rfl | (simp; done) | (simp only [← hji54] <;> (first | rfl | simp)) | (simp [*]; done)), H', ⟨by have := HK1.out; have := HK2.out; have := HK3.out; have := HK4.out; first | omega | exact Nat.le_refl _⟩, ⟨by (try simp only [hl0_1]); (try simp only [hl0_2]); (try simp only [hl0_3]); (try simp only [hl0_4]); (with_reducible repeat (first | apply Kd.R_alloc | apply Kd.R_drewN | apply Kd.R_drew)); exact HO_0.out⟩, ⟨by repeat (first | (with_reducible first | exact HB.out | apply bAl | apply bDn | apply bD1) | exact HB.out)⟩⟩
                                  · rw [if_neg c56] at H
                                    exact absurd H (by simp)
                                · rw [if_neg c55] at H
                                  exact absurd H (by simp)
                              · rw [if_neg c53] at H
                                have c53b0 : ((rd x0_4 (ji50)) == 3) = false := beq_eq_false_iff_ne.mpr c53
                                have c53b1 : ((rd x0_4 (ji50)) != 3) = true := bne_iff_ne.mpr c53
                                have H' := aMk H
                                clear H
                                have p162 : 0 ≤ (x10_4 : Int) := oDt (by first | (with_reducible assumption) | assumption)
                                have q162 : x10_4 < (x0_4.length : Int) := oDt (by first | (with_reducible assumption) | assumption)
                                obtain ⟨ad162, e162, hx162_0⟩ := Kd.at_int (Kd.R_reads' HO_0.out).2.2 x10_4 p162 q162
                                cases e162
                                replace p162 := eq_true p162
                                replace q162 := eq_true q162
                                have p163 : 0 ≤ ((ji50) : Int) := oDt (by first | (with_reducible assumption) | assumption)
                                have q163 : (ji50) < (x0_4.length : Int) := oDt (by first | (with_reducible assumption) | assumption)
                                obtain ⟨ad163, e163, hx163_0⟩ := Kd.at_int (Kd.R_reads' HO_0.out).2.2 (ji50) p163 q163
                                obtain rfl : ad162 = ad163 := (by injection e163)
                                replace p163 := eq_true p163
                                replace q163 := eq_true q163
                                go_wp2
                                go_meet
                                case rel => exact ⟨_, (false), (by first | rfl | (simp; done) | (simp [*]; done)), H', ⟨by have := HK1.out; have := HK2.out; have := HK3.out; have := HK4.out; first | omega | exact Nat.le_refl _⟩, ⟨by (try simp only [hl0_1]); (try simp only [hl0_2]); (try simp only [hl0_3]); (try simp only [hl0_4]); (with_reducible repeat (first | apply Kd.R_alloc | apply Kd.R_drewN | apply Kd.R_drew)); exact HO_0.out⟩, ⟨by repeat (first | (with_reducible first | exact HB.out | apply bAl | apply bDn | apply bD1) | exact HB.out)⟩⟩
                            · rw [if_neg c52] at H
                              exact absurd H (by simp)
                          · rw [if_neg c51] at H
                            exact absurd H (by simp)
                        · rw [if_neg c49] at H
                          have c49b0 : ((rd x0_4 x10_4) == 5) = false := beq_eq_false_iff_ne.mpr c49
                          have c49b1 : ((rd x0_4 x10_4) != 5) = true := bne_iff_ne.mpr c49
                          by_cases c57 : (rd x0_4 x10_4) = 7
                          · rw [if_pos c57] at H
                            have c57b0 : ((rd x0_4 x10_4) == 7) = true := beq_iff_eq.mpr c57
                            have c57b1 : ((rd x0_4 x10_4) != 7) = false := bne_eq_false_iff_eq.mpr c57
                            clear c57
                            obtain ⟨ji58, hji58⟩ : ∃ j_ : Int, (wrap64 (x10_4 - 1)) = j_ := ⟨_, rfl⟩
                            replace H : (if 0 ≤ (ji58) then (if (ji58) < (x0_4.length : Int) then (if (rd x0_4 (ji58)) = 3 then (if 0 ≤ (wrap64 (x10_4 + 1)) then (if (wrap64 (x10_4 + 1)) < (x0_4.length : Int) then (spec_l14Weak.j4 k4 x0_4 a1 (y147.length : Int) x10_4 ((rd x0_4 (wrap64 (x10_4 + 1))) == 3)) else (none)) else (none)) else (spec_l14Weak.j4 k4 x0_4 a1 (y147.length : Int) x10_4 false)) else (none)) else (none)) = some r := by first | (rw [hji58] at H; exact H) | (simp only [hji58] at H ⊢; exact H)
                            have hji58w : (IntKind.i64.wrap (x10_4 - 1)) = ji58 := (i64_w _).trans hji58
                            by_cases c59 : 0 ≤ (ji58)
                            · rw [if_pos c59] at H
                              have c59b0 : decide (0 ≤ (ji58)) = true := decide_eq_true c59
                              clear c59
                              by_cases c60 : (ji58) < (x0_4.length : Int)
                              · rw [if_pos c60] at H
                                have c60b0 : decide ((ji58) < (x0_4.length : Int)) = true := decide_eq_true c60
                                (try rw [hl0_1] at c60b0)
                                (try rw [hl0_114] at c60b0)
                                (try rw [hl0_2] at c60b0)
                                (try rw [hl0_3] at c60b0)
                                (try rw [hl0_4] at c60b0)
                                (try rw [hl0_5] at c60b0)
                                (try rw [hl0_6] at c60b0)
                                (try rw [hl0_8] at c60b0)
                                clear c60
                                by_cases c61 : (rd x0_4 (ji58)) = 3
                                · rw [if_pos c61] at H
                                  have c61b0 : ((rd x0_4 (ji58)) == 3) = true := beq_iff_eq.mpr c61
                                  have c61b1 : ((rd x0_4 (ji58)) != 3) = false := bne_eq_false_iff_eq.mpr c61
                                  clear c61
                                  obtain ⟨ji62, hji62⟩ : ∃ j_ : Int, (wrap64 (x10_4 + 1)) = j_ := ⟨_, rfl⟩
                                  replace H : (if 0 ≤ (ji62) then (if (ji62) < (x0_4.length : Int) then (spec_l14Weak.j4 k4 x0_4 a1 (y147.length : Int) x10_4 ((rd x0_4 (ji62)) == 3)) else (none)) else (none)) = some r := by first | (rw [hji62] at H; exact H) | (simp only [hji62] at H ⊢; exact H)
                                  (try rw [hji62] at c45b0)
                                  have hji62w : (IntKind.i64.wrap (x10_4 + 1)) = ji62 := (i64_w _).trans hji62
                                  by_cases c63 : 0 ≤ (ji62)
                                  · rw [if_pos c63] at H
                                    have c63b0 : decide (0 ≤ (ji62)) = true := decide_eq_true c63
                                    clear c63
                                    by_cases c64 : (ji62) < (x0_4.length : Int)
                                    · rw [if_pos c64] at H
                                      have c64b0 : decide ((ji62) < (x0_4.length : Int)) = true := decide_eq_true c64
                                      (try rw [hl0_1] at c64b0)
                                      (try rw [hl0_114] at c64b0)
                                      (try rw [hl0_2] at c64b0)
                                      (try rw [hl0_3] at c64b0)
                                      (try rw [hl0_4] at c64b0)
                                      (try rw [hl0_5] at c64b0)
                                      (try rw [hl0_6] at c64b0)
                                      (try rw [hl0_8] at c64b0)
                                      clear c64
                                      have H' := aMk H
                                      clear H
                                      have p162 : 0 ≤ (x10_4 : Int) := oDt (by first | (with_reducible assumption) | assumption)
                                      have q162 : x10_4 < (x0_4.length : Int) := oDt (by first | (with_reducible assumption) | assumption)
                                      obtain ⟨ad162, e162, hx162_0⟩ := Kd.at_int (Kd.R_reads' HO_0.out).2.2 x10_4 p162 q162
                                      cases e162
                                      replace p162 := eq_true p162
                                      replace q162 := eq_true q162
                                      have p165 : 0 ≤ (x10_4 : Int) := oDt (by first | (with_reducible assumption) | assumption)
                                      have q165 : x10_4 < (x0_4.length : Int) := oDt (by first | (with_reducible assumption) | assumption)
                                      obtain ⟨ad165, e165, hx165_0⟩ := Kd.at_int (Kd.R_reads' HO_0.out).2.2 x10_4 p165 q165
                                      obtain rfl : ad162 = ad165 := (by injection e165)
                                      replace p165 := eq_true p165
                                      replace q165 := eq_true q165
                                      have p166 : 0 ≤ ((ji58) : Int) := oDt (by first | (with_reducible assumption) | assumption)
                                      have q166 : (ji58) < (x0_4.length : Int) := oDt (by first | (with_reducible assumption) | assumption)
                                      obtain ⟨ad166, e166, hx166_0⟩ := Kd.at_int (Kd.R_reads' HO_0.out).2.2 (ji58) p166 q166
                                      obtain rfl : ad162 = ad166 := (by injection e166)
                                      replace p166 := eq_true p166
                                      replace q166 := eq_true q166
                                      have p167 : 0 ≤ ((ji62) : Int) := oDt (by first | (with_reducible assumption) | assumption)
                                      have q167 : (ji62) < (x0_4.length : Int) := oDt (by first | (with_reducible assumption) | assumption)
                                      obtain ⟨ad167, e167, hx167_0⟩ := Kd.at_int (Kd.R_reads' HO_0.out).2.2 (ji62) p167 q167
                                      obtain rfl : ad162 = ad167 := (by injection e167)
                                      replace p167 := eq_true p167
                                      replace q167 := eq_true q167
                                      go_wp2
                                      go_meet
                                      case rel => exact ⟨_, (((rd x0_4 (ji62)) == 3)), (by first | rfl | (simp; done) | (simp only [← hji62] <;> (first | rfl | simp)) | (simp [*]; done)), H', ⟨by have := HK1.out; have := HK2.out; have := HK3.out; have := HK4.out; first | omega | exact Nat.le_refl _⟩, ⟨by (try simp only [hl0_1]); (try simp only [hl0_2]); (try simp only [hl0_3]); (try simp only [hl0_4]); (with_reducible repeat (first | apply Kd.R_alloc | apply Kd.R_drewN | apply Kd.R_drew)); exact HO_0.out⟩, ⟨by repeat (first | (with_reducible first | exact HB.out | apply bAl | apply bDn | apply bD1) | exact HB.out)⟩⟩
                                    · rw [if_neg c64] at H
                                      exact absurd H (by simp)
                                  · rw [if_neg c63] at H
                                    exact absurd H (by simp)
                                · rw [if_neg c61] at H
                                  have c61b0 : ((rd x0_4 (ji58)) == 3) = false := beq_eq_false_iff_ne.mpr c61
                                  have c61b1 : ((rd x0_4 (ji58)) != 3) = true := bne_iff_ne.mpr c61
                                  have H' := aMk H
                                  clear H
                                  have p162 : 0 ≤ (x10_4 : Int) := oDt (by first | (with_reducible assumption) | assumption)
                                  have q162 : x10_4 < (x0_4.length : Int) := oDt (by first | (with_reducible assumption) | assumption)
                                  obtain ⟨ad162, e162, hx162_0⟩ := Kd.at_int (Kd.R_reads' HO_0.out).2.2 x10_4 p162 q162
                                  cases e162
                                  replace p162 := eq_true p162
                                  replace q162 := eq_true q162
                                  have p165 : 0 ≤ (x10_4 : Int) := oDt (by first | (with_reducible assumption) | assumption)
                                  have q165 : x10_4 < (x0_4.length : Int) := oDt (by first | (with_reducible assumption) | assumption)
                                  obtain ⟨ad165, e165, hx165_0⟩ := Kd.at_int (Kd.R_reads' HO_0.out).2.2 x10_4 p165 q165
                                  obtain rfl : ad162 = ad165 := (by injection e165)
                                  replace p165 := eq_true p165
                                  replace q165 := eq_true q165
                                  have p166 : 0 ≤ ((ji58) : Int) := oDt (by first | (with_reducible assumption) | assumption)
                                  have q166 : (ji58) < (x0_4.length : Int) := oDt (by first | (with_reducible assumption) | assumption)
                                  obtain ⟨ad166, e166, hx166_0⟩ := Kd.at_int (Kd.R_reads' HO_0.out).2.2 (ji58) p166 q166
                                  obtain rfl : ad162 = ad166 := (by injection e166)
                                  replace p166 := eq_true p166
                                  replace q166 := eq_true q166
                                  go_wp2
                                  go_meet
                                  case rel => exact ⟨_, (false), (by first | rfl | (simp; done) | (simp [*]; done)), H', ⟨by have := HK1.out; have := HK2.out; have := HK3.out; have := HK4.out; first | omega | exact Nat.le_refl _⟩, ⟨by (try simp only [hl0_1]); (try simp only [hl0_2]); (try simp only [hl0_3]); (try simp only [hl0_4]); (with_reducible repeat (first | apply Kd.R_alloc | apply Kd.R_drewN | apply Kd.R_drew)); exact HO_0.out⟩, ⟨by repeat (first | (with_reducible first | exact HB.out | apply bAl | apply bDn | apply bD1) | exact HB.out)⟩⟩
                              · rw [if_neg c60] at H
                                exact absurd H (by simp)
                            · rw [if_neg c59] at H
                              exact absurd H (by simp)
                          · rw [if_neg c57] at H
                            have c57b0 : ((rd x0_4 x10_4) == 7) = false := beq_eq_false_iff_ne.mpr c57
                            have c57b1 : ((rd x0_4 x10_4) != 7) = true := bne_iff_ne.mpr c57
                            have H' := aMk H
                            clear H
                            have p162 : 0 ≤ (x10_4 : Int) := oDt (by first | (with_reducible assumption) | assumption)
                            have q162 : x10_4 < (x0_4.length : Int) := oDt (by first | (with_reducible assumption) | assumption)
                            obtain ⟨ad162, e162, hx162_0⟩ := Kd.at_int (Kd.R_reads' HO_0.out).2.2 x10_4 p162 q162
                            cases e162
                            replace p162 := eq_true p162
                            replace q162 := eq_true q162
                            have p165 : 0 ≤ (x10_4 : Int) := oDt (by first | (with_reducible assumption) | assumption)
                            have q165 : x10_4 < (x0_4.length : Int) := oDt (by first | (with_reducible assumption) | assumption)
                            obtain ⟨ad165, e165, hx165_0⟩ := Kd.at_int (Kd.R_reads' HO_0.out).2.2 x10_4 p165 q165
                            obtain rfl : ad162 = ad165 := (by injection e165)
                            replace p165 := eq_true p165
                            replace q165 := eq_true q165
                            go_wp2
                            go_meet
                            case rel => exact ⟨_, (false), (by first | rfl | (simp; done) | (simp [*]; done)), H', ⟨by have := HK1.out; have := HK2.out; have := HK3.out; have := HK4.out; first | omega | exact Nat.le_refl _⟩, ⟨by (try simp only [hl0_1]); (try simp only [hl0_2]); (try simp only [hl0_3]); (try simp only [hl0_4]); (with_reducible repeat (first | apply Kd.R_alloc | apply Kd.R_drewN | apply Kd.R_drew)); exact HO_0.out⟩, ⟨by repeat (first | (with_reducible first | exact HB.out | apply bAl | apply bDn | apply bD1) | exact HB.out)⟩⟩
                      · rw [if_neg c48] at H
                        exact absurd H (by simp)
                    · rw [if_neg c47] at H
                      exact absurd H (by simp)
                   case rest =>
                    clear HC46
                    (try clear c1); (try clear p1); (try clear q1); (try clear hx1); (try clear c2); (try clear p2); (try clear c3); (try clear p3); (try clear q3); (try clear hx3); (try clear hf3); (try clear c4); (try clear p4); (try clear q4); (try clear hx4); (try clear hf4); (try clear c5); (try clear c6); (try clear p6); (try clear c8); (try clear c8b0); (try clear c9); (try clear c9b0); (try clear c10); (try clear c10b0); (try clear c11); (try clear c11b0); (try clear c11b1); (try clear p12); (try clear q12); (try clear hx12); (try clear hf12); (try clear c13); (try clear c13b0); (try clear c15); (try clear c15b0); (try clear p15); (try clear q15); (try clear hx15); (try clear c16); (try clear c16b0); (try clear p16); (try clear q16); (try clear hx16); (try clear p17); (try clear q17); (try clear hx17); (try clear hf17); (try clear c24); (try clear c24b0); (try clear c25); (try clear c25b0); (try clear c26); (try clear c26b0); (try clear c27); (try clear c27b0); (try clear c28); (try clear c28b0); (try clear c28b1); (try clear c29); (try clear c29b0); (try clear c29b1); (try clear p30); (try clear q30); (try clear hx30); (try clear hf30); (try clear c33); (try clear c33b0); (try clear c33b1); (try clear c34); (try clear c34b0); (try clear c34b1); (try clear p35); (try clear q35); (try clear hx35); (try clear hf35); (try clear c38); (try clear c38b0); (try clear c39); (try clear c39b0); (try clear c40); (try clear c40b0); (try clear c41); (try clear c41b0); (try clear c41b1); (try clear p42); (try clear q42); (try clear hx42); (try clear hf42); (try clear c45); (try clear c45b0); (try clear c47); (try clear c47b0); (try clear c48); (try clear c48b0); (try clear c49); (try clear c49b0); (try clear c49b1); (try clear c51); (try clear c51b0); (try clear c52); (try clear c52b0); (try clear c53); (try clear c53b0); (try clear c53b1); (try clear c55); (try clear c55b0); (try clear c56); (try clear c56b0); (try clear c57); (try clear c57b0); (try clear c57b1); (try clear c59); (try clear c59b0); (try clear c60); (try clear c60b0); (try clear c61); (try clear c61b0); (try clear c61b1); (try clear c63); (try clear c63b0); (try clear c64); (try clear c64b0); (try clear p64); (try clear hx12_0); (try clear hx150_0); (try clear hx152_0); (try clear hx154_0); (try clear hx155_0); (try clear hx156_0); (try clear hx158_0); (try clear hx160_0); (try clear hx162_0); (try clear hx163_0); (try clear hx164_0); (try clear hx165_0); (try clear hx166_0); (try clear hx167_0); (try clear hx17_0); (try clear hx30_0); (try clear hx35_0); (try clear hx42_0); (try clear p1); (try clear p12); (try clear p15); (try clear p150); (try clear p152); (try clear p154); (try clear p155); (try clear p156); (try clear p158); (try clear p16); (try clear p160); (try clear p162); (try clear p163); (try clear p164); (try clear p165); (try clear p166); (try clear p167); (try clear p17); (try clear p2); (try clear p3); (try clear p30); (try clear p35); (try clear p4); (try clear p42); (try clear p6); (try clear q1); (try clear q12); (try clear q15); (try clear q150); (try clear q152); (try clear q154); (try clear q155); (try clear q156); (try clear q158); (try clear q16); (try clear q160); (try clear q162); (try clear q163); (try clear q164); (try clear q165); (try clear q166); (try clear q167); (try clear q17); (try clear q3); (try clear q30); (try clear q35); (try clear q4); (try clear q42)
                    obtain ⟨kq, x117_45, rfl, HA, HJ45, HO_0, HB⟩ := hcut
                    cases kq with
                    | zero => exact absurd HA.out (by simp [spec_l14Weak.j4])
                    | succ kj45 =>
                     have H := HA.out
                     clear HA
                     simp only [spec_l14Weak.j4] at H
                     by_cases c65 : x117_45 = true
                     · subst c65
                       have H1 : (if 0 ≤ x10_4 then (if x10_4 < (x0_4.length : Int) then (spec_l14Weak.l3 kj45 (x0_4.set (x10_4 : Int).toNat 3) a1 (y147.length : Int) (wrap64 (x10_4 + 1))) else (none)) else (none)) = some r := by rw [if_pos rfl] at H; exact H
                       clear H
                       have H := H1
                       clear H1
                       by_cases c66 : 0 ≤ x10_4
                       · rw [if_pos c66] at H
                         have c66b0 : decide (0 ≤ x10_4) = true := decide_eq_true c66
                         clear c66
                         by_cases c67 : x10_4 < (x0_4.length : Int)
                         · rw [if_pos c67] at H
                           have c67b0 : decide (x10_4 < (x0_4.length : Int)) = true := decide_eq_true c67
                           (try rw [hl0_1] at c67b0)
                           (try rw [hl0_114] at c67b0)
                           (try rw [hl0_2] at c67b0)
                           (try rw [hl0_3] at c67b0)
                           (try rw [hl0_4] at c67b0)
                           (try rw [hl0_5] at c67b0)
                           (try rw [hl0_6] at c67b0)
                           (try rw [hl0_8] at c67b0)
                           clear c67
                           obtain ⟨y168, hy168⟩ : ∃ y_ : List Int, y_ = (x0_4.set (x10_4 : Int).toNat 3) := ⟨_, rfl⟩
                           replace H : (spec_l14Weak.l3 kj45 y168 a1 (y147.length : Int) (wrap64 (x10_4 + 1))) = some r := by first | (rw [hy168]; with_reducible exact H) | (have H2_ := (Option.bind_some _ _).symm.trans H; rw [hy168]; with_reducible exact H2_) | (have H2_ := (Option.bind_some _ _).symm.trans H; with_reducible exact H2_) | with_reducible exact H | (rw [hy168]; exact H) | exact H
                           have Ny168 := aMk hy168
                           clear hy168
                           have H' := aMk H
                           clear H
                           have p68 : 0 ≤ (x10_4 : Int) := oDt (by first | (with_reducible assumption) | assumption)
                           have q68 : (x10_4 : Int) < ((x0_4.length : Int) : Int) := oDt (by first | (with_reducible assumption) | assumption)
                           obtain ⟨go68, co68, eo68, gb68, gl68, cl68, HG68⟩ := Kd.R_form HO_0.out (by omega)
                           (first | cases eo68 | (injection eo68 with ea_ en_ ec_; (first | subst ea_ | (injection ea_ with ea_; subst ea_)); subst ec_; clear en_))
                           have GB68 := aMk gb68
                           have GG68 := aMk HG68
                           clear gb68 gl68 HG68
                           obtain ⟨hx68_0, hf68_0⟩ := Kd.R_celln 0 HO_0.out (x10_4 : Int) p68 q68
                           replace p68 := eq_true p68
                           replace q68 := eq_true q68
                           have HP69 := Kd.R_putg HO_0.out (x10_4 : Int) 3
                           go_wp2_with (first | ((with_reducible refine gate_store (t := 3) (p := 120) rfl ?_); refine store_event (t := 3) (p := 120) (v := ?vo_w70) (w1 := (wc.setCell ⟨go68, (x10_4 : Int).toNat, none⟩ (.int .i64 3))) ?hg ?ho ?hn ?hr ?_; (case ho => rfl); (case hg => rfl); (case hn => rfl); (case hr => first | (go_simp; done) | (go_simp; rfl)); intro w70 hw; have hg : wc.grownBy w70 (some go68) := (by rw [hw]; exact HP69.2); have hp_ : Kd.R (Kd.int .i64) 3 w70 w.heap.size (fun _ => True) (.slice (some ⟨go68, 0, none⟩) x0_4.length co7) y168 := (by rw [hw, Ny168.out]; exact HP69.1); clear HP69; have n0_ := aMk (hp_); have n1_ := aMk ((by rw [hw]; exact bSe (HB.out) GB68.out : Below w.heap.size w w70)); clear HO_0; clear HB; have HO_0 := n0_; have HB := n1_; clear n0_ n1_; clear hg hw hp_))
                           (try simp only [← hl0_4])
                           go_roundg kj45
                           case measure => have := HK1.out; have := HK2.out; have := HK3.out; have := HK4.out; have := HJ45.out; omega
                           case rel => exact ⟨(y168), (wrap64 (x10_4 + 1)), (by first | rfl | (simp; done) | (simp [*]; done)), H', ⟨by have := HK1.out; have := HK2.out; have := HK3.out; have := HK4.out; have := HJ45.out; omega⟩, ⟨by (try simp only [hl0_1]); (try simp only [hl0_2]); (try simp only [hl0_3]); (try simp only [hl0_4]); (with_reducible repeat (first | apply Kd.R_alloc | apply Kd.R_drewN | apply Kd.R_drew)); exact HO_0.out⟩, ⟨by repeat (first | (with_reducible first | exact HB.out | apply bAl | apply bDn | apply bD1) | exact HB.out)⟩⟩
                         · rw [if_neg c67] at H
                           exact absurd H (by simp)
                       · rw [if_neg c66] at H
                         exact absurd H (by simp)
                     · replace c65 := Bool.eq_false_iff.mpr c65
                       subst c65
                       have H1 : (if 0 ≤ x10_4 then (if x10_4 < (x0_4.length : Int) then (if (rd x0_4 x10_4) = 7 then (if 0 ≤ (wrap64 (x10_4 - 1)) then (if (wrap64 (x10_4 - 1)) < (x0_4.length : Int) then (if (rd x0_4 (wrap64 (x10_4 - 1))) = 4 then (if 0 ≤ (wrap64 (x10_4 + 1)) then (if (wrap64 (x10_4 + 1)) < (x0_4.length : Int) then (if (rd x0_4 (wrap64 (x10_4 + 1))) = 4 then (spec_l14Weak.l3 kj45 (x0_4.set (x10_4 : Int).toNat 4) a1 (y147.length : Int) (wrap64 (x10_4 + 1))) else (spec_l14Weak.l3 kj45 x0_4 a1 (y147.length : Int) (wrap64 (x10_4 + 1)))) else (none)) else (none)) else (spec_l14Weak.l3 kj45 x0_4 a1 (y147.length : Int) (wrap64 (x10_4 + 1)))) else (none)) else (none)) else (spec_l14Weak.l3 kj45 x0_4 a1 (y147.length : Int) (wrap64 (x10_4 + 1)))) else (none)) else (none)) = some r := by rw [if_neg (show ¬ (false = true) by decide)] at H; exact H
                       clear H
                       have H := H1
                       clear H1
                       by_cases c71 : 0 ≤ x10_4
                       · rw [if_pos c71] at H
                         have c71b0 : decide (0 ≤ x10_4) = true := decide_eq_true c71
                         clear c71
                         by_cases c72 : x10_4 < (x0_4.length : Int)
                         · rw [if_pos c72] at H
                           have c72b0 : decide (x10_4 < (x0_4.length : Int)) = true := decide_eq_true c72
                           (try rw [hl0_1] at c72b0)
                           (try rw [hl0_114] at c72b0)
                           (try rw [hl0_2] at c72b0)
                           (try rw [hl0_3] at c72b0)
                           (try rw [hl0_4] at c72b0)
                           (try rw [hl0_5] at c72b0)
                           (try rw [hl0_6] at c72b0)
                           (try rw [hl0_8] at c72b0)
                           clear c72
                           by_cases c73 : (rd x0_4 x10_4) = 7
                           · rw [if_pos c73] at H
                             have c73b0 : ((rd x0_4 x10_4) == 7) = true := beq_iff_eq.mpr c73
                             have c73b1 : ((rd x0_4 x10_4) != 7) = false := bne_eq_false_iff_eq.mpr c73
                             clear c73
                             obtain ⟨ji74, hji74⟩ : ∃ j_ : Int, (wrap64 (x10_4 - 1)) = j_ := ⟨_, rfl⟩
                             replace H : (if 0 ≤ (ji74) then (if (ji74) < (x0_4.length : Int) then (if (rd x0_4 (ji74)) = 4 then (if 0 ≤ (wrap64 (x10_4 + 1)) then (if (wrap64 (x10_4 + 1)) < (x0_4.length : Int) then (if (rd x0_4 (wrap64 (x10_4 + 1))) = 4 then (spec_l14Weak.l3 kj45 (x0_4.set (x10_4 : Int).toNat 4) a1 (y147.length : Int) (wrap64 (x10_4 + 1))) else (spec_l14Weak.l3 kj45 x0_4 a1 (y147.length : Int) (wrap64 (x10_4 + 1)))) else (none)) else (none)) else (spec_l14Weak.l3 kj45 x0_4 a1 (y147.length : Int) (wrap64 (x10_4 + 1)))) else (none)) else (none)) = some r := by first | (rw [hji74] at H; exact H) | (simp only [hji74] at H ⊢; exact H)
                             have hji74w : (IntKind.i64.wrap (x10_4 - 1)) = ji74 := (i64_w _).trans hji74
                             by_cases c75 : 0 ≤ (ji74)
                             · rw [if_pos c75] at H
                               have c75b0 : decide (0 ≤ (ji74)) = true := decide_eq_true c75
                               clear c75
                               by_cases c76 : (ji74) < (x0_4.length : Int)
                               · rw [if_pos c76] at H
                                 have c76b0 : decide ((ji74) < (x0_4.length : Int)) = true := decide_eq_true c76
                                 (try rw [hl0_1] at c76b0)
                                 (try rw [hl0_114] at c76b0)
                                 (try rw [hl0_2] at c76b0)
                                 (try rw [hl0_3] at c76b0)
                                 (try rw [hl0_4] at c76b0)
                                 (try rw [hl0_5] at c76b0)
                                 (try rw [hl0_6] at c76b0)
                                 (try rw [hl0_8] at c76b0)
                                 clear c76
                                 by_cases c77 : (rd x0_4 (ji74)) = 4
                                 · rw [if_pos c77] at H
                                   have c77b0 : ((rd x0_4 (ji74)) == 4) = true := beq_iff_eq.mpr c77
                                   have c77b1 : ((rd x0_4 (ji74)) != 4) = false := bne_eq_false_iff_eq.mpr c77
                                   clear c77
                                   obtain ⟨ji78, hji78⟩ : ∃ j_ : Int, (wrap64 (x10_4 + 1)) = j_ := ⟨_, rfl⟩
                                   replace H : (if 0 ≤ (ji78) then (if (ji78) < (x0_4.length : Int) then (if (rd x0_4 (ji78)) = 4 then (spec_l14Weak.l3 kj45 (x0_4.set (x10_4 : Int).toNat 4) a1 (y147.length : Int) ji78) else (spec_l14Weak.l3 kj45 x0_4 a1 (y147.length : Int) ji78)) else (none)) else (none)) = some r := by first | (rw [hji78] at H; exact H) | (simp only [hji78] at H ⊢; exact H)
                                   (try rw [hji78] at c45b0)
                                   have hji78w : (IntKind.i64.wrap (x10_4 + 1)) = ji78 := (i64_w _).trans hji78
                                   by_cases c79 : 0 ≤ (ji78)
                                   · rw [if_pos c79] at H
                                     have c79b0 : decide (0 ≤ (ji78)) = true := decide_eq_true c79
                                     clear c79
                                     by_cases c80 : (ji78) < (x0_4.length : Int)
                                     · rw [if_pos c80] at H
                                       have c80b0 : decide ((ji78) < (x0_4.length : Int)) = true := decide_eq_true c80
                                       (try rw [hl0_1] at c80b0)
                                       (try rw [hl0_114] at c80b0)
                                       (try rw [hl0_2] at c80b0)
                                       (try rw [hl0_3] at c80b0)
                                       (try rw [hl0_4] at c80b0)
                                       (try rw [hl0_5] at c80b0)
                                       (try rw [hl0_6] at c80b0)
                                       (try rw [hl0_8] at c80b0)
                                       clear c80
                                       by_cases c81 : (rd x0_4 (ji78)) = 4
                                       · rw [if_pos c81] at H
                                         have c81b0 : ((rd x0_4 (ji78)) == 4) = true := beq_iff_eq.mpr c81
                                         have c81b1 : ((rd x0_4 (ji78)) != 4) = false := bne_eq_false_iff_eq.mpr c81
                                         clear c81
                                         obtain ⟨y172, hy172⟩ : ∃ y_ : List Int, y_ = (x0_4.set (x10_4 : Int).toNat 4) := ⟨_, rfl⟩
                                         replace H : (spec_l14Weak.l3 kj45 y172 a1 (y147.length : Int) ji78) = some r := by first | (rw [hy172]; with_reducible exact H) | (have H2_ := (Option.bind_some _ _).symm.trans H; rw [hy172]; with_reducible exact H2_) | (have H2_ := (Option.bind_some _ _).symm.trans H; with_reducible exact H2_) | with_reducible exact H | (rw [hy172]; exact H) | exact H
                                         have Ny172 := aMk hy172
                                         clear hy172
                                         have H' := aMk H
                                         clear H
                                         have p169 : 0 ≤ (x10_4 : Int) := oDt (by first | (with_reducible assumption) | assumption)
                                         have q169 : x10_4 < (x0_4.length : Int) := oDt (by first | (with_reducible assumption) | assumption)
                                         obtain ⟨ad169, e169, hx169_0⟩ := Kd.at_int (Kd.R_reads' HO_0.out).2.2 x10_4 p169 q169
                                         cases e169
                                         replace p169 := eq_true p169
                                         replace q169 := eq_true q169
                                         have p170 : 0 ≤ ((ji74) : Int) := oDt (by first | (with_reducible assumption) | assumption)
                                         have q170 : (ji74) < (x0_4.length : Int) := oDt (by first | (with_reducible assumption) | assumption)
                                         obtain ⟨ad170, e170, hx170_0⟩ := Kd.at_int (Kd.R_reads' HO_0.out).2.2 (ji74) p170 q170
                                         obtain rfl : ad169 = ad170 := (by injection e170)
                                         replace p170 := eq_true p170
                                         replace q170 := eq_true q170
                                         have p171 : 0 ≤ ((ji78) : Int) := oDt (by first | (with_reducible assumption) | assumption)
                                         have q171 : (ji78) < (x0_4.length : Int) := oDt (by first | (with_reducible assumption) | assumption)
                                         obtain ⟨ad171, e171, hx171_0⟩ := Kd.at_int (Kd.R_reads' HO_0.out).2.2 (ji78) p171 q171
                                         obtain rfl : ad169 = ad171 := (by injection e171)
                                         replace p171 := eq_true p171
                                         replace q171 := eq_true q171
                                         have p82 : 0 ≤ (x10_4 : Int) := oDt (by first | (with_reducible assumption) | assumption)
                                         have q82 : (x10_4 : Int) < ((x0_4.length : Int) : Int) := oDt (by first | (with_reducible assumption) | assumption)
                                         obtain ⟨go82, co82, eo82, gb82, gl82, cl82, HG82⟩ := Kd.R_form HO_0.out (by omega)
                                         (first | cases eo82 | (injection eo82 with ea_ en_ ec_; (first | subst ea_ | (injection ea_ with ea_; subst ea_)); subst ec_; clear en_))
                                         have GB82 := aMk gb82
                                         have GG82 := aMk HG82
                                         clear gb82 gl82 HG82
                                         (first | simp only [add_plain] at hx169_0 | skip)
                                         (first | simp only [add_plain] at hx170_0 | skip)
                                         (first | simp only [add_plain] at hx171_0 | skip)
                                         obtain ⟨hx82_0, hf82_0⟩ := Kd.R_celln 0 HO_0.out (x10_4 : Int) p82 q82
                                         replace p82 := eq_true p82
                                         replace q82 := eq_true q82
                                         have HP83 := Kd.R_putg HO_0.out (x10_4 : Int) 4
                                         go_wp2_with (first | ((with_reducible refine gate_store (t := 3) (p := 144) rfl ?_); refine store_event (t := 3) (p := 144) (v := ?vo_w84) (w1 := (wc.setCell ⟨go82, (x10_4 : Int).toNat, none⟩ (.int .i64 4))) ?hg ?ho ?hn ?hr ?_; (case ho => rfl); (case hg => rfl); (case hn => rfl); (case hr => first | (go_simp; done) | (go_simp; rfl)); intro w84 hw; have hg : wc.grownBy w84 (some go82) := (by rw [hw]; exact HP83.2); have hp_ : Kd.R (Kd.int .i64) 3 w84 w.heap.size (fun _ => True) (.slice (some ⟨go82, 0, none⟩) x0_4.length co7) y172 := (by rw [hw, Ny172.out]; exact HP83.1); clear HP83; have n0_ := aMk (hp_); have n1_ := aMk ((by rw [hw]; exact bSe (HB.out) GB82.out : Below w.heap.size w w84)); clear HO_0; clear HB; have HO_0 := n0_; have HB := n1_; clear n0_ n1_; clear hg hw hp_))
                                         (try simp only [← hl0_4])
                                         go_roundg kj45
                                         case measure => have := HK1.out; have := HK2.out; have := HK3.out; have := HK4.out; have := HJ45.out; omega
                                         case rel => exact ⟨(y172), (ji78), (by first | rfl | (simp; done) | (simp only [← hji78] <;> (first | rfl | simp)) | (simp [*]; done)), H', ⟨by have := HK1.out; have := HK2.out; have := HK3.out; have := HK4.out; have := HJ45.out; omega⟩, ⟨by (try simp only [hl0_1]); (try simp only [hl0_2]); (try simp only [hl0_3]); (try simp only [hl0_4]); (with_reducible repeat (first | apply Kd.R_alloc | apply Kd.R_drewN | apply Kd.R_drew)); exact HO_0.out⟩, ⟨by repeat (first | (with_reducible first | exact HB.out | apply bAl | apply bDn | apply bD1) | exact HB.out)⟩⟩
                                       · rw [if_neg c81] at H
                                         have c81b0 : ((rd x0_4 (ji78)) == 4) = false := beq_eq_false_iff_ne.mpr c81
                                         have c81b1 : ((rd x0_4 (ji78)) != 4) = true := bne_iff_ne.mpr c81
                                         have H' := aMk H
                                         clear H
                                         have p169 : 0 ≤ (x10_4 : Int) := oDt (by first | (with_reducible assumption) | assumption)
                                         have q169 : x10_4 < (x0_4.length : Int) := oDt (by first | (with_reducible assumption) | assumption)
                                         obtain ⟨ad169, e169, hx169_0⟩ := Kd.at_int (Kd.R_reads' HO_0.out).2.2 x10_4 p169 q169
                                         cases e169
                                         replace p169 := eq_true p169
                                         replace q169 := eq_true q169
                                         have p170 : 0 ≤ ((ji74) : Int) := oDt (by first | (with_reducible assumption) | assumption)
                                         have q170 : (ji74) < (x0_4.length : Int) := oDt (by first | (with_reducible assumption) | assumption)
                                         obtain ⟨ad170, e170, hx170_0⟩ := Kd.at_int (Kd.R_reads' HO_0.out).2.2 (ji74) p170 q170
                                         obtain rfl : ad169 = ad170 := (by injection e170)
                                         replace p170 := eq_true p170
                                         replace q170 := eq_true q170
                                         have p171 : 0 ≤ ((ji78) : Int) := oDt (by first | (with_reducible assumption) | assumption)
                                         have q171 : (ji78) < (x0_4.length : Int) := oDt (by first | (with_reducible assumption) | assumption)
                                         obtain ⟨ad171, e171, hx171_0⟩ := Kd.at_int (Kd.R_reads' HO_0.out).2.2 (ji78) p171 q171
                                         obtain rfl : ad169 = ad171 := (by injection e171)
                                         replace p171 := eq_true p171
                                         replace q171 := eq_true q171
                                         go_wp2
                                         (try simp only [← hl0_4])
                                         go_roundg kj45
                                         case measure => have := HK1.out; have := HK2.out; have := HK3.out; have := HK4.out; have := HJ45.out; omega
                                         case rel => exact ⟨(x0_4), (ji78), (by first | rfl | (simp; done) | (simp only [← hji78] <;> (first | rfl | simp)) | (simp [*]; done)), H', ⟨by have := HK1.out; have := HK2.out; have := HK3.out; have := HK4.out; have := HJ45.out; omega⟩, ⟨by (try simp only [hl0_1]); (try simp only [hl0_2]); (try simp only [hl0_3]); (try simp only [hl0_4]); (with_reducible repeat (first | apply Kd.R_alloc | apply Kd.R_drewN | apply Kd.R_drew)); exact HO_0.out⟩, ⟨by repeat (first | (with_reducible first | exact HB.out | apply bAl | apply bDn | apply bD1) | exact HB.out)⟩⟩
                                     · rw [if_neg c80] at H
                                       exact absurd H (by simp)
                                   · rw [if_neg c79] at H
                                     exact absurd H (by simp)
                                 · rw [if_neg c77] at H
                                   have c77b0 : ((rd x0_4 (ji74)) == 4) = false := beq_eq_false_iff_ne.mpr c77
                                   have c77b1 : ((rd x0_4 (ji74)) != 4) = true := bne_iff_ne.mpr c77
                                   have H' := aMk H
                                   clear H
                                   have p169 : 0 ≤ (x10_4 : Int) := oDt (by first | (with_reducible assumption) | assumption)
                                   have q169 : x10_4 < (x0_4.length : Int) := oDt (by first | (with_reducible assumption) | assumption)
                                   obtain ⟨ad169, e169, hx169_0⟩ := Kd.at_int (Kd.R_reads' HO_0.out).2.2 x10_4 p169 q169
                                   cases e169
                                   replace p169 := eq_true p169
                                   replace q169 := eq_true q169
                                   have p170 : 0 ≤ ((ji74) : Int) := oDt (by first | (with_reducible assumption) | assumption)
                                   have q170 : (ji74) < (x0_4.length : Int) := oDt (by first | (with_reducible assumption) | assumption)
                                   obtain ⟨ad170, e170, hx170_0⟩ := Kd.at_int (Kd.R_reads' HO_0.out).2.2 (ji74) p170 q170
                                   obtain rfl : ad169 = ad170 := (by injection e170)
                                   replace p170 := eq_true p170
                                   replace q170 := eq_true q170
                                   go_wp2
                                   (try simp only [← hl0_4])
                                   go_roundg kj45
                                   case measure => have := HK1.out; have := HK2.out; have := HK3.out; have := HK4.out; have := HJ45.out; omega
                                   case rel => exact ⟨(x0_4), (wrap64 (x10_4 + 1)), (by first | rfl | (simp; done) | (simp [*]; done)), H', ⟨by have := HK1.out; have := HK2.out; have := HK3.out; have := HK4.out; have := HJ45.out; omega⟩, ⟨by (try simp only [hl0_1]); (try simp only [hl0_2]); (try simp only [hl0_3]); (try simp only [hl0_4]); (with_reducible repeat (first | apply Kd.R_alloc | apply Kd.R_drewN | apply Kd.R_drew)); exact HO_0.out⟩, ⟨by repeat (first | (with_reducible first | exact HB.out | apply bAl | apply bDn | apply bD1) | exact HB.out)⟩⟩
                               · rw [if_neg c76] at H
                                 exact absurd H (by simp)
                             · rw [if_neg c75] at H
                               exact absurd H (by simp)
                           · rw [if_neg c73] at H
                             have c73b0 : ((rd x0_4 x10_4) == 7) = false := beq_eq_false_iff_ne.mpr c73
                             have c73b1 : ((rd x0_4 x10_4) != 7) = true := bne_iff_ne.mpr c73
                             have H' := aMk H
                             clear H
                             have p169 : 0 ≤ (x10_4 : Int) := oDt (by first | (with_reducible assumption) | assumption)
                             have q169 : x10_4 < (x0_4.length : Int) := oDt (by first | (with_reducible assumption) | assumption)
                             obtain ⟨ad169, e169, hx169_0⟩ := Kd.at_int (Kd.R_reads' HO_0.out).2.2 x10_4 p169 q169
                             cases e169
                             replace p169 := eq_true p169
                             replace q169 := eq_true q169
                             go_wp2
                             (try simp only [← hl0_4])
                             go_roundg kj45
                             case measure => have := HK1.out; have := HK2.out; have := HK3.out; have := HK4.out; have := HJ45.out; omega
                             case rel => exact ⟨(x0_4), (wrap64 (x10_4 + 1)), (by first | rfl | (simp; done) | (simp [*]; done)), H', ⟨by have := HK1.out; have := HK2.out; have := HK3.out; have := HK4.out; have := HJ45.out; omega⟩, ⟨by (try simp only [hl0_1]); (try simp only [hl0_2]); (try simp only [hl0_3]); (try simp only [hl0_4]); (with_reducible repeat (first | apply Kd.R_alloc | apply Kd.R_drewN | apply Kd.R_drew)); exact HO_0.out⟩, ⟨by repeat (first | (with_reducible first | exact HB.out | apply bAl | apply bDn | apply bD1) | exact HB.out)⟩⟩
                         · rw [if_neg c72] at H
                           exact absurd H (by simp)
                       · rw [if_neg c71] at H
                         exact absurd H (by simp)
                 · rw [if_neg c45] at H
                   have c45b0 : decide ((wrap64 (x10_4 + 1)) < (y147.length : Int)) = false := decide_eq_false c45
                   (try rw [hl0_1] at c45b0)
                   (try rw [hl0_114] at c45b0)
                   (try rw [hl0_2] at c45b0)
                   (try rw [hl0_3] at c45b0)
                   (try rw [hl0_4] at c45b0)
                   (try rw [hl0_5] at c45b0)
                   (try rw [hl0_6] at c45b0)
                   (try rw [hl0_8] at c45b0)
                   clear c45
                   have H' := aMk H
                   clear H
                   go_wp2
                   go_loopg [11] k4 (fun kq v11 w' => ∃ (x0_5 : List Int) (x11_5 : Int), v11 = .int .i64 x11_5 ∧ Aside0 (spec_l14Weak.l4 kq x0_5 a1 (y147.length : Int) x11_5 = some r) ∧ Aside0 (kq ≤ k4) ∧ Aside0 (Kd.R (Kd.int .i64) 3 w' w.heap.size (fun _ => True) (.slice Ao7 x0_4.length co7) x0_5) ∧ Aside0 (Below w.heap.size w w'))
                   case atStart => exact ⟨(x0_4), (0), (by first | rfl | (simp; done) | (simp [*]; done)), H', ⟨Nat.le_refl _⟩, ⟨by (try simp only [hl0_1]); (try simp only [hl0_2]); (try simp only [hl0_3]); (try simp only [hl0_4]); (with_reducible repeat (first | apply Kd.R_alloc | apply Kd.R_drewN | apply Kd.R_drew)); exact HO_0.out⟩, ⟨by repeat (first | (with_reducible first | exact HB.out | apply bAl | apply bDn | apply bD1) | exact HB.out)⟩⟩
                   case round =>
                    clear H'
                    (try clear c1); (try clear p1); (try clear q1); (try clear hx1); (try clear c2); (try clear p2); (try clear c3); (try clear p3); (try clear q3); (try clear hx3); (try clear hf3); (try clear c4); (try clear p4); (try clear q4); (try clear hx4); (try clear hf4); (try clear c5); (try clear c6); (try clear p6); (try clear q6); (try clear hx6); (try clear hf6); (try clear c7); (try clear c8); (try clear c8b0); (try clear p8); (try clear q8); (try clear hx8); (try clear hf8); (try clear c9); (try clear c9b0); (try clear c10); (try clear c10b0); (try clear c11); (try clear c11b0); (try clear c11b1); (try clear p12); (try clear q12); (try clear hx12); (try clear hf12); (try clear c13); (try clear c13b0); (try clear c15); (try clear c15b0); (try clear p15); (try clear q15); (try clear hx15); (try clear c16); (try clear c16b0); (try clear p16); (try clear q16); (try clear hx16); (try clear p17); (try clear q17); (try clear hx17); (try clear hf17); (try clear c24); (try clear c24b0); (try clear c25); (try clear c25b0); (try clear c26); (try clear c26b0); (try clear c27); (try clear c27b0); (try clear c28); (try clear c28b0); (try clear c28b1); (try clear c29); (try clear c29b0); (try clear c29b1); (try clear p30); (try clear q30); (try clear hx30); (try clear hf30); (try clear c33); (try clear c33b0); (try clear c33b1); (try clear c34); (try clear c34b0); (try clear c34b1); (try clear p35); (try clear q35); (try clear hx35); (try clear hf35); (try clear c38); (try clear c38b0); (try clear c39); (try clear c39b0); (try clear c40); (try clear c40b0); (try clear c41); (try clear c41b0); (try clear c41b1); (try clear p42); (try clear q42); (try clear hx42); (try clear hf42); (try clear c45); (try clear c45b0); (try clear c47); (try clear c47b0); (try clear c48); (try clear c48b0); (try clear c49); (try clear c49b0); (try clear c49b1); (try clear c51); (try clear c51b0); (try clear c52); (try clear c52b0); (try clear c53); (try clear c53b0); (try clear c53b1); (try clear c55); (try clear c55b0); (try clear c56); (try clear c56b0); (try clear c57); (try clear c57b0); (try clear c57b1); (try clear c59); (try clear c59b0); (try clear c60); (try clear c60b0); (try clear c61); (try clear c61b0); (try clear c61b1); (try clear c63); (try clear c63b0); (try clear c64); (try clear c64b0); (try clear p64); (try clear c65); (try clear c66); (try clear c66b0); (try clear c67); (try clear c67b0); (try clear p68); (try clear q68); (try clear hx68); (try clear hf68); (try clear c71); (try clear c71b0); (try clear c72); (try clear c72b0); (try clear c73); (try clear c73b0); (try clear c73b1); (try clear c75); (try clear c75b0); (try clear c76); (try clear c76b0); (try clear c77); (try clear c77b0); (try clear c77b1); (try clear c79); (try clear c79b0); (try clear c80); (try clear c80b0); (try clear c81); (try clear c81b0); (try clear c81b1); (try clear p82); (try clear q82); (try clear hx82); (try clear hf82); (try clear hx12_0); (try clear hx150_0); (try clear hx152_0); (try clear hx154_0); (try clear hx155_0); (try clear hx156_0); (try clear hx158_0); (try clear hx160_0); (try clear hx162_0); (try clear hx163_0); (try clear hx164_0); (try clear hx165_0); (try clear hx166_0); (try clear hx167_0); (try clear hx169_0); (try clear hx170_0); (try clear hx171_0); (try clear hx17_0); (try clear hx30_0); (try clear hx35_0); (try clear hx42_0); (try clear hx68_0); (try clear hx82_0); (try clear p1); (try clear p12); (try clear p15); (try clear p150); (try clear p152); (try clear p154); (try clear p155); (try clear p156); (try clear p158); (try clear p16); (try clear p160); (try clear p162); (try clear p163); (try clear p164); (try clear p165); (try clear p166); (try clear p167); (try clear p169); (try clear p17); (try clear p170); (try clear p171); (try clear p2); (try clear p3); (try clear p30); (try clear p35); (try clear p4); (try clear p42); (try clear p6); (try clear p64); (try clear p68); (try clear p82); (try clear q1); (try clear q12); (try clear q15); (try clear q150); (try clear q152); (try clear q154); (try clear q155); (try clear q156); (try clear q158); (try clear q16); (try clear q160); (try clear q162); (try clear q163); (try clear q164); (try clear q165); (try clear q166); (try clear q167); (try clear q169); (try clear q17); (try clear q170); (try clear q171); (try clear q3); (try clear q30); (try clear q35); (try clear q4); (try clear q42); (try clear q68); (try clear q82)
                    obtain ⟨x0_5, x11_5, rfl, HA, HK5, HO_0, HB⟩ := hrel
                    have hl0_5 := (Kd.R_reads' HO_0.out).1
                    rw [hl0_5] at HO_0
                    (try simp only [hl0_5])
                    cases gk with
                    | zero => exact absurd HA.out (by simp [spec_l14Weak.l4])
                    | succ k5 =>
                     have H := HA.out
                     clear HA
                     simp only [spec_l14Weak.l4] at H
                     by_cases c85 : x11_5 < (y147.length : Int)
                     · rw [if_pos c85] at H
                       have c85b0 : decide (x11_5 < (y147.length : Int)) = true := decide_eq_true c85
                       (try rw [hl0_1] at c85b0)
                       (try rw [hl0_114] at c85b0)
                       (try rw [hl0_2] at c85b0)
                       (try rw [hl0_3] at c85b0)
                       (try rw [hl0_4] at c85b0)
                       (try rw [hl0_5] at c85b0)
                       (try rw [hl0_6] at c85b0)
                       (try rw [hl0_8] at c85b0)
                       clear c85
                       have HC86 := aMk H
                       clear H
                       go_upto_block 10 with (fail)
                       go_cut [11] (fun v11 wc => ∃ (kq : Nat) (x11_85 : Int), v11 = .int .i64 x11_85 ∧ Aside0 (spec_l14Weak.j7 kq x0_5 a1 (y147.length : Int) x11_85 x11_5 = some r) ∧ Aside0 (kq ≤ k5) ∧ Aside0 (Kd.R (Kd.int .i64) 3 wc w.heap.size (fun _ => True) (.slice Ao7 x0_5.length co7) x0_5) ∧ Aside0 (Below w.heap.size w wc))
                       case first =>
                        have H := HC86.out
                        clear HC86
                        have H' := aMk H
                        clear H
                        go_wp2
                        go_loopg [11] k5 (fun kq v11 w' => ∃ (x11_6 : Int), v11 = .int .i64 x11_6 ∧ Aside0 (spec_l14Weak.l5 kq x0_5 a1 (y147.length : Int) x11_6 x11_5 = some r) ∧ Aside0 (kq ≤ k5) ∧ Aside0 (Kd.R (Kd.int .i64) 3 w' w.heap.size (fun _ => True) (.slice Ao7 x0_5.length co7) x0_5) ∧ Aside0 (Below w.heap.size w w'))
                        case atStart => exact ⟨(x11_5), (by first | rfl | (simp; done) | (simp [*]; done)), H', ⟨Nat.le_refl _⟩, ⟨by (try simp only [hl0_1]); (try simp only [hl0_2]); (try simp only [hl0_3]); (try simp only [hl0_4]); (try simp only [hl0_5]); (with_reducible repeat (first | apply Kd.R_alloc | apply Kd.R_drewN | apply Kd.R_drew)); exact HO_0.out⟩, ⟨by repeat (first | (with_reducible first | exact HB.out | apply bAl | apply bDn | apply bD1) | exact HB.out)⟩⟩
                        case round =>
                         clear H'
                         (try clear c1); (try clear p1); (try clear q1); (try clear hx1); (try clear c2); (try clear p2); (try clear c3); (try clear p3); (try clear q3); (try clear hx3); (try clear hf3); (try clear c4); (try clear p4); (try clear q4); (try clear hx4); (try clear hf4); (try clear c5); (try clear c6); (try clear p6); (try clear q6); (try clear hx6); (try clear hf6); (try clear c7); (try clear c8); (try clear c8b0); (try clear p8); (try clear q8); (try clear hx8); (try clear hf8); (try clear c9); (try clear c9b0); (try clear c10); (try clear c10b0); (try clear c11); (try clear c11b0); (try clear c11b1); (try clear p12); (try clear q12); (try clear hx12); (try clear hf12); (try clear c13); (try clear c13b0); (try clear c15); (try clear c15b0); (try clear p15); (try clear q15); (try clear hx15); (try clear c16); (try clear c16b0); (try clear p16); (try clear q16); (try clear hx16); (try clear p17); (try clear q17); (try clear hx17); (try clear hf17); (try clear c24); (try clear c24b0); (try clear c25); (try clear c25b0); (try clear c26); (try clear c26b0); (try clear c27); (try clear c27b0); (try clear c28); (try clear c28b0); (try clear c28b1); (try clear c29); (try clear c29b0); (try clear c29b1); (try clear p30); (try clear q30); (try clear hx30); (try clear hf30); (try clear c33); (try clear c33b0); (try clear c33b1); (try clear c34); (try clear c34b0); (try clear c34b1); (try clear p35); (try clear q35); (try clear hx35); (try clear hf35); (try clear c38); (try clear c38b0); (try clear c39); (try clear c39b0); (try clear c40); (try clear c40b0); (try clear c41); (try clear c41b0); (try clear c41b1); (try clear p42); (try clear q42); (try clear hx42); (try clear hf42); (try clear c45); (try clear c45b0); (try clear c47); (try clear c47b0); (try clear c48); (try clear c48b0); (try clear c49); (try clear c49b0); (try clear c49b1); (try clear c51); (try clear c51b0); (try clear c52); (try clear c52b0); (try clear c53); (try clear c53b0); (try clear c53b1); (try clear c55); (try clear c55b0); (try clear c56); (try clear c56b0); (try clear c57); (try clear c57b0); (try clear c57b1); (try clear c59); (try clear c59b0); (try clear c60); (try clear c60b0); (try clear c61); (try clear c61b0); (try clear c61b1); (try clear c63); (try clear c63b0); (try clear c64); (try clear c64b0); (try clear p64); (try clear c65); (try clear c66); (try clear c66b0); (try clear c67); (try clear c67b0); (try clear p68); (try clear q68); (try clear hx68); (try clear hf68); (try clear c71); (try clear c71b0); (try clear c72); (try clear c72b0); (try clear c73); (try clear c73b0); (try clear c73b1); (try clear c75); (try clear c75b0); (try clear c76); (try clear c76b0); (try clear c77); (try clear c77b0); (try clear c77b1); (try clear c79); (try clear c79b0); (try clear c80); (try clear c80b0); (try clear c81); (try clear c81b0); (try clear c81b1); (try clear p82); (try clear q82); (try clear hx82); (try clear hf82); (try clear c85); (try clear c85b0); (try clear hx12_0); (try clear hx150_0); (try clear hx152_0); (try clear hx154_0); (try clear hx155_0); (try clear hx156_0); (try clear hx158_0); (try clear hx160_0); (try clear hx162_0); (try clear hx163_0); (try clear hx164_0); (try clear hx165_0); (try clear hx166_0); (try clear hx167_0); (try clear hx169_0); (try clear hx170_0); (try clear hx171_0); (try clear hx17_0); (try clear hx30_0); (try clear hx35_0); (try clear hx42_0); (try clear hx68_0); (try clear hx82_0); (try clear p1); (try clear p12); (try clear p15); (try clear p150); (try clear p152); (try clear p154); (try clear p155); (try clear p156); (try clear p158); (try clear p16); (try clear p160); (try clear p162); (try clear p163); (try clear p164); (try clear p165); (try clear p166); (try clear p167); (try clear p169); (try clear p17); (try clear p170); (try clear p171); (try clear p2); (try clear p3); (try clear p30); (try clear p35); (try clear p4); (try clear p42); (try clear p6); (try clear p64); (try clear p68); (try clear p8); (try clear p82); (try clear q1); (try clear q12); (try clear q15); (try clear q150); (try clear q152); (try clear q154); (try clear q155); (try clear q156); (try clear q158); (try clear q16); (try clear q160); (try clear q162); (try clear q163); (try clear q164); (try clear q165); (try clear q166); (try clear q167); (try clear q169); (try clear q17); (try clear q170); (try clear q171); (try clear q3); (try clear q30); (try clear q35); (try clear q4); (try clear q42); (try clear q6); (try clear q68); (try clear q8); (try clear q82)
                         obtain ⟨x11_6, rfl, HA, HK6, HO_0, HB⟩ := hrel
                         cases gk with
                         | zero => exact absurd HA.out (by simp [spec_l14Weak.l5])
                         | succ k6 =>
                          have H := HA.out
                          clear HA
                          simp only [spec_l14Weak.l5] at H
                          by_cases c87 : x11_6 < (y147.length : Int)
                          · rw [if_pos c87] at H
                            have c87b0 : decide (x11_6 < (y147.length : Int)) = true := decide_eq_true c87
                            (try rw [hl0_1] at c87b0)
                            (try rw [hl0_114] at c87b0)
                            (try rw [hl0_2] at c87b0)
                            (try rw [hl0_3] at c87b0)
                            (try rw [hl0_4] at c87b0)
                            (try rw [hl0_5] at c87b0)
                            (try rw [hl0_6] at c87b0)
                            (try rw [hl0_8] at c87b0)
                            clear c87
                            (first | rw [c87b0] | (simp only [i64_w, i32_w]; rw [c87b0]) | skip)
                            by_cases c88 : 0 ≤ x11_6
                            · rw [if_pos c88] at H
                              have c88b0 : decide (0 ≤ x11_6) = true := decide_eq_true c88
                              clear c88
                              by_cases c89 : x11_6 < (x0_5.length : Int)
                              · rw [if_pos c89] at H
                                have c89b0 : decide (x11_6 < (x0_5.length : Int)) = true := decide_eq_true c89
                                (try rw [hl0_1] at c89b0)
                                (try rw [hl0_114] at c89b0)
                                (try rw [hl0_2] at c89b0)
                                (try rw [hl0_3] at c89b0)
                                (try rw [hl0_4] at c89b0)
                                (try rw [hl0_5] at c89b0)
                                (try rw [hl0_6] at c89b0)
                                (try rw [hl0_8] at c89b0)
                                clear c89
                                by_cases c90 : (rd x0_5 x11_6) = 6
                                · rw [if_pos c90] at H
                                  have c90b0 : ((rd x0_5 x11_6) == 6) = true := beq_iff_eq.mpr c90
                                  have c90b1 : ((rd x0_5 x11_6) != 6) = false := bne_eq_false_iff_eq.mpr c90
                                  clear c90
                                  have H' := aMk H
                                  clear H
                                  have p173 : 0 ≤ (x11_6 : Int) := oDt (by first | (with_reducible assumption) | assumption)
                                  have q173 : x11_6 < (x0_5.length : Int) := oDt (by first | (with_reducible assumption) | assumption)
                                  obtain ⟨ad173, e173, hx173_0⟩ := Kd.at_int (Kd.R_reads' HO_0.out).2.2 x11_6 p173 q173
                                  cases e173
                                  replace p173 := eq_true p173
                                  replace q173 := eq_true q173
                                  go_wp2
                                  go_roundg k6
                                  case measure => have := HK1.out; have := HK2.out; have := HK3.out; have := HK4.out; have := HK5.out; have := HK6.out; omega
                                  case rel => exact ⟨(wrap64 (x11_6 + 1)), (by first | rfl | (simp; done) | (simp [*]; done)), H', ⟨by have := HK1.out; have := HK2.out; have := HK3.out; have := HK4.out; have := HK5.out; have := HK6.out; omega⟩, ⟨by (try simp only [hl0_1]); (try simp only [hl0_2]); (try simp only [hl0_3]); (try simp only [hl0_4]); (try simp only [hl0_5]); (with_reducible repeat (first | apply Kd.R_alloc | apply Kd.R_drewN | apply Kd.R_drew)); exact HO_0.out⟩, ⟨by repeat (first | (with_reducible first | exact HB.out | apply bAl | apply bDn | apply bD1) | exact HB.out)⟩⟩
                                · rw [if_neg c90] at H
                                  have c90b0 : ((rd x0_5 x11_6) == 6) = false := beq_eq_false_iff_ne.mpr c90
                                  have c90b1 : ((rd x0_5 x11_6) != 6) = true := bne_iff_ne.mpr c90
                                  have H' := aMk H
                                  clear H
                                  have p173 : 0 ≤ (x11_6 : Int) := oDt (by first | (with_reducible assumption) | assumption)
                                  have q173 : x11_6 < (x0_5.length : Int) := oDt (by first | (with_reducible assumption) | assumption)
                                  obtain ⟨ad173, e173, hx173_0⟩ := Kd.at_int (Kd.R_reads' HO_0.out).2.2 x11_6 p173 q173
                                  cases e173
                                  replace p173 := eq_true p173
                                  replace q173 := eq_true q173
                                  go_wp2
                                  go_meet
                                  case rel => exact ⟨_, (x11_6), (by first | rfl | (simp; done) | (simp [*]; done)), H', ⟨by have := HK1.out; have := HK2.out; have := HK3.out; have := HK4.out; have := HK5.out; have := HK6.out; first | omega | exact Nat.le_refl _⟩, ⟨by (try simp only [hl0_1]); (try simp only [hl0_2]); (try simp only [hl0_3]); (try simp only [hl0_4]); (try simp only [hl0_5]); (with_reducible repeat (first | apply Kd.R_alloc | apply Kd.R_drewN | apply Kd.R_drew)); exact HO_0.out⟩, ⟨by repeat (first | (with_reducible first | exact HB.out | apply bAl | apply bDn | apply bD1) | exact HB.out)⟩⟩
                              · rw [if_neg c89] at H
                                exact absurd H (by simp)
                            · rw [if_neg c88] at H
                              exact absurd H (by simp)
                          · rw [if_neg c87] at H
                            have c87b0 : decide (x11_6 < (y147.length : Int)) = false := decide_eq_false c87
                            (try rw [hl0_1] at c87b0)
                            (try rw [hl0_114] at c87b0)
                            (try rw [hl0_2] at c87b0)
                            (try rw [hl0_3] at c87b0)
                            (try rw [hl0_4] at c87b0)
                            (try rw [hl0_5] at c87b0)
                            (try rw [hl0_6] at c87b0)
                            (try rw [hl0_8] at c87b0)
                            clear c87
                            (first | rw [c87b0] | (simp only [i64_w, i32_w]; rw [c87b0]) | skip)
                            have H' := aMk H
                            clear H
                            go_wp2
                            go_meet
                            case rel => exact ⟨_, (x11_6), (by first | rfl | (simp; done) | (simp [*]; done)), H', ⟨by have := HK1.out; have := HK2.out; have := HK3.out; have := HK4.out; have := HK5.out; have := HK6.out; first | omega | exact Nat.le_refl _⟩, ⟨by (try simp only [hl0_1]); (try simp only [hl0_2]); (try simp only [hl0_3]); (try simp only [hl0_4]); (try simp only [hl0_5]); (with_reducible repeat (first | apply Kd.R_alloc | apply Kd.R_drewN | apply Kd.R_drew)); exact HO_0.out⟩, ⟨by repeat (first | (with_reducible first | exact HB.out | apply bAl | apply bDn | apply bD1) | exact HB.out)⟩⟩
                       case rest =>
                        clear HC86
                        (try clear c1); (try clear p1); (try clear q1); (try clear hx1); (try clear c2); (try clear p2); (try clear c3); (try clear p3); (try clear q3); (try clear hx3); (try clear hf3); (try clear c4); (try clear p4); (try clear q4); (try clear hx4); (try clear hf4); (try clear c5); (try clear c6); (try clear p6); (try clear q6); (try clear hx6); (try clear hf6); (try clear c7); (try clear c8); (try clear c8b0); (try clear p8); (try clear q8); (try clear hx8); (try clear hf8); (try clear c9); (try clear c9b0); (try clear c10); (try clear c10b0); (try clear c11); (try clear c11b0); (try clear c11b1); (try clear p12); (try clear q12); (try clear hx12); (try clear hf12); (try clear c13); (try clear c13b0); (try clear c15); (try clear c15b0); (try clear p15); (try clear q15); (try clear hx15); (try clear c16); (try clear c16b0); (try clear p16); (try clear q16); (try clear hx16); (try clear p17); (try clear q17); (try clear hx17); (try clear hf17); (try clear c24); (try clear c24b0); (try clear c25); (try clear c25b0); (try clear c26); (try clear c26b0); (try clear c27); (try clear c27b0); (try clear c28); (try clear c28b0); (try clear c28b1); (try clear c29); (try clear c29b0); (try clear c29b1); (try clear p30); (try clear q30); (try clear hx30); (try clear hf30); (try clear c33); (try clear c33b0); (try clear c33b1); (try clear c34); (try clear c34b0); (try clear c34b1); (try clear p35); (try clear q35); (try clear hx35); (try clear hf35); (try clear c38); (try clear c38b0); (try clear c39); (try clear c39b0); (try clear c40); (try clear c40b0); (try clear c41); (try clear c41b0); (try clear c41b1); (try clear p42); (try clear q42); (try clear hx42); (try clear hf42); (try clear c45); (try clear c45b0); (try clear c47); (try clear c47b0); (try clear c48); (try clear c48b0); (try clear c49); (try clear c49b0); (try clear c49b1); (try clear c51); (try clear c51b0); (try clear c52); (try clear c52b0); (try clear c53); (try clear c53b0); (try clear c53b1); (try clear c55); (try clear c55b0); (try clear c56); (try clear c56b0); (try clear c57); (try clear c57b0); (try clear c57b1); (try clear c59); (try clear c59b0); (try clear c60); (try clear c60b0); (try clear c61); (try clear c61b0); (try clear c61b1); (try clear c63); (try clear c63b0); (try clear c64); (try clear c64b0); (try clear p64); (try clear c65); (try clear c66); (try clear c66b0); (try clear c67); (try clear c67b0); (try clear p68); (try clear q68); (try clear hx68); (try clear hf68); (try clear c71); (try clear c71b0); (try clear c72); (try clear c72b0); (try clear c73); (try clear c73b0); (try clear c73b1); (try clear c75); (try clear c75b0); (try clear c76); (try clear c76b0); (try clear c77); (try clear c77b0); (try clear c77b1); (try clear c79); (try clear c79b0); (try clear c80); (try clear c80b0); (try clear c81); (try clear c81b0); (try clear c81b1); (try clear p82); (try clear q82); (try clear hx82); (try clear hf82); (try clear c85); (try clear c85b0); (try clear c87); (try clear c87b0); (try clear c88); (try clear c88b0); (try clear c89); (try clear c89b0); (try clear c90); (try clear c90b0); (try clear c90b1); (try clear hx12_0); (try clear hx150_0); (try clear hx152_0); (try clear hx154_0); (try clear hx155_0); (try clear hx156_0); (try clear hx158_0); (try clear hx160_0); (try clear hx162_0); (try clear hx163_0); (try clear hx164_0); (try clear hx165_0); (try clear hx166_0); (try clear hx167_0); (try clear hx169_0); (try clear hx170_0); (try clear hx171_0); (try clear hx173_0); (try clear hx17_0); (try clear hx30_0); (try clear hx35_0); (try clear hx42_0); (try clear hx68_0); (try clear hx82_0); (try clear p1); (try clear p12); (try clear p15); (try clear p150); (try clear p152); (try clear p154); (try clear p155); (try clear p156); (try clear p158); (try clear p16); (try clear p160); (try clear p162); (try clear p163); (try clear p164); (try clear p165); (try clear p166); (try clear p167); (try clear p169); (try clear p17); (try clear p170); (try clear p171); (try clear p173); (try clear p2); (try clear p3); (try clear p30); (try clear p35); (try clear p4); (try clear p42); (try clear p6); (try clear p64); (try clear p68); (try clear p8); (try clear p82); (try clear q1); (try clear q12); (try clear q15); (try clear q150); (try clear q152); (try clear q154); (try clear q155); (try clear q156); (try clear q158); (try clear q16); (try clear q160); (try clear q162); (try clear q163); (try clear q164); (try clear q165); (try clear q166); (try clear q167); (try clear q169); (try clear q17); (try clear q170); (try clear q171); (try clear q173); (try clear q3); (try clear q30); (try clear q35); (try clear q4); (try clear q42); (try clear q6); (try clear q68); (try clear q8); (try clear q82)
                        obtain ⟨kq, x11_85, rfl, HA, HJ85, HO_0, HB⟩ := hcut
                        cases kq with
                        | zero => exact absurd HA.out (by simp [spec_l14Weak.j7])
                        | succ kj85 =>
                         have H := HA.out
                         clear HA
                         simp only [spec_l14Weak.j7] at H
                         have HC91 := aMk H
                         clear H
                         go_upto_region 36 with (fail)
                         go_cut [189] (fun v189 wc => ∃ (kq : Nat) (x189_90 : Bool), v189 = .bool x189_90 ∧ Aside0 (spec_l14Weak.j8 kq x0_5 a1 (y147.length : Int) x11_85 x11_5 x189_90 = some r) ∧ Aside0 (kq ≤ kj85) ∧ Aside0 (Kd.R (Kd.int .i64) 3 wc w.heap.size (fun _ => True) (.slice Ao7 x0_5.length co7) x0_5) ∧ Aside0 (Below w.heap.size w wc))
                         case first =>
                          have H := HC91.out
                          clear HC91
                          by_cases c92 : x11_85 > x11_5
                          · rw [if_pos c92] at H
                            have c92b0 : decide (x11_5 < x11_85) = true := decide_eq_true c92
                            clear c92
                            (first | rw [c92b0] | (simp only [i64_w, i32_w]; rw [c92b0]) | skip)
                            by_cases c93 : x11_5 > 0
                            · rw [if_pos c93] at H
                              have c93b0 : decide (0 < x11_5) = true := decide_eq_true c93
                              clear c93
                              obtain ⟨ji94, hji94⟩ : ∃ j_ : Int, (wrap64 (x11_5 - 1)) = j_ := ⟨_, rfl⟩
                              replace H : (if 0 ≤ (ji94) then (if (ji94) < (x0_5.length : Int) then (if (rd x0_5 (ji94)) = 3 then (spec_l14Weak.j8 kj85 x0_5 a1 (y147.length : Int) x11_85 x11_5 true) else (if x11_85 < (y147.length : Int) then (if 0 ≤ x11_85 then (if x11_85 < (x0_5.length : Int) then (spec_l14Weak.j8 kj85 x0_5 a1 (y147.length : Int) x11_85 x11_5 ((rd x0_5 x11_85) == 3)) else (none)) else (none)) else (spec_l14Weak.j8 kj85 x0_5 a1 (y147.length : Int) x11_85 x11_5 false))) else (none)) else (none)) = some r := by first | (rw [hji94] at H; exact H) | (simp only [hji94] at H ⊢; exact H)
                              have hji94w : (IntKind.i64.wrap (x11_5 - 1)) = ji94 := (i64_w _).trans hji94
                              by_cases c95 : 0 ≤ (ji94)
                              · rw [if_pos c95] at H
                                have c95b0 : decide (0 ≤ (ji94)) = true := decide_eq_true c95
                                clear c95
                                by_cases c96 : (ji94) < (x0_5.length : Int)
                                · rw [if_pos c96] at H
                                  have c96b0 : decide ((ji94) < (x0_5.length : Int)) = true := decide_eq_true c96
                                  (try rw [hl0_1] at c96b0)
                                  (try rw [hl0_114] at c96b0)
                                  (try rw [hl0_2] at c96b0)
                                  (try rw [hl0_3] at c96b0)
                                  (try rw [hl0_4] at c96b0)
                                  (try rw [hl0_5] at c96b0)
                                  (try rw [hl0_6] at c96b0)
                                  (try rw [hl0_8] at c96b0)
                                  clear c96
                                  by_cases c97 : (rd x0_5 (ji94)) = 3
                                  · rw [if_pos c97] at H
                                    have c97b0 : ((rd x0_5 (ji94)) == 3) = true := beq_iff_eq.mpr c97
                                    have c97b1 : ((rd x0_5 (ji94)) != 3) = false := bne_eq_false_iff_eq.mpr c97
                                    clear c97
                                    have H' := aMk H
                                    clear H
                                    have p174 : 0 ≤ ((ji94) : Int) := oDt (by first | (with_reducible assumption) | assumption)
                                    have q174 : (ji94) < (x0_5.length : Int) := oDt (by first | (with_reducible assumption) | assumption)
                                    obtain ⟨ad174, e174, hx174_0⟩ := Kd.at_int (Kd.R_reads' HO_0.out).2.2 (ji94) p174 q174
                                    cases e174
                                    replace p174 := eq_true p174
                                    replace q174 := eq_true q174
                                    go_wp2
                                    go_meet
                                    case rel => exact ⟨_, (true), (by first | rfl | (simp; done) | (simp [*]; done)), H', ⟨by have := HK1.out; have := HK2.out; have := HK3.out; have := HK4.out; have := HK5.out; have := HJ85.out; first | omega | exact Nat.le_refl _⟩, ⟨by (try simp only [hl0_1]); (try simp only [hl0_2]); (try simp only [hl0_3]); (try simp only [hl0_4]); (try simp only [hl0_5]); (with_reducible repeat (first | apply Kd.R_alloc | apply Kd.R_drewN | apply Kd.R_drew)); exact HO_0.out⟩, ⟨by repeat (first | (with_reducible first | exact HB.out | apply bAl | apply bDn | apply bD1) | exact HB.out)⟩⟩
                                  · rw [if_neg c97] at H
                                    have c97b0 : ((rd x0_5 (ji94)) == 3) = false := beq_eq_false_iff_ne.mpr c97
                                    have c97b1 : ((rd x0_5 (ji94)) != 3) = true := bne_iff_ne.mpr c97
                                    by_cases c98 : x11_85 < (y147.length : Int)
                                    · rw [if_pos c98] at H
                                      have c98b0 : decide (x11_85 < (y147.length : Int)) = true := decide_eq_true c98
                                      (try rw [hl0_1] at c98b0)
                                      (try rw [hl0_114] at c98b0)
                                      (try rw [hl0_2] at c98b0)
                                      (try rw [hl0_3] at c98b0)
                                      (try rw [hl0_4] at c98b0)
                                      (try rw [hl0_5] at c98b0)
                                      (try rw [hl0_6] at c98b0)
                                      (try rw [hl0_8] at c98b0)
                                      clear c98
                                      by_cases c99 : 0 ≤ x11_85
                                      · rw [if_pos c99] at H
                                        have c99b0 : decide (0 ≤ x11_85) = true := decide_eq_true c99
                                        clear c99
                                        by_cases c100 : x11_85 < (x0_5.length : Int)
                                        · rw [if_pos c100] at H
                                          have c100b0 : decide (x11_85 < (x0_5.length : Int)) = true := decide_eq_true c100
                                          (try rw [hl0_1] at c100b0)
                                          (try rw [hl0_114] at c100b0)
                                          (try rw [hl0_2] at c100b0)
                                          (try rw [hl0_3] at c100b0)
                                          (try rw [hl0_4] at c100b0)
                                          (try rw [hl0_5] at c100b0)
                                          (try rw [hl0_6] at c100b0)
                                          (try rw [hl0_8] at c100b0)
                                          clear c100
                                          have H' := aMk H
                                          clear H
                                          have p174 : 0 ≤ ((ji94) : Int) := oDt (by first | (with_reducible assumption) | assumption)
                                          have q174 : (ji94) < (x0_5.length : Int) := oDt (by first | (with_reducible assumption) | assumption)
                                          obtain ⟨ad174, e174, hx174_0⟩ := Kd.at_int (Kd.R_reads' HO_0.out).2.2 (ji94) p174 q174
                                          cases e174
                                          replace p174 := eq_true p174
                                          replace q174 := eq_true q174
                                          have p175 : 0 ≤ (x11_85 : Int) := oDt (by first | (with_reducible assumption) | assumption)
                                          have q175 : x11_85 < (x0_5.length : Int) := oDt (by first | (with_reducible assumption) | assumption)
                                          obtain ⟨ad175, e175, hx175_0⟩ := Kd.at_int (Kd.R_reads' HO_0.out).2.2 x11_85 p175 q175
                                          obtain rfl : ad174 = ad175 := (by injection e175)
                                          replace p175 := eq_true p175
                                          replace q175 := eq_true q175
                                          go_wp2
                                          go_meet
                                          case rel => exact ⟨_, (((rd x0_5 x11_85) == 3)), (by first | rfl | (simp; done) | (simp [*]; done)), H', ⟨by have := HK1.out; have := HK2.out; have := HK3.out; have := HK4.out; have := HK5.out; have := HJ85.out; first | omega | exact Nat.le_refl _⟩, ⟨by (try simp only [hl0_1]); (try simp only [hl0_2]); (try simp only [hl0_3]); (try simp only [hl0_4]); (try simp only [hl0_5]); (with_reducible repeat (first | apply Kd.R_alloc | apply Kd.R_drewN | apply Kd.R_drew)); exact HO_0.out⟩, ⟨by repeat (first | (with_reducible first | exact HB.out | apply bAl | apply bDn | apply bD1) | exact HB.out)⟩⟩
                                        · rw [if_neg c100] at H
                                          exact absurd H (by simp)
                                      · rw [if_neg c99] at H
                                        exact absurd H (by simp)
                                    · rw [if_neg c98] at H
                                      have c98b0 : decide (x11_85 < (y147.length : Int)) = false := decide_eq_false c98
                                      (try rw [hl0_1] at c98b0)
                                      (try rw [hl0_114] at c98b0)
                                      (try rw [hl0_2] at c98b0)
                                      (try rw [hl0_3] at c98b0)
                                      (try rw [hl0_4] at c98b0)
                                      (try rw [hl0_5] at c98b0)
                                      (try rw [hl0_6] at c98b0)
                                      (try rw [hl0_8] at c98b0)
                                      clear c98
                                      have H' := aMk H
                                      clear H
                                      have p174 : 0 ≤ ((ji94) : Int) := oDt (by first | (with_reducible assumption) | assumption)
                                      have q174 : (ji94) < (x0_5.length : Int) := oDt (by first | (with_reducible assumption) | assumption)
                                      obtain ⟨ad174, e174, hx174_0⟩ := Kd.at_int (Kd.R_reads' HO_0.out).2.2 (ji94) p174 q174
                                      cases e174
                                      replace p174 := eq_true p174
                                      replace q174 := eq_true q174
                                      go_wp2
                                      go_meet
                                      case rel => exact ⟨_, (false), (by first | rfl | (simp; done) | (simp [*]; done)), H', ⟨by have := HK1.out; have := HK2.out; have := HK3.out; have := HK4.out; have := HK5.out; have := HJ85.out; first | omega | exact Nat.le_refl _⟩, ⟨by (try simp only [hl0_1]); (try simp only [hl0_2]); (try simp only [hl0_3]); (try simp only [hl0_4]); (try simp only [hl0_5]); (with_reducible repeat (first | apply Kd.R_alloc | apply Kd.R_drewN | apply Kd.R_drew)); exact HO_0.out⟩, ⟨by repeat (first | (with_reducible first | exact HB.out | apply bAl | apply bDn | apply bD1) | exact HB.out)⟩⟩
                                · rw [if_neg c96] at H
                                  exact absurd H (by simp)
                              · rw [if_neg c95] at H
                                exact absurd H (by simp)
                            · rw [if_neg c93] at H
                              have c93b0 : decide (0 < x11_5) = false := decide_eq_false c93
                              clear c93
                              by_cases c101 : x11_85 < (y147.length : Int)
                              · rw [if_pos c101] at H
                                have c101b0 : decide (x11_85 < (y147.length : Int)) = true := decide_eq_true c101
                                (try rw [hl0_1] at c101b0)
                                (try rw [hl0_114] at c101b0)
                                (try rw [hl0_2] at c101b0)
                                (try rw [hl0_3] at c101b0)
                                (try rw [hl0_4] at c101b0)
                                (try rw [hl0_5] at c101b0)
                                (try rw [hl0_6] at c101b0)
                                (try rw [hl0_8] at c101b0)
                                clear c101
                                by_cases c102 : 0 ≤ x11_85
                                · rw [if_pos c102] at H
                                  have c102b0 : decide (0 ≤ x11_85) = true := decide_eq_true c102
                                  clear c102
                                  by_cases c103 : x11_85 < (x0_5.length : Int)
                                  · rw [if_pos c103] at H
                                    have c103b0 : decide (x11_85 < (x0_5.length : Int)) = true := decide_eq_true c103
                                    (try rw [hl0_1] at c103b0)
                                    (try rw [hl0_114] at c103b0)
                                    (try rw [hl0_2] at c103b0)
                                    (try rw [hl0_3] at c103b0)
                                    (try rw [hl0_4] at c103b0)
                                    (try rw [hl0_5] at c103b0)
                                    (try rw [hl0_6] at c103b0)
                                    (try rw [hl0_8] at c103b0)
                                    clear c103
                                    have H' := aMk H
                                    clear H
                                    have p176 : 0 ≤ (x11_85 : Int) := oDt (by first | (with_reducible assumption) | assumption)
                                    have q176 : x11_85 < (x0_5.length : Int) := oDt (by first | (with_reducible assumption) | assumption)
                                    obtain ⟨ad176, e176, hx176_0⟩ := Kd.at_int (Kd.R_reads' HO_0.out).2.2 x11_85 p176 q176
                                    cases e176
                                    replace p176 := eq_true p176
                                    replace q176 := eq_true q176
                                    go_wp2
                                    go_meet
                                    case rel => exact ⟨_, (((rd x0_5 x11_85) == 3)), (by first | rfl | (simp; done) | (simp [*]; done)), H', ⟨by have := HK1.out; have := HK2.out; have := HK3.out; have := HK4.out; have := HK5.out; have := HJ85.out; first | omega | exact Nat.le_refl _⟩, ⟨by (try simp only [hl0_1]); (try simp only [hl0_2]); (try simp only [hl0_3]); (try simp only [hl0_4]); (try simp only [hl0_5]); (with_reducible repeat (first | apply Kd.R_alloc | apply Kd.R_drewN | apply Kd.R_drew)); exact HO_0.out⟩, ⟨by repeat (first | (with_reducible first | exact HB.out | apply bAl | apply bDn | apply bD1) | exact HB.out)⟩⟩
                                  · rw [if_neg c103] at H
                                    exact absurd H (by simp)
                                · rw [if_neg c102] at H
                                  exact absurd H (by simp)
                              · rw [if_neg c101] at H
                                have c101b0 : decide (x11_85 < (y147.length : Int)) = false := decide_eq_false c101
                                (try rw [hl0_1] at c101b0)
                                (try rw [hl0_114] at c101b0)
                                (try rw [hl0_2] at c101b0)
                                (try rw [hl0_3] at c101b0)
                                (try rw [hl0_4] at c101b0)
                                (try rw [hl0_5] at c101b0)
                                (try rw [hl0_6] at c101b0)
                                (try rw [hl0_8] at c101b0)
                                clear c101
                                have H' := aMk H
                                clear H
                                go_wp2
                                go_meet
                                case rel => exact ⟨_, (false), (by first | rfl | (simp; done) | (simp [*]; done)), H', ⟨by have := HK1.out; have := HK2.out; have := HK3.out; have := HK4.out; have := HK5.out; have := HJ85.out; first | omega | exact Nat.le_refl _⟩, ⟨by (try simp only [hl0_1]); (try simp only [hl0_2]); (try simp only [hl0_3]); (try simp only [hl0_4]); (try simp only [hl0_5]); (with_reducible repeat (first | apply Kd.R_alloc | apply Kd.R_drewN | apply Kd.R_drew)); exact HO_0.out⟩, ⟨by repeat (first | (with_reducible first | exact HB.out | apply bAl | apply bDn | apply bD1) | exact HB.out)⟩⟩
                          · rw [if_neg c92] at H
                            have c92b0 : decide (x11_5 < x11_85) = false := decide_eq_false c92
                            clear c92
                            (first | rw [c92b0] | (simp only [i64_w, i32_w]; rw [c92b0]) | skip)
                            have H' := aMk H
                            clear H
                            go_wp2
                            go_meet
                            case rel => exact ⟨_, (false), (by first | rfl | (simp; done) | (simp [*]; done)), H', ⟨by have := HK1.out; have := HK2.out; have := HK3.out; have := HK4.out; have := HK5.out; have := HJ85.out; first | omega | exact Nat.le_refl _⟩, ⟨by (try simp only [hl0_1]); (try simp only [hl0_2]); (try simp only [hl0_3]); (try simp only [hl0_4]); (try simp only [hl0_5]); (with_reducible repeat (first | apply Kd.R_alloc | apply Kd.R_drewN | apply Kd.R_drew)); exact HO_0.out⟩, ⟨by repeat (first | (with_reducible first | exact HB.out | apply bAl | apply bDn | apply bD1) | exact HB.out)⟩⟩
                         case rest =>
                          clear HC91
                          (try clear c1); (try clear p1); (try clear q1); (try clear hx1); (try clear c2); (try clear p2); (try clear c3); (try clear p3); (try clear q3); (try clear hx3); (try clear hf3); (try clear c4); (try clear p4); (try clear q4); (try clear hx4); (try clear hf4); (try clear c5); (try clear c6); (try clear p6); (try clear q6); (try clear hx6); (try clear hf6); (try clear c7); (try clear c8); (try clear c8b0); (try clear p8); (try clear q8); (try clear hx8); (try clear hf8); (try clear c9); (try clear c9b0); (try clear c10); (try clear c10b0); (try clear c11); (try clear c11b0); (try clear c11b1); (try clear p12); (try clear q12); (try clear hx12); (try clear hf12); (try clear c13); (try clear c13b0); (try clear c15); (try clear c15b0); (try clear p15); (try clear q15); (try clear hx15); (try clear c16); (try clear c16b0); (try clear p16); (try clear q16); (try clear hx16); (try clear p17); (try clear q17); (try clear hx17); (try clear hf17); (try clear c24); (try clear c24b0); (try clear c25); (try clear c25b0); (try clear c26); (try clear c26b0); (try clear c27); (try clear c27b0); (try clear c28); (try clear c28b0); (try clear c28b1); (try clear c29); (try clear c29b0); (try clear c29b1); (try clear p30); (try clear q30); (try clear hx30); (try clear hf30); (try clear c33); (try clear c33b0); (try clear c33b1); (try clear c34); (try clear c34b0); (try clear c34b1); (try clear p35); (try clear q35); (try clear hx35); (try clear hf35); (try clear c38); (try clear c38b0); (try clear c39); (try clear c39b0); (try clear c40); (try clear c40b0); (try clear c41); (try clear c41b0); (try clear c41b1); (try clear p42); (try clear q42); (try clear hx42); (try clear hf42); (try clear c45); (try clear c45b0); (try clear c47); (try clear c47b0); (try clear c48); (try clear c48b0); (try clear c49); (try clear c49b0); (try clear c49b1); (try clear c51); (try clear c51b0); (try clear c52); (try clear c52b0); (try clear c53); (try clear c53b0); (try clear c53b1); (try clear c55); (try clear c55b0); (try clear c56); (try clear c56b0); (try clear c57); (try clear c57b0); (try clear c57b1); (try clear c59); (try clear c59b0); (try clear c60); (try clear c60b0); (try clear c61); (try clear c61b0); (try clear c61b1); (try clear c63); (try clear c63b0); (try clear c64); (try clear c64b0); (try clear p64); (try clear c65); (try clear c66); (try clear c66b0); (try clear c67); (try clear c67b0); (try clear p68); (try clear q68); (try clear hx68); (try clear hf68); (try clear c71); (try clear c71b0); (try clear c72); (try clear c72b0); (try clear c73); (try clear c73b0); (try clear c73b1); (try clear c75); (try clear c75b0); (try clear c76); (try clear c76b0); (try clear c77); (try clear c77b0); (try clear c77b1); (try clear c79); (try clear c79b0); (try clear c80); (try clear c80b0); (try clear c81); (try clear c81b0); (try clear c81b1); (try clear p82); (try clear q82); (try clear hx82); (try clear hf82); (try clear c85); (try clear c85b0); (try clear c87); (try clear c87b0); (try clear c88); (try clear c88b0); (try clear c89); (try clear c89b0); (try clear c90); (try clear c90b0); (try clear c90b1); (try clear c92); (try clear c92b0); (try clear c93); (try clear c93b0); (try clear c95); (try clear c95b0); (try clear c96); (try clear c96b0); (try clear c97); (try clear c97b0); (try clear c97b1); (try clear c98); (try clear c98b0); (try clear c99); (try clear c99b0); (try clear c100); (try clear c100b0); (try clear c101); (try clear c101b0); (try clear c102); (try clear c102b0); (try clear c103); (try clear c103b0); (try clear hx12_0); (try clear hx150_0); (try clear hx152_0); (try clear hx154_0); (try clear hx155_0); (try clear hx156_0); (try clear hx158_0); (try clear hx160_0); (try clear hx162_0); (try clear hx163_0); (try clear hx164_0); (try clear hx165_0); (try clear hx166_0); (try clear hx167_0); (try clear hx169_0); (try clear hx170_0); (try clear hx171_0); (try clear hx173_0); (try clear hx174_0); (try clear hx175_0); (try clear hx176_0); (try clear hx17_0); (try clear hx30_0); (try clear hx35_0); (try clear hx42_0); (try clear hx68_0); (try clear hx82_0); (try clear p1); (try clear p12); (try clear p15); (try clear p150); (try clear p152); (try clear p154); (try clear p155); (try clear p156); (try clear p158); (try clear p16); (try clear p160); (try clear p162); (try clear p163); (try clear p164); (try clear p165); (try clear p166); (try clear p167); (try clear p169); (try clear p17); (try clear p170); (try clear p171); (try clear p173); (try clear p174); (try clear p175); (try clear p176); (try clear p2); (try clear p3); (try clear p30); (try clear p35); (try clear p4); (try clear p42); (try clear p6); (try clear p64); (try clear p68); (try clear p8); (try clear p82); (try clear q1); (try clear q12); (try clear q15); (try clear q150); (try clear q152); (try clear q154); (try clear q155); (try clear q156); (try clear q158); (try clear q16); (try clear q160); (try clear q162); (try clear q163); (try clear q164); (try clear q165); (try clear q166); (try clear q167); (try clear q169); (try clear q17); (try clear q170); (try clear q171); (try clear q173); (try clear q174); (try clear q175); (try clear q176); (try clear q3); (try clear q30); (try clear q35); (try clear q4); (try clear q42); (try clear q6); (try clear q68); (try clear q8); (try clear q82)
                          obtain ⟨kq, x189_90, rfl, HA, HJ90, HO_0, HB⟩ := hcut
                          cases kq with
                          | zero => exact absurd HA.out (by simp [spec_l14Weak.j8])
                          | succ kj90 =>
                           have H := HA.out
                           clear HA
                           simp only [spec_l14Weak.j8] at H
                           by_cases c104 : x189_90 = true
                           · subst c104
                             have H1 : (spec_l14Weak.l6 kj90 x0_5 a1 (y147.length : Int) x11_85 x11_5) = some r := by rw [if_pos rfl] at H; exact H
                             clear H
                             have H := H1
                             clear H1
                             have H' := aMk H
                             clear H
                             go_wp2
                             go_loopg [13] kj90 (fun kq v13 w' => ∃ (x0_8 : List Int) (x13_8 : Int), v13 = .int .i64 x13_8 ∧ Aside0 (spec_l14Weak.l6 kq x0_8 a1 (y147.length : Int) x11_85 x13_8 = some r) ∧ Aside0 (kq ≤ kj90) ∧ Aside0 (Kd.R (Kd.int .i64) 3 w' w.heap.size (fun _ => True) (.slice Ao7 x0_5.length co7) x0_8) ∧ Aside0 (Below w.heap.size w w'))
                             case atStart => exact ⟨(x0_5), (x11_5), (by first | rfl | (simp; done) | (simp [*]; done)), H', ⟨Nat.le_refl _⟩, ⟨by (try simp only [hl0_1]); (try simp only [hl0_2]); (try simp only [hl0_3]); (try simp only [hl0_4]); (try simp only [hl0_5]); (with_reducible repeat (first | apply Kd.R_alloc | apply Kd.R_drewN | apply Kd.R_drew)); exact HO_0.out⟩, ⟨by repeat (first | (with_reducible first | exact HB.out | apply bAl | apply bDn | apply bD1) | exact HB.out)⟩⟩
                             case round =>
                              clear H'
                              (try clear c1); (try clear p1); (try clear q1); (try clear hx1); (try clear c2); (try clear p2); (try clear c3); (try clear p3); (try clear q3); (try clear hx3); (try clear hf3); (try clear c4); (try clear p4); (try clear q4); (try clear hx4); (try clear hf4); (try clear c5); (try clear c6); (try clear p6); (try clear q6); (try clear hx6); (try clear hf6); (try clear c7); (try clear c8); (try clear c8b0); (try clear p8); (try clear q8); (try clear hx8); (try clear hf8); (try clear c9); (try clear c9b0); (try clear c10); (try clear c10b0); (try clear c11); (try clear c11b0); (try clear c11b1); (try clear p12); (try clear q12); (try clear hx12); (try clear hf12); (try clear c13); (try clear c13b0); (try clear c15); (try clear c15b0); (try clear p15); (try clear q15); (try clear hx15); (try clear c16); (try clear c16b0); (try clear p16); (try clear q16); (try clear hx16); (try clear p17); (try clear q17); (try clear hx17); (try clear hf17); (try clear c24); (try clear c24b0); (try clear c25); (try clear c25b0); (try clear c26); (try clear c26b0); (try clear c27); (try clear c27b0); (try clear c28); (try clear c28b0); (try clear c28b1); (try clear c29); (try clear c29b0); (try clear c29b1); (try clear p30); (try clear q30); (try clear hx30); (try clear hf30); (try clear c33); (try clear c33b0); (try clear c33b1); (try clear c34); (try clear c34b0); (try clear c34b1); (try clear p35); (try clear q35); (try clear hx35); (try clear hf35); (try clear c38); (try clear c38b0); (try clear c39); (try clear c39b0); (try clear c40); (try clear c40b0); (try clear c41); (try clear c41b0); (try clear c41b1); (try clear p42); (try clear q42); (try clear hx42); (try clear hf42); (try clear c45); (try clear c45b0); (try clear c47); (try clear c47b0); (try clear c48); (try clear c48b0); (try clear c49); (try clear c49b0); (try clear c49b1); (try clear c51); (try clear c51b0); (try clear c52); (try clear c52b0); (try clear c53); (try clear c53b0); (try clear c53b1); (try clear c55); (try clear c55b0); (try clear c56); (try clear c56b0); (try clear c57); (try clear c57b0); (try clear c57b1); (try clear c59); (try clear c59b0); (try clear c60); (try clear c60b0); (try clear c61); (try clear c61b0); (try clear c61b1); (try clear c63); (try clear c63b0); (try clear c64); (try clear c64b0); (try clear p64); (try clear c65); (try clear c66); (try clear c66b0); (try clear c67); (try clear c67b0); (try clear p68); (try clear q68); (try clear hx68); (try clear hf68); (try clear c71); (try clear c71b0); (try clear c72); (try clear c72b0); (try clear c73); (try clear c73b0); (try clear c73b1); (try clear c75); (try clear c75b0); (try clear c76); (try clear c76b0); (try clear c77); (try clear c77b0); (try clear c77b1); (try clear c79); (try clear c79b0); (try clear c80); (try clear c80b0); (try clear c81); (try clear c81b0); (try clear c81b1); (try clear p82); (try clear q82); (try clear hx82); (try clear hf82); (try clear c85); (try clear c85b0); (try clear c87); (try clear c87b0); (try clear c88); (try clear c88b0); (try clear c89); (try clear c89b0); (try clear c90); (try clear c90b0); (try clear c90b1); (try clear c92); (try clear c92b0); (try clear c93); (try clear c93b0); (try clear c95); (try clear c95b0); (try clear c96); (try clear c96b0); (try clear c97); (try clear c97b0); (try clear c97b1); (try clear c98); (try clear c98b0); (try clear c99); (try clear c99b0); (try clear c100); (try clear c100b0); (try clear c101); (try clear c101b0); (try clear c102); (try clear c102b0); (try clear c103); (try clear c103b0); (try clear c104); (try clear hx12_0); (try clear hx150_0); (try clear hx152_0); (try clear hx154_0); (try clear hx155_0); (try clear hx156_0); (try clear hx158_0); (try clear hx160_0); (try clear hx162_0); (try clear hx163_0); (try clear hx164_0); (try clear hx165_0); (try clear hx166_0); (try clear hx167_0); (try clear hx169_0); (try clear hx170_0); (try clear hx171_0); (try clear hx173_0); (try clear hx174_0); (try clear hx175_0); (try clear hx176_0); (try clear hx17_0); (try clear hx30_0); (try clear hx35_0); (try clear hx42_0); (try clear hx68_0); (try clear hx82_0); (try clear p1); (try clear p12); (try clear p15); (try clear p150); (try clear p152); (try clear p154); (try clear p155); (try clear p156); (try clear p158); (try clear p16); (try clear p160); (try clear p162); (try clear p163); (try clear p164); (try clear p165); (try clear p166); (try clear p167); (try clear p169); (try clear p17); (try clear p170); (try clear p171); (try clear p173); (try clear p174); (try clear p175); (try clear p176); (try clear p2); (try clear p3); (try clear p30); (try clear p35); (try clear p4); (try clear p42); (try clear p6); (try clear p64); (try clear p68); (try clear p8); (try clear p82); (try clear q1); (try clear q12); (try clear q15); (try clear q150); (try clear q152); (try clear q154); (try clear q155); (try clear q156); (try clear q158); (try clear q16); (try clear q160); (try clear q162); (try clear q163); (try clear q164); (try clear q165); (try clear q166); (try clear q167); (try clear q169); (try clear q17); (try clear q170); (try clear q171); (try clear q173); (try clear q174); (try clear q175); (try clear q176); (try clear q3); (try clear q30); (try clear q35); (try clear q4); (try clear q42); (try clear q6); (try clear q68); (try clear q8); (try clear q82)
                              obtain ⟨x0_8, x13_8, rfl, HA, HK8, HO_0, HB⟩ := hrel
                              have hl0_8 := (Kd.R_reads' HO_0.out).1
                              rw [hl0_8] at HO_0
                              (try simp only [hl0_8])
                              cases gk with
                              | zero => exact absurd HA.out (by simp [spec_l14Weak.l6])
                              | succ k8 =>
                               have H := HA.out
                               clear HA
                               simp only [spec_l14Weak.l6] at H
                               by_cases c105 : x13_8 < x11_85
                               · rw [if_pos c105] at H
                                 have c105b0 : decide (x13_8 < x11_85) = true := decide_eq_true c105
                                 clear c105
                                 by_cases c106 : 0 ≤ x13_8
                                 · rw [if_pos c106] at H
                                   have c106b0 : decide (0 ≤ x13_8) = true := decide_eq_true c106
                                   clear c106
                                   by_cases c107 : x13_8 < (x0_8.length : Int)
                                   · rw [if_pos c107] at H
                                     have c107b0 : decide (x13_8 < (x0_8.length : Int)) = true := decide_eq_true c107
                                     (try rw [hl0_1] at c107b0)
                                     (try rw [hl0_114] at c107b0)
                                     (try rw [hl0_2] at c107b0)
                                     (try rw [hl0_3] at c107b0)
                                     (try rw [hl0_4] at c107b0)
                                     (try rw [hl0_5] at c107b0)
                                     (try rw [hl0_6] at c107b0)
                                     (try rw [hl0_8] at c107b0)
                                     clear c107
                                     obtain ⟨y177, hy177⟩ : ∃ y_ : List Int, y_ = (x0_8.set (x13_8 : Int).toNat 3) := ⟨_, rfl⟩
                                     replace H : (spec_l14Weak.l6 k8 y177 a1 (y147.length : Int) x11_85 (wrap64 (x13_8 + 1))) = some r := by first | (rw [hy177]; with_reducible exact H) | (have H2_ := (Option.bind_some _ _).symm.trans H; rw [hy177]; with_reducible exact H2_) | (have H2_ := (Option.bind_some _ _).symm.trans H; with_reducible exact H2_) | with_reducible exact H | (rw [hy177]; exact H) | exact H
                                     have Ny177 := aMk hy177
                                     clear hy177
                                     have H' := aMk H
                                     clear H
                                     have p108 : 0 ≤ (x13_8 : Int) := oDt (by first | (with_reducible assumption) | assumption)
                                     have q108 : (x13_8 : Int) < ((x0_8.length : Int) : Int) := oDt (by first | (with_reducible assumption) | assumption)
                                     obtain ⟨go108, co108, eo108, gb108, gl108, cl108, HG108⟩ := Kd.R_form HO_0.out (by omega)
                                     (first | cases eo108 | (injection eo108 with ea_ en_ ec_; (first | subst ea_ | (injection ea_ with ea_; subst ea_)); subst ec_; clear en_))
                                     have GB108 := aMk gb108
                                     have GG108 := aMk HG108
                                     clear gb108 gl108 HG108
                                     obtain ⟨hx108_0, hf108_0⟩ := Kd.R_celln 0 HO_0.out (x13_8 : Int) p108 q108
                                     replace p108 := eq_true p108
                                     replace q108 := eq_true q108
                                     have HP109 := Kd.R_putg HO_0.out (x13_8 : Int) 3
                                     go_wp2_with (first | ((with_reducible refine gate_store (t := 3) (p := 198) rfl ?_); refine store_event (t := 3) (p := 198) (v := ?vo_w110) (w1 := (wr.setCell ⟨go108, (x13_8 : Int).toNat, none⟩ (.int .i64 3))) ?hg ?ho ?hn ?hr ?_; (case ho => rfl); (case hg => rfl); (case hn => rfl); (case hr => first | (go_simp; done) | (go_simp; rfl)); intro w110 hw; have hg : wr.grownBy w110 (some go108) := (by rw [hw]; exact HP109.2); have hp_ : Kd.R (Kd.int .i64) 3 w110 w.heap.size (fun _ => True) (.slice (some ⟨go108, 0, none⟩) x0_8.length co7) y177 := (by rw [hw, Ny177.out]; exact HP109.1); clear HP109; have n0_ := aMk (hp_); have n1_ := aMk ((by rw [hw]; exact bSe (HB.out) GB108.out : Below w.heap.size w w110)); clear HO_0; clear HB; have HO_0 := n0_; have HB := n1_; clear n0_ n1_; clear hg hw hp_))
                                     (try simp only [← hl0_8])
                                     go_roundg k8
                                     case measure => have := HK1.out; have := HK2.out; have := HK3.out; have := HK4.out; have := HK5.out; have := HJ85.out; have := HJ90.out; have := HK8.out; omega
                                     case rel => exact ⟨(y177), (wrap64 (x13_8 + 1)), (by first | rfl | (simp; done) | (simp [*]; done)), H', ⟨by have := HK1.out; have := HK2.out; have := HK3.out; have := HK4.out; have := HK5.out; have := HJ85.out; have := HJ90.out; have := HK8.out; omega⟩, ⟨by (try simp only [hl0_1]); (try simp only [hl0_2]); (try simp only [hl0_3]); (try simp only [hl0_4]); (try simp only [hl0_5]); (try simp only [hl0_8]); (with_reducible repeat (first | apply Kd.R_alloc | apply Kd.R_drewN | apply Kd.R_drew)); exact HO_0.out⟩, ⟨by repeat (first | (with_reducible first | exact HB.out | apply bAl | apply bDn | apply bD1) | exact HB.out)⟩⟩
                                   · rw [if_neg c107] at H
                                     exact absurd H (by simp)
                                 · rw [if_neg c106] at H
                                   exact absurd H (by simp)
                               · rw [if_neg c105] at H
                                 have c105b0 : decide (x13_8 < x11_85) = false := decide_eq_false c105
                                 clear c105
                                 have H' := aMk H
                                 clear H
                                 go_wp2
                                 (try simp only [← hl0_5, ← hl0_8])
                                 go_roundg k8
                                 case measure => have := HK1.out; have := HK2.out; have := HK3.out; have := HK4.out; have := HK5.out; have := HJ85.out; have := HJ90.out; have := HK8.out; omega
                                 case rel => exact ⟨(x0_8), (wrap64 (x11_85 + 1)), (by first | rfl | (simp; done) | (simp [*]; done)), H', ⟨by have := HK1.out; have := HK2.out; have := HK3.out; have := HK4.out; have := HK5.out; have := HJ85.out; have := HJ90.out; have := HK8.out; omega⟩, ⟨by (try simp only [hl0_1]); (try simp only [hl0_2]); (try simp only [hl0_3]); (try simp only [hl0_4]); (try simp only [hl0_5]); (try simp only [hl0_8]); (with_reducible repeat (first | apply Kd.R_alloc | apply Kd.R_drewN | apply Kd.R_drew)); exact HO_0.out⟩, ⟨by repeat (first | (with_reducible first | exact HB.out | apply bAl | apply bDn | apply bD1) | exact HB.out)⟩⟩
                           · replace c104 := Bool.eq_false_iff.mpr c104
                             subst c104
                             have H1 : (spec_l14Weak.l4 kj90 x0_5 a1 (y147.length : Int) (wrap64 (x11_85 + 1))) = some r := by rw [if_neg (show ¬ (false = true) by decide)] at H; exact H
                             clear H
                             have H := H1
                             clear H1
                             have H' := aMk H
                             clear H
                             go_wp2
                             (try simp only [← hl0_5])
                             go_roundg kj90
                             case measure => have := HK1.out; have := HK2.out; have := HK3.out; have := HK4.out; have := HK5.out; have := HJ85.out; have := HJ90.out; omega
                             case rel => exact ⟨(x0_5), (wrap64 (x11_85 + 1)), (by first | rfl | (simp; done) | (simp [*]; done)), H', ⟨by have := HK1.out; have := HK2.out; have := HK3.out; have := HK4.out; have := HK5.out; have := HJ85.out; have := HJ90.out; omega⟩, ⟨by (try simp only [hl0_1]); (try simp only [hl0_2]); (try simp only [hl0_3]); (try simp only [hl0_4]); (try simp only [hl0_5]); (with_reducible repeat (first | apply Kd.R_alloc | apply Kd.R_drewN | apply Kd.R_drew)); exact HO_0.out⟩, ⟨by repeat (first | (with_reducible first | exact HB.out | apply bAl | apply bDn | apply bD1) | exact HB.out)⟩⟩
                     · rw [if_neg c85] at H
                       have c85b0 : decide (x11_5 < (y147.length : Int)) = false := decide_eq_false c85
                       (try rw [hl0_1] at c85b0)
                       (try rw [hl0_114] at c85b0)
                       (try rw [hl0_2] at c85b0)
                       (try rw [hl0_3] at c85b0)
                       (try rw [hl0_4] at c85b0)
                       (try rw [hl0_5] at c85b0)
                       (try rw [hl0_6] at c85b0)
                       (try rw [hl0_8] at c85b0)
                       clear c85
                       have H' := aMk H
                       clear H
                       go_wp2
                       go_loopg [6, 14] k5 (fun kq v6 v14 w' => ∃ (x0_6 : List Int) (x6_6 : Int) (x14_6 : Int), v6 = .int .i64 x6_6 ∧ v14 = .int .i64 x14_6 ∧ Aside0 (spec_l14Weak.l7 kq x0_6 (y147.length : Int) x6_6 x14_6 = some r) ∧ Aside0 (kq ≤ k5) ∧ Aside0 (Kd.R (Kd.int .i64) 3 w' w.heap.size (fun _ => True) (.slice Ao7 x0_5.length co7) x0_6) ∧ Aside0 (Below w.heap.size w w'))
                       case atStart => exact ⟨(x0_5), (a1), (0), (by first | rfl | (simp; done) | (simp [*]; done)), (by first | rfl | (simp; done) | (simp [*]; done)), H', ⟨Nat.le_refl _⟩, ⟨by (try simp only [hl0_1]); (try simp only [hl0_2]); (try simp only [hl0_3]); (try simp only [hl0_4]); (try simp only [hl0_5]); (with_reducible repeat (first | apply Kd.R_alloc | apply Kd.R_drewN | apply Kd.R_drew)); exact HO_0.out⟩, ⟨by repeat (first | (with_reducible first | exact HB.out | apply bAl | apply bDn | apply bD1) | exact HB.out)⟩⟩
                       case round =>
                        clear H'
                        (try clear c1); (try clear p1); (try clear q1); (try clear hx1); (try clear c2); (try clear p2); (try clear c3); (try clear p3); (try clear q3); (try clear hx3); (try clear hf3); (try clear c4); (try clear p4); (try clear q4); (try clear hx4); (try clear hf4); (try clear c5); (try clear c6); (try clear p6); (try clear q6); (try clear hx6); (try clear hf6); (try clear c7); (try clear c8); (try clear c8b0); (try clear p8); (try clear q8); (try clear hx8); (try clear hf8); (try clear c9); (try clear c9b0); (try clear c10); (try clear c10b0); (try clear p10); (try clear q10); (try clear hx10); (try clear hf10); (try clear c11); (try clear c11b0); (try clear c11b1); (try clear p12); (try clear q12); (try clear hx12); (try clear hf12); (try clear c13); (try clear c13b0); (try clear c15); (try clear c15b0); (try clear p15); (try clear q15); (try clear hx15); (try clear c16); (try clear c16b0); (try clear p16); (try clear q16); (try clear hx16); (try clear p17); (try clear q17); (try clear hx17); (try clear hf17); (try clear c24); (try clear c24b0); (try clear c25); (try clear c25b0); (try clear c26); (try clear c26b0); (try clear c27); (try clear c27b0); (try clear c28); (try clear c28b0); (try clear c28b1); (try clear c29); (try clear c29b0); (try clear c29b1); (try clear p30); (try clear q30); (try clear hx30); (try clear hf30); (try clear c33); (try clear c33b0); (try clear c33b1); (try clear c34); (try clear c34b0); (try clear c34b1); (try clear p35); (try clear q35); (try clear hx35); (try clear hf35); (try clear c38); (try clear c38b0); (try clear c39); (try clear c39b0); (try clear c40); (try clear c40b0); (try clear c41); (try clear c41b0); (try clear c41b1); (try clear p42); (try clear q42); (try clear hx42); (try clear hf42); (try clear c45); (try clear c45b0); (try clear c47); (try clear c47b0); (try clear c48); (try clear c48b0); (try clear c49); (try clear c49b0); (try clear c49b1); (try clear c51); (try clear c51b0); (try clear c52); (try clear c52b0); (try clear c53); (try clear c53b0); (try clear c53b1); (try clear c55); (try clear c55b0); (try clear c56); (try clear c56b0); (try clear c57); (try clear c57b0); (try clear c57b1); (try clear c59); (try clear c59b0); (try clear c60); (try clear c60b0); (try clear c61); (try clear c61b0); (try clear c61b1); (try clear c63); (try clear c63b0); (try clear c64); (try clear c64b0); (try clear p64); (try clear c65); (try clear c66); (try clear c66b0); (try clear c67); (try clear c67b0); (try clear p68); (try clear q68); (try clear hx68); (try clear hf68); (try clear c71); (try clear c71b0); (try clear c72); (try clear c72b0); (try clear c73); (try clear c73b0); (try clear c73b1); (try clear c75); (try clear c75b0); (try clear c76); (try clear c76b0); (try clear c77); (try clear c77b0); (try clear c77b1); (try clear c79); (try clear c79b0); (try clear c80); (try clear c80b0); (try clear c81); (try clear c81b0); (try clear c81b1); (try clear p82); (try clear q82); (try clear hx82); (try clear hf82); (try clear c85); (try clear c85b0); (try clear c87); (try clear c87b0); (try clear c88); (try clear c88b0); (try clear c89); (try clear c89b0); (try clear c90); (try clear c90b0); (try clear c90b1); (try clear c92); (try clear c92b0); (try clear c93); (try clear c93b0); (try clear c95); (try clear c95b0); (try clear c96); (try clear c96b0); (try clear c97); (try clear c97b0); (try clear c97b1); (try clear c98); (try clear c98b0); (try clear c99); (try clear c99b0); (try clear c100); (try clear c100b0); (try clear c101); (try clear c101b0); (try clear c102); (try clear c102b0); (try clear c103); (try clear c103b0); (try clear c104); (try clear c105); (try clear c105b0); (try clear c106); (try clear c106b0); (try clear c107); (try clear c107b0); (try clear p108); (try clear q108); (try clear hx108); (try clear hf108); (try clear hx108_0); (try clear hx12_0); (try clear hx150_0); (try clear hx152_0); (try clear hx154_0); (try clear hx155_0); (try clear hx156_0); (try clear hx158_0); (try clear hx160_0); (try clear hx162_0); (try clear hx163_0); (try clear hx164_0); (try clear hx165_0); (try clear hx166_0); (try clear hx167_0); (try clear hx169_0); (try clear hx170_0); (try clear hx171_0); (try clear hx173_0); (try clear hx174_0); (try clear hx175_0); (try clear hx176_0); (try clear hx17_0); (try clear hx30_0); (try clear hx35_0); (try clear hx42_0); (try clear hx68_0); (try clear hx82_0); (try clear p1); (try clear p108); (try clear p12); (try clear p15); (try clear p150); (try clear p152); (try clear p154); (try clear p155); (try clear p156); (try clear p158); (try clear p16); (try clear p160); (try clear p162); (try clear p163); (try clear p164); (try clear p165); (try clear p166); (try clear p167); (try clear p169); (try clear p17); (try clear p170); (try clear p171); (try clear p173); (try clear p174); (try clear p175); (try clear p176); (try clear p2); (try clear p3); (try clear p30); (try clear p35); (try clear p4); (try clear p42); (try clear p6); (try clear p64); (try clear p68); (try clear p8); (try clear p82); (try clear q1); (try clear q108); (try clear q12); (try clear q15); (try clear q150); (try clear q152); (try clear q154); (try clear q155); (try clear q156); (try clear q158); (try clear q16); (try clear q160); (try clear q162); (try clear q163); (try clear q164); (try clear q165); (try clear q166); (try clear q167); (try clear q169); (try clear q17); (try clear q170); (try clear q171); (try clear q173); (try clear q174); (try clear q175); (try clear q176); (try clear q3); (try clear q30); (try clear q35); (try clear q4); (try clear q42); (try clear q6); (try clear q68); (try clear q8); (try clear q82)
                        obtain ⟨x0_6, x6_6, x14_6, rfl, rfl, HA, HK6, HO_0, HB⟩ := hrel
                        have hl0_6 := (Kd.R_reads' HO_0.out).1
                        rw [hl0_6] at HO_0
                        (try simp only [hl0_6])
                        cases gk with
                        | zero => exact absurd HA.out (by simp [spec_l14Weak.l7])
                        | succ k6 =>
                         have H := HA.out
                         clear HA
                         simp only [spec_l14Weak.l7] at H
                         by_cases c111 : x14_6 < (y147.length : Int)
                         · rw [if_pos c111] at H
                           have c111b0 : decide (x14_6 < (y147.length : Int)) = true := decide_eq_true c111
                           (try rw [hl0_1] at c111b0)
                           (try rw [hl0_114] at c111b0)
                           (try rw [hl0_2] at c111b0)
                           (try rw [hl0_3] at c111b0)
                           (try rw [hl0_4] at c111b0)
                           (try rw [hl0_5] at c111b0)
                           (try rw [hl0_6] at c111b0)
                           (try rw [hl0_8] at c111b0)
                           clear c111
                           by_cases c112 : 0 ≤ x14_6
                           · rw [if_pos c112] at H
                             have c112b0 : decide (0 ≤ x14_6) = true := decide_eq_true c112
                             clear c112
                             by_cases c113 : x14_6 < (x0_6.length : Int)
                             · rw [if_pos c113] at H
                               have c113b0 : decide (x14_6 < (x0_6.length : Int)) = true := decide_eq_true c113
                               (try rw [hl0_1] at c113b0)
                               (try rw [hl0_114] at c113b0)
                               (try rw [hl0_2] at c113b0)
                               (try rw [hl0_3] at c113b0)
                               (try rw [hl0_4] at c113b0)
                               (try rw [hl0_5] at c113b0)
                               (try rw [hl0_6] at c113b0)
                               (try rw [hl0_8] at c113b0)
                               clear c113
                               replace H := oBm H
                               obtain ⟨t179, A1140, H⟩ := H
                               replace H : (if t179 = true then (spec_l14Weak.j11 k6 (x0_6.set (x14_6 : Int).toNat 12) (y147.length : Int) x6_6 x14_6) else (spec_l14Weak.j11 k6 x0_6 (y147.length : Int) x6_6 x14_6)) = some r := H
                               have A114 := aMk A1140
                               clear A1140
                               have HC115 := aMk H
                               clear H
                               have p178 : 0 ≤ (x14_6 : Int) := oDt (by first | (with_reducible assumption) | assumption)
                               have q178 : x14_6 < (x0_6.length : Int) := oDt (by first | (with_reducible assumption) | assumption)
                               obtain ⟨ad178, e178, hx178_0⟩ := Kd.at_int (Kd.R_reads' HO_0.out).2.2 x14_6 p178 q178
                               cases e178
                               replace p178 := eq_true p178
                               replace q178 := eq_true q178
                               go_upto_if 209 with (first | ((with_reducible refine gate_callee (f := 54) rfl ?_); refine goesL_ (some 209) rfl rfl Try.func54 (by kernel_rfl) rfl #[.int .i64 (rd x0_6 x14_6), .int .i64 5, .int .i64 7] rfl (by (try simp only [List.map_toArray, List.map_cons, List.map_nil]); first | done | rfl | (simp only [List.length_drop, List.length_take]; rfl)) ?_; (with_reducible refine (spec_l12In.calls (rd x0_6 x14_6) 5 7 t179 _ A114.out).mono ?_); rintro e w' ⟨rfl, ⟨nd, rfl⟩⟩; refine ⟨_, rfl, ?_⟩))
                               (try simp only [Act.put, lSa, lSz, lSs])
                               have HOq_ := aMk (Kd.R_drewN HO_0.out nd); have HBq_ := aMk (bDn HB.out nd); clear HO_0 HB; have HO_0 := HOq_; have HB := HBq_; clear HOq_ HBq_; generalize wr.drewN nd = wr at HO_0 HB ⊢
                               go_cut [] (fun wc => ∃ (kq : Nat) (x0_114 : List Int), Aside0 (spec_l14Weak.j11 kq x0_114 (y147.length : Int) x6_6 x14_6 = some r) ∧ Aside0 (kq ≤ k6) ∧ Aside0 (Kd.R (Kd.int .i64) 3 wc w.heap.size (fun _ => True) (.slice (some ad178) x0_6.length co7) x0_114) ∧ Aside0 (Below w.heap.size w wc))
                               case first =>
                                have H := HC115.out
                                clear HC115
                                by_cases c116 : t179 = true
                                · subst c116
                                  have H1 : (spec_l14Weak.j11 k6 (x0_6.set (x14_6 : Int).toNat 12) (y147.length : Int) x6_6 x14_6) = some r := by rw [if_pos rfl] at H; exact H
                                  clear H
                                  have H := H1
                                  clear H1
                                  obtain ⟨y180, hy180⟩ : ∃ y_ : List Int, y_ = (x0_6.set (x14_6 : Int).toNat 12) := ⟨_, rfl⟩
                                  replace H : (spec_l14Weak.j11 k6 y180 (y147.length : Int) x6_6 x14_6) = some r := by first | (rw [hy180]; with_reducible exact H) | (have H2_ := (Option.bind_some _ _).symm.trans H; rw [hy180]; with_reducible exact H2_) | (have H2_ := (Option.bind_some _ _).symm.trans H; with_reducible exact H2_) | with_reducible exact H | (rw [hy180]; exact H) | exact H
                                  have Ny180 := aMk hy180
                                  clear hy180
                                  have H' := aMk H
                                  clear H
                                  have p117 : 0 ≤ (x14_6 : Int) := oDt (by first | (with_reducible assumption) | assumption)
                                  have q117 : (x14_6 : Int) < ((x0_6.length : Int) : Int) := oDt (by first | (with_reducible assumption) | assumption)
                                  obtain ⟨go117, co117, eo117, gb117, gl117, cl117, HG117⟩ := Kd.R_form HO_0.out (by omega)
                                  (first | cases eo117 | (injection eo117 with ea_ en_ ec_; (first | subst ea_ | (injection ea_ with ea_; subst ea_)); subst ec_; clear en_))
                                  have GB117 := aMk gb117
                                  have GG117 := aMk HG117
                                  clear gb117 gl117 HG117
                                  (first | simp only [add_plain] at hx178_0 | skip)
                                  obtain ⟨hx117_0, hf117_0⟩ := Kd.R_celln 0 HO_0.out (x14_6 : Int) p117 q117
                                  replace p117 := eq_true p117
                                  replace q117 := eq_true q117
                                  have HP118 := Kd.R_putg HO_0.out (x14_6 : Int) 12
                                  go_wp2_with (first | ((with_reducible refine gate_store (t := 3) (p := 212) rfl ?_); refine store_event (t := 3) (p := 212) (v := ?vo_w119) (w1 := (wr.setCell ⟨go117, (x14_6 : Int).toNat, none⟩ (.int .i64 12))) ?hg ?ho ?hn ?hr ?_; (case ho => rfl); (case hg => rfl); (case hn => rfl); (case hr => first | (go_simp; done) | (go_simp; rfl)); intro w119 hw; have hg : wr.grownBy w119 (some go117) := (by rw [hw]; exact HP118.2); have hp_ : Kd.R (Kd.int .i64) 3 w119 w.heap.size (fun _ => True) (.slice (some ⟨go117, 0, none⟩) x0_6.length co7) y180 := (by rw [hw, Ny180.out]; exact HP118.1); clear HP118; have n0_ := aMk (hp_); have n1_ := aMk ((by rw [hw]; exact bSe (HB.out) GB117.out : Below w.heap.size w w119)); clear HO_0; clear HB; have HO_0 := n0_; have HB := n1_; clear n0_ n1_; clear hg hw hp_))
                                  go_meet
                                  case rel => exact ⟨_, (y180), H', ⟨by have := HK1.out; have := HK2.out; have := HK3.out; have := HK4.out; have := HK5.out; have := HK6.out; first | omega | exact Nat.le_refl _⟩, ⟨by (try simp only [hl0_1]); (try simp only [hl0_2]); (try simp only [hl0_3]); (try simp only [hl0_4]); (try simp only [hl0_5]); (try simp only [hl0_6]); (with_reducible repeat (first | apply Kd.R_alloc | apply Kd.R_drewN | apply Kd.R_drew)); exact HO_0.out⟩, ⟨by repeat (first | (with_reducible first | exact HB.out | apply bAl | apply bDn | apply bD1) | exact HB.out)⟩⟩
                                · replace c116 := Bool.eq_false_iff.mpr c116
                                  subst c116
                                  have H1 : (spec_l14Weak.j11 k6 x0_6 (y147.length : Int) x6_6 x14_6) = some r := by rw [if_neg (show ¬ (false = true) by decide)] at H; exact H
                                  clear H
                                  have H := H1
                                  clear H1
                                  have H' := aMk H
                                  clear H
                                  go_wp2
                                  go_meet
                                  case rel => exact ⟨_, (x0_6), H', ⟨by have := HK1.out; have := HK2.out; have := HK3.out; have := HK4.out; have := HK5.out; have := HK6.out; first | omega | exact Nat.le_refl _⟩, ⟨by (try simp only [hl0_1]); (try simp only [hl0_2]); (try simp only [hl0_3]); (try simp only [hl0_4]); (try simp only [hl0_5]); (try simp only [hl0_6]); (with_reducible repeat (first | apply Kd.R_alloc | apply Kd.R_drewN | apply Kd.R_drew)); exact HO_0.out⟩, ⟨by repeat (first | (with_reducible first | exact HB.out | apply bAl | apply bDn | apply bD1) | exact HB.out)⟩⟩
                               case rest =>
                                clear HC115
                                (try clear c1); (try clear p1); (try clear q1); (try clear hx1); (try clear c2); (try clear p2); (try clear c3); (try clear p3); (try clear q3); (try clear hx3); (try clear hf3); (try clear c4); (try clear p4); (try clear q4); (try clear hx4); (try clear hf4); (try clear c5); (try clear c6); (try clear p6); (try clear q6); (try clear hx6); (try clear hf6); (try clear c7); (try clear c8); (try clear c8b0); (try clear p8); (try clear q8); (try clear hx8); (try clear hf8); (try clear c9); (try clear c9b0); (try clear c10); (try clear c10b0); (try clear p10); (try clear q10); (try clear hx10); (try clear hf10); (try clear c11); (try clear c11b0); (try clear c11b1); (try clear p11); (try clear q11); (try clear hx11); (try clear hf11); (try clear p12); (try clear q12); (try clear hx12); (try clear hf12); (try clear c13); (try clear c13b0); (try clear c15); (try clear c15b0); (try clear p15); (try clear q15); (try clear hx15); (try clear c16); (try clear c16b0); (try clear p16); (try clear q16); (try clear hx16); (try clear p17); (try clear q17); (try clear hx17); (try clear hf17); (try clear c24); (try clear c24b0); (try clear c25); (try clear c25b0); (try clear c26); (try clear c26b0); (try clear c27); (try clear c27b0); (try clear c28); (try clear c28b0); (try clear c28b1); (try clear c29); (try clear c29b0); (try clear c29b1); (try clear p30); (try clear q30); (try clear hx30); (try clear hf30); (try clear c33); (try clear c33b0); (try clear c33b1); (try clear c34); (try clear c34b0); (try clear c34b1); (try clear p35); (try clear q35); (try clear hx35); (try clear hf35); (try clear c38); (try clear c38b0); (try clear c39); (try clear c39b0); (try clear c40); (try clear c40b0); (try clear c41); (try clear c41b0); (try clear c41b1); (try clear p42); (try clear q42); (try clear hx42); (try clear hf42); (try clear c45); (try clear c45b0); (try clear c47); (try clear c47b0); (try clear c48); (try clear c48b0); (try clear c49); (try clear c49b0); (try clear c49b1); (try clear c51); (try clear c51b0); (try clear c52); (try clear c52b0); (try clear c53); (try clear c53b0); (try clear c53b1); (try clear c54); (try clear c55); (try clear c55b0); (try clear c56); (try clear c56b0); (try clear c57); (try clear c57b0); (try clear c57b1); (try clear c59); (try clear c59b0); (try clear c60); (try clear c60b0); (try clear c61); (try clear c61b0); (try clear c61b1); (try clear c63); (try clear c63b0); (try clear c64); (try clear c64b0); (try clear p64); (try clear c65); (try clear c66); (try clear c66b0); (try clear c67); (try clear c67b0); (try clear p68); (try clear q68); (try clear hx68); (try clear hf68); (try clear c71); (try clear c71b0); (try clear c72); (try clear c72b0); (try clear c73); (try clear c73b0); (try clear c73b1); (try clear c75); (try clear c75b0); (try clear c76); (try clear c76b0); (try clear c77); (try clear c77b0); (try clear c77b1); (try clear c79); (try clear c79b0); (try clear c80); (try clear c80b0); (try clear c81); (try clear c81b0); (try clear c81b1); (try clear p82); (try clear q82); (try clear hx82); (try clear hf82); (try clear c85); (try clear c85b0); (try clear c87); (try clear c87b0); (try clear c88); (try clear c88b0); (try clear c89); (try clear c89b0); (try clear c90); (try clear c90b0); (try clear c90b1); (try clear c92); (try clear c92b0); (try clear c93); (try clear c93b0); (try clear c95); (try clear c95b0); (try clear c96); (try clear c96b0); (try clear c97); (try clear c97b0); (try clear c97b1); (try clear c98); (try clear c98b0); (try clear c99); (try clear c99b0); (try clear c100); (try clear c100b0); (try clear c101); (try clear c101b0); (try clear c102); (try clear c102b0); (try clear c103); (try clear c103b0); (try clear c104); (try clear c105); (try clear c105b0); (try clear c106); (try clear c106b0); (try clear c107); (try clear c107b0); (try clear p108); (try clear q108); (try clear hx108); (try clear hf108); (try clear c111); (try clear c111b0); (try clear c112); (try clear c112b0); (try clear c113); (try clear c113b0); (try clear c116); (try clear p117); (try clear q117); (try clear hx117); (try clear hf117); (try clear hx108_0); (try clear hx117_0); (try clear hx12_0); (try clear hx150_0); (try clear hx152_0); (try clear hx154_0); (try clear hx155_0); (try clear hx156_0); (try clear hx158_0); (try clear hx160_0); (try clear hx162_0); (try clear hx163_0); (try clear hx164_0); (try clear hx165_0); (try clear hx166_0); (try clear hx167_0); (try clear hx169_0); (try clear hx170_0); (try clear hx171_0); (try clear hx173_0); (try clear hx174_0); (try clear hx175_0); (try clear hx176_0); (try clear hx178_0); (try clear hx17_0); (try clear hx30_0); (try clear hx35_0); (try clear hx42_0); (try clear hx68_0); (try clear hx82_0); (try clear p1); (try clear p10); (try clear p108); (try clear p117); (try clear p12); (try clear p15); (try clear p150); (try clear p152); (try clear p154); (try clear p155); (try clear p156); (try clear p158); (try clear p16); (try clear p160); (try clear p162); (try clear p163); (try clear p164); (try clear p165); (try clear p166); (try clear p167); (try clear p169); (try clear p17); (try clear p170); (try clear p171); (try clear p173); (try clear p174); (try clear p175); (try clear p176); (try clear p178); (try clear p2); (try clear p3); (try clear p30); (try clear p35); (try clear p4); (try clear p42); (try clear p6); (try clear p64); (try clear p68); (try clear p8); (try clear p82); (try clear q1); (try clear q10); (try clear q108); (try clear q117); (try clear q12); (try clear q15); (try clear q150); (try clear q152); (try clear q154); (try clear q155); (try clear q156); (try clear q158); (try clear q16); (try clear q160); (try clear q162); (try clear q163); (try clear q164); (try clear q165); (try clear q166); (try clear q167); (try clear q169); (try clear q17); (try clear q170); (try clear q171); (try clear q173); (try clear q174); (try clear q175); (try clear q176); (try clear q178); (try clear q3); (try clear q30); (try clear q35); (try clear q4); (try clear q42); (try clear q6); (try clear q68); (try clear q8); (try clear q82)
                                obtain ⟨kq, x0_114, HA, HJ114, HO_0, HB⟩ := hcut
                                have hl0_114 := (Kd.R_reads' HO_0.out).1
                                rw [hl0_114] at HO_0
                                (try simp only [hl0_114])
                                cases kq with
                                | zero => exact absurd HA.out (by simp [spec_l14Weak.j11])
                                | succ kj114 =>
                                 have H := HA.out
                                 clear HA
                                 simp only [spec_l14Weak.j11] at H
                                 by_cases c120 : 0 ≤ x14_6
                                 · rw [if_pos c120] at H
                                   have c120b0 : decide (0 ≤ x14_6) = true := decide_eq_true c120
                                   clear c120
                                   by_cases c121 : x14_6 < (x0_114.length : Int)
                                   · rw [if_pos c121] at H
                                     have c121b0 : decide (x14_6 < (x0_114.length : Int)) = true := decide_eq_true c121
                                     (try rw [hl0_1] at c121b0)
                                     (try rw [hl0_114] at c121b0)
                                     (try rw [hl0_2] at c121b0)
                                     (try rw [hl0_3] at c121b0)
                                     (try rw [hl0_4] at c121b0)
                                     (try rw [hl0_5] at c121b0)
                                     (try rw [hl0_6] at c121b0)
                                     (try rw [hl0_8] at c121b0)
                                     clear c121
                                     by_cases c122 : (rd x0_114 x14_6) ≤ 1
                                     · rw [if_pos c122] at H
                                       have c122b0 : decide ((rd x0_114 x14_6) ≤ 1) = true := decide_eq_true c122
                                       clear c122
                                       by_cases c123 : (rd x0_114 x14_6) = 3
                                       · rw [if_pos c123] at H
                                         have c123b0 : ((rd x0_114 x14_6) == 3) = true := beq_iff_eq.mpr c123
                                         have c123b1 : ((rd x0_114 x14_6) != 3) = false := bne_eq_false_iff_eq.mpr c123
                                         clear c123
                                         by_cases c124 : (rd x0_114 x14_6) = 0
                                         · rw [if_pos c124] at H
                                           have c124b0 : ((rd x0_114 x14_6) == 0) = true := beq_iff_eq.mpr c124
                                           have c124b1 : ((rd x0_114 x14_6) != 0) = false := bne_eq_false_iff_eq.mpr c124
                                           clear c124
                                           obtain ⟨y184, hy184⟩ : ∃ y_ : List Int, y_ = (x0_114.set (x14_6 : Int).toNat 0) := ⟨_, rfl⟩
                                           replace H : (spec_l14Weak.l7 kj114 y184 (y147.length : Int) (rd x0_114 x14_6) (wrap64 (x14_6 + 1))) = some r := by first | (rw [hy184]; with_reducible exact H) | (have H2_ := (Option.bind_some _ _).symm.trans H; rw [hy184]; with_reducible exact H2_) | (have H2_ := (Option.bind_some _ _).symm.trans H; with_reducible exact H2_) | with_reducible exact H | (rw [hy184]; exact H) | exact H
                                           have Ny184 := aMk hy184
                                           clear hy184
                                           have H' := aMk H
                                           clear H
                                           have p181 : 0 ≤ (x14_6 : Int) := oDt (by first | (with_reducible assumption) | assumption)
                                           have q181 : x14_6 < (x0_114.length : Int) := oDt (by first | (with_reducible assumption) | assumption)
                                           obtain ⟨ad181, e181, hx181_0⟩ := Kd.at_int (Kd.R_reads' HO_0.out).2.2 x14_6 p181 q181
                                           obtain rfl : ad178 = ad181 := (by injection e181)
                                           replace p181 := eq_true p181
                                           replace q181 := eq_true q181
                                           have p182 : 0 ≤ (x14_6 : Int) := oDt (by first | (with_reducible assumption) | assumption)
                                           have q182 : x14_6 < (x0_114.length : Int) := oDt (by first | (with_reducible assumption) | assumption)
                                           obtain ⟨ad182, e182, hx182_0⟩ := Kd.at_int (Kd.R_reads' HO_0.out).2.2 x14_6 p182 q182
                                           obtain rfl : ad178 = ad182 := (by injection e182)
                                           replace p182 := eq_true p182
                                           replace q182 := eq_true q182
                                           have p183 : 0 ≤ (x14_6 : Int) := oDt (by first | (with_reducible assumption) | assumption)
                                           have q183 : x14_6 < (x0_114.length : Int) := oDt (by first | (with_reducible assumption) | assumption)
                                           obtain ⟨ad183, e183, hx183_0⟩ := Kd.at_int (Kd.R_reads' HO_0.out).2.2 x14_6 p183 q183
                                           obtain rfl : ad178 = ad183 := (by injection e183)
                                           replace p183 := eq_true p183
                                           replace q183 := eq_true q183
                                           have p125 : 0 ≤ (x14_6 : Int) := oDt (by first | (with_reducible assumption) | assumption)
                                           have q125 : (x14_6 : Int) < ((x0_114.length : Int) : Int) := oDt (by first | (with_reducible assumption) | assumption)
                                           obtain ⟨go125, co125, eo125, gb125, gl125, cl125, HG125⟩ := Kd.R_form HO_0.out (by omega)
                                           (first | cases eo125 | (injection eo125 with ea_ en_ ec_; (first | subst ea_ | (injection ea_ with ea_; subst ea_)); subst ec_; clear en_))
                                           have GB125 := aMk gb125
                                           have GG125 := aMk HG125
                                           clear gb125 gl125 HG125
                                           (first | simp only [add_plain] at hx181_0 | skip)
                                           (first | simp only [add_plain] at hx182_0 | skip)
                                           (first | simp only [add_plain] at hx183_0 | skip)
                                           obtain ⟨hx125_0, hf125_0⟩ := Kd.R_celln 0 HO_0.out (x14_6 : Int) p125 q125
                                           replace p125 := eq_true p125
                                           replace q125 := eq_true q125
                                           have HP126 := Kd.R_putg HO_0.out (x14_6 : Int) 0
                                           go_wp2_with (first | ((with_reducible refine gate_store (t := 3) (p := 233) rfl ?_); refine store_event (t := 3) (p := 233) (v := ?vo_w127) (w1 := (wc.setCell ⟨go125, (x14_6 : Int).toNat, none⟩ (.int .i64 0))) ?hg ?ho ?hn ?hr ?_; (case ho => rfl); (case hg => rfl); (case hn => rfl); (case hr => first | (go_simp; done) | (go_simp; rfl)); intro w127 hw; have hg : wc.grownBy w127 (some go125) := (by rw [hw]; exact HP126.2); have hp_ : Kd.R (Kd.int .i64) 3 w127 w.heap.size (fun _ => True) (.slice (some ⟨go125, 0, none⟩) x0_114.length co7) y184 := (by rw [hw, Ny184.out]; exact HP126.1); clear HP126; have n0_ := aMk (hp_); have n1_ := aMk ((by rw [hw]; exact bSe (HB.out) GB125.out : Below w.heap.size w w127)); clear HO_0; clear HB; have HO_0 := n0_; have HB := n1_; clear n0_ n1_; clear hg hw hp_))
                                           (try simp only [← hl0_6, ← hl0_114])
                                           go_roundg kj114
                                           case measure => have := HK1.out; have := HK2.out; have := HK3.out; have := HK4.out; have := HK5.out; have := HK6.out; have := HJ114.out; omega
                                           case rel => exact ⟨(y184), (rd x0_114 x14_6), (wrap64 (x14_6 + 1)), (by first | rfl | (simp; done) | (simp [*]; done)), (by first | rfl | (simp; done) | (simp [*]; done)), H', ⟨by have := HK1.out; have := HK2.out; have := HK3.out; have := HK4.out; have := HK5.out; have := HK6.out; have := HJ114.out; omega⟩, ⟨by (try simp only [hl0_1]); (try simp only [hl0_2]); (try simp only [hl0_3]); (try simp only [hl0_4]); (try simp only [hl0_5]); (try simp only [hl0_6]); (try simp only [hl0_114]); (with_reducible repeat (first | apply Kd.R_alloc | apply Kd.R_drewN | apply Kd.R_drew)); exact HO_0.out⟩, ⟨by repeat (first | (with_reducible first | exact HB.out | apply bAl | apply bDn | apply bD1) | exact HB.out)⟩⟩
                                         · rw [if_neg c124] at H
                                           have c124b0 : ((rd x0_114 x14_6) == 0) = false := beq_eq_false_iff_ne.mpr c124
                                           have c124b1 : ((rd x0_114 x14_6) != 0) = true := bne_iff_ne.mpr c124
                                           have H' := aMk H
                                           clear H
                                           have p181 : 0 ≤ (x14_6 : Int) := oDt (by first | (with_reducible assumption) | assumption)
                                           have q181 : x14_6 < (x0_114.length : Int) := oDt (by first | (with_reducible assumption) | assumption)
                                           obtain ⟨ad181, e181, hx181_0⟩ := Kd.at_int (Kd.R_reads' HO_0.out).2.2 x14_6 p181 q181
                                           obtain rfl : ad178 = ad181 := (by injection e181)
                                           replace p181 := eq_true p181
                                           replace q181 := eq_true q181
                                           have p182 : 0 ≤ (x14_6 : Int) := oDt (by first | (with_reducible assumption) | assumption)
                                           have q182 : x14_6 < (x0_114.length : Int) := oDt (by first | (with_reducible assumption) | assumption)
                                           obtain ⟨ad182, e182, hx182_0⟩ := Kd.at_int (Kd.R_reads' HO_0.out).2.2 x14_6 p182 q182
                                           obtain rfl : ad178 = ad182 := (by injection e182)
                                           replace p182 := eq_true p182
                                           replace q182 := eq_true q182
                                           have p183 : 0 ≤ (x14_6 : Int) := oDt (by first | (with_reducible assumption) | assumption)
                                           have q183 : x14_6 < (x0_114.length : Int) := oDt (by first | (with_reducible assumption) | assumption)
                                           obtain ⟨ad183, e183, hx183_0⟩ := Kd.at_int (Kd.R_reads' HO_0.out).2.2 x14_6 p183 q183
                                           obtain rfl : ad178 = ad183 := (by injection e183)
                                           replace p183 := eq_true p183
                                           replace q183 := eq_true q183
                                           go_wp2
                                           (try simp only [← hl0_6, ← hl0_114])
                                           go_roundg kj114
                                           case measure => have := HK1.out; have := HK2.out; have := HK3.out; have := HK4.out; have := HK5.out; have := HK6.out; have := HJ114.out; omega
                                           case rel => exact ⟨(x0_114), (rd x0_114 x14_6), (wrap64 (x14_6 + 1)), (by first | rfl | (simp; done) | (simp [*]; done)), (by first | rfl | (simp; done) | (simp [*]; done)), H', ⟨by have := HK1.out; have := HK2.out; have := HK3.out; have := HK4.out; have := HK5.out; have := HK6.out; have := HJ114.out; omega⟩, ⟨by (try simp only [hl0_1]); (try simp only [hl0_2]); (try simp only [hl0_3]); (try simp only [hl0_4]); (try simp only [hl0_5]); (try simp only [hl0_6]); (try simp only [hl0_114]); (with_reducible repeat (first | apply Kd.R_alloc | apply Kd.R_drewN | apply Kd.R_drew)); exact HO_0.out⟩, ⟨by repeat (first | (with_reducible first | exact HB.out | apply bAl | apply bDn | apply bD1) | exact HB.out)⟩⟩
                                       · rw [if_neg c123] at H
                                         have c123b0 : ((rd x0_114 x14_6) == 3) = false := beq_eq_false_iff_ne.mpr c123
                                         have c123b1 : ((rd x0_114 x14_6) != 3) = true := bne_iff_ne.mpr c123
                                         have H' := aMk H
                                         clear H
                                         have p181 : 0 ≤ (x14_6 : Int) := oDt (by first | (with_reducible assumption) | assumption)
                                         have q181 : x14_6 < (x0_114.length : Int) := oDt (by first | (with_reducible assumption) | assumption)
                                         obtain ⟨ad181, e181, hx181_0⟩ := Kd.at_int (Kd.R_reads' HO_0.out).2.2 x14_6 p181 q181
                                         obtain rfl : ad178 = ad181 := (by injection e181)
                                         replace p181 := eq_true p181
                                         replace q181 := eq_true q181
                                         have p182 : 0 ≤ (x14_6 : Int) := oDt (by first | (with_reducible assumption) | assumption)
                                         have q182 : x14_6 < (x0_114.length : Int) := oDt (by first | (with_reducible assumption) | assumption)
                                         obtain ⟨ad182, e182, hx182_0⟩ := Kd.at_int (Kd.R_reads' HO_0.out).2.2 x14_6 p182 q182
                                         obtain rfl : ad178 = ad182 := (by injection e182)
                                         replace p182 := eq_true p182
                                         replace q182 := eq_true q182
                                         have p183 : 0 ≤ (x14_6 : Int) := oDt (by first | (with_reducible assumption) | assumption)
                                         have q183 : x14_6 < (x0_114.length : Int) := oDt (by first | (with_reducible assumption) | assumption)
                                         obtain ⟨ad183, e183, hx183_0⟩ := Kd.at_int (Kd.R_reads' HO_0.out).2.2 x14_6 p183 q183
                                         obtain rfl : ad178 = ad183 := (by injection e183)
                                         replace p183 := eq_true p183
                                         replace q183 := eq_true q183
                                         go_wp2
                                         (try simp only [← hl0_6, ← hl0_114])
                                         go_roundg kj114
                                         case measure => have := HK1.out; have := HK2.out; have := HK3.out; have := HK4.out; have := HK5.out; have := HK6.out; have := HJ114.out; omega
                                         case rel => exact ⟨(x0_114), (rd x0_114 x14_6), (wrap64 (x14_6 + 1)), (by first | rfl | (simp; done) | (simp [*]; done)), (by first | rfl | (simp; done) | (simp [*]; done)), H', ⟨by have := HK1.out; have := HK2.out; have := HK3.out; have := HK4.out; have := HK5.out; have := HK6.out; have := HJ114.out; omega⟩, ⟨by (try simp only [hl0_1]); (try simp only [hl0_2]); (try simp only [hl0_3]); (try simp only [hl0_4]); (try simp only [hl0_5]); (try simp only [hl0_6]); (try simp only [hl0_114]); (with_reducible repeat (first | apply Kd.R_alloc | apply Kd.R_drewN | apply Kd.R_drew)); exact HO_0.out⟩, ⟨by repeat (first | (with_reducible first | exact HB.out | apply bAl | apply bDn | apply bD1) | exact HB.out)⟩⟩
                                     · rw [if_neg c122] at H
                                       have c122b0 : decide ((rd x0_114 x14_6) ≤ 1) = false := decide_eq_false c122
                                       clear c122
                                       by_cases c128 : (rd x0_114 x14_6) = 3
                                       · rw [if_pos c128] at H
                                         have c128b0 : ((rd x0_114 x14_6) == 3) = true := beq_iff_eq.mpr c128
                                         have c128b1 : ((rd x0_114 x14_6) != 3) = false := bne_eq_false_iff_eq.mpr c128
                                         clear c128
                                         by_cases c129 : x6_6 = 0
                                         · rw [if_pos c129] at H
                                           have c129b0 : (x6_6 == 0) = true := beq_iff_eq.mpr c129
                                           have c129b1 : (x6_6 != 0) = false := bne_eq_false_iff_eq.mpr c129
                                           clear c129
                                           obtain ⟨y186, hy186⟩ : ∃ y_ : List Int, y_ = (x0_114.set (x14_6 : Int).toNat 0) := ⟨_, rfl⟩
                                           replace H : (spec_l14Weak.l7 kj114 y186 (y147.length : Int) x6_6 (wrap64 (x14_6 + 1))) = some r := by first | (rw [hy186]; with_reducible exact H) | (have H2_ := (Option.bind_some _ _).symm.trans H; rw [hy186]; with_reducible exact H2_) | (have H2_ := (Option.bind_some _ _).symm.trans H; with_reducible exact H2_) | with_reducible exact H | (rw [hy186]; exact H) | exact H
                                           have Ny186 := aMk hy186
                                           clear hy186
                                           have H' := aMk H
                                           clear H
                                           have p181 : 0 ≤ (x14_6 : Int) := oDt (by first | (with_reducible assumption) | assumption)
                                           have q181 : x14_6 < (x0_114.length : Int) := oDt (by first | (with_reducible assumption) | assumption)
                                           obtain ⟨ad181, e181, hx181_0⟩ := Kd.at_int (Kd.R_reads' HO_0.out).2.2 x14_6 p181 q181
                                           obtain rfl : ad178 = ad181 := (by injection e181)
                                           replace p181 := eq_true p181
                                           replace q181 := eq_true q181
                                           have p185 : 0 ≤ (x14_6 : Int) := oDt (by first | (with_reducible assumption) | assumption)
                                           have q185 : x14_6 < (x0_114.length : Int) := oDt (by first | (with_reducible assumption) | assumption)
                                           obtain ⟨ad185, e185, hx185_0⟩ := Kd.at_int (Kd.R_reads' HO_0.out).2.2 x14_6 p185 q185
                                           obtain rfl : ad178 = ad185 := (by injection e185)
                                           replace p185 := eq_true p185
                                           replace q185 := eq_true q185
                                           have p130 : 0 ≤ (x14_6 : Int) := oDt (by first | (with_reducible assumption) | assumption)
                                           have q130 : (x14_6 : Int) < ((x0_114.length : Int) : Int) := oDt (by first | (with_reducible assumption) | assumption)
                                           obtain ⟨go130, co130, eo130, gb130, gl130, cl130, HG130⟩ := Kd.R_form HO_0.out (by omega)
                                           (first | cases eo130 | (injection eo130 with ea_ en_ ec_; (first | subst ea_ | (injection ea_ with ea_; subst ea_)); subst ec_; clear en_))
                                           have GB130 := aMk gb130
                                           have GG130 := aMk HG130
                                           clear gb130 gl130 HG130
                                           (first | simp only [add_plain] at hx181_0 | skip)
                                           (first | simp only [add_plain] at hx182_0 | skip)
                                           (first | simp only [add_plain] at hx183_0 | skip)
                                           (first | simp only [add_plain] at hx185_0 | skip)
                                           obtain ⟨hx130_0, hf130_0⟩ := Kd.R_celln 0 HO_0.out (x14_6 : Int) p130 q130
                                           replace p130 := eq_true p130
                                           replace q130 := eq_true q130
                                           have HP131 := Kd.R_putg HO_0.out (x14_6 : Int) 0
                                           go_wp2_with (first | ((with_reducible refine gate_store (t := 3) (p := 233) rfl ?_); refine store_event (t := 3) (p := 233) (v := ?vo_w132) (w1 := (wc.setCell ⟨go130, (x14_6 : Int).toNat, none⟩ (.int .i64 0))) ?hg ?ho ?hn ?hr ?_; (case ho => rfl); (case hg => rfl); (case hn => rfl); (case hr => first | (go_simp; done) | (go_simp; rfl)); intro w132 hw; have hg : wc.grownBy w132 (some go130) := (by rw [hw]; exact HP131.2); have hp_ : Kd.R (Kd.int .i64) 3 w132 w.heap.size (fun _ => True) (.slice (some ⟨go130, 0, none⟩) x0_114.length co7) y186 := (by rw [hw, Ny186.out]; exact HP131.1); clear HP131; have n0_ := aMk (hp_); have n1_ := aMk ((by rw [hw]; exact bSe (HB.out) GB130.out : Below w.heap.size w w132)); clear HO_0; clear HB; have HO_0 := n0_; have HB := n1_; clear n0_ n1_; clear hg hw hp_))
                                           (try simp only [← hl0_6, ← hl0_114])
                                           go_roundg kj114
                                           case measure => have := HK1.out; have := HK2.out; have := HK3.out; have := HK4.out; have := HK5.out; have := HK6.out; have := HJ114.out; omega
                                           case rel => exact ⟨(y186), (x6_6), (wrap64 (x14_6 + 1)), (by first | rfl | (simp; done) | (simp [*]; done)), (by first | rfl | (simp; done) | (simp [*]; done)), H', ⟨by have := HK1.out; have := HK2.out; have := HK3.out; have := HK4.out; have := HK5.out; have := HK6.out; have := HJ114.out; omega⟩, ⟨by (try simp only [hl0_1]); (try simp only [hl0_2]); (try simp only [hl0_3]); (try simp only [hl0_4]); (try simp only [hl0_5]); (try simp only [hl0_6]); (try simp only [hl0_114]); (with_reducible repeat (first | apply Kd.R_alloc | apply Kd.R_drewN | apply Kd.R_drew)); exact HO_0.out⟩, ⟨by repeat (first | (with_reducible first | exact HB.out | apply bAl | apply bDn | apply bD1) | exact HB.out)⟩⟩
                                         · rw [if_neg c129] at H
                                           have c129b0 : (x6_6 == 0) = false := beq_eq_false_iff_ne.mpr c129
                                           have c129b1 : (x6_6 != 0) = true := bne_iff_ne.mpr c129
                                           have H' := aMk H
                                           clear H
                                           have p181 : 0 ≤ (x14_6 : Int) := oDt (by first | (with_reducible assumption) | assumption)
                                           have q181 : x14_6 < (x0_114.length : Int) := oDt (by first | (with_reducible assumption) | assumption)
                                           obtain ⟨ad181, e181, hx181_0⟩ := Kd.at_int (Kd.R_reads' HO_0.out).2.2 x14_6 p181 q181
                                           obtain rfl : ad178 = ad181 := (by injection e181)
                                           replace p181 := eq_true p181
                                           replace q181 := eq_true q181
                                           have p185 : 0 ≤ (x14_6 : Int) := oDt (by first | (with_reducible assumption) | assumption)
                                           have q185 : x14_6 < (x0_114.length : Int) := oDt (by first | (with_reducible assumption) | assumption)
                                           obtain ⟨ad185, e185, hx185_0⟩ := Kd.at_int (Kd.R_reads' HO_0.out).2.2 x14_6 p185 q185
                                           obtain rfl : ad178 = ad185 := (by injection e185)
                                           replace p185 := eq_true p185
                                           replace q185 := eq_true q185
                                           go_wp2
                                           (try simp only [← hl0_6, ← hl0_114])
                                           go_roundg kj114
                                           case measure => have := HK1.out; have := HK2.out; have := HK3.out; have := HK4.out; have := HK5.out; have := HK6.out; have := HJ114.out; omega
                                           case rel => exact ⟨(x0_114), (x6_6), (wrap64 (x14_6 + 1)), (by first | rfl | (simp; done) | (simp [*]; done)), (by first | rfl | (simp; done) | (simp [*]; done)), H', ⟨by have := HK1.out; have := HK2.out; have := HK3.out; have := HK4.out; have := HK5.out; have := HK6.out; have := HJ114.out; omega⟩, ⟨by (try simp only [hl0_1]); (try simp only [hl0_2]); (try simp only [hl0_3]); (try simp only [hl0_4]); (try simp only [hl0_5]); (try simp only [hl0_6]); (try simp only [hl0_114]); (with_reducible repeat (first | apply Kd.R_alloc | apply Kd.R_drewN | apply Kd.R_drew)); exact HO_0.out⟩, ⟨by repeat (first | (with_reducible first | exact HB.out | apply bAl | apply bDn | apply bD1) | exact HB.out)⟩⟩
                                       · rw [if_neg c128] at H
                                         have c128b0 : ((rd x0_114 x14_6) == 3) = false := beq_eq_false_iff_ne.mpr c128
                                         have c128b1 : ((rd x0_114 x14_6) != 3) = true := bne_iff_ne.mpr c128
                                         have H' := aMk H
                                         clear H
                                         have p181 : 0 ≤ (x14_6 : Int) := oDt (by first | (with_reducible assumption) | assumption)
                                         have q181 : x14_6 < (x0_114.length : Int) := oDt (by first | (with_reducible assumption) | assumption)
                                         obtain ⟨ad181, e181, hx181_0⟩ := Kd.at_int (Kd.R_reads' HO_0.out).2.2 x14_6 p181 q181
                                         obtain rfl : ad178 = ad181 := (by injection e181)
                                         replace p181 := eq_true p181
                                         replace q181 := eq_true q181
                                         have p185 : 0 ≤ (x14_6 : Int) := oDt (by first | (with_reducible assumption) | assumption)
                                         have q185 : x14_6 < (x0_114.length : Int) := oDt (by first | (with_reducible assumption) | assumption)
                                         obtain ⟨ad185, e185, hx185_0⟩ := Kd.at_int (Kd.R_reads' HO_0.out).2.2 x14_6 p185 q185
                                         obtain rfl : ad178 = ad185 := (by injection e185)
                                         replace p185 := eq_true p185
                                         replace q185 := eq_true q185
                                         go_wp2
                                         (try simp only [← hl0_6, ← hl0_114])
                                         go_roundg kj114
                                         case measure => have := HK1.out; have := HK2.out; have := HK3.out; have := HK4.out; have := HK5.out; have := HK6.out; have := HJ114.out; omega
                                         case rel => exact ⟨(x0_114), (x6_6), (wrap64 (x14_6 + 1)), (by first | rfl | (simp; done) | (simp [*]; done)), (by first | rfl | (simp; done) | (simp [*]; done)), H', ⟨by have := HK1.out; have := HK2.out; have := HK3.out; have := HK4.out; have := HK5.out; have := HK6.out; have := HJ114.out; omega⟩, ⟨by (try simp only [hl0_1]); (try simp only [hl0_2]); (try simp only [hl0_3]); (try simp only [hl0_4]); (try simp only [hl0_5]); (try simp only [hl0_6]); (try simp only [hl0_114]); (with_reducible repeat (first | apply Kd.R_alloc | apply Kd.R_drewN | apply Kd.R_drew)); exact HO_0.out⟩, ⟨by repeat (first | (with_reducible first | exact HB.out | apply bAl | apply bDn | apply bD1) | exact HB.out)⟩⟩
                                   · rw [if_neg c121] at H
                                     exact absurd H (by simp)
                                 · rw [if_neg c120] at H
                                   exact absurd H (by simp)
                             · rw [if_neg c113] at H
                               exact absurd H (by simp)
                           · rw [if_neg c112] at H
                             exact absurd H (by simp)
                         · rw [if_neg c111] at H
                           have c111b0 : decide (x14_6 < (y147.length : Int)) = false := decide_eq_false c111
                           (try rw [hl0_1] at c111b0)
                           (try rw [hl0_114] at c111b0)
                           (try rw [hl0_2] at c111b0)
                           (try rw [hl0_3] at c111b0)
                           (try rw [hl0_4] at c111b0)
                           (try rw [hl0_5] at c111b0)
                           (try rw [hl0_6] at c111b0)
                           (try rw [hl0_8] at c111b0)
                           clear c111
                           obtain rfl := Option.some.inj H
                           go_wp2
                           go_ret
                           exact ⟨_, by first | rfl | (simp [errW_none, errW_some] <;> rfl) | (simp [*, errW_none, errW_some] <;> rfl), by (with_reducible repeat (first | apply Kd.R_alloc | apply Kd.R_drewN | apply Kd.R_drew)); exact HO_0.out, by repeat (first | (with_reducible first | exact HB.out | apply bAl | apply bDn | apply bD1) | exact HB.out)⟩
 · rw [if_neg c3] at H
   exact absurd H (by simp)
end Go.Proofs.Ytpknhndanbgkmaa.MFnLevels
