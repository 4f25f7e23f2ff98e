-- Written by this session's own program (wip/gen/myprint.py).
import Derived.Test.YtmffcjjodkggcaaMFnExactFeedMorex0
import Derived.Test.YtmffcjjodkggcaaMFnExactFeedMorex7
import Derived.Test.YtmffcjjodkggcaaMFnExactFeedMorex8
namespace Go.Proofs.Ytmffcjjodkggcaa.MFnExactFeedMore
open Go.RowKit Go.Proofs.YtmffcjjodkggcaaW.PrintWords Go.Proofs.YtmffcjjodkggcaaW.PrintLast Go.Proofs.YtmffcjjodkggcaaW.PrintMore
attribute [local go_sem] max2_int min2_int max_two min_two max_three min_three max_four min_four   -- for this text's walks alone
set_option linter.unusedVariables false
set_option linter.unusedSimpArgs false
mutual
def spec_l1Begins.j0 : Nat → List Int → List Int → Bool → Option (Bool)
 | 0, _, _, _ => none
 | k + 1, x0, x1, x15 => if x15 = true then (some false) else (spec_l1Begins.l0 k x0 x1 0)
def spec_l1Begins.l0 : Nat → List Int → List Int → Int → Option (Bool)
 | 0, _, _, _ => none
 | k + 1, x0, x1, x5 => if x5 < (x1.length : Int) then (if 0 ≤ x5 then (if x5 < (x0.length : Int) then (if (rd x0 x5) = (rd x1 x5) then (spec_l1Begins.l0 k x0 x1 (wrap64 (x5 + 1))) else (some false)) else (none)) else (none)) else (some true)
end
def spec_l1Begins.f (k : Nat) (l0 : List Int) (l1 : List Int) : Option (Bool) := if (l1.length : Int) = 0 then (spec_l1Begins.j0 k l0 l1 true) else (spec_l1Begins.j0 k l0 l1 (decide ((l0.length : Int) < (l1.length : Int))))
set_option maxHeartbeats 8000000 in
set_option maxRecDepth 100000 in
theorem spec_l1Begins.calls (k : Nat) (A0 : Option Addr) (c0 : Nat) (l0 : List Int) (A1 : Option Addr) (c1 : Nat) (l1 : List Int) (r : Bool) (w : World) (hr0 : Kd.C (Kd.int .u8) w A0 l0.length l0) (hc0 : l0.length ≤ c0) (hr1 : Kd.C (Kd.int .u8) w A1 l1.length l1) (hc1 : l1.length ≤ c1) (h : spec_l1Begins.f k l0 l1 = some r) :
 Calls Try.prog 64 #[.slice A0 l0.length c0, .slice A1 l1.length c1] w fun e w' => e = .returned (.bool r) ∧ Drawn0 w w' := by
 have HR0 := aMk hr0
 have HC0 := aMk hc0
 clear hr0 hc0
 have HR1 := aMk hr1
 have HC1 := aMk hc1
 clear hr1 hc1
 have H : (if (l1.length : Int) = 0 then (spec_l1Begins.j0 k l0 l1 true) else (spec_l1Begins.j0 k l0 l1 (decide ((l0.length : Int) < (l1.length : Int))))) = some r := h
 clear h
 have HC3 := aMk H
 clear H
 go_enter Try.func64, Try.ntmps64
 go_upto_region 1 with (fail)
 repeat (go_quiet (fail); go_upto_region 1 with (fail))
 go_cut [15] (fun v15 wc => ∃ (kq : Nat) (x15_2 : Bool), v15 = .bool x15_2 ∧ Aside0 (spec_l1Begins.j0 kq l0 l1 x15_2 = some r) ∧ Aside0 (kq ≤ k) ∧ Drawn0 w wc)
 case first =>
  have H := HC3.out
  clear HC3
  by_cases c4 : (l1.length : Int) = 0
  · rw [if_pos c4] at H
    have c4b0 : ((l1.length : Int) == 0) = true := beq_iff_eq.mpr c4
    have c4b1 : ((l1.length : Int) != 0) = false := bne_eq_false_iff_eq.mpr c4
    clear c4
    (first | rw [c4b0] | (simp only [i64_w, i32_w]; rw [c4b0]) | skip)
    have H' := aMk H
    clear H
    go_wp2
    repeat (go_quiet (fail); try go_wp2)
    go_meet
    case rel => exact ⟨_, (true), (by first | rfl | (simp; done) | (simp [*]; done)), H', ⟨by first | omega | exact Nat.le_refl _⟩, by repeat (first | exact Drawn0.refl _ | apply Drawn0.step)⟩
  · rw [if_neg c4] at H
    have c4b0 : ((l1.length : Int) == 0) = false := beq_eq_false_iff_ne.mpr c4
    have c4b1 : ((l1.length : Int) != 0) = true := bne_iff_ne.mpr c4
    have c4b2 : ¬ (l1 = []) := fun h_ => c4 (by rw [h_]; rfl)
    (first | rw [c4b0] | (simp only [i64_w, i32_w]; rw [c4b0]) | skip)
    have H' := aMk H
    clear H
    go_wp2
    repeat (go_quiet (fail); try go_wp2)
    go_meet
    case rel => exact ⟨_, (decide ((l0.length : Int) < (l1.length : Int))), (by first | rfl | (simp; done) | (simp [*]; done)), H', ⟨by first | omega | exact Nat.le_refl _⟩, by repeat (first | exact Drawn0.refl _ | apply Drawn0.step)⟩
 case rest =>
  clear HC3
  try clear c1
  try clear p2
  try clear c4
  try clear c4b0
  try clear c4b1
  try clear c4b2
  obtain ⟨kq, x15_2, rfl, HA, HJ2, ⟨mc2, rfl⟩⟩ := hcut
  cases kq with
  | zero => exact absurd HA.out (by simp [spec_l1Begins.j0])
  | succ kj2 =>
   have H := HA.out
   clear HA
   simp only [spec_l1Begins.j0] at H
   by_cases c5 : x15_2 = true
   · subst c5
     have H1 : (some false) = some r := by rw [if_pos rfl] at H; exact H
     clear H
     have H := H1
     clear H1
     obtain rfl := Option.some.inj H
     go_wp2
     repeat (go_quiet (fail); try go_wp2)
     go_ret
     exact ⟨by first | rfl | (simp; done) | (simp [*]; done), by repeat (first | exact Drawn0.refl _ | apply Drawn0.step)⟩
   · replace c5 := Bool.eq_false_iff.mpr c5
     subst c5
     have H1 : (spec_l1Begins.l0 kj2 l0 l1 0) = some r := by rw [if_neg (show ¬ (false = true) by decide)] at H; exact H
     clear H
     have H := H1
     clear H1
     have H' := aMk H
     clear H
     go_wp2
     repeat (go_quiet (fail); try go_wp2)
     go_loopg [5] kj2 (fun kq v5 w' => ∃ (x5_2 : Int), v5 = .int .i64 x5_2 ∧ Aside0 (spec_l1Begins.l0 kq l0 l1 x5_2 = some r) ∧ Aside0 (kq ≤ kj2) ∧ Drawn0 w w')
     case atStart => exact ⟨(0), (by first | rfl | (simp; done) | (simp [*]; done)), H', ⟨Nat.le_refl _⟩, by repeat (first | exact Drawn0.refl _ | apply Drawn0.step)⟩
     case round =>
      clear H'
      try clear c1
      try clear c2
      try clear p2
      try clear c4
      try clear c4b0
      try clear c4b1
      try clear c4b2
      try clear c5
      try clear p2
      obtain ⟨x5_2, rfl, HA, HK2, ⟨m2, rfl⟩⟩ := hrel
      cases gk with
      | zero => exact absurd HA.out (by simp [spec_l1Begins.l0])
      | succ k2 =>
       have H := HA.out
       clear HA
       simp only [spec_l1Begins.l0] at H
       by_cases c6 : x5_2 < (l1.length : Int)
       · rw [if_pos c6] at H
         have c6b0 : decide (x5_2 < (l1.length : Int)) = true := decide_eq_true c6
         clear c6
         by_cases c7 : 0 ≤ x5_2
         · rw [if_pos c7] at H
           have c7b0 : decide (0 ≤ x5_2) = true := decide_eq_true c7
           clear c7
           by_cases c8 : x5_2 < (l0.length : Int)
           · rw [if_pos c8] at H
             have c8b0 : decide (x5_2 < (l0.length : Int)) = true := decide_eq_true c8
             clear c8
             by_cases c9 : (rd l0 x5_2) = (rd l1 x5_2)
             · rw [if_pos c9] at H
               have c9b0 : ((rd l0 x5_2) == (rd l1 x5_2)) = true := beq_iff_eq.mpr c9
               have c9b1 : ((rd l0 x5_2) != (rd l1 x5_2)) = false := bne_eq_false_iff_eq.mpr c9
               clear c9
               have H' := aMk H
               clear H
               have p246 : 0 ≤ (x5_2 : Int) := oDt (by first | (with_reducible assumption) | assumption)
               have q246 : x5_2 < (l0.length : Int) := oDt (by first | (with_reducible assumption) | assumption)
               obtain ⟨ad246, e246, hx246_0⟩ := Kd.at_int HR0.out x5_2 p246 q246
               cases e246
               replace p246 := eq_true p246
               replace q246 := eq_true q246
               have p247 : 0 ≤ (x5_2 : Int) := oDt (by first | (with_reducible assumption) | assumption)
               have q247 : x5_2 < (l1.length : Int) := oDt (by first | (with_reducible assumption) | assumption)
               obtain ⟨ad247, e247, hx247_0⟩ := Kd.at_int HR1.out x5_2 p247 q247
               cases e247
               replace p247 := eq_true p247
               replace q247 := eq_true q247
               go_wp2
               repeat (go_quiet (fail); try go_wp2)
               go_roundg k2
               case measure => have := HJ2.out; have := HK2.out; omega
               case rel => exact ⟨(wrap64 (x5_2 + 1)), (by first | rfl | (simp; done) | (simp [*]; done)), H', ⟨by have := HJ2.out; have := HK2.out; omega⟩, by repeat (first | exact Drawn0.refl _ | apply Drawn0.step)⟩
             · rw [if_neg c9] at H
               have c9b0 : ((rd l0 x5_2) == (rd l1 x5_2)) = false := beq_eq_false_iff_ne.mpr c9
               have c9b1 : ((rd l0 x5_2) != (rd l1 x5_2)) = true := bne_iff_ne.mpr c9
               obtain rfl := Option.some.inj H
               have p246 : 0 ≤ (x5_2 : Int) := oDt (by first | (with_reducible assumption) | assumption)
               have q246 : x5_2 < (l0.length : Int) := oDt (by first | (with_reducible assumption) | assumption)
               obtain ⟨ad246, e246, hx246_0⟩ := Kd.at_int HR0.out x5_2 p246 q246
               cases e246
               replace p246 := eq_true p246
               replace q246 := eq_true q246
               have p247 : 0 ≤ (x5_2 : Int) := oDt (by first | (with_reducible assumption) | assumption)
               have q247 : x5_2 < (l1.length : Int) := oDt (by first | (with_reducible assumption) | assumption)
               obtain ⟨ad247, e247, hx247_0⟩ := Kd.at_int HR1.out x5_2 p247 q247
               cases e247
               replace p247 := eq_true p247
               replace q247 := eq_true q247
               go_wp2
               repeat (go_quiet (fail); try go_wp2)
               go_ret
               exact ⟨by first | rfl | (simp; done) | (simp [*]; done), by repeat (first | exact Drawn0.refl _ | apply Drawn0.step)⟩
           · rw [if_neg c8] at H
             exact absurd H (by simp)
         · rw [if_neg c7] at H
           exact absurd H (by simp)
       · rw [if_neg c6] at H
         have c6b0 : decide (x5_2 < (l1.length : Int)) = false := decide_eq_false c6
         clear c6
         obtain rfl := Option.some.inj H
         go_wp2
         repeat (go_quiet (fail); try go_wp2)
         go_ret
         exact ⟨by first | rfl | (simp; done) | (simp [*]; done), by repeat (first | exact Drawn0.refl _ | apply Drawn0.step)⟩
def spec_l1Mark.f (a0 : Int) : Option (List Int) := if a0 = 0 then (some (([239, 187, 191] : List Int))) else (if a0 = 1 then (some (([255, 254] : List Int))) else (if a0 = 2 then (some (([254, 255] : List Int))) else (some (([] : List Int)))))
set_option maxHeartbeats 8000000 in
set_option maxRecDepth 100000 in
theorem spec_l1Mark.calls (a0 : Int) (r : List Int) (w : World) (h : spec_l1Mark.f a0 = some r) :
 Calls Try.prog 65 #[.int .i64 a0] w fun e w' => ∃ v0_ : Value, e = .returned (v0_) ∧ Kd.R (Kd.int .u8) 5 w' w.heap.size (fun _ => True) v0_ r ∧ Below w.heap.size w w' := by
 have HB := aMk (Below.refl w.heap.size w)
 have H : (if a0 = 0 then (some (([239, 187, 191] : List Int))) else (if a0 = 1 then (some (([255, 254] : List Int))) else (if a0 = 2 then (some (([254, 255] : List Int))) else (some (([] : List Int)))))) = some r := h
 clear h
 by_cases c2 : a0 = 0
 · rw [if_pos c2] at H
   have c2b0 : (a0 == 0) = true := beq_iff_eq.mpr c2
   have c2b1 : (a0 != 0) = false := bne_eq_false_iff_eq.mpr c2
   clear c2
   obtain ⟨y248, hy248⟩ : ∃ y_ : List Int, y_ = (([239, 187, 191] : List Int)) := ⟨_, rfl⟩
   replace H : (some y248) = some r := by first | (rw [hy248]; with_reducible exact H) | (have H2_ := (Option.bind_some _ _).symm.trans H; rw [hy248]; with_reducible exact H2_) | (have H2_ := (Option.bind_some _ _).symm.trans H; with_reducible exact H2_) | with_reducible exact H | (rw [hy248]; exact H) | exact H
   have Ny248 := aMk hy248
   clear hy248
   obtain rfl := Option.some.inj H
   go_enter Try.func65, Try.ntmps65
   go_wp2_with (first | ((with_reducible refine gate_dst (N := 6) rfl ?_); refine Kd.R_lit (Kd.int .u8) _ 5 ?hg (N := 6) ?hd (xs := ([239, 187, 191] : List Int)) (inner := [.int .u8 239, .int .u8 187, .int .u8 191]) (ok := fun _ => True) (okp := fun _ => True) ?hr ?hp (fun _ hk => hk) trivial (Below.refl _ _) (Nat.le_refl _) (by simp) ?_; (case hd => rfl); (case hg => rfl); (case hr => first | (go_simp; done) | (go_simp; rfl)); (case hp => exact (Reps.one (show Kd.M (Kd.int .u8) _ _ _ 239 [.int .u8 239] from rfl) (Reps.one (show Kd.M (Kd.int .u8) _ _ _ 187 [.int .u8 187] from rfl) (Reps.one (show Kd.M (Kd.int .u8) _ _ _ 191 [.int .u8 191] from rfl) (Reps.none _ _))))); intro v249 w3 ho4 hb hg_ hnew_; clear hg_ hnew_; (first | rw [← Ny248.out] at ho4 | (simp only [Int.reduceToNat] at ho4; rw [← Ny248.out] at ho4)); have n0_ := aMk (Kd.R_lower ho4 (below_size (by repeat (first | (with_reducible first | exact HB.out | apply bAl | apply bDn | apply bD1) | exact HB.out)))); have n1_ := aMk (below_step (by repeat (first | (with_reducible first | exact HB.out | apply bAl | apply bDn | apply bD1) | exact HB.out)) hb); clear HB; have HO250 := n0_; have HB := n1_; clear n0_ n1_; clear hb ho4))
   go_ret
   exact ⟨_, by first | rfl | (simp [errW_none, errW_some] <;> rfl) | (simp [*, errW_none, errW_some] <;> rfl), by (with_reducible repeat (first | apply Kd.R_alloc | apply Kd.R_drewN | apply Kd.R_drew)); exact HO250.out, by repeat (first | (with_reducible first | exact HB.out | apply bAl | apply bDn | apply bD1) | exact HB.out)⟩
 · rw [if_neg c2] at H
   have c2b0 : (a0 == 0) = false := beq_eq_false_iff_ne.mpr c2
   have c2b1 : (a0 != 0) = true := bne_iff_ne.mpr c2
   by_cases c5 : a0 = 1
   · rw [if_pos c5] at H
     have c5b0 : (a0 == 1) = true := beq_iff_eq.mpr c5
     have c5b1 : (a0 != 1) = false := bne_eq_false_iff_eq.mpr c5
     clear c5
     obtain ⟨y251, hy251⟩ : ∃ y_ : List Int, y_ = (([255, 254] : List Int)) := ⟨_, rfl⟩
     replace H : (some y251) = some r := by first | (rw [hy251]; with_reducible exact H) | (have H2_ := (Option.bind_some _ _).symm.trans H; rw [hy251]; with_reducible exact H2_) | (have H2_ := (Option.bind_some _ _).symm.trans H; with_reducible exact H2_) | with_reducible exact H | (rw [hy251]; exact H) | exact H
     have Ny251 := aMk hy251
     clear hy251
     obtain rfl := Option.some.inj H
     go_enter Try.func65, Try.ntmps65
     go_wp2_with (first | ((with_reducible refine gate_dst (N := 9) rfl ?_); refine Kd.R_lit (Kd.int .u8) _ 5 ?hg (N := 9) ?hd (xs := ([255, 254] : List Int)) (inner := [.int .u8 255, .int .u8 254]) (ok := fun _ => True) (okp := fun _ => True) ?hr ?hp (fun _ hk => hk) trivial (Below.refl _ _) (Nat.le_refl _) (by simp) ?_; (case hd => rfl); (case hg => rfl); (case hr => first | (go_simp; done) | (go_simp; rfl)); (case hp => exact (Reps.one (show Kd.M (Kd.int .u8) _ _ _ 255 [.int .u8 255] from rfl) (Reps.one (show Kd.M (Kd.int .u8) _ _ _ 254 [.int .u8 254] from rfl) (Reps.none _ _)))); intro v252 w6 ho7 hb hg_ hnew_; clear hg_ hnew_; (first | rw [← Ny251.out] at ho7 | (simp only [Int.reduceToNat] at ho7; rw [← Ny251.out] at ho7)); have n0_ := aMk (Kd.R_lower ho7 (below_size (by repeat (first | (with_reducible first | exact HB.out | apply bAl | apply bDn | apply bD1) | exact HB.out)))); have n1_ := aMk (below_step (by repeat (first | (with_reducible first | exact HB.out | apply bAl | apply bDn | apply bD1) | exact HB.out)) hb); clear HB; have HO253 := n0_; have HB := n1_; clear n0_ n1_; clear hb ho7))
     go_ret
     exact ⟨_, by first | rfl | (simp [errW_none, errW_some] <;> rfl) | (simp [*, errW_none, errW_some] <;> rfl), by (with_reducible repeat (first | apply Kd.R_alloc | apply Kd.R_drewN | apply Kd.R_drew)); exact HO253.out, by repeat (first | (with_reducible first | exact HB.out | apply bAl | apply bDn | apply bD1) | exact HB.out)⟩
   · rw [if_neg c5] at H
     have c5b0 : (a0 == 1) = false := beq_eq_false_iff_ne.mpr c5
     have c5b1 : (a0 != 1) = true := bne_iff_ne.mpr c5
     by_cases c8 : a0 = 2
     · rw [if_pos c8] at H
       have c8b0 : (a0 == 2) = true := beq_iff_eq.mpr c8
       have c8b1 : (a0 != 2) = false := bne_eq_false_iff_eq.mpr c8
       clear c8
       obtain ⟨y254, hy254⟩ : ∃ y_ : List Int, y_ = (([254, 255] : List Int)) := ⟨_, rfl⟩
       replace H : (some y254) = some r := by first | (rw [hy254]; with_reducible exact H) | (have H2_ := (Option.bind_some _ _).symm.trans H; rw [hy254]; with_reducible exact H2_) | (have H2_ := (Option.bind_some _ _).symm.trans H; with_reducible exact H2_) | with_reducible exact H | (rw [hy254]; exact H) | exact H
       have Ny254 := aMk hy254
       clear hy254
       obtain rfl := Option.some.inj H
       go_enter Try.func65, Try.ntmps65
       go_wp2_with (first | ((with_reducible refine gate_dst (N := 12) rfl ?_); refine Kd.R_lit (Kd.int .u8) _ 5 ?hg (N := 12) ?hd (xs := ([254, 255] : List Int)) (inner := [.int .u8 254, .int .u8 255]) (ok := fun _ => True) (okp := fun _ => True) ?hr ?hp (fun _ hk => hk) trivial (Below.refl _ _) (Nat.le_refl _) (by simp) ?_; (case hd => rfl); (case hg => rfl); (case hr => first | (go_simp; done) | (go_simp; rfl)); (case hp => exact (Reps.one (show Kd.M (Kd.int .u8) _ _ _ 254 [.int .u8 254] from rfl) (Reps.one (show Kd.M (Kd.int .u8) _ _ _ 255 [.int .u8 255] from rfl) (Reps.none _ _)))); intro v255 w9 ho10 hb hg_ hnew_; clear hg_ hnew_; (first | rw [← Ny254.out] at ho10 | (simp only [Int.reduceToNat] at ho10; rw [← Ny254.out] at ho10)); have n0_ := aMk (Kd.R_lower ho10 (below_size (by repeat (first | (with_reducible first | exact HB.out | apply bAl | apply bDn | apply bD1) | exact HB.out)))); have n1_ := aMk (below_step (by repeat (first | (with_reducible first | exact HB.out | apply bAl | apply bDn | apply bD1) | exact HB.out)) hb); clear HB; have HO256 := n0_; have HB := n1_; clear n0_ n1_; clear hb ho10))
       go_ret
       exact ⟨_, by first | rfl | (simp [errW_none, errW_some] <;> rfl) | (simp [*, errW_none, errW_some] <;> rfl), by (with_reducible repeat (first | apply Kd.R_alloc | apply Kd.R_drewN | apply Kd.R_drew)); exact HO256.out, by repeat (first | (with_reducible first | exact HB.out | apply bAl | apply bDn | apply bD1) | exact HB.out)⟩
     · rw [if_neg c8] at H
       have c8b0 : (a0 == 2) = false := beq_eq_false_iff_ne.mpr c8
       have c8b1 : (a0 != 2) = true := bne_iff_ne.mpr c8
       obtain ⟨y257, hy257⟩ : ∃ y_ : List Int, y_ = (([] : List Int)) := ⟨_, rfl⟩
       replace H : (some y257) = some r := by first | (rw [hy257]; with_reducible exact H) | (have H2_ := (Option.bind_some _ _).symm.trans H; rw [hy257]; with_reducible exact H2_) | (have H2_ := (Option.bind_some _ _).symm.trans H; with_reducible exact H2_) | with_reducible exact H | (rw [hy257]; exact H) | exact H
       have Ny257 := aMk hy257
       clear hy257
       obtain rfl := Option.some.inj H
       go_enter Try.func65, Try.ntmps65
       go_wp2_with (first | ((with_reducible refine gate_dst (N := 13) rfl ?_); refine Kd.R_lit (Kd.int .u8) _ 5 ?hg (N := 13) ?hd (xs := ([] : List Int)) (inner := []) (ok := fun _ => True) (okp := fun _ => True) ?hr ?hp (fun _ hk => hk) trivial (Below.refl _ _) (Nat.le_refl _) (by simp) ?_; (case hd => rfl); (case hg => rfl); (case hr => first | (go_simp; done) | (go_simp; rfl)); (case hp => exact (Reps.none _ _)); intro v258 w11 ho12 hb hg_ hnew_; clear hg_ hnew_; (first | rw [← Ny257.out] at ho12 | (simp only [Int.reduceToNat] at ho12; rw [← Ny257.out] at ho12)); have n0_ := aMk (Kd.R_lower ho12 (below_size (by repeat (first | (with_reducible first | exact HB.out | apply bAl | apply bDn | apply bD1) | exact HB.out)))); have n1_ := aMk (below_step (by repeat (first | (with_reducible first | exact HB.out | apply bAl | apply bDn | apply bD1) | exact HB.out)) hb); clear HB; have HO259 := n0_; have HB := n1_; clear n0_ n1_; clear hb ho12))
       go_ret
       exact ⟨_, by first | rfl | (simp [errW_none, errW_some] <;> rfl) | (simp [*, errW_none, errW_some] <;> rfl), by (with_reducible repeat (first | apply Kd.R_alloc | apply Kd.R_drewN | apply Kd.R_drew)); exact HO259.out, by repeat (first | (with_reducible first | exact HB.out | apply bAl | apply bDn | apply bD1) | exact HB.out)⟩
def spec_l1Unmarked.f (k : Nat) (l0 : List Int) (a1 : Int) : Option (List Int) := (spec_l1Mark.f a1).bind fun t260 => ((spec_l1Begins.f k l0 t260).bind fun t263 => (if t263 = true then ((spec_l1Mark.f a1).bind fun t264 => (if 0 ≤ (t264.length : Int) then (if (t264.length : Int) ≤ (l0.length : Int) then (some (l0.drop ((t264.length : Int) : Int).toNat)) else (none)) else (none))) else (some l0)))
set_option maxHeartbeats 8000000 in
set_option maxRecDepth 100000 in
theorem spec_l1Unmarked.calls (k : Nat) (P0_ : Nat → Prop) (u9000_ : Value) (l0 : List Int) (a1 : Int) (r : List Int) (w0 w : World) (hB : Below w0.heap.size w0 w) (ho0 : Kd.R (Kd.int .u8) 5 w w0.heap.size P0_ u9000_ l0) (h : spec_l1Unmarked.f k l0 a1 = some r) :
 Calls Try.prog 44 #[u9000_, .int .i64 a1] w fun e w' => ∃ v0_ : Value, e = .returned (v0_) ∧ Kd.Q (Kd.int .u8) 5 w' w0.heap.size (fun k_ => (P0_ k_ ∨ w.heap.size ≤ k_)) v0_ r ∧ Below w0.heap.size w0 w' ∧ Kept w w' (fun k_ => P0_ k_) := by
 have HO0 := aMk (show Kd.R (Kd.int .u8) 5 w w0.heap.size (fun k_ => (P0_ k_ ∨ w.heap.size ≤ k_)) u9000_ l0 from Kd.R_mono ho0 (fun k_ hk => (.inl hk)))
 have HK := aMk (Kept.refl w (fun k_ => P0_ k_))
 have HW0 := aMk hB.size
 have HB := aMk hB
 clear hB
 have H : ((spec_l1Mark.f a1).bind fun t260 => ((spec_l1Begins.f k l0 t260).bind fun t263 => (if t263 = true then ((spec_l1Mark.f a1).bind fun t264 => (if 0 ≤ (t264.length : Int) then (if (t264.length : Int) ≤ (l0.length : Int) then (some (l0.drop ((t264.length : Int) : Int).toNat)) else (none)) else (none))) else (some l0)))) = some r := h
 clear h
 replace H := oBm H
 obtain ⟨t260, A30, H⟩ := H
 replace H : ((spec_l1Begins.f k l0 t260).bind fun t263 => (if t263 = true then ((spec_l1Mark.f a1).bind fun t264 => (if 0 ≤ (t264.length : Int) then (if (t264.length : Int) ≤ (l0.length : Int) then (some (l0.drop ((t264.length : Int) : Int).toNat)) else (none)) else (none))) else (some l0))) = some r := H
 have A3 := aMk A30
 clear A30
 replace H := oBm H
 obtain ⟨t263, A40, H⟩ := H
 replace H : (if t263 = true then ((spec_l1Mark.f a1).bind fun t264 => (if 0 ≤ (t264.length : Int) then (if (t264.length : Int) ≤ (l0.length : Int) then (some (l0.drop ((t264.length : Int) : Int).toNat)) else (none)) else (none))) else (some l0)) = some r := H
 have A4 := aMk A40
 clear A40
 by_cases c5 : t263 = true
 · subst c5
   have H1 : ((spec_l1Mark.f a1).bind fun t264 => (if 0 ≤ (t264.length : Int) then (if (t264.length : Int) ≤ (l0.length : Int) then (some (l0.drop ((t264.length : Int) : Int).toNat)) else (none)) else (none))) = some r := by rw [if_pos rfl] at H; exact H
   clear H
   have H := H1
   clear H1
   replace H := oBm H
   obtain ⟨t264, A60, H⟩ := H
   replace H : (if 0 ≤ (t264.length : Int) then (if (t264.length : Int) ≤ (l0.length : Int) then (some (l0.drop ((t264.length : Int) : Int).toNat)) else (none)) else (none)) = some r := H
   have A6 := aMk A60
   clear A60
   by_cases c7 : 0 ≤ (t264.length : Int)
   · rw [if_pos c7] at H
     have c7b0 := eq_true c7
     have c7b1 : decide (0 ≤ (t264.length : Int)) = true := decide_eq_true c7
     clear c7
     by_cases c8 : (t264.length : Int) ≤ (l0.length : Int)
     · rw [if_pos c8] at H
       have c8b0 := eq_true c8
       have c8b1 : decide ((t264.length : Int) ≤ (l0.length : Int)) = true := decide_eq_true c8
       clear c8
       obtain ⟨y267, hy267⟩ : ∃ y_ : List Int, y_ = (l0.drop ((t264.length : Int) : Int).toNat) := ⟨_, rfl⟩
       replace H : (some y267) = some r := by first | (rw [hy267]; with_reducible exact H) | (have H2_ := (Option.bind_some _ _).symm.trans H; rw [hy267]; with_reducible exact H2_) | (have H2_ := (Option.bind_some _ _).symm.trans H; with_reducible exact H2_) | with_reducible exact H | (rw [hy267]; exact H) | exact H
       have Ny267 := aMk hy267
       clear hy267
       obtain rfl := Option.some.inj H
       go_enter Try.func44, Try.ntmps44
       go_wp2_with (first | ((with_reducible refine gate_callee (f := 65) rfl ?_); refine goesL_ (some 7) rfl rfl Try.func65 (by kernel_rfl) rfl #[.int .i64 a1] rfl (by (try simp only [List.map_toArray, List.map_cons, List.map_nil]); first | done | rfl | (simp only [List.length_drop, List.length_take]; rfl)) ?_; (with_reducible refine (spec_l1Mark.calls a1 t260 _ A3.out).mono ?_); rintro e w9 ⟨v261, rfl, ho0, hb⟩; refine ⟨_, rfl, ?_⟩; have n0_ := aMk (Kd.R_elder' (by (with_reducible repeat (first | apply Kd.R_alloc | apply Kd.R_drewN | apply Kd.R_drew)); exact HO0.out) (Kd.R_base ho0) hb); have n1_ := aMk (Kd.R_lower (Kd.R_new' (Kd.R_newM (M := fun k_ => (P0_ k_ ∨ w.heap.size ≤ k_)) ho0 (by first | exact HK.out.1 | exact (show Kept w _ (fun k_ => P0_ k_) from by repeat (first | (with_reducible first | exact HK.out | apply Kept.alloc | apply Kept.drewN | apply Kept.drew) | exact HK.out)).1) (fun k_ h_ => .inr h_)) (Kd.R_lt (by (with_reducible repeat (first | apply Kd.R_alloc | apply Kd.R_drewN | apply Kd.R_drew)); exact HO0.out))) (below_size (by repeat (first | (with_reducible first | exact HB.out | apply bAl | apply bDn | apply bD1) | exact HB.out)))); have n2_ := aMk (Kept.below (S := (fun k_ => P0_ k_)) (by repeat (first | (with_reducible first | exact HK.out | apply Kept.alloc | apply Kept.drewN | apply Kept.drew) | exact HK.out)) hb); have n3_ := aMk (below_step (by repeat (first | (with_reducible first | exact HB.out | apply bAl | apply bDn | apply bD1) | exact HB.out)) hb); clear HO0; clear HK; clear HB; have HO0 := n0_; have HO262 := n1_; have HK := n2_; have HB := n3_; clear n0_ n1_ n2_ n3_; (try clear hb); (try clear hb2); (try clear hk); (try clear hi); (try clear ho0); obtain ⟨Ao10, co10, eo10⟩ := Kd.R_slice HO0.out; subst eo10; obtain ⟨Ao11, co11, eo11⟩ := Kd.R_slice HO262.out; subst eo11) | ((with_reducible refine gate_callee (f := 64) rfl ?_); refine goesL_ (some 8) rfl rfl Try.func64 (by kernel_rfl) rfl #[.slice Ao10 l0.length co10, .slice Ao11 t260.length co11] rfl (by (try simp only [List.map_toArray, List.map_cons, List.map_nil]); first | done | rfl | (simp only [List.length_drop, List.length_take]; rfl)) ?_; (with_reducible refine (spec_l1Begins.calls k _ _ l0 _ _ t260 true _ ?side1 ?side2 ?side3 ?side4 A4.out).mono ?_); (case side1 => repeat (first | exact (Kd.R_reads' HO0.out).2.2 | (with_reducible refine Kd.C_alloc ?_ _) | (with_reducible refine Kd.C_drewN ?_ _) | (with_reducible refine Kd.C_drew ?_))); (case side2 => exact (Kd.R_reads' HO0.out).2.1); (case side3 => repeat (first | exact (Kd.R_reads' HO262.out).2.2 | (with_reducible refine Kd.C_alloc ?_ _) | (with_reducible refine Kd.C_drewN ?_ _) | (with_reducible refine Kd.C_drew ?_))); (case side4 => exact (Kd.R_reads' HO262.out).2.1); rintro e w' ⟨rfl, ⟨nd, rfl⟩⟩; refine ⟨_, rfl, ?_⟩) | ((with_reducible refine gate_callee (f := 65) rfl ?_); refine goesL_ (some 11) rfl rfl Try.func65 (by kernel_rfl) rfl #[.int .i64 a1] rfl (by (try simp only [List.map_toArray, List.map_cons, List.map_nil]); first | done | rfl | (simp only [List.length_drop, List.length_take]; rfl)) ?_; (with_reducible refine (spec_l1Mark.calls a1 t264 _ A6.out).mono ?_); rintro e w12 ⟨v265, rfl, ho0, hb⟩; refine ⟨_, rfl, ?_⟩; have n0_ := aMk (Kd.R_elder' (by (with_reducible repeat (first | apply Kd.R_alloc | apply Kd.R_drewN | apply Kd.R_drew)); exact HO0.out) (Kd.R_base ho0) hb); have n1_ := aMk (Kd.R_elder' (by (with_reducible repeat (first | apply Kd.R_alloc | apply Kd.R_drewN | apply Kd.R_drew)); exact HO262.out) (Kd.R_base ho0) hb); have n2_ := aMk (Kd.R_lower (Kd.R_new' (Kd.R_new' (Kd.R_newM (M := fun k_ => (P0_ k_ ∨ w.heap.size ≤ k_)) ho0 (by first | exact HK.out.1 | exact (show Kept w _ (fun k_ => P0_ k_) from by repeat (first | (with_reducible first | exact HK.out | apply Kept.alloc | apply Kept.drewN | apply Kept.drew) | exact HK.out)).1) (fun k_ h_ => .inr h_)) (Kd.R_lt (by (with_reducible repeat (first | apply Kd.R_alloc | apply Kd.R_drewN | apply Kd.R_drew)); exact HO0.out))) (Kd.R_lt (by (with_reducible repeat (first | apply Kd.R_alloc | apply Kd.R_drewN | apply Kd.R_drew)); exact HO262.out))) (below_size (by repeat (first | (with_reducible first | exact HB.out | apply bAl | apply bDn | apply bD1) | exact HB.out)))); have n3_ := aMk (Kept.below (S := (fun k_ => P0_ k_)) (by repeat (first | (with_reducible first | exact HK.out | apply Kept.alloc | apply Kept.drewN | apply Kept.drew) | exact HK.out)) hb); have n4_ := aMk (below_step (by repeat (first | (with_reducible first | exact HB.out | apply bAl | apply bDn | apply bD1) | exact HB.out)) hb); clear HO0; clear HO262; clear HK; clear HB; have HO0 := n0_; have HO262 := n1_; have HO266 := n2_; have HK := n3_; have HB := n4_; clear n0_ n1_ n2_ n3_ n4_; (try clear hb); (try clear hb2); (try clear hk); (try clear hi); (try clear ho0); obtain ⟨Ao13, co13, eo13⟩ := Kd.R_slice HO266.out; subst eo13; have n_ := aMk (Kd.R_mono (ok' := (fun k_ => (P0_ k_ ∨ w.heap.size ≤ k_) ∧ some k_ ≠ (.slice Ao11 t260.length co11 : Value).ownBlock ∧ some k_ ≠ (.slice Ao13 t264.length co13 : Value).ownBlock)) HO0.out (fun k_ hk => ⟨hk.1.1, ⟨hk.1.2, hk.2⟩⟩)); clear HO0; have HO0 := n_; clear n_; have q14 : ((t264.length : Int) : Int) ≤ ((l0.length : Int) : Int) := oDt (by first | (with_reducible assumption) | assumption); obtain ⟨i014, hi014, _, hsz14, _⟩ := info_parts info5; have hcut14 := cut_from (P := Try.prog) 22 5 .i64 Try.underlying22 hi014 1 hsz14 Ao10 l0.length co10 (t264.length : Int) (oDt (by first | (with_reducible assumption) | assumption)) q14; have hr14 := Kd.Q_drop (k := ((t264.length : Int) : Int).toNat) (Kd.Q_of_R HO0.out) (by omega); obtain ⟨A14, hA14⟩ : ∃ A1, A1 = (if co10 = ((t264.length : Int) : Int).toNat then Ao10 else (Ao10 : Option Addr).map (·.add (((t264.length : Int) : Int).toNat * 1))) := ⟨_, rfl⟩; obtain ⟨c14, hc14⟩ : ∃ c1, c1 = co10 - ((t264.length : Int) : Int).toNat := ⟨_, rfl⟩; have hy14 : y267.length = l0.length - ((t264.length : Int) : Int).toNat := (by rw [Ny267.out, List.length_drop]); rw [← Ny267.out] at hr14; rw [← hy14, ← hA14, ← hc14] at hcut14; replace hr14 : Kd.Q (Kd.int .u8) 5 w12 w0.heap.size (fun k_ => (P0_ k_ ∨ w.heap.size ≤ k_) ∧ some k_ ≠ (.slice Ao11 t260.length co11 : Value).ownBlock ∧ some k_ ≠ (.slice Ao13 t264.length co13 : Value).ownBlock) (.slice A14 y267.length c14) y267 := (by rw [hA14, hc14, hy14]; exact hr14); have HE14 : Aside0 ((Value.slice A14 y267.length c14).ownBlock = (.slice Ao10 l0.length co10 : Value).ownBlock) := ⟨by rw [hA14]; split <;> (cases (Ao10 : Option Addr) <;> first | rfl | (show some (Addr.add _ _).block = some _; rw [add_block]))⟩; clear hy14 hi014 hsz14 HO0 hA14 hc14; have HO269 := aMk hr14; clear hr14; replace q14 := eq_true q14; have n_ := aMk (Kd.R_mono (ok' := fun k_ => (((((P0_ k_ ∨ w.heap.size ≤ k_)) ∧ True) ∧ some k_ ≠ (.slice A14 y267.length c14 : Value).ownBlock) ∧ some k_ ≠ (.slice Ao13 t264.length co13 : Value).ownBlock)) HO262.out (fun k_ hk => ⟨⟨⟨hk.1.1.1, trivial⟩, (by rw [HE14.out]; exact hk.1.2)⟩, hk.2⟩)); clear HO262; have HO262 := n_; clear n_; have n_ := aMk (Kd.R_mono (ok' := fun k_ => (((((P0_ k_ ∨ w.heap.size ≤ k_)) ∧ True) ∧ some k_ ≠ (.slice A14 y267.length c14 : Value).ownBlock) ∧ some k_ ≠ (.slice Ao11 t260.length co11 : Value).ownBlock)) HO266.out (fun k_ hk => ⟨⟨⟨hk.1.1.1, trivial⟩, (by rw [HE14.out]; exact hk.1.2)⟩, hk.2⟩)); clear HO266; have HO266 := n_; clear n_))
       go_ret
       exact ⟨_, by first | rfl | (simp [errW_none, errW_some] <;> rfl) | (simp [*, errW_none, errW_some] <;> rfl), by (with_reducible repeat (first | apply Kd.Q_alloc | apply Kd.Q_drewN | apply Kd.Q_drew)); exact Kd.Q_mono HO269.out (fun _ hk => hk.1), by repeat (first | (with_reducible first | exact HB.out | apply bAl | apply bDn | apply bD1) | exact HB.out), by repeat (first | (with_reducible first | exact HK.out | apply Kept.alloc | apply Kept.drewN | apply Kept.drew) | exact HK.out)⟩
     · rw [if_neg c8] at H
       exact absurd H (by simp)
   · rw [if_neg c7] at H
     exact absurd H (by simp)
 · replace c5 := Bool.eq_false_iff.mpr c5
   subst c5
   have H1 : (some l0) = some r := by rw [if_neg (show ¬ (false = true) by decide)] at H; exact H
   clear H
   have H := H1
   clear H1
   obtain rfl := Option.some.inj H
   go_enter Try.func44, Try.ntmps44
   go_wp2_with (first | ((with_reducible refine gate_callee (f := 65) rfl ?_); refine goesL_ (some 7) rfl rfl Try.func65 (by kernel_rfl) rfl #[.int .i64 a1] rfl (by (try simp only [List.map_toArray, List.map_cons, List.map_nil]); first | done | rfl | (simp only [List.length_drop, List.length_take]; rfl)) ?_; (with_reducible refine (spec_l1Mark.calls a1 t260 _ A3.out).mono ?_); rintro e w15 ⟨v261, rfl, ho0, hb⟩; refine ⟨_, rfl, ?_⟩; have n0_ := aMk (Kd.R_elder' (by (with_reducible repeat (first | apply Kd.R_alloc | apply Kd.R_drewN | apply Kd.R_drew)); exact HO0.out) (Kd.R_base ho0) hb); have n1_ := aMk (Kd.R_lower (Kd.R_new' (Kd.R_newM (M := fun k_ => (P0_ k_ ∨ w.heap.size ≤ k_)) ho0 (by first | exact HK.out.1 | exact (show Kept w _ (fun k_ => P0_ k_) from by repeat (first | (with_reducible first | exact HK.out | apply Kept.alloc | apply Kept.drewN | apply Kept.drew) | exact HK.out)).1) (fun k_ h_ => .inr h_)) (Kd.R_lt (by (with_reducible repeat (first | apply Kd.R_alloc | apply Kd.R_drewN | apply Kd.R_drew)); exact HO0.out))) (below_size (by repeat (first | (with_reducible first | exact HB.out | apply bAl | apply bDn | apply bD1) | exact HB.out)))); have n2_ := aMk (Kept.below (S := (fun k_ => P0_ k_)) (by repeat (first | (with_reducible first | exact HK.out | apply Kept.alloc | apply Kept.drewN | apply Kept.drew) | exact HK.out)) hb); have n3_ := aMk (below_step (by repeat (first | (with_reducible first | exact HB.out | apply bAl | apply bDn | apply bD1) | exact HB.out)) hb); clear HO0; clear HK; clear HB; have HO0 := n0_; have HO262 := n1_; have HK := n2_; have HB := n3_; clear n0_ n1_ n2_ n3_; (try clear hb); (try clear hb2); (try clear hk); (try clear hi); (try clear ho0); obtain ⟨Ao16, co16, eo16⟩ := Kd.R_slice HO0.out; subst eo16; obtain ⟨Ao17, co17, eo17⟩ := Kd.R_slice HO262.out; subst eo17) | ((with_reducible refine gate_callee (f := 64) rfl ?_); refine goesL_ (some 8) rfl rfl Try.func64 (by kernel_rfl) rfl #[.slice Ao16 l0.length co16, .slice Ao17 t260.length co17] rfl (by (try simp only [List.map_toArray, List.map_cons, List.map_nil]); first | done | rfl | (simp only [List.length_drop, List.length_take]; rfl)) ?_; (with_reducible refine (spec_l1Begins.calls k _ _ l0 _ _ t260 false _ ?side1 ?side2 ?side3 ?side4 A4.out).mono ?_); (case side1 => repeat (first | exact (Kd.R_reads' HO0.out).2.2 | (with_reducible refine Kd.C_alloc ?_ _) | (with_reducible refine Kd.C_drewN ?_ _) | (with_reducible refine Kd.C_drew ?_))); (case side2 => exact (Kd.R_reads' HO0.out).2.1); (case side3 => repeat (first | exact (Kd.R_reads' HO262.out).2.2 | (with_reducible refine Kd.C_alloc ?_ _) | (with_reducible refine Kd.C_drewN ?_ _) | (with_reducible refine Kd.C_drew ?_))); (case side4 => exact (Kd.R_reads' HO262.out).2.1); rintro e w' ⟨rfl, ⟨nd, rfl⟩⟩; refine ⟨_, rfl, ?_⟩))
   go_ret
   exact ⟨_, by first | rfl | (simp [errW_none, errW_some] <;> rfl) | (simp [*, errW_none, errW_some] <;> rfl), Kd.Q_of_R (by (with_reducible repeat (first | apply Kd.R_alloc | apply Kd.R_drewN | apply Kd.R_drew)); exact Kd.R_mono HO0.out (fun _ hk => hk.1)), by repeat (first | (with_reducible first | exact HB.out | apply bAl | apply bDn | apply bD1) | exact HB.out), by repeat (first | (with_reducible first | exact HK.out | apply Kept.alloc | apply Kept.drewN | apply Kept.drew) | exact HK.out)⟩
def spec_l1EncOk.f (a0 : Int) : Option (Bool) := if a0 ≥ 0 then (some (decide (a0 ≤ 3))) else (some false)
set_option maxHeartbeats 8000000 in
set_option maxRecDepth 100000 in
theorem spec_l1EncOk.calls (a0 : Int) (r : Bool) (w : World) (h : spec_l1EncOk.f a0 = some r) :
 Calls Try.prog 42 #[.int .i64 a0] w fun e w' => e = .returned (.bool r) ∧ Drawn0 w w' := by
 have H : (if a0 ≥ 0 then (some (decide (a0 ≤ 3))) else (some false)) = some r := h
 clear h
 by_cases c2 : a0 ≥ 0
 · rw [if_pos c2] at H
   have c2b0 : decide (0 ≤ a0) = true := decide_eq_true c2
   clear c2
   obtain rfl := Option.some.inj H
   go_enter Try.func42, Try.ntmps42
   go_wp2
   go_ret
   exact ⟨by first | rfl | (simp; done) | (simp [*]; done), by repeat (first | exact Drawn0.refl _ | apply Drawn0.step)⟩
 · rw [if_neg c2] at H
   have c2b0 : decide (0 ≤ a0) = false := decide_eq_false c2
   clear c2
   obtain rfl := Option.some.inj H
   go_enter Try.func42, Try.ntmps42
   go_wp2
   go_ret
   exact ⟨by first | rfl | (simp; done) | (simp [*]; done), by repeat (first | exact Drawn0.refl _ | apply Drawn0.step)⟩
def spec_l1FeedOk.f (a0_0 : Int) (a0_1 : Bool) (l0_2 : List Int) : Option (Bool) := (spec_l1EncOk.f a0_0).bind fun t271 => (if t271 = true then (some (decide ((l0_2.length : Int) ≤ 3))) else (some false))
set_option maxHeartbeats 8000000 in
set_option maxRecDepth 100000 in
theorem spec_l1FeedOk.calls (a0_0 : Int) (a0_1 : Bool) (A0_2 : Option Addr) (c0_2 : Nat) (l0_2 : List Int) (r : Bool) (w : World) (hr0_2 : Kd.C (Kd.int .u8) w A0_2 l0_2.length l0_2) (hc0_2 : l0_2.length ≤ c0_2) (h : spec_l1FeedOk.f a0_0 a0_1 l0_2 = some r) :
 Calls Try.prog 46 #[.agg #[.int .i64 a0_0, .bool a0_1, .slice A0_2 l0_2.length c0_2]] w fun e w' => e = .returned (.bool r) ∧ Below w.heap.size w w' := by
 have hu38 := Try.underlying38
 have HR0_2 := aMk hr0_2
 have HC0_2 := aMk hc0_2
 clear hr0_2 hc0_2
 have HB := aMk (Below.refl w.heap.size w)
 have H : ((spec_l1EncOk.f a0_0).bind fun t271 => (if t271 = true then (some (decide ((l0_2.length : Int) ≤ 3))) else (some false))) = some r := h
 clear h
 replace H := oBm H
 obtain ⟨t271, A20, H⟩ := H
 replace H : (if t271 = true then (some (decide ((l0_2.length : Int) ≤ 3))) else (some false)) = some r := H
 have A2 := aMk A20
 clear A20
 by_cases c3 : t271 = true
 · subst c3
   have H1 : (some (decide ((l0_2.length : Int) ≤ 3))) = some r := by rw [if_pos rfl] at H; exact H
   clear H
   have H := H1
   clear H1
   obtain rfl := Option.some.inj H
   go_enter Try.func46, Try.ntmps46
   go_wp2_with (first | ((with_reducible refine gate_dst (N := 1) rfl ?_); (try (refine gate_guard (by rfl) ?_; dsimp only)); refine box_event ?hg (N := 1) ?hd (cs := #[.int .i64 a0_0, .bool a0_1, .slice A0_2 l0_2.length c0_2]) (t := 38) ?hr ?_; (case hd => rfl); (case hg => rfl); (case hr => first | (go_simp; done) | (go_simp; rfl)); intro gb270 hg w4 hbox hb; have n0_ := aMk (below_step (by repeat (first | (with_reducible first | exact HB.out | apply bAl | apply bDn | apply bD1) | exact HB.out)) hb); have n1_ := aMk (hbox); have n2_ := aMk ((by rw [hg]; exact (below_size (by repeat (first | (with_reducible first | exact HB.out | apply bAl | apply bDn | apply bD1) | exact HB.out))) : w.heap.size ≤ gb270)); have n3_ := aMk ((by rw [hg]; exact (below_size (by repeat (first | (with_reducible first | exact HB.out | apply bAl | apply bDn | apply bD1) | exact HB.out))) : w.heap.size ≤ gb270)); clear HB; have HB := n0_; have BK270 := n1_; have GW270 := n2_; have GE270 := n3_; clear n0_ n1_ n2_ n3_; clear hb hbox hg; have hcz5_0 : w4.cell? ⟨gb270, 0, none⟩ = some (.int .i64 a0_0) := (bCe BK270.out 0).trans rfl; have hcz5_1 : w4.cell? ⟨gb270, 1, none⟩ = some (.bool a0_1) := (bCe BK270.out 1).trans rfl; have hcz5_2 : w4.cell? ⟨gb270, 2, none⟩ = some (.slice A0_2 l0_2.length c0_2) := (bCe BK270.out 2).trans rfl; have hfz5_0 := bFr BK270.out 0; have hfz5_1 := bFr BK270.out 1; have hfz5_2 := bFr BK270.out 2) | ((with_reducible refine gate_callee (f := 42) rfl ?_); refine goesL_ (some 5) rfl rfl Try.func42 (by kernel_rfl) rfl #[.int .i64 a0_0] rfl (by (try simp only [List.map_toArray, List.map_cons, List.map_nil]); first | done | rfl | (simp only [List.length_drop, List.length_take]; rfl)) ?_; (with_reducible refine (spec_l1EncOk.calls a0_0 true _ A2.out).mono ?_); rintro e w' ⟨rfl, ⟨nd, rfl⟩⟩; refine ⟨_, rfl, ?_⟩))
   go_ret
   exact ⟨by first | rfl | (simp [errW_none, errW_some] <;> rfl) | (simp [*, errW_none, errW_some] <;> rfl), by repeat (first | (with_reducible first | exact HB.out | apply bAl | apply bDn | apply bD1 | refine bSe ?_ GE270.out) | exact HB.out)⟩
 · replace c3 := Bool.eq_false_iff.mpr c3
   subst c3
   have H1 : (some false) = some r := by rw [if_neg (show ¬ (false = true) by decide)] at H; exact H
   clear H
   have H := H1
   clear H1
   obtain rfl := Option.some.inj H
   go_enter Try.func46, Try.ntmps46
   go_wp2_with (first | ((with_reducible refine gate_dst (N := 1) rfl ?_); (try (refine gate_guard (by rfl) ?_; dsimp only)); refine box_event ?hg (N := 1) ?hd (cs := #[.int .i64 a0_0, .bool a0_1, .slice A0_2 l0_2.length c0_2]) (t := 38) ?hr ?_; (case hd => rfl); (case hg => rfl); (case hr => first | (go_simp; done) | (go_simp; rfl)); intro gb270 hg w6 hbox hb; have n0_ := aMk (below_step (by repeat (first | (with_reducible first | exact HB.out | apply bAl | apply bDn | apply bD1) | exact HB.out)) hb); have n1_ := aMk (hbox); have n2_ := aMk ((by rw [hg]; exact (below_size (by repeat (first | (with_reducible first | exact HB.out | apply bAl | apply bDn | apply bD1) | exact HB.out))) : w.heap.size ≤ gb270)); have n3_ := aMk ((by rw [hg]; exact (below_size (by repeat (first | (with_reducible first | exact HB.out | apply bAl | apply bDn | apply bD1) | exact HB.out))) : w.heap.size ≤ gb270)); clear HB; have HB := n0_; have BK270 := n1_; have GW270 := n2_; have GE270 := n3_; clear n0_ n1_ n2_ n3_; clear hb hbox hg; have hcz7_0 : w6.cell? ⟨gb270, 0, none⟩ = some (.int .i64 a0_0) := (bCe BK270.out 0).trans rfl; have hcz7_1 : w6.cell? ⟨gb270, 1, none⟩ = some (.bool a0_1) := (bCe BK270.out 1).trans rfl; have hcz7_2 : w6.cell? ⟨gb270, 2, none⟩ = some (.slice A0_2 l0_2.length c0_2) := (bCe BK270.out 2).trans rfl; have hfz7_0 := bFr BK270.out 0; have hfz7_1 := bFr BK270.out 1; have hfz7_2 := bFr BK270.out 2) | ((with_reducible refine gate_callee (f := 42) rfl ?_); refine goesL_ (some 5) rfl rfl Try.func42 (by kernel_rfl) rfl #[.int .i64 a0_0] rfl (by (try simp only [List.map_toArray, List.map_cons, List.map_nil]); first | done | rfl | (simp only [List.length_drop, List.length_take]; rfl)) ?_; (with_reducible refine (spec_l1EncOk.calls a0_0 false _ A2.out).mono ?_); rintro e w' ⟨rfl, ⟨nd, rfl⟩⟩; refine ⟨_, rfl, ?_⟩))
   go_ret
   exact ⟨by first | rfl | (simp [errW_none, errW_some] <;> rfl) | (simp [*, errW_none, errW_some] <;> rfl), by repeat (first | (with_reducible first | exact HB.out | apply bAl | apply bDn | apply bD1 | refine bSe ?_ GE270.out) | exact HB.out)⟩
mutual
def spec_l1Kept.l0 : Nat → List Int → Int → Option (Int)
 | 0, _, _ => none
 | k + 1, x0, x5 => if x5 < (x0.length : Int) then ((spec_l1Seq.f k x0 x5).bind fun bt272 => (if bt272.2 = true then (spec_l1Kept.j1 k x0 x5 bt272.1 false) else (if bt272.1 > 0 then (spec_l1Kept.j1 k x0 x5 bt272.1 ((wrap64 (x5 + bt272.1)) == (x0.length : Int))) else (spec_l1Kept.j1 k x0 x5 bt272.1 false)))) else (some 0)
def spec_l1Kept.j1 : Nat → List Int → Int → Int → Bool → Option (Int)
 | 0, _, _, _, _ => none
 | k + 1, x0, x5, x6, x34 => if x34 = true then (some x6) else (if x6 = 0 then (spec_l1Kept.l0 k x0 (wrap64 (x5 + 1))) else (spec_l1Kept.l0 k x0 (wrap64 (x5 + x6))))
end
def spec_l1Kept.f (k : Nat) (l0 : List Int) (a1 : Int) : Option (Int) := if a1 = 0 then (spec_l1Kept.l0 k l0 0) else (if a1 = 3 then (some 0) else (if (wrap64 ((l0.length : Int) - ((l0.length : Int) % 2))) ≥ 2 then ((spec_l1Pair.f l0 (wrap64 ((wrap64 ((l0.length : Int) - ((l0.length : Int) % 2))) - 2)) a1).bind fun t274 => ((spec_l1High.f t274).bind fun t275 => (if t275 = true then (some (((l0.length : Int) % 2) + 2)) else (some ((l0.length : Int) % 2))))) else (some ((l0.length : Int) % 2))))
set_option maxHeartbeats 8000000 in
set_option maxRecDepth 100000 in
theorem spec_l1Kept.calls (k : Nat) (A0 : Option Addr) (c0 : Nat) (l0 : List Int) (a1 : Int) (r : Int) (w : World) (hr0 : Kd.C (Kd.int .u8) w A0 l0.length l0) (hc0 : l0.length ≤ c0) (h : spec_l1Kept.f k l0 a1 = some r) :
 Calls Try.prog 48 #[.slice A0 l0.length c0, .int .i64 a1] w fun e w' => e = .returned (.int .i64 r) ∧ Drawn0 w w' := by
 have HR0 := aMk hr0
 have HC0 := aMk hc0
 clear hr0 hc0
 have H : (if a1 = 0 then (spec_l1Kept.l0 k l0 0) else (if a1 = 3 then (some 0) else (if (wrap64 ((l0.length : Int) - ((l0.length : Int) % 2))) ≥ 2 then ((spec_l1Pair.f l0 (wrap64 ((wrap64 ((l0.length : Int) - ((l0.length : Int) % 2))) - 2)) a1).bind fun t274 => ((spec_l1High.f t274).bind fun t275 => (if t275 = true then (some (((l0.length : Int) % 2) + 2)) else (some ((l0.length : Int) % 2))))) else (some ((l0.length : Int) % 2))))) = some r := h
 clear h
 by_cases c3 : a1 = 0
 · rw [if_pos c3] at H
   have c3b0 : (a1 == 0) = true := beq_iff_eq.mpr c3
   have c3b1 : (a1 != 0) = false := bne_eq_false_iff_eq.mpr c3
   clear c3
   have H' := aMk H
   clear H
   go_enter Try.func48, Try.ntmps48
   go_wp2
   go_loopg [5] k (fun kq v5 w' => ∃ (x5_1 : Int), v5 = .int .i64 x5_1 ∧ Aside0 (spec_l1Kept.l0 kq l0 x5_1 = some r) ∧ Aside0 (kq ≤ k) ∧ Drawn0 w w')
   case atStart => exact ⟨(0), (by first | rfl | (simp; done) | (simp [*]; done)), H', ⟨Nat.le_refl _⟩, by repeat (first | exact Drawn0.refl _ | apply Drawn0.step)⟩
   case round =>
    clear H'
    try clear p2
    try clear c3
    try clear c3b0
    try clear c3b1
    obtain ⟨x5_1, rfl, HA, HK1, ⟨m1, rfl⟩⟩ := hrel
    cases gk with
    | zero => exact absurd HA.out (by simp [spec_l1Kept.l0])
    | succ k1 =>
     have H := HA.out
     clear HA
     simp only [spec_l1Kept.l0] at H
     by_cases c4 : x5_1 < (l0.length : Int)
     · rw [if_pos c4] at H
       have c4b0 : decide (x5_1 < (l0.length : Int)) = true := decide_eq_true c4
       clear c4
       replace H := oBm H
       obtain ⟨⟨t272, t273⟩, A50, H⟩ := H
       replace H : (if t273 = true then (spec_l1Kept.j1 k1 l0 x5_1 t272 false) else (if t272 > 0 then (spec_l1Kept.j1 k1 l0 x5_1 t272 ((wrap64 (x5_1 + t272)) == (l0.length : Int))) else (spec_l1Kept.j1 k1 l0 x5_1 t272 false))) = some r := H
       have A5 := aMk A50
       clear A50
       have HC6 := aMk H
       clear H
       go_upto_region 5 with (first | ((with_reducible refine gate_callee (f := 67) rfl ?_); refine goesL_ (some 18) rfl rfl Try.func67 (by kernel_rfl) rfl #[.slice A0 l0.length c0, .int .i64 x5_1] rfl (by (try simp only [List.map_toArray, List.map_cons, List.map_nil]); first | done | rfl | (simp only [List.length_drop, List.length_take]; rfl)) ?_; (with_reducible refine (spec_l1Seq.calls k1 _ _ l0 x5_1 t272 t273 _ ?side1 ?side2 A5.out).mono ?_); (case side1 => repeat (first | exact HR0.out | (with_reducible refine Kd.C_alloc ?_ _) | (with_reducible refine Kd.C_drewN ?_ _) | (with_reducible refine Kd.C_drew ?_))); (case side2 => exact HC0.out); rintro e w' ⟨rfl, ⟨nd, rfl⟩⟩; refine ⟨_, rfl, ?_⟩))
       (try simp only [Act.put, lSa, lSz, lSs])
       go_cut [34] (fun v34 wc => ∃ (kq : Nat) (x34_5 : Bool), v34 = .bool x34_5 ∧ Aside0 (spec_l1Kept.j1 kq l0 x5_1 t272 x34_5 = some r) ∧ Aside0 (kq ≤ k1) ∧ Drawn0 w wc)
       case first =>
        have H := HC6.out
        clear HC6
        by_cases c7 : t273 = true
        · subst c7
          have H1 : (spec_l1Kept.j1 k1 l0 x5_1 t272 false) = some r := by rw [if_pos rfl] at H; exact H
          clear H
          have H := H1
          clear H1
          have H' := aMk H
          clear H
          go_wp2
          go_meet
          case rel => exact ⟨_, (false), (by first | rfl | (simp; done) | (simp [*]; done)), H', ⟨by have := HK1.out; first | omega | exact Nat.le_refl _⟩, by repeat (first | exact Drawn0.refl _ | apply Drawn0.step)⟩
        · replace c7 := Bool.eq_false_iff.mpr c7
          subst c7
          have H1 : (if t272 > 0 then (spec_l1Kept.j1 k1 l0 x5_1 t272 ((wrap64 (x5_1 + t272)) == (l0.length : Int))) else (spec_l1Kept.j1 k1 l0 x5_1 t272 false)) = some r := by rw [if_neg (show ¬ (false = true) by decide)] at H; exact H
          clear H
          have H := H1
          clear H1
          by_cases c8 : t272 > 0
          · rw [if_pos c8] at H
            have c8b0 : decide (0 < t272) = true := decide_eq_true c8
            clear c8
            (first | rw [c8b0] | (simp only [i64_w, i32_w]; rw [c8b0]) | skip)
            have H' := aMk H
            clear H
            go_wp2
            go_meet
            case rel => exact ⟨_, (((wrap64 (x5_1 + t272)) == (l0.length : Int))), (by first | rfl | (simp; done) | (simp [*]; done)), H', ⟨by have := HK1.out; first | omega | exact Nat.le_refl _⟩, by repeat (first | exact Drawn0.refl _ | apply Drawn0.step)⟩
          · rw [if_neg c8] at H
            have c8b0 : decide (0 < t272) = false := decide_eq_false c8
            clear c8
            (first | rw [c8b0] | (simp only [i64_w, i32_w]; rw [c8b0]) | skip)
            have H' := aMk H
            clear H
            go_wp2
            go_meet
            case rel => exact ⟨_, (false), (by first | rfl | (simp; done) | (simp [*]; done)), H', ⟨by have := HK1.out; first | omega | exact Nat.le_refl _⟩, by repeat (first | exact Drawn0.refl _ | apply Drawn0.step)⟩
       case rest =>
        clear HC6
        try clear p2
        try clear c3
        try clear c3b0
        try clear c3b1
        try clear c4
        try clear c4b0
        try clear c6
        try clear p6
        try clear c7
        try clear c8
        try clear c8b0
        try clear p2
        obtain ⟨kq, x34_5, rfl, HA, HJ5, ⟨mc5, rfl⟩⟩ := hcut
        cases kq with
        | zero => exact absurd HA.out (by simp [spec_l1Kept.j1])
        | succ kj5 =>
         have H := HA.out
         clear HA
         simp only [spec_l1Kept.j1] at H
         by_cases c9 : x34_5 = true
         · subst c9
           have H1 : (some t272) = some r := by rw [if_pos rfl] at H; exact H
           clear H
           have H := H1
           clear H1
           obtain rfl := Option.some.inj H
           go_wp2
           go_ret
           exact ⟨by first | rfl | (simp; done) | (simp [*]; done), by repeat (first | exact Drawn0.refl _ | apply Drawn0.step)⟩
         · replace c9 := Bool.eq_false_iff.mpr c9
           subst c9
           have H1 : (if t272 = 0 then (spec_l1Kept.l0 kj5 l0 (wrap64 (x5_1 + 1))) else (spec_l1Kept.l0 kj5 l0 (wrap64 (x5_1 + t272)))) = some r := by rw [if_neg (show ¬ (false = true) by decide)] at H; exact H
           clear H
           have H := H1
           clear H1
           by_cases c10 : t272 = 0
           · rw [if_pos c10] at H
             have c10b0 : (t272 == 0) = true := beq_iff_eq.mpr c10
             have c10b1 : (t272 != 0) = false := bne_eq_false_iff_eq.mpr c10
             clear c10
             have H' := aMk H
             clear H
             go_wp2
             go_roundg kj5
             case measure => have := HK1.out; have := HJ5.out; omega
             case rel => exact ⟨(wrap64 (x5_1 + 1)), (by first | rfl | (simp; done) | (simp [*]; done)), H', ⟨by have := HK1.out; have := HJ5.out; omega⟩, by repeat (first | exact Drawn0.refl _ | apply Drawn0.step)⟩
           · rw [if_neg c10] at H
             have c10b0 : (t272 == 0) = false := beq_eq_false_iff_ne.mpr c10
             have c10b1 : (t272 != 0) = true := bne_iff_ne.mpr c10
             have H' := aMk H
             clear H
             go_wp2
             go_roundg kj5
             case measure => have := HK1.out; have := HJ5.out; omega
             case rel => exact ⟨(wrap64 (x5_1 + t272)), (by first | rfl | (simp; done) | (simp [*]; done)), H', ⟨by have := HK1.out; have := HJ5.out; omega⟩, by repeat (first | exact Drawn0.refl _ | apply Drawn0.step)⟩
     · rw [if_neg c4] at H
       have c4b0 : decide (x5_1 < (l0.length : Int)) = false := decide_eq_false c4
       clear c4
       obtain rfl := Option.some.inj H
       go_wp2
       go_ret
       exact ⟨by first | rfl | (simp; done) | (simp [*]; done), by repeat (first | exact Drawn0.refl _ | apply Drawn0.step)⟩
 · rw [if_neg c3] at H
   have c3b0 : (a1 == 0) = false := beq_eq_false_iff_ne.mpr c3
   have c3b1 : (a1 != 0) = true := bne_iff_ne.mpr c3
   by_cases c11 : a1 = 3
   · rw [if_pos c11] at H
     have c11b0 : (a1 == 3) = true := beq_iff_eq.mpr c11
     have c11b1 : (a1 != 3) = false := bne_eq_false_iff_eq.mpr c11
     clear c11
     obtain rfl := Option.some.inj H
     go_enter Try.func48, Try.ntmps48
     go_wp2
     go_ret
     exact ⟨by first | rfl | (simp; done) | (simp [*]; done), by repeat (first | exact Drawn0.refl _ | apply Drawn0.step)⟩
   · rw [if_neg c11] at H
     have c11b0 : (a1 == 3) = false := beq_eq_false_iff_ne.mpr c11
     have c11b1 : (a1 != 3) = true := bne_iff_ne.mpr c11
     by_cases c12 : (wrap64 ((l0.length : Int) - ((l0.length : Int) % 2))) ≥ 2
     · rw [if_pos c12] at H
       have c12b0 : decide (2 ≤ (wrap64 ((l0.length : Int) - ((l0.length : Int) % 2)))) = true := decide_eq_true c12
       clear c12
       replace H := oBm H
       obtain ⟨t274, A130, H⟩ := H
       replace H : ((spec_l1High.f t274).bind fun t275 => (if t275 = true then (some (((l0.length : Int) % 2) + 2)) else (some ((l0.length : Int) % 2)))) = some r := H
       have A13 := aMk A130
       clear A130
       replace H := oBm H
       obtain ⟨t275, A140, H⟩ := H
       replace H : (if t275 = true then (some (((l0.length : Int) % 2) + 2)) else (some ((l0.length : Int) % 2))) = some r := H
       have A14 := aMk A140
       clear A140
       by_cases c15 : t275 = true
       · subst c15
         have H1 : (some (((l0.length : Int) % 2) + 2)) = some r := by rw [if_pos rfl] at H; exact H
         clear H
         have H := H1
         clear H1
         obtain rfl := Option.some.inj H
         go_enter Try.func48, Try.ntmps48
         go_wp2_with (first | (go_at_call 69; (with_reducible refine (spec_l1Pair.calls _ _ l0 (wrap64 ((wrap64 ((l0.length : Int) - ((l0.length : Int) % 2))) - 2)) a1 t274 _ ?side1 ?side2 A13.out).mono ?_); (case side1 => repeat (first | exact HR0.out | (with_reducible refine Kd.C_alloc ?_ _) | (with_reducible refine Kd.C_drewN ?_ _) | (with_reducible refine Kd.C_drew ?_))); (case side2 => exact HC0.out); rintro e w' ⟨rfl, ⟨nd, rfl⟩⟩) | (go_at_call 68; (with_reducible refine (spec_l1High.calls t274 true _ A14.out).mono ?_); rintro e w' ⟨rfl, ⟨nd, rfl⟩⟩))
         go_ret
         exact ⟨by first | rfl | (simp; done) | (simp [*]; done), by repeat (first | exact Drawn0.refl _ | apply Drawn0.step)⟩
       · replace c15 := Bool.eq_false_iff.mpr c15
         subst c15
         have H1 : (some ((l0.length : Int) % 2)) = some r := by rw [if_neg (show ¬ (false = true) by decide)] at H; exact H
         clear H
         have H := H1
         clear H1
         obtain rfl := Option.some.inj H
         go_enter Try.func48, Try.ntmps48
         go_wp2_with (first | (go_at_call 69; (with_reducible refine (spec_l1Pair.calls _ _ l0 (wrap64 ((wrap64 ((l0.length : Int) - ((l0.length : Int) % 2))) - 2)) a1 t274 _ ?side1 ?side2 A13.out).mono ?_); (case side1 => repeat (first | exact HR0.out | (with_reducible refine Kd.C_alloc ?_ _) | (with_reducible refine Kd.C_drewN ?_ _) | (with_reducible refine Kd.C_drew ?_))); (case side2 => exact HC0.out); rintro e w' ⟨rfl, ⟨nd, rfl⟩⟩) | (go_at_call 68; (with_reducible refine (spec_l1High.calls t274 false _ A14.out).mono ?_); rintro e w' ⟨rfl, ⟨nd, rfl⟩⟩))
         go_ret
         exact ⟨by first | rfl | (simp; done) | (simp [*]; done), by repeat (first | exact Drawn0.refl _ | apply Drawn0.step)⟩
     · rw [if_neg c12] at H
       have c12b0 : decide (2 ≤ (wrap64 ((l0.length : Int) - ((l0.length : Int) % 2)))) = false := decide_eq_false c12
       clear c12
       obtain rfl := Option.some.inj H
       go_enter Try.func48, Try.ntmps48
       go_wp2
       go_ret
       exact ⟨by first | rfl | (simp; done) | (simp [*]; done), by repeat (first | exact Drawn0.refl _ | apply Drawn0.step)⟩
end Go.Proofs.Ytmffcjjodkggcaa.MFnExactFeedMore
