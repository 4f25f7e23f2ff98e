-- Written by this session's own program (wip/gen/myprint.py).
import Derived.Test.YtpknhndanbgkmaaMFnBreaksx0
import Derived.Test.YtpknhndanbgkmaaMFnBreaksx4
namespace Go.Proofs.Ytpknhndanbgkmaa.MFnBreaks
open Go.RowKit Go.Proofs.YtpknhndanbgkmaaW.PrintWords Go.Proofs.YtpknhndanbgkmaaW.PrintLast Go.Proofs.YtpknhndanbgkmaaW.PrintMore
attribute [local go_sem] max2_int min2_int max_two min_two max_three min_three max_four min_four   -- for this text's walks alone
set_option linter.unusedVariables false
set_option linter.unusedSimpArgs false

/-! ### spec_BreakClass: function 25 -/
mutual
def spec_BreakClass.j0 : Nat → Int → Int → Bool → Option (Int)
  | 0, _, _, _ => none
  | k + 1, x0, x3, x6 => if x6 = true then (some 2) else (if x3 = 8203 then (some 3) else (if x3 = 160 then (spec_BreakClass.j1 k x0 x3 (x3 == 160)) else (if x3 = 8239 then (spec_BreakClass.j1 k x0 x3 (x3 == 8239)) else (spec_BreakClass.j1 k x0 x3 (x3 == 8288)))))
def spec_BreakClass.j1 : Nat → Int → Int → Bool → Option (Int)
  | 0, _, _, _ => none
  | k + 1, x0, x3, x11 => if x11 = true then (some 4) else (if x3 = 8205 then (some 5) else (if x3 = 45 then (spec_BreakClass.j2 k x0 x3 (x3 == 45)) else (if x3 = 8208 then (spec_BreakClass.j2 k x0 x3 (x3 == 8208)) else (spec_BreakClass.j2 k x0 x3 (x3 == 173)))))
def spec_BreakClass.j2 : Nat → Int → Int → Bool → Option (Int)
  | 0, _, _, _ => none
  | k + 1, x0, x3, x17 => if x17 = true then (some 6) else (if x3 = 40 then (spec_BreakClass.j3 k x0 x3 (x3 == 40)) else (if x3 = 91 then (spec_BreakClass.j3 k x0 x3 (x3 == 91)) else (spec_BreakClass.j3 k x0 x3 (x3 == 123))))
def spec_BreakClass.j3 : Nat → Int → Int → Bool → Option (Int)
  | 0, _, _, _ => none
  | k + 1, x0, x3, x21 => if x21 = true then (some 7) else (if x3 = 41 then (spec_BreakClass.j4 k x0 x3 (x3 == 41)) else (if x3 = 93 then (spec_BreakClass.j4 k x0 x3 (x3 == 93)) else (spec_BreakClass.j4 k x0 x3 (x3 == 125))))
def spec_BreakClass.j4 : Nat → Int → Int → Bool → Option (Int)
  | 0, _, _, _ => none
  | k + 1, x0, x3, x25 => if x25 = true then (some 8) else (if x3 = 46 then (spec_BreakClass.j5 k x0 x3 (x3 == 46)) else (if x3 = 44 then (spec_BreakClass.j5 k x0 x3 (x3 == 44)) else (if x3 = 33 then (spec_BreakClass.j5 k x0 x3 (x3 == 33)) else (if x3 = 63 then (spec_BreakClass.j5 k x0 x3 (x3 == 63)) else (if x3 = 59 then (spec_BreakClass.j5 k x0 x3 (x3 == 59)) else (if x3 = 58 then (spec_BreakClass.j5 k x0 x3 (x3 == 58)) else (spec_BreakClass.j5 k x0 x3 (x3 == 8230))))))))
def spec_BreakClass.j5 : Nat → Int → Int → Bool → Option (Int)
  | 0, _, _, _ => none
  | k + 1, x0, x3, x29 => if x29 = true then (some 9) else (if x3 = 34 then (some 10) else (if x3 = 39 then (some 10) else ((spec_l12In.f x0 768 879).bind fun t148 => (if t148 = true then (some 5) else ((spec_l12In.f x0 12352 12543).bind fun t149 => (if t149 = true then (spec_BreakClass.j6 k x0 true) else ((spec_l12In.f x0 19968 40959).bind fun t150 => (spec_BreakClass.j6 k x0 t150))))))))
def spec_BreakClass.j6 : Nat → Int → Bool → Option (Int)
  | 0, _, _ => none
  | k + 1, x0, x47 => if x47 = true then (some 11) else ((spec_l12In.f x0 48 57).bind fun t151 => (if t151 = true then (some 12) else (some 0)))
end
def spec_BreakClass.f (k : Nat) (a0 : Int) : Option (Int) := if a0 = 10 then (some 1) else (if a0 = 32 then (spec_BreakClass.j0 k a0 a0 (a0 == 32)) else (spec_BreakClass.j0 k a0 a0 (a0 == 9)))
theorem spec_BreakClass.mono_l : ∀ k, (∀ y0 y1 y2, LeO (spec_BreakClass.j0 k y0 y1 y2) (spec_BreakClass.j0 (k + 1) y0 y1 y2)) ∧ (∀ y0 y1 y2, LeO (spec_BreakClass.j1 k y0 y1 y2) (spec_BreakClass.j1 (k + 1) y0 y1 y2)) ∧ (∀ y0 y1 y2, LeO (spec_BreakClass.j2 k y0 y1 y2) (spec_BreakClass.j2 (k + 1) y0 y1 y2)) ∧ (∀ y0 y1 y2, LeO (spec_BreakClass.j3 k y0 y1 y2) (spec_BreakClass.j3 (k + 1) y0 y1 y2)) ∧ (∀ y0 y1 y2, LeO (spec_BreakClass.j4 k y0 y1 y2) (spec_BreakClass.j4 (k + 1) y0 y1 y2)) ∧ (∀ y0 y1 y2, LeO (spec_BreakClass.j5 k y0 y1 y2) (spec_BreakClass.j5 (k + 1) y0 y1 y2)) ∧ (∀ y0 y1, LeO (spec_BreakClass.j6 k y0 y1) (spec_BreakClass.j6 (k + 1) y0 y1))
  | 0 => ⟨fun _ _ _ r h => by simp [spec_BreakClass.j0] at h, fun _ _ _ r h => by simp [spec_BreakClass.j1] at h, fun _ _ _ r h => by simp [spec_BreakClass.j2] at h, fun _ _ _ r h => by simp [spec_BreakClass.j3] at h, fun _ _ _ r h => by simp [spec_BreakClass.j4] at h, fun _ _ _ r h => by simp [spec_BreakClass.j5] at h, fun _ _ r h => by simp [spec_BreakClass.j6] at h⟩
  | k + 1 => by
    obtain ⟨ih0, ih1, ih2, ih3, ih4, ih5, ih6⟩ := spec_BreakClass.mono_l k
    refine ⟨?_, ?_, ?_, ?_, ?_, ?_, ?_⟩
    · intro y0 y1 y2
      unfold spec_BreakClass.j0
      repeat' first
      | (with_reducible exact ih0 _ _ _)
      | (with_reducible exact ih1 _ _ _)
      | (with_reducible exact ih2 _ _ _)
      | (with_reducible exact ih3 _ _ _)
      | (with_reducible exact ih4 _ _ _)
      | (with_reducible exact ih5 _ _ _)
      | (with_reducible exact ih6 _ _)
      | (with_reducible exact LeO.refl _)
      | (with_reducible exact LeO.none _)
      | (with_reducible refine LeO.ite ?_ ?_)
      | (with_reducible refine LeO.bind ?_ (fun _ => ?_))
      | exact ih0 _ _ _
      | exact ih1 _ _ _
      | exact ih2 _ _ _
      | exact ih3 _ _ _
      | exact ih4 _ _ _
      | exact ih5 _ _ _
      | exact ih6 _ _
      | exact LeO.none _
      | refine LeO.ite ?_ ?_
      | refine LeO.bind ?_ (fun _ => ?_)
    · intro y0 y1 y2
      unfold spec_BreakClass.j1
      repeat' first
      | (with_reducible exact ih0 _ _ _)
      | (with_reducible exact ih1 _ _ _)
      | (with_reducible exact ih2 _ _ _)
      | (with_reducible exact ih3 _ _ _)
      | (with_reducible exact ih4 _ _ _)
      | (with_reducible exact ih5 _ _ _)
      | (with_reducible exact ih6 _ _)
      | (with_reducible exact LeO.refl _)
      | (with_reducible exact LeO.none _)
      | (with_reducible refine LeO.ite ?_ ?_)
      | (with_reducible refine LeO.bind ?_ (fun _ => ?_))
      | exact ih0 _ _ _
      | exact ih1 _ _ _
      | exact ih2 _ _ _
      | exact ih3 _ _ _
      | exact ih4 _ _ _
      | exact ih5 _ _ _
      | exact ih6 _ _
      | exact LeO.none _
      | refine LeO.ite ?_ ?_
      | refine LeO.bind ?_ (fun _ => ?_)
    · intro y0 y1 y2
      unfold spec_BreakClass.j2
      repeat' first
      | (with_reducible exact ih0 _ _ _)
      | (with_reducible exact ih1 _ _ _)
      | (with_reducible exact ih2 _ _ _)
      | (with_reducible exact ih3 _ _ _)
      | (with_reducible exact ih4 _ _ _)
      | (with_reducible exact ih5 _ _ _)
      | (with_reducible exact ih6 _ _)
      | (with_reducible exact LeO.refl _)
      | (with_reducible exact LeO.none _)
      | (with_reducible refine LeO.ite ?_ ?_)
      | (with_reducible refine LeO.bind ?_ (fun _ => ?_))
      | exact ih0 _ _ _
      | exact ih1 _ _ _
      | exact ih2 _ _ _
      | exact ih3 _ _ _
      | exact ih4 _ _ _
      | exact ih5 _ _ _
      | exact ih6 _ _
      | exact LeO.none _
      | refine LeO.ite ?_ ?_
      | refine LeO.bind ?_ (fun _ => ?_)
    · intro y0 y1 y2
      unfold spec_BreakClass.j3
      repeat' first
      | (with_reducible exact ih0 _ _ _)
      | (with_reducible exact ih1 _ _ _)
      | (with_reducible exact ih2 _ _ _)
      | (with_reducible exact ih3 _ _ _)
      | (with_reducible exact ih4 _ _ _)
      | (with_reducible exact ih5 _ _ _)
      | (with_reducible exact ih6 _ _)
      | (with_reducible exact LeO.refl _)
      | (with_reducible exact LeO.none _)
      | (with_reducible refine LeO.ite ?_ ?_)
      | (with_reducible refine LeO.bind ?_ (fun _ => ?_))
      | exact ih0 _ _ _
      | exact ih1 _ _ _
      | exact ih2 _ _ _
      | exact ih3 _ _ _
      | exact ih4 _ _ _
      | exact ih5 _ _ _
      | exact ih6 _ _
      | exact LeO.none _
      | refine LeO.ite ?_ ?_
      | refine LeO.bind ?_ (fun _ => ?_)
    · intro y0 y1 y2
      unfold spec_BreakClass.j4
      repeat' first
      | (with_reducible exact ih0 _ _ _)
      | (with_reducible exact ih1 _ _ _)
      | (with_reducible exact ih2 _ _ _)
      | (with_reducible exact ih3 _ _ _)
      | (with_reducible exact ih4 _ _ _)
      | (with_reducible exact ih5 _ _ _)
      | (with_reducible exact ih6 _ _)
      | (with_reducible exact LeO.refl _)
      | (with_reducible exact LeO.none _)
      | (with_reducible refine LeO.ite ?_ ?_)
      | (with_reducible refine LeO.bind ?_ (fun _ => ?_))
      | exact ih0 _ _ _
      | exact ih1 _ _ _
      | exact ih2 _ _ _
      | exact ih3 _ _ _
      | exact ih4 _ _ _
      | exact ih5 _ _ _
      | exact ih6 _ _
      | exact LeO.none _
      | refine LeO.ite ?_ ?_
      | refine LeO.bind ?_ (fun _ => ?_)
    · intro y0 y1 y2
      unfold spec_BreakClass.j5
      repeat' first
      | (with_reducible exact ih0 _ _ _)
      | (with_reducible exact ih1 _ _ _)
      | (with_reducible exact ih2 _ _ _)
      | (with_reducible exact ih3 _ _ _)
      | (with_reducible exact ih4 _ _ _)
      | (with_reducible exact ih5 _ _ _)
      | (with_reducible exact ih6 _ _)
      | (with_reducible exact LeO.refl _)
      | (with_reducible exact LeO.none _)
      | (with_reducible refine LeO.ite ?_ ?_)
      | (with_reducible refine LeO.bind ?_ (fun _ => ?_))
      | exact ih0 _ _ _
      | exact ih1 _ _ _
      | exact ih2 _ _ _
      | exact ih3 _ _ _
      | exact ih4 _ _ _
      | exact ih5 _ _ _
      | exact ih6 _ _
      | exact LeO.none _
      | refine LeO.ite ?_ ?_
      | refine LeO.bind ?_ (fun _ => ?_)
    · intro y0 y1
      unfold spec_BreakClass.j6
      repeat' first
      | (with_reducible exact ih0 _ _ _)
      | (with_reducible exact ih1 _ _ _)
      | (with_reducible exact ih2 _ _ _)
      | (with_reducible exact ih3 _ _ _)
      | (with_reducible exact ih4 _ _ _)
      | (with_reducible exact ih5 _ _ _)
      | (with_reducible exact ih6 _ _)
      | (with_reducible exact LeO.refl _)
      | (with_reducible exact LeO.none _)
      | (with_reducible refine LeO.ite ?_ ?_)
      | (with_reducible refine LeO.bind ?_ (fun _ => ?_))
      | exact ih0 _ _ _
      | exact ih1 _ _ _
      | exact ih2 _ _ _
      | exact ih3 _ _ _
      | exact ih4 _ _ _
      | exact ih5 _ _ _
      | exact ih6 _ _
      | exact LeO.none _
      | refine LeO.ite ?_ ?_
      | refine LeO.bind ?_ (fun _ => ?_)
theorem spec_BreakClass.mono : ∀ a0 k, LeO (spec_BreakClass.f k a0) (spec_BreakClass.f (k + 1) a0) := by
  intro a0 k
  obtain ⟨ih0, ih1, ih2, ih3, ih4, ih5, ih6⟩ := spec_BreakClass.mono_l k
  unfold spec_BreakClass.f
  repeat' first
      | (with_reducible exact ih0 _ _ _)
      | (with_reducible exact ih1 _ _ _)
      | (with_reducible exact ih2 _ _ _)
      | (with_reducible exact ih3 _ _ _)
      | (with_reducible exact ih4 _ _ _)
      | (with_reducible exact ih5 _ _ _)
      | (with_reducible exact ih6 _ _)
      | (with_reducible exact LeO.refl _)
      | (with_reducible exact LeO.none _)
      | (with_reducible refine LeO.ite ?_ ?_)
      | (with_reducible refine LeO.bind ?_ (fun _ => ?_))
      | exact ih0 _ _ _
      | exact ih1 _ _ _
      | exact ih2 _ _ _
      | exact ih3 _ _ _
      | exact ih4 _ _ _
      | exact ih5 _ _ _
      | exact ih6 _ _
      | exact LeO.none _
      | refine LeO.ite ?_ ?_
      | refine LeO.bind ?_ (fun _ => ?_)
set_option maxHeartbeats 8000000 in
set_option maxRecDepth 100000 in
theorem spec_BreakClass.calls (k : Nat) (a0 : Int) (r : Int) (w : World) (h : spec_BreakClass.f k a0 = some r) :
    Calls Try.prog 25 #[.int .i64 a0] w fun e w' => e = .returned (.int .i64 r) ∧ Drawn0 w w' := by
  have H : (if a0 = 10 then (some 1) else (if a0 = 32 then (spec_BreakClass.j0 k a0 a0 (a0 == 32)) else (spec_BreakClass.j0 k a0 a0 (a0 == 9)))) = some r := h
  clear h
  by_cases c2 : a0 = 10
  · rw [if_pos c2] at H
    have c2b0 : (a0 == 10) = true := beq_iff_eq.mpr c2
    have c2b1 : (a0 != 10) = false := bne_eq_false_iff_eq.mpr c2
    clear c2
    obtain rfl := Option.some.inj H
    go_enter Try.func25, Try.ntmps25
    go_wp2
    go_ret
    exact ⟨by first | rfl | (simp; done) | (simp [*]; done), by repeat (first | exact Drawn0.refl _ | apply Drawn0.step)⟩
  · rw [if_neg c2] at H
    have c2b0 : (a0 == 10) = false := beq_eq_false_iff_ne.mpr c2
    have c2b1 : (a0 != 10) = true := bne_iff_ne.mpr c2
    have HC3 := Aside0.mk H
    clear H
    go_enter Try.func25, Try.ntmps25
    go_upto_if 6 with (fail)
    go_cut [6] (fun v6 wc => ∃ (kq : Nat) (x6_2 : Bool), v6 = .bool x6_2 ∧ Aside0 (spec_BreakClass.j0 kq a0 a0 x6_2 = some r) ∧ Aside0 (kq ≤ k) ∧ Drawn0 w wc)
    case first =>
      have H := HC3.out
      clear HC3
      by_cases c4 : a0 = 32
      · rw [if_pos c4] at H
        have c4b0 : (a0 == 32) = true := beq_iff_eq.mpr c4
        have c4b1 : (a0 != 32) = false := bne_eq_false_iff_eq.mpr c4
        clear c4
        (first | rw [c4b0] | (simp only [i64_w, i32_w]; rw [c4b0]) | skip)
        have H' := Aside0.mk H
        clear H
        go_wp2
        go_meet
        case rel => exact ⟨_, ((a0 == 32)), (by first | rfl | (simp; done) | (simp [*]; done)), H', ⟨by first | omega | exact Nat.le_refl _⟩, by repeat (first | exact Drawn0.refl _ | apply Drawn0.step)⟩
      · rw [if_neg c4] at H
        have c4b0 : (a0 == 32) = false := beq_eq_false_iff_ne.mpr c4
        have c4b1 : (a0 != 32) = true := bne_iff_ne.mpr c4
        (first | rw [c4b0] | (simp only [i64_w, i32_w]; rw [c4b0]) | skip)
        have H' := Aside0.mk H
        clear H
        go_wp2
        go_meet
        case rel => exact ⟨_, ((a0 == 9)), (by first | rfl | (simp; done) | (simp [*]; done)), H', ⟨by first | omega | exact Nat.le_refl _⟩, by repeat (first | exact Drawn0.refl _ | apply Drawn0.step)⟩
    case rest =>
      clear HC3
      try clear c2
      try clear c2b0
      try clear c2b1
      try clear p2
      try clear c4
      try clear c4b0
      try clear c4b1
      obtain ⟨kq, x6_2, rfl, HA, HJ2, ⟨mc2, rfl⟩⟩ := hcut
      cases kq with
      | zero => exact absurd HA.out (by simp [spec_BreakClass.j0])
      | succ kj2 =>
        have H := HA.out
        clear HA
        simp only [spec_BreakClass.j0] at H
        by_cases c5 : x6_2 = true
        · subst c5
          have H1 : (some 2) = some r := by rw [if_pos rfl] at H; exact H
          clear H
          have H := H1
          clear H1
          obtain rfl := Option.some.inj H
          go_wp2
          go_ret
          exact ⟨by first | rfl | (simp; done) | (simp [*]; done), by repeat (first | exact Drawn0.refl _ | apply Drawn0.step)⟩
        · replace c5 := Bool.eq_false_iff.mpr c5
          subst c5
          have H1 : (if a0 = 8203 then (some 3) else (if a0 = 160 then (spec_BreakClass.j1 kj2 a0 a0 (a0 == 160)) else (if a0 = 8239 then (spec_BreakClass.j1 kj2 a0 a0 (a0 == 8239)) else (spec_BreakClass.j1 kj2 a0 a0 (a0 == 8288))))) = some r := by rw [if_neg (show ¬ (false = true) by decide)] at H; exact H
          clear H
          have H := H1
          clear H1
          by_cases c6 : a0 = 8203
          · rw [if_pos c6] at H
            have c6b0 : (a0 == 8203) = true := beq_iff_eq.mpr c6
            have c6b1 : (a0 != 8203) = false := bne_eq_false_iff_eq.mpr c6
            clear c6
            obtain rfl := Option.some.inj H
            go_wp2
            go_ret
            exact ⟨by first | rfl | (simp; done) | (simp [*]; done), by repeat (first | exact Drawn0.refl _ | apply Drawn0.step)⟩
          · rw [if_neg c6] at H
            have c6b0 : (a0 == 8203) = false := beq_eq_false_iff_ne.mpr c6
            have c6b1 : (a0 != 8203) = true := bne_iff_ne.mpr c6
            have HC7 := Aside0.mk H
            clear H
            go_upto_if 11 with (fail)
            go_cut [11] (fun v11 wc => ∃ (kq : Nat) (x11_6 : Bool), v11 = .bool x11_6 ∧ Aside0 (spec_BreakClass.j1 kq a0 a0 x11_6 = some r) ∧ Aside0 (kq ≤ kj2) ∧ Drawn0 w wc)
            case first =>
              have H := HC7.out
              clear HC7
              by_cases c8 : a0 = 160
              · rw [if_pos c8] at H
                have c8b0 : (a0 == 160) = true := beq_iff_eq.mpr c8
                have c8b1 : (a0 != 160) = false := bne_eq_false_iff_eq.mpr c8
                clear c8
                (first | rw [c8b0] | (simp only [i64_w, i32_w]; rw [c8b0]) | skip)
                have H' := Aside0.mk H
                clear H
                go_wp2
                go_meet
                case rel => exact ⟨_, ((a0 == 160)), (by first | rfl | (simp; done) | (simp [*]; done)), H', ⟨by have := HJ2.out; first | omega | exact Nat.le_refl _⟩, by repeat (first | exact Drawn0.refl _ | apply Drawn0.step)⟩
              · rw [if_neg c8] at H
                have c8b0 : (a0 == 160) = false := beq_eq_false_iff_ne.mpr c8
                have c8b1 : (a0 != 160) = true := bne_iff_ne.mpr c8
                (first | rw [c8b0] | (simp only [i64_w, i32_w]; rw [c8b0]) | skip)
                by_cases c9 : a0 = 8239
                · rw [if_pos c9] at H
                  have c9b0 : (a0 == 8239) = true := beq_iff_eq.mpr c9
                  have c9b1 : (a0 != 8239) = false := bne_eq_false_iff_eq.mpr c9
                  clear c9
                  have H' := Aside0.mk H
                  clear H
                  go_wp2
                  go_meet
                  case rel => exact ⟨_, ((a0 == 8239)), (by first | rfl | (simp; done) | (simp [*]; done)), H', ⟨by have := HJ2.out; first | omega | exact Nat.le_refl _⟩, by repeat (first | exact Drawn0.refl _ | apply Drawn0.step)⟩
                · rw [if_neg c9] at H
                  have c9b0 : (a0 == 8239) = false := beq_eq_false_iff_ne.mpr c9
                  have c9b1 : (a0 != 8239) = true := bne_iff_ne.mpr c9
                  have H' := Aside0.mk H
                  clear H
                  go_wp2
                  go_meet
                  case rel => exact ⟨_, ((a0 == 8288)), (by first | rfl | (simp; done) | (simp [*]; done)), H', ⟨by have := HJ2.out; first | omega | exact Nat.le_refl _⟩, by repeat (first | exact Drawn0.refl _ | apply Drawn0.step)⟩
            case rest =>
              clear HC7
              try clear c2
              try clear c2b0
              try clear c2b1
              try clear p2
              try clear c4
              try clear c4b0
              try clear c4b1
              try clear c5
              try clear c6
              try clear c6b0
              try clear c6b1
              try clear c8
              try clear c8b0
              try clear c8b1
              try clear c9
              try clear c9b0
              try clear c9b1
              try clear p2
              obtain ⟨kq, x11_6, rfl, HA, HJ6, ⟨mc6, rfl⟩⟩ := hcut
              cases kq with
              | zero => exact absurd HA.out (by simp [spec_BreakClass.j1])
              | succ kj6 =>
                have H := HA.out
                clear HA
                simp only [spec_BreakClass.j1] at H
                by_cases c10 : x11_6 = true
                · subst c10
                  have H1 : (some 4) = some r := by rw [if_pos rfl] at H; exact H
                  clear H
                  have H := H1
                  clear H1
                  obtain rfl := Option.some.inj H
                  go_wp2
                  go_ret
                  exact ⟨by first | rfl | (simp; done) | (simp [*]; done), by repeat (first | exact Drawn0.refl _ | apply Drawn0.step)⟩
                · replace c10 := Bool.eq_false_iff.mpr c10
                  subst c10
                  have H1 : (if a0 = 8205 then (some 5) else (if a0 = 45 then (spec_BreakClass.j2 kj6 a0 a0 (a0 == 45)) else (if a0 = 8208 then (spec_BreakClass.j2 kj6 a0 a0 (a0 == 8208)) else (spec_BreakClass.j2 kj6 a0 a0 (a0 == 173))))) = some r := by rw [if_neg (show ¬ (false = true) by decide)] at H; exact H
                  clear H
                  have H := H1
                  clear H1
                  by_cases c11 : a0 = 8205
                  · rw [if_pos c11] at H
                    have c11b0 : (a0 == 8205) = true := beq_iff_eq.mpr c11
                    have c11b1 : (a0 != 8205) = false := bne_eq_false_iff_eq.mpr c11
                    clear c11
                    obtain rfl := Option.some.inj H
                    go_wp2
                    go_ret
                    exact ⟨by first | rfl | (simp; done) | (simp [*]; done), by repeat (first | exact Drawn0.refl _ | apply Drawn0.step)⟩
                  · rw [if_neg c11] at H
                    have c11b0 : (a0 == 8205) = false := beq_eq_false_iff_ne.mpr c11
                    have c11b1 : (a0 != 8205) = true := bne_iff_ne.mpr c11
                    have HC12 := Aside0.mk H
                    clear H
                    go_upto_if 17 with (fail)
                    go_cut [17] (fun v17 wc => ∃ (kq : Nat) (x17_11 : Bool), v17 = .bool x17_11 ∧ Aside0 (spec_BreakClass.j2 kq a0 a0 x17_11 = some r) ∧ Aside0 (kq ≤ kj6) ∧ Drawn0 w wc)
                    case first =>
                      have H := HC12.out
                      clear HC12
                      by_cases c13 : a0 = 45
                      · rw [if_pos c13] at H
                        have c13b0 : (a0 == 45) = true := beq_iff_eq.mpr c13
                        have c13b1 : (a0 != 45) = false := bne_eq_false_iff_eq.mpr c13
                        clear c13
                        (first | rw [c13b0] | (simp only [i64_w, i32_w]; rw [c13b0]) | skip)
                        have H' := Aside0.mk H
                        clear H
                        go_wp2
                        go_meet
                        case rel => exact ⟨_, ((a0 == 45)), (by first | rfl | (simp; done) | (simp [*]; done)), H', ⟨by have := HJ2.out; have := HJ6.out; first | omega | exact Nat.le_refl _⟩, by repeat (first | exact Drawn0.refl _ | apply Drawn0.step)⟩
                      · rw [if_neg c13] at H
                        have c13b0 : (a0 == 45) = false := beq_eq_false_iff_ne.mpr c13
                        have c13b1 : (a0 != 45) = true := bne_iff_ne.mpr c13
                        (first | rw [c13b0] | (simp only [i64_w, i32_w]; rw [c13b0]) | skip)
                        by_cases c14 : a0 = 8208
                        · rw [if_pos c14] at H
                          have c14b0 : (a0 == 8208) = true := beq_iff_eq.mpr c14
                          have c14b1 : (a0 != 8208) = false := bne_eq_false_iff_eq.mpr c14
                          clear c14
                          have H' := Aside0.mk H
                          clear H
                          go_wp2
                          go_meet
                          case rel => exact ⟨_, ((a0 == 8208)), (by first | rfl | (simp; done) | (simp [*]; done)), H', ⟨by have := HJ2.out; have := HJ6.out; first | omega | exact Nat.le_refl _⟩, by repeat (first | exact Drawn0.refl _ | apply Drawn0.step)⟩
                        · rw [if_neg c14] at H
                          have c14b0 : (a0 == 8208) = false := beq_eq_false_iff_ne.mpr c14
                          have c14b1 : (a0 != 8208) = true := bne_iff_ne.mpr c14
                          have H' := Aside0.mk H
                          clear H
                          go_wp2
                          go_meet
                          case rel => exact ⟨_, ((a0 == 173)), (by first | rfl | (simp; done) | (simp [*]; done)), H', ⟨by have := HJ2.out; have := HJ6.out; first | omega | exact Nat.le_refl _⟩, by repeat (first | exact Drawn0.refl _ | apply Drawn0.step)⟩
                    case rest =>
                      clear HC12
                      try clear c1
                      try clear c2
                      try clear c2b0
                      try clear c2b1
                      try clear p2
                      try clear c4
                      try clear c4b0
                      try clear c4b1
                      try clear c5
                      try clear c6
                      try clear c6b0
                      try clear c6b1
                      try clear c8
                      try clear c8b0
                      try clear c8b1
                      try clear c9
                      try clear c9b0
                      try clear c9b1
                      try clear c10
                      try clear c11
                      try clear c11b0
                      try clear c11b1
                      try clear c13
                      try clear c13b0
                      try clear c13b1
                      try clear c14
                      try clear c14b0
                      try clear c14b1
                      try clear p2
                      obtain ⟨kq, x17_11, rfl, HA, HJ11, ⟨mc11, rfl⟩⟩ := hcut
                      cases kq with
                      | zero => exact absurd HA.out (by simp [spec_BreakClass.j2])
                      | succ kj11 =>
                        have H := HA.out
                        clear HA
                        simp only [spec_BreakClass.j2] at H
                        by_cases c15 : x17_11 = true
                        · subst c15
                          have H1 : (some 6) = some r := by rw [if_pos rfl] at H; exact H
                          clear H
                          have H := H1
                          clear H1
                          obtain rfl := Option.some.inj H
                          go_wp2
                          go_ret
                          exact ⟨by first | rfl | (simp; done) | (simp [*]; done), by repeat (first | exact Drawn0.refl _ | apply Drawn0.step)⟩
                        · replace c15 := Bool.eq_false_iff.mpr c15
                          subst c15
                          have H1 : (if a0 = 40 then (spec_BreakClass.j3 kj11 a0 a0 (a0 == 40)) else (if a0 = 91 then (spec_BreakClass.j3 kj11 a0 a0 (a0 == 91)) else (spec_BreakClass.j3 kj11 a0 a0 (a0 == 123)))) = some r := by rw [if_neg (show ¬ (false = true) by decide)] at H; exact H
                          clear H
                          have H := H1
                          clear H1
                          have HC16 := Aside0.mk H
                          clear H
                          go_upto_if 21 with (fail)
                          go_cut [21] (fun v21 wc => ∃ (kq : Nat) (x21_15 : Bool), v21 = .bool x21_15 ∧ Aside0 (spec_BreakClass.j3 kq a0 a0 x21_15 = some r) ∧ Aside0 (kq ≤ kj11) ∧ Drawn0 w wc)
                          case first =>
                            have H := HC16.out
                            clear HC16
                            by_cases c17 : a0 = 40
                            · rw [if_pos c17] at H
                              have c17b0 : (a0 == 40) = true := beq_iff_eq.mpr c17
                              have c17b1 : (a0 != 40) = false := bne_eq_false_iff_eq.mpr c17
                              clear c17
                              (first | rw [c17b0] | (simp only [i64_w, i32_w]; rw [c17b0]) | skip)
                              have H' := Aside0.mk H
                              clear H
                              go_wp2
                              go_meet
                              case rel => exact ⟨_, ((a0 == 40)), (by first | rfl | (simp; done) | (simp [*]; done)), H', ⟨by have := HJ2.out; have := HJ6.out; have := HJ11.out; first | omega | exact Nat.le_refl _⟩, by repeat (first | exact Drawn0.refl _ | apply Drawn0.step)⟩
                            · rw [if_neg c17] at H
                              have c17b0 : (a0 == 40) = false := beq_eq_false_iff_ne.mpr c17
                              have c17b1 : (a0 != 40) = true := bne_iff_ne.mpr c17
                              (first | rw [c17b0] | (simp only [i64_w, i32_w]; rw [c17b0]) | skip)
                              by_cases c18 : a0 = 91
                              · rw [if_pos c18] at H
                                have c18b0 : (a0 == 91) = true := beq_iff_eq.mpr c18
                                have c18b1 : (a0 != 91) = false := bne_eq_false_iff_eq.mpr c18
                                clear c18
                                have H' := Aside0.mk H
                                clear H
                                go_wp2
                                go_meet
                                case rel => exact ⟨_, ((a0 == 91)), (by first | rfl | (simp; done) | (simp [*]; done)), H', ⟨by have := HJ2.out; have := HJ6.out; have := HJ11.out; first | omega | exact Nat.le_refl _⟩, by repeat (first | exact Drawn0.refl _ | apply Drawn0.step)⟩
                              · rw [if_neg c18] at H
                                have c18b0 : (a0 == 91) = false := beq_eq_false_iff_ne.mpr c18
                                have c18b1 : (a0 != 91) = true := bne_iff_ne.mpr c18
                                have H' := Aside0.mk H
                                clear H
                                go_wp2
                                go_meet
                                case rel => exact ⟨_, ((a0 == 123)), (by first | rfl | (simp; done) | (simp [*]; done)), H', ⟨by have := HJ2.out; have := HJ6.out; have := HJ11.out; first | omega | exact Nat.le_refl _⟩, by repeat (first | exact Drawn0.refl _ | apply Drawn0.step)⟩
                          case rest =>
                            clear HC16
                            try clear c1
                            try clear c2
                            try clear c2b0
                            try clear c2b1
                            try clear p2
                            try clear c4
                            try clear c4b0
                            try clear c4b1
                            try clear c5
                            try clear c6
                            try clear c6b0
                            try clear c6b1
                            try clear c8
                            try clear c8b0
                            try clear c8b1
                            try clear c9
                            try clear c9b0
                            try clear c9b1
                            try clear c10
                            try clear c11
                            try clear c11b0
                            try clear c11b1
                            try clear c13
                            try clear c13b0
                            try clear c13b1
                            try clear c14
                            try clear c14b0
                            try clear c14b1
                            try clear c15
                            try clear c17
                            try clear c17b0
                            try clear c17b1
                            try clear c18
                            try clear c18b0
                            try clear c18b1
                            try clear p2
                            obtain ⟨kq, x21_15, rfl, HA, HJ15, ⟨mc15, rfl⟩⟩ := hcut
                            cases kq with
                            | zero => exact absurd HA.out (by simp [spec_BreakClass.j3])
                            | succ kj15 =>
                              have H := HA.out
                              clear HA
                              simp only [spec_BreakClass.j3] at H
                              by_cases c19 : x21_15 = true
                              · subst c19
                                have H1 : (some 7) = some r := by rw [if_pos rfl] at H; exact H
                                clear H
                                have H := H1
                                clear H1
                                obtain rfl := Option.some.inj H
                                go_wp2
                                go_ret
                                exact ⟨by first | rfl | (simp; done) | (simp [*]; done), by repeat (first | exact Drawn0.refl _ | apply Drawn0.step)⟩
                              · replace c19 := Bool.eq_false_iff.mpr c19
                                subst c19
                                have H1 : (if a0 = 41 then (spec_BreakClass.j4 kj15 a0 a0 (a0 == 41)) else (if a0 = 93 then (spec_BreakClass.j4 kj15 a0 a0 (a0 == 93)) else (spec_BreakClass.j4 kj15 a0 a0 (a0 == 125)))) = some r := by rw [if_neg (show ¬ (false = true) by decide)] at H; exact H
                                clear H
                                have H := H1
                                clear H1
                                have HC20 := Aside0.mk H
                                clear H
                                go_upto_if 25 with (fail)
                                go_cut [25] (fun v25 wc => ∃ (kq : Nat) (x25_19 : Bool), v25 = .bool x25_19 ∧ Aside0 (spec_BreakClass.j4 kq a0 a0 x25_19 = some r) ∧ Aside0 (kq ≤ kj15) ∧ Drawn0 w wc)
                                case first =>
                                  have H := HC20.out
                                  clear HC20
                                  by_cases c21 : a0 = 41
                                  · rw [if_pos c21] at H
                                    have c21b0 : (a0 == 41) = true := beq_iff_eq.mpr c21
                                    have c21b1 : (a0 != 41) = false := bne_eq_false_iff_eq.mpr c21
                                    clear c21
                                    (first | rw [c21b0] | (simp only [i64_w, i32_w]; rw [c21b0]) | skip)
                                    have H' := Aside0.mk H
                                    clear H
                                    go_wp2
                                    go_meet
                                    case rel => exact ⟨_, ((a0 == 41)), (by first | rfl | (simp; done) | (simp [*]; done)), H', ⟨by have := HJ2.out; have := HJ6.out; have := HJ11.out; have := HJ15.out; first | omega | exact Nat.le_refl _⟩, by repeat (first | exact Drawn0.refl _ | apply Drawn0.step)⟩
                                  · rw [if_neg c21] at H
                                    have c21b0 : (a0 == 41) = false := beq_eq_false_iff_ne.mpr c21
                                    have c21b1 : (a0 != 41) = true := bne_iff_ne.mpr c21
                                    (first | rw [c21b0] | (simp only [i64_w, i32_w]; rw [c21b0]) | skip)
                                    by_cases c22 : a0 = 93
                                    · rw [if_pos c22] at H
                                      have c22b0 : (a0 == 93) = true := beq_iff_eq.mpr c22
                                      have c22b1 : (a0 != 93) = false := bne_eq_false_iff_eq.mpr c22
                                      clear c22
                                      have H' := Aside0.mk H
                                      clear H
                                      go_wp2
                                      go_meet
                                      case rel => exact ⟨_, ((a0 == 93)), (by first | rfl | (simp; done) | (simp [*]; done)), H', ⟨by have := HJ2.out; have := HJ6.out; have := HJ11.out; have := HJ15.out; first | omega | exact Nat.le_refl _⟩, by repeat (first | exact Drawn0.refl _ | apply Drawn0.step)⟩
                                    · rw [if_neg c22] at H
                                      have c22b0 : (a0 == 93) = false := beq_eq_false_iff_ne.mpr c22
                                      have c22b1 : (a0 != 93) = true := bne_iff_ne.mpr c22
                                      have H' := Aside0.mk H
                                      clear H
                                      go_wp2
                                      go_meet
                                      case rel => exact ⟨_, ((a0 == 125)), (by first | rfl | (simp; done) | (simp [*]; done)), H', ⟨by have := HJ2.out; have := HJ6.out; have := HJ11.out; have := HJ15.out; first | omega | exact Nat.le_refl _⟩, by repeat (first | exact Drawn0.refl _ | apply Drawn0.step)⟩
                                case rest =>
                                  clear HC20
                                  try clear c1
                                  try clear c2
                                  try clear c2b0
                                  try clear c2b1
                                  try clear p2
                                  try clear c4
                                  try clear c4b0
                                  try clear c4b1
                                  try clear c5
                                  try clear c6
                                  try clear c6b0
                                  try clear c6b1
                                  try clear c8
                                  try clear c8b0
                                  try clear c8b1
                                  try clear c9
                                  try clear c9b0
                                  try clear c9b1
                                  try clear c10
                                  try clear c11
                                  try clear c11b0
                                  try clear c11b1
                                  try clear c13
                                  try clear c13b0
                                  try clear c13b1
                                  try clear c14
                                  try clear c14b0
                                  try clear c14b1
                                  try clear c15
                                  try clear c17
                                  try clear c17b0
                                  try clear c17b1
                                  try clear c18
                                  try clear c18b0
                                  try clear c18b1
                                  try clear c19
                                  try clear c21
                                  try clear c21b0
                                  try clear c21b1
                                  try clear c22
                                  try clear c22b0
                                  try clear c22b1
                                  try clear p2
                                  obtain ⟨kq, x25_19, rfl, HA, HJ19, ⟨mc19, rfl⟩⟩ := hcut
                                  cases kq with
                                  | zero => exact absurd HA.out (by simp [spec_BreakClass.j4])
                                  | succ kj19 =>
                                    have H := HA.out
                                    clear HA
                                    simp only [spec_BreakClass.j4] at H
                                    by_cases c23 : x25_19 = true
                                    · subst c23
                                      have H1 : (some 8) = some r := by rw [if_pos rfl] at H; exact H
                                      clear H
                                      have H := H1
                                      clear H1
                                      obtain rfl := Option.some.inj H
                                      go_wp2
                                      go_ret
                                      exact ⟨by first | rfl | (simp; done) | (simp [*]; done), by repeat (first | exact Drawn0.refl _ | apply Drawn0.step)⟩
                                    · replace c23 := Bool.eq_false_iff.mpr c23
                                      subst c23
                                      have H1 : (if a0 = 46 then (spec_BreakClass.j5 kj19 a0 a0 (a0 == 46)) else (if a0 = 44 then (spec_BreakClass.j5 kj19 a0 a0 (a0 == 44)) else (if a0 = 33 then (spec_BreakClass.j5 kj19 a0 a0 (a0 == 33)) else (if a0 = 63 then (spec_BreakClass.j5 kj19 a0 a0 (a0 == 63)) else (if a0 = 59 then (spec_BreakClass.j5 kj19 a0 a0 (a0 == 59)) else (if a0 = 58 then (spec_BreakClass.j5 kj19 a0 a0 (a0 == 58)) else (spec_BreakClass.j5 kj19 a0 a0 (a0 == 8230)))))))) = some r := by rw [if_neg (show ¬ (false = true) by decide)] at H; exact H
                                      clear H
                                      have H := H1
                                      clear H1
                                      have HC24 := Aside0.mk H
                                      clear H
                                      go_upto_if 29 with (fail)
                                      go_cut [29] (fun v29 wc => ∃ (kq : Nat) (x29_23 : Bool), v29 = .bool x29_23 ∧ Aside0 (spec_BreakClass.j5 kq a0 a0 x29_23 = some r) ∧ Aside0 (kq ≤ kj19) ∧ Drawn0 w wc)
                                      case first =>
                                        have H := HC24.out
                                        clear HC24
                                        by_cases c25 : a0 = 46
                                        · rw [if_pos c25] at H
                                          have c25b0 : (a0 == 46) = true := beq_iff_eq.mpr c25
                                          have c25b1 : (a0 != 46) = false := bne_eq_false_iff_eq.mpr c25
                                          clear c25
                                          (first | rw [c25b0] | (simp only [i64_w, i32_w]; rw [c25b0]) | skip)
                                          have H' := Aside0.mk H
                                          clear H
                                          go_wp2
                                          go_meet
                                          case rel => exact ⟨_, ((a0 == 46)), (by first | rfl | (simp; done) | (simp [*]; done)), H', ⟨by have := HJ2.out; have := HJ6.out; have := HJ11.out; have := HJ15.out; have := HJ19.out; first | omega | exact Nat.le_refl _⟩, by repeat (first | exact Drawn0.refl _ | apply Drawn0.step)⟩
                                        · rw [if_neg c25] at H
                                          have c25b0 : (a0 == 46) = false := beq_eq_false_iff_ne.mpr c25
                                          have c25b1 : (a0 != 46) = true := bne_iff_ne.mpr c25
                                          (first | rw [c25b0] | (simp only [i64_w, i32_w]; rw [c25b0]) | skip)
                                          by_cases c26 : a0 = 44
                                          · rw [if_pos c26] at H
                                            have c26b0 : (a0 == 44) = true := beq_iff_eq.mpr c26
                                            have c26b1 : (a0 != 44) = false := bne_eq_false_iff_eq.mpr c26
                                            clear c26
                                            have H' := Aside0.mk H
                                            clear H
                                            go_wp2
                                            go_meet
                                            case rel => exact ⟨_, ((a0 == 44)), (by first | rfl | (simp; done) | (simp [*]; done)), H', ⟨by have := HJ2.out; have := HJ6.out; have := HJ11.out; have := HJ15.out; have := HJ19.out; first | omega | exact Nat.le_refl _⟩, by repeat (first | exact Drawn0.refl _ | apply Drawn0.step)⟩
                                          · rw [if_neg c26] at H
                                            have c26b0 : (a0 == 44) = false := beq_eq_false_iff_ne.mpr c26
                                            have c26b1 : (a0 != 44) = true := bne_iff_ne.mpr c26
                                            by_cases c27 : a0 = 33
                                            · rw [if_pos c27] at H
                                              have c27b0 : (a0 == 33) = true := beq_iff_eq.mpr c27
                                              have c27b1 : (a0 != 33) = false := bne_eq_false_iff_eq.mpr c27
                                              clear c27
                                              have H' := Aside0.mk H
                                              clear H
                                              go_wp2
                                              go_meet
                                              case rel => exact ⟨_, ((a0 == 33)), (by first | rfl | (simp; done) | (simp [*]; done)), H', ⟨by have := HJ2.out; have := HJ6.out; have := HJ11.out; have := HJ15.out; have := HJ19.out; first | omega | exact Nat.le_refl _⟩, by repeat (first | exact Drawn0.refl _ | apply Drawn0.step)⟩
                                            · rw [if_neg c27] at H
                                              have c27b0 : (a0 == 33) = false := beq_eq_false_iff_ne.mpr c27
                                              have c27b1 : (a0 != 33) = true := bne_iff_ne.mpr c27
                                              by_cases c28 : a0 = 63
                                              · rw [if_pos c28] at H
                                                have c28b0 : (a0 == 63) = true := beq_iff_eq.mpr c28
                                                have c28b1 : (a0 != 63) = false := bne_eq_false_iff_eq.mpr c28
                                                clear c28
                                                have H' := Aside0.mk H
                                                clear H
                                                go_wp2
                                                go_meet
                                                case rel => exact ⟨_, ((a0 == 63)), (by first | rfl | (simp; done) | (simp [*]; done)), H', ⟨by have := HJ2.out; have := HJ6.out; have := HJ11.out; have := HJ15.out; have := HJ19.out; first | omega | exact Nat.le_refl _⟩, by repeat (first | exact Drawn0.refl _ | apply Drawn0.step)⟩
                                              · rw [if_neg c28] at H
                                                have c28b0 : (a0 == 63) = false := beq_eq_false_iff_ne.mpr c28
                                                have c28b1 : (a0 != 63) = true := bne_iff_ne.mpr c28
                                                by_cases c29 : a0 = 59
                                                · rw [if_pos c29] at H
                                                  have c29b0 : (a0 == 59) = true := beq_iff_eq.mpr c29
                                                  have c29b1 : (a0 != 59) = false := bne_eq_false_iff_eq.mpr c29
                                                  clear c29
                                                  have H' := Aside0.mk H
                                                  clear H
                                                  go_wp2
                                                  go_meet
                                                  case rel => exact ⟨_, ((a0 == 59)), (by first | rfl | (simp; done) | (simp [*]; done)), H', ⟨by have := HJ2.out; have := HJ6.out; have := HJ11.out; have := HJ15.out; have := HJ19.out; first | omega | exact Nat.le_refl _⟩, by repeat (first | exact Drawn0.refl _ | apply Drawn0.step)⟩
                                                · rw [if_neg c29] at H
                                                  have c29b0 : (a0 == 59) = false := beq_eq_false_iff_ne.mpr c29
                                                  have c29b1 : (a0 != 59) = true := bne_iff_ne.mpr c29
                                                  by_cases c30 : a0 = 58
                                                  · rw [if_pos c30] at H
                                                    have c30b0 : (a0 == 58) = true := beq_iff_eq.mpr c30
                                                    have c30b1 : (a0 != 58) = false := bne_eq_false_iff_eq.mpr c30
                                                    clear c30
                                                    have H' := Aside0.mk H
                                                    clear H
                                                    go_wp2
                                                    go_meet
                                                    case rel => exact ⟨_, ((a0 == 58)), (by first | rfl | (simp; done) | (simp [*]; done)), H', ⟨by have := HJ2.out; have := HJ6.out; have := HJ11.out; have := HJ15.out; have := HJ19.out; first | omega | exact Nat.le_refl _⟩, by repeat (first | exact Drawn0.refl _ | apply Drawn0.step)⟩
                                                  · rw [if_neg c30] at H
                                                    have c30b0 : (a0 == 58) = false := beq_eq_false_iff_ne.mpr c30
                                                    have c30b1 : (a0 != 58) = true := bne_iff_ne.mpr c30
                                                    have H' := Aside0.mk H
                                                    clear H
                                                    go_wp2
                                                    go_meet
                                                    case rel => exact ⟨_, ((a0 == 8230)), (by first | rfl | (simp; done) | (simp [*]; done)), H', ⟨by have := HJ2.out; have := HJ6.out; have := HJ11.out; have := HJ15.out; have := HJ19.out; first | omega | exact Nat.le_refl _⟩, by repeat (first | exact Drawn0.refl _ | apply Drawn0.step)⟩
                                      case rest =>
                                        clear HC24
                                        try clear c1
                                        try clear c2
                                        try clear c2b0
                                        try clear c2b1
                                        try clear p2
                                        try clear c3
                                        try clear c4
                                        try clear c4b0
                                        try clear c4b1
                                        try clear c5
                                        try clear c6
                                        try clear c6b0
                                        try clear c6b1
                                        try clear c8
                                        try clear c8b0
                                        try clear c8b1
                                        try clear c9
                                        try clear c9b0
                                        try clear c9b1
                                        try clear c10
                                        try clear c11
                                        try clear c11b0
                                        try clear c11b1
                                        try clear c13
                                        try clear c13b0
                                        try clear c13b1
                                        try clear c14
                                        try clear c14b0
                                        try clear c14b1
                                        try clear c15
                                        try clear c17
                                        try clear c17b0
                                        try clear c17b1
                                        try clear c18
                                        try clear c18b0
                                        try clear c18b1
                                        try clear c19
                                        try clear c21
                                        try clear c21b0
                                        try clear c21b1
                                        try clear c22
                                        try clear c22b0
                                        try clear c22b1
                                        try clear c23
                                        try clear c25
                                        try clear c25b0
                                        try clear c25b1
                                        try clear c26
                                        try clear c26b0
                                        try clear c26b1
                                        try clear c27
                                        try clear c27b0
                                        try clear c27b1
                                        try clear c28
                                        try clear c28b0
                                        try clear c28b1
                                        try clear c29
                                        try clear c29b0
                                        try clear c29b1
                                        try clear c30
                                        try clear c30b0
                                        try clear c30b1
                                        try clear p2
                                        obtain ⟨kq, x29_23, rfl, HA, HJ23, ⟨mc23, rfl⟩⟩ := hcut
                                        cases kq with
                                        | zero => exact absurd HA.out (by simp [spec_BreakClass.j5])
                                        | succ kj23 =>
                                          have H := HA.out
                                          clear HA
                                          simp only [spec_BreakClass.j5] at H
                                          by_cases c31 : x29_23 = true
                                          · subst c31
                                            have H1 : (some 9) = some r := by rw [if_pos rfl] at H; exact H
                                            clear H
                                            have H := H1
                                            clear H1
                                            obtain rfl := Option.some.inj H
                                            go_wp2
                                            go_ret
                                            exact ⟨by first | rfl | (simp; done) | (simp [*]; done), by repeat (first | exact Drawn0.refl _ | apply Drawn0.step)⟩
                                          · replace c31 := Bool.eq_false_iff.mpr c31
                                            subst c31
                                            have H1 : (if a0 = 34 then (some 10) else (if a0 = 39 then (some 10) else ((spec_l12In.f a0 768 879).bind fun t148 => (if t148 = true then (some 5) else ((spec_l12In.f a0 12352 12543).bind fun t149 => (if t149 = true then (spec_BreakClass.j6 kj23 a0 true) else ((spec_l12In.f a0 19968 40959).bind fun t150 => (spec_BreakClass.j6 kj23 a0 t150)))))))) = some r := by rw [if_neg (show ¬ (false = true) by decide)] at H; exact H
                                            clear H
                                            have H := H1
                                            clear H1
                                            by_cases c32 : a0 = 34
                                            · rw [if_pos c32] at H
                                              have c32b0 : (a0 == 34) = true := beq_iff_eq.mpr c32
                                              have c32b1 : (a0 != 34) = false := bne_eq_false_iff_eq.mpr c32
                                              clear c32
                                              obtain rfl := Option.some.inj H
                                              go_wp2
                                              go_ret
                                              exact ⟨by first | rfl | (simp; done) | (simp [*]; done), by repeat (first | exact Drawn0.refl _ | apply Drawn0.step)⟩
                                            · rw [if_neg c32] at H
                                              have c32b0 : (a0 == 34) = false := beq_eq_false_iff_ne.mpr c32
                                              have c32b1 : (a0 != 34) = true := bne_iff_ne.mpr c32
                                              by_cases c33 : a0 = 39
                                              · rw [if_pos c33] at H
                                                have c33b0 : (a0 == 39) = true := beq_iff_eq.mpr c33
                                                have c33b1 : (a0 != 39) = false := bne_eq_false_iff_eq.mpr c33
                                                clear c33
                                                obtain rfl := Option.some.inj H
                                                go_wp2
                                                go_ret
                                                exact ⟨by first | rfl | (simp; done) | (simp [*]; done), by repeat (first | exact Drawn0.refl _ | apply Drawn0.step)⟩
                                              · rw [if_neg c33] at H
                                                have c33b0 : (a0 == 39) = false := beq_eq_false_iff_ne.mpr c33
                                                have c33b1 : (a0 != 39) = true := bne_iff_ne.mpr c33
                                                replace H := Option.bind_eq_some_iff.mp H
                                                obtain ⟨t148, A340, H⟩ := H
                                                replace H : (if t148 = true then (some 5) else ((spec_l12In.f a0 12352 12543).bind fun t149 => (if t149 = true then (spec_BreakClass.j6 kj23 a0 true) else ((spec_l12In.f a0 19968 40959).bind fun t150 => (spec_BreakClass.j6 kj23 a0 t150))))) = some r := H
                                                have A34 := Aside0.mk A340
                                                clear A340
                                                by_cases c35 : t148 = true
                                                · subst c35
                                                  have H1 : (some 5) = some r := by rw [if_pos rfl] at H; exact H
                                                  clear H
                                                  have H := H1
                                                  clear H1
                                                  obtain rfl := Option.some.inj H
                                                  go_wp2_with (first | ((with_reducible refine gate_callee (f := 54) rfl ?_); refine goesL_ (some 41) rfl rfl Try.func54 (by kernel_rfl) rfl #[.int .i64 a0, .int .i64 768, .int .i64 879] rfl (by (try simp only [List.map_toArray, List.map_cons, List.map_nil]); first | done | rfl | (simp only [List.length_drop, List.length_take]; rfl)) ?_; (with_reducible refine (spec_l12In.calls a0 768 879 true _ A34.out).mono ?_); rintro e w' ⟨rfl, ⟨nd, rfl⟩⟩; refine ⟨_, rfl, ?_⟩))
                                                  go_ret
                                                  exact ⟨by first | rfl | (simp; done) | (simp [*]; done), by repeat (first | exact Drawn0.refl _ | apply Drawn0.step)⟩
                                                · replace c35 := Bool.eq_false_iff.mpr c35
                                                  subst c35
                                                  have H1 : ((spec_l12In.f a0 12352 12543).bind fun t149 => (if t149 = true then (spec_BreakClass.j6 kj23 a0 true) else ((spec_l12In.f a0 19968 40959).bind fun t150 => (spec_BreakClass.j6 kj23 a0 t150)))) = some r := by rw [if_neg (show ¬ (false = true) by decide)] at H; exact H
                                                  clear H
                                                  have H := H1
                                                  clear H1
                                                  have HC36 := Aside0.mk H
                                                  clear H
                                                  go_upto_region 40 with (first | ((with_reducible refine gate_callee (f := 54) rfl ?_); refine goesL_ (some 41) rfl rfl Try.func54 (by kernel_rfl) rfl #[.int .i64 a0, .int .i64 768, .int .i64 879] rfl (by (try simp only [List.map_toArray, List.map_cons, List.map_nil]); first | done | rfl | (simp only [List.length_drop, List.length_take]; rfl)) ?_; (with_reducible refine (spec_l12In.calls a0 768 879 false _ A34.out).mono ?_); rintro e w' ⟨rfl, ⟨nd, rfl⟩⟩; refine ⟨_, rfl, ?_⟩))
                                                  (try simp only [Act.put, List.setIfInBounds_toArray, List.set_cons_zero, List.set_cons_succ])
                                                  go_cut [47] (fun v47 wc => ∃ (kq : Nat) (x47_35 : Bool), v47 = .bool x47_35 ∧ Aside0 (spec_BreakClass.j6 kq a0 x47_35 = some r) ∧ Aside0 (kq ≤ kj23) ∧ Drawn0 w wc)
                                                  case first =>
                                                    have H := HC36.out
                                                    clear HC36
                                                    replace H := Option.bind_eq_some_iff.mp H
                                                    obtain ⟨t149, A370, H⟩ := H
                                                    replace H : (if t149 = true then (spec_BreakClass.j6 kj23 a0 true) else ((spec_l12In.f a0 19968 40959).bind fun t150 => (spec_BreakClass.j6 kj23 a0 t150))) = some r := H
                                                    have A37 := Aside0.mk A370
                                                    clear A370
                                                    by_cases c38 : t149 = true
                                                    · subst c38
                                                      have H1 : (spec_BreakClass.j6 kj23 a0 true) = some r := by rw [if_pos rfl] at H; exact H
                                                      clear H
                                                      have H := H1
                                                      clear H1
                                                      have H' := Aside0.mk H
                                                      clear H
                                                      go_wp2_with (first | ((with_reducible refine gate_callee (f := 54) rfl ?_); refine goesL_ (some 43) rfl rfl Try.func54 (by kernel_rfl) rfl #[.int .i64 a0, .int .i64 12352, .int .i64 12543] rfl (by (try simp only [List.map_toArray, List.map_cons, List.map_nil]); first | done | rfl | (simp only [List.length_drop, List.length_take]; rfl)) ?_; (with_reducible refine (spec_l12In.calls a0 12352 12543 true _ A37.out).mono ?_); rintro e w' ⟨rfl, ⟨nd, rfl⟩⟩; refine ⟨_, rfl, ?_⟩))
                                                      go_meet
                                                      case rel => exact ⟨_, (true), (by first | rfl | (simp; done) | (simp [*]; done)), H', ⟨by have := HJ2.out; have := HJ6.out; have := HJ11.out; have := HJ15.out; have := HJ19.out; have := HJ23.out; first | omega | exact Nat.le_refl _⟩, by repeat (first | exact Drawn0.refl _ | apply Drawn0.step)⟩
                                                    · replace c38 := Bool.eq_false_iff.mpr c38
                                                      subst c38
                                                      have H1 : ((spec_l12In.f a0 19968 40959).bind fun t150 => (spec_BreakClass.j6 kj23 a0 t150)) = some r := by rw [if_neg (show ¬ (false = true) by decide)] at H; exact H
                                                      clear H
                                                      have H := H1
                                                      clear H1
                                                      replace H := Option.bind_eq_some_iff.mp H
                                                      obtain ⟨t150, A390, H⟩ := H
                                                      replace H : (spec_BreakClass.j6 kj23 a0 t150) = some r := H
                                                      have A39 := Aside0.mk A390
                                                      clear A390
                                                      have H' := Aside0.mk H
                                                      clear H
                                                      go_wp2_with (first | ((with_reducible refine gate_callee (f := 54) rfl ?_); refine goesL_ (some 43) rfl rfl Try.func54 (by kernel_rfl) rfl #[.int .i64 a0, .int .i64 12352, .int .i64 12543] rfl (by (try simp only [List.map_toArray, List.map_cons, List.map_nil]); first | done | rfl | (simp only [List.length_drop, List.length_take]; rfl)) ?_; (with_reducible refine (spec_l12In.calls a0 12352 12543 false _ A37.out).mono ?_); rintro e w' ⟨rfl, ⟨nd, rfl⟩⟩; refine ⟨_, rfl, ?_⟩) | (go_at_call 54; (with_reducible refine (spec_l12In.calls a0 19968 40959 t150 _ A39.out).mono ?_); rintro e w' ⟨rfl, ⟨nd, rfl⟩⟩))
                                                      go_meet
                                                      case rel => exact ⟨_, (t150), (by first | rfl | (simp; done) | (simp [*]; done)), H', ⟨by have := HJ2.out; have := HJ6.out; have := HJ11.out; have := HJ15.out; have := HJ19.out; have := HJ23.out; first | omega | exact Nat.le_refl _⟩, by repeat (first | exact Drawn0.refl _ | apply Drawn0.step)⟩
                                                  case rest =>
                                                    clear HC36
                                                    try clear c1
                                                    try clear c2
                                                    try clear c2b0
                                                    try clear c2b1
                                                    try clear p2
                                                    try clear c3
                                                    try clear c4
                                                    try clear c4b0
                                                    try clear c4b1
                                                    try clear c5
                                                    try clear c6
                                                    try clear c6b0
                                                    try clear c6b1
                                                    try clear c8
                                                    try clear c8b0
                                                    try clear c8b1
                                                    try clear c9
                                                    try clear c9b0
                                                    try clear c9b1
                                                    try clear c10
                                                    try clear c11
                                                    try clear c11b0
                                                    try clear c11b1
                                                    try clear c13
                                                    try clear c13b0
                                                    try clear c13b1
                                                    try clear c14
                                                    try clear c14b0
                                                    try clear c14b1
                                                    try clear c15
                                                    try clear c17
                                                    try clear c17b0
                                                    try clear c17b1
                                                    try clear c18
                                                    try clear c18b0
                                                    try clear c18b1
                                                    try clear c19
                                                    try clear c21
                                                    try clear c21b0
                                                    try clear c21b1
                                                    try clear c22
                                                    try clear c22b0
                                                    try clear c22b1
                                                    try clear c23
                                                    try clear c25
                                                    try clear c25b0
                                                    try clear c25b1
                                                    try clear c26
                                                    try clear c26b0
                                                    try clear c26b1
                                                    try clear c27
                                                    try clear c27b0
                                                    try clear c27b1
                                                    try clear c28
                                                    try clear c28b0
                                                    try clear c28b1
                                                    try clear c29
                                                    try clear c29b0
                                                    try clear c29b1
                                                    try clear c30
                                                    try clear c30b0
                                                    try clear c30b1
                                                    try clear c31
                                                    try clear c32
                                                    try clear c32b0
                                                    try clear c32b1
                                                    try clear c33
                                                    try clear c33b0
                                                    try clear c33b1
                                                    try clear c35
                                                    try clear c38
                                                    try clear p2
                                                    obtain ⟨kq, x47_35, rfl, HA, HJ35, ⟨mc35, rfl⟩⟩ := hcut
                                                    cases kq with
                                                    | zero => exact absurd HA.out (by simp [spec_BreakClass.j6])
                                                    | succ kj35 =>
                                                      have H := HA.out
                                                      clear HA
                                                      simp only [spec_BreakClass.j6] at H
                                                      by_cases c40 : x47_35 = true
                                                      · subst c40
                                                        have H1 : (some 11) = some r := by rw [if_pos rfl] at H; exact H
                                                        clear H
                                                        have H := H1
                                                        clear H1
                                                        obtain rfl := Option.some.inj H
                                                        go_wp2
                                                        go_ret
                                                        exact ⟨by first | rfl | (simp; done) | (simp [*]; done), by repeat (first | exact Drawn0.refl _ | apply Drawn0.step)⟩
                                                      · replace c40 := Bool.eq_false_iff.mpr c40
                                                        subst c40
                                                        have H1 : ((spec_l12In.f a0 48 57).bind fun t151 => (if t151 = true then (some 12) else (some 0))) = some r := by rw [if_neg (show ¬ (false = true) by decide)] at H; exact H
                                                        clear H
                                                        have H := H1
                                                        clear H1
                                                        replace H := Option.bind_eq_some_iff.mp H
                                                        obtain ⟨t151, A410, H⟩ := H
                                                        replace H : (if t151 = true then (some 12) else (some 0)) = some r := H
                                                        have A41 := Aside0.mk A410
                                                        clear A410
                                                        by_cases c42 : t151 = true
                                                        · subst c42
                                                          have H1 : (some 12) = some r := by rw [if_pos rfl] at H; exact H
                                                          clear H
                                                          have H := H1
                                                          clear H1
                                                          obtain rfl := Option.some.inj H
                                                          go_wp2_with (first | ((with_reducible refine gate_callee (f := 54) rfl ?_); refine goesL_ (some 49) rfl rfl Try.func54 (by kernel_rfl) rfl #[.int .i64 a0, .int .i64 48, .int .i64 57] rfl (by (try simp only [List.map_toArray, List.map_cons, List.map_nil]); first | done | rfl | (simp only [List.length_drop, List.length_take]; rfl)) ?_; (with_reducible refine (spec_l12In.calls a0 48 57 true _ A41.out).mono ?_); rintro e w' ⟨rfl, ⟨nd, rfl⟩⟩; refine ⟨_, rfl, ?_⟩))
                                                          go_ret
                                                          exact ⟨by first | rfl | (simp; done) | (simp [*]; done), by repeat (first | exact Drawn0.refl _ | apply Drawn0.step)⟩
                                                        · replace c42 := Bool.eq_false_iff.mpr c42
                                                          subst c42
                                                          have H1 : (some 0) = some r := by rw [if_neg (show ¬ (false = true) by decide)] at H; exact H
                                                          clear H
                                                          have H := H1
                                                          clear H1
                                                          obtain rfl := Option.some.inj H
                                                          go_wp2_with (first | ((with_reducible refine gate_callee (f := 54) rfl ?_); refine goesL_ (some 49) rfl rfl Try.func54 (by kernel_rfl) rfl #[.int .i64 a0, .int .i64 48, .int .i64 57] rfl (by (try simp only [List.map_toArray, List.map_cons, List.map_nil]); first | done | rfl | (simp only [List.length_drop, List.length_take]; rfl)) ?_; (with_reducible refine (spec_l12In.calls a0 48 57 false _ A41.out).mono ?_); rintro e w' ⟨rfl, ⟨nd, rfl⟩⟩; refine ⟨_, rfl, ?_⟩))
                                                          go_ret
                                                          exact ⟨by first | rfl | (simp; done) | (simp [*]; done), by repeat (first | exact Drawn0.refl _ | apply Drawn0.step)⟩

end Go.Proofs.Ytpknhndanbgkmaa.MFnBreaks
