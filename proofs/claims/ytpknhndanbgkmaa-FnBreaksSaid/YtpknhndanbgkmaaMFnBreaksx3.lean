-- Written by this session's own program (wip/gen/myprint.py).
import Derived.Test.YtpknhndanbgkmaaMFnBreaksx0
namespace Go.Proofs.Ytpknhndanbgkmaa.MFnBreaks
open Go.RowKit Go.Proofs.YtpknhndanbgkmaaW.PrintWords Go.Proofs.YtpknhndanbgkmaaW.PrintLast Go.Proofs.YtpknhndanbgkmaaW.PrintMore
attribute [local go_sem] max2_int min2_int max_two min_two max_three min_three max_four min_four   -- for this text's walks alone
set_option linter.unusedVariables false
set_option linter.unusedSimpArgs false

/-! ### impl_ruled: function 106 -/
mutual
def impl_ruled.j0 : Nat → Int → Int → Bool → Option (Int)
  | 0, _, _, _ => none
  | k + 1, x0, x1, x8 => if x8 = true then (some 0) else (if x0 = 3 then (some 1) else (if x1 = 5 then (impl_ruled.j1 k x0 x1 true) else (impl_ruled.j1 k x0 x1 (x0 == 4))))
def impl_ruled.j1 : Nat → Int → Int → Bool → Option (Int)
  | 0, _, _, _ => none
  | k + 1, x0, x1, x22 => if x22 = true then (some 0) else (if x1 = 4 then (if x0 = 2 then (some 1) else (if x0 = 6 then (some 1) else (some 0))) else (if x1 = 8 then (impl_ruled.j2 k x0 x1 true) else (if x1 = 9 then (impl_ruled.j2 k x0 x1 true) else (impl_ruled.j2 k x0 x1 (x0 == 7)))))
def impl_ruled.j2 : Nat → Int → Int → Bool → Option (Int)
  | 0, _, _, _ => none
  | k + 1, x0, x1, x38 => if x38 = true then (some 0) else (if x0 = 2 then (some 1) else (if x0 = 10 then (impl_ruled.j3 k x0 x1 true) else (impl_ruled.j3 k x0 x1 (x1 == 10))))
def impl_ruled.j3 : Nat → Int → Int → Bool → Option (Int)
  | 0, _, _, _ => none
  | k + 1, x0, x1, x52 => if x52 = true then (some 0) else (if x0 = 6 then (if x1 = 12 then (some 0) else (some 1)) else (if x1 = 6 then (some 0) else (if x0 = 11 then (some 1) else (if x1 = 11 then (some 1) else (some 0)))))
end
def impl_ruled.f (k : Nat) (a0 : Int) (a1 : Int) : Option (Int) := if a0 = 1 then (some 2) else (if a1 = 1 then (impl_ruled.j0 k a0 a1 true) else (if a1 = 2 then (impl_ruled.j0 k a0 a1 true) else (impl_ruled.j0 k a0 a1 (a1 == 3))))
theorem impl_ruled.mono_l : ∀ k, (∀ y0 y1 y2, LeO (impl_ruled.j0 k y0 y1 y2) (impl_ruled.j0 (k + 1) y0 y1 y2)) ∧ (∀ y0 y1 y2, LeO (impl_ruled.j1 k y0 y1 y2) (impl_ruled.j1 (k + 1) y0 y1 y2)) ∧ (∀ y0 y1 y2, LeO (impl_ruled.j2 k y0 y1 y2) (impl_ruled.j2 (k + 1) y0 y1 y2)) ∧ (∀ y0 y1 y2, LeO (impl_ruled.j3 k y0 y1 y2) (impl_ruled.j3 (k + 1) y0 y1 y2))
  | 0 => ⟨fun _ _ _ r h => by simp [impl_ruled.j0] at h, fun _ _ _ r h => by simp [impl_ruled.j1] at h, fun _ _ _ r h => by simp [impl_ruled.j2] at h, fun _ _ _ r h => by simp [impl_ruled.j3] at h⟩
  | k + 1 => by
    obtain ⟨ih0, ih1, ih2, ih3⟩ := impl_ruled.mono_l k
    refine ⟨?_, ?_, ?_, ?_⟩
    · intro y0 y1 y2
      unfold impl_ruled.j0
      repeat' first
      | (with_reducible exact ih0 _ _ _)
      | (with_reducible exact ih1 _ _ _)
      | (with_reducible exact ih2 _ _ _)
      | (with_reducible exact ih3 _ _ _)
      | (with_reducible exact LeO.refl _)
      | (with_reducible exact LeO.none _)
      | (with_reducible refine LeO.ite ?_ ?_)
      | (with_reducible refine LeO.bind ?_ (fun _ => ?_))
      | exact ih0 _ _ _
      | exact ih1 _ _ _
      | exact ih2 _ _ _
      | exact ih3 _ _ _
      | exact LeO.none _
      | refine LeO.ite ?_ ?_
      | refine LeO.bind ?_ (fun _ => ?_)
    · intro y0 y1 y2
      unfold impl_ruled.j1
      repeat' first
      | (with_reducible exact ih0 _ _ _)
      | (with_reducible exact ih1 _ _ _)
      | (with_reducible exact ih2 _ _ _)
      | (with_reducible exact ih3 _ _ _)
      | (with_reducible exact LeO.refl _)
      | (with_reducible exact LeO.none _)
      | (with_reducible refine LeO.ite ?_ ?_)
      | (with_reducible refine LeO.bind ?_ (fun _ => ?_))
      | exact ih0 _ _ _
      | exact ih1 _ _ _
      | exact ih2 _ _ _
      | exact ih3 _ _ _
      | exact LeO.none _
      | refine LeO.ite ?_ ?_
      | refine LeO.bind ?_ (fun _ => ?_)
    · intro y0 y1 y2
      unfold impl_ruled.j2
      repeat' first
      | (with_reducible exact ih0 _ _ _)
      | (with_reducible exact ih1 _ _ _)
      | (with_reducible exact ih2 _ _ _)
      | (with_reducible exact ih3 _ _ _)
      | (with_reducible exact LeO.refl _)
      | (with_reducible exact LeO.none _)
      | (with_reducible refine LeO.ite ?_ ?_)
      | (with_reducible refine LeO.bind ?_ (fun _ => ?_))
      | exact ih0 _ _ _
      | exact ih1 _ _ _
      | exact ih2 _ _ _
      | exact ih3 _ _ _
      | exact LeO.none _
      | refine LeO.ite ?_ ?_
      | refine LeO.bind ?_ (fun _ => ?_)
    · intro y0 y1 y2
      unfold impl_ruled.j3
      repeat' first
      | (with_reducible exact ih0 _ _ _)
      | (with_reducible exact ih1 _ _ _)
      | (with_reducible exact ih2 _ _ _)
      | (with_reducible exact ih3 _ _ _)
      | (with_reducible exact LeO.refl _)
      | (with_reducible exact LeO.none _)
      | (with_reducible refine LeO.ite ?_ ?_)
      | (with_reducible refine LeO.bind ?_ (fun _ => ?_))
      | exact ih0 _ _ _
      | exact ih1 _ _ _
      | exact ih2 _ _ _
      | exact ih3 _ _ _
      | exact LeO.none _
      | refine LeO.ite ?_ ?_
      | refine LeO.bind ?_ (fun _ => ?_)
theorem impl_ruled.mono : ∀ a0 a1 k, LeO (impl_ruled.f k a0 a1) (impl_ruled.f (k + 1) a0 a1) := by
  intro a0 a1 k
  obtain ⟨ih0, ih1, ih2, ih3⟩ := impl_ruled.mono_l k
  unfold impl_ruled.f
  repeat' first
      | (with_reducible exact ih0 _ _ _)
      | (with_reducible exact ih1 _ _ _)
      | (with_reducible exact ih2 _ _ _)
      | (with_reducible exact ih3 _ _ _)
      | (with_reducible exact LeO.refl _)
      | (with_reducible exact LeO.none _)
      | (with_reducible refine LeO.ite ?_ ?_)
      | (with_reducible refine LeO.bind ?_ (fun _ => ?_))
      | exact ih0 _ _ _
      | exact ih1 _ _ _
      | exact ih2 _ _ _
      | exact ih3 _ _ _
      | exact LeO.none _
      | refine LeO.ite ?_ ?_
      | refine LeO.bind ?_ (fun _ => ?_)
set_option maxHeartbeats 8000000 in
set_option maxRecDepth 100000 in
theorem impl_ruled.calls (k : Nat) (a0 : Int) (a1 : Int) (r : Int) (w : World) (h : impl_ruled.f k a0 a1 = some r) :
    Calls Try.prog 106 #[.int .i64 a0, .int .i64 a1] w fun e w' => e = .returned (.int .i64 r) ∧ Drawn0 w w' := by
  have H : (if a0 = 1 then (some 2) else (if a1 = 1 then (impl_ruled.j0 k a0 a1 true) else (if a1 = 2 then (impl_ruled.j0 k a0 a1 true) else (impl_ruled.j0 k a0 a1 (a1 == 3))))) = some r := h
  clear h
  by_cases c3 : a0 = 1
  · rw [if_pos c3] at H
    have c3b0 : (a0 == 1) = true := beq_iff_eq.mpr c3
    have c3b1 : (a0 != 1) = false := bne_eq_false_iff_eq.mpr c3
    clear c3
    obtain rfl := Option.some.inj H
    go_enter Try.func106, Try.ntmps106
    go_wp2
    go_ret
    exact ⟨by first | rfl | (simp; done) | (simp [*]; done), by repeat (first | exact Drawn0.refl _ | apply Drawn0.step)⟩
  · rw [if_neg c3] at H
    have c3b0 : (a0 == 1) = false := beq_eq_false_iff_ne.mpr c3
    have c3b1 : (a0 != 1) = true := bne_iff_ne.mpr c3
    have HC4 := Aside0.mk H
    clear H
    go_enter Try.func106, Try.ntmps106
    go_upto_region 3 with (fail)
    go_cut [8] (fun v8 wc => ∃ (kq : Nat) (x8_3 : Bool), v8 = .bool x8_3 ∧ Aside0 (impl_ruled.j0 kq a0 a1 x8_3 = some r) ∧ Aside0 (kq ≤ k) ∧ Drawn0 w wc)
    case first =>
      have H := HC4.out
      clear HC4
      by_cases c5 : a1 = 1
      · rw [if_pos c5] at H
        have c5b0 : (a1 == 1) = true := beq_iff_eq.mpr c5
        have c5b1 : (a1 != 1) = false := bne_eq_false_iff_eq.mpr c5
        clear c5
        (first | rw [c5b0] | (simp only [i64_w, i32_w]; rw [c5b0]) | skip)
        have H' := Aside0.mk H
        clear H
        go_wp2
        go_meet
        case rel => exact ⟨_, (true), (by first | rfl | (simp; done) | (simp [*]; done)), H', ⟨by first | omega | exact Nat.le_refl _⟩, by repeat (first | exact Drawn0.refl _ | apply Drawn0.step)⟩
      · rw [if_neg c5] at H
        have c5b0 : (a1 == 1) = false := beq_eq_false_iff_ne.mpr c5
        have c5b1 : (a1 != 1) = true := bne_iff_ne.mpr c5
        (first | rw [c5b0] | (simp only [i64_w, i32_w]; rw [c5b0]) | skip)
        by_cases c6 : a1 = 2
        · rw [if_pos c6] at H
          have c6b0 : (a1 == 2) = true := beq_iff_eq.mpr c6
          have c6b1 : (a1 != 2) = false := bne_eq_false_iff_eq.mpr c6
          clear c6
          have H' := Aside0.mk H
          clear H
          go_wp2
          go_meet
          case rel => exact ⟨_, (true), (by first | rfl | (simp; done) | (simp [*]; done)), H', ⟨by first | omega | exact Nat.le_refl _⟩, by repeat (first | exact Drawn0.refl _ | apply Drawn0.step)⟩
        · rw [if_neg c6] at H
          have c6b0 : (a1 == 2) = false := beq_eq_false_iff_ne.mpr c6
          have c6b1 : (a1 != 2) = true := bne_iff_ne.mpr c6
          have H' := Aside0.mk H
          clear H
          go_wp2
          go_meet
          case rel => exact ⟨_, ((a1 == 3)), (by first | rfl | (simp; done) | (simp [*]; done)), H', ⟨by first | omega | exact Nat.le_refl _⟩, by repeat (first | exact Drawn0.refl _ | apply Drawn0.step)⟩
    case rest =>
      clear HC4
      try clear c1
      try clear p2
      try clear c3
      try clear c3b0
      try clear c3b1
      try clear c5
      try clear c5b0
      try clear c5b1
      try clear c6
      try clear c6b0
      try clear c6b1
      obtain ⟨kq, x8_3, rfl, HA, HJ3, ⟨mc3, rfl⟩⟩ := hcut
      cases kq with
      | zero => exact absurd HA.out (by simp [impl_ruled.j0])
      | succ kj3 =>
        have H := HA.out
        clear HA
        simp only [impl_ruled.j0] at H
        by_cases c7 : x8_3 = true
        · subst c7
          have H1 : (some 0) = some r := by rw [if_pos rfl] at H; exact H
          clear H
          have H := H1
          clear H1
          obtain rfl := Option.some.inj H
          go_wp2
          go_ret
          exact ⟨by first | rfl | (simp; done) | (simp [*]; done), by repeat (first | exact Drawn0.refl _ | apply Drawn0.step)⟩
        · replace c7 := Bool.eq_false_iff.mpr c7
          subst c7
          have H1 : (if a0 = 3 then (some 1) else (if a1 = 5 then (impl_ruled.j1 kj3 a0 a1 true) else (impl_ruled.j1 kj3 a0 a1 (a0 == 4)))) = some r := by rw [if_neg (show ¬ (false = true) by decide)] at H; exact H
          clear H
          have H := H1
          clear H1
          by_cases c8 : a0 = 3
          · rw [if_pos c8] at H
            have c8b0 : (a0 == 3) = true := beq_iff_eq.mpr c8
            have c8b1 : (a0 != 3) = false := bne_eq_false_iff_eq.mpr c8
            clear c8
            obtain rfl := Option.some.inj H
            go_wp2
            go_ret
            exact ⟨by first | rfl | (simp; done) | (simp [*]; done), by repeat (first | exact Drawn0.refl _ | apply Drawn0.step)⟩
          · rw [if_neg c8] at H
            have c8b0 : (a0 == 3) = false := beq_eq_false_iff_ne.mpr c8
            have c8b1 : (a0 != 3) = true := bne_iff_ne.mpr c8
            have HC9 := Aside0.mk H
            clear H
            go_upto_region 7 with (fail)
            go_cut [22] (fun v22 wc => ∃ (kq : Nat) (x22_8 : Bool), v22 = .bool x22_8 ∧ Aside0 (impl_ruled.j1 kq a0 a1 x22_8 = some r) ∧ Aside0 (kq ≤ kj3) ∧ Drawn0 w wc)
            case first =>
              have H := HC9.out
              clear HC9
              by_cases c10 : a1 = 5
              · rw [if_pos c10] at H
                have c10b0 : (a1 == 5) = true := beq_iff_eq.mpr c10
                have c10b1 : (a1 != 5) = false := bne_eq_false_iff_eq.mpr c10
                clear c10
                (first | rw [c10b0] | (simp only [i64_w, i32_w]; rw [c10b0]) | skip)
                have H' := Aside0.mk H
                clear H
                go_wp2
                go_meet
                case rel => exact ⟨_, (true), (by first | rfl | (simp; done) | (simp [*]; done)), H', ⟨by have := HJ3.out; first | omega | exact Nat.le_refl _⟩, by repeat (first | exact Drawn0.refl _ | apply Drawn0.step)⟩
              · rw [if_neg c10] at H
                have c10b0 : (a1 == 5) = false := beq_eq_false_iff_ne.mpr c10
                have c10b1 : (a1 != 5) = true := bne_iff_ne.mpr c10
                (first | rw [c10b0] | (simp only [i64_w, i32_w]; rw [c10b0]) | skip)
                have H' := Aside0.mk H
                clear H
                go_wp2
                go_meet
                case rel => exact ⟨_, ((a0 == 4)), (by first | rfl | (simp; done) | (simp [*]; done)), H', ⟨by have := HJ3.out; first | omega | exact Nat.le_refl _⟩, by repeat (first | exact Drawn0.refl _ | apply Drawn0.step)⟩
            case rest =>
              clear HC9
              try clear c1
              try clear p2
              try clear c3
              try clear c3b0
              try clear c3b1
              try clear c5
              try clear c5b0
              try clear c5b1
              try clear c6
              try clear c6b0
              try clear c6b1
              try clear c7
              try clear c8
              try clear c8b0
              try clear c8b1
              try clear c10
              try clear c10b0
              try clear c10b1
              try clear p2
              obtain ⟨kq, x22_8, rfl, HA, HJ8, ⟨mc8, rfl⟩⟩ := hcut
              cases kq with
              | zero => exact absurd HA.out (by simp [impl_ruled.j1])
              | succ kj8 =>
                have H := HA.out
                clear HA
                simp only [impl_ruled.j1] at H
                by_cases c11 : x22_8 = true
                · subst c11
                  have H1 : (some 0) = some r := by rw [if_pos rfl] at H; exact H
                  clear H
                  have H := H1
                  clear H1
                  obtain rfl := Option.some.inj H
                  go_wp2
                  go_ret
                  exact ⟨by first | rfl | (simp; done) | (simp [*]; done), by repeat (first | exact Drawn0.refl _ | apply Drawn0.step)⟩
                · replace c11 := Bool.eq_false_iff.mpr c11
                  subst c11
                  have H1 : (if a1 = 4 then (if a0 = 2 then (some 1) else (if a0 = 6 then (some 1) else (some 0))) else (if a1 = 8 then (impl_ruled.j2 kj8 a0 a1 true) else (if a1 = 9 then (impl_ruled.j2 kj8 a0 a1 true) else (impl_ruled.j2 kj8 a0 a1 (a0 == 7))))) = some r := by rw [if_neg (show ¬ (false = true) by decide)] at H; exact H
                  clear H
                  have H := H1
                  clear H1
                  by_cases c12 : a1 = 4
                  · rw [if_pos c12] at H
                    have c12b0 : (a1 == 4) = true := beq_iff_eq.mpr c12
                    have c12b1 : (a1 != 4) = false := bne_eq_false_iff_eq.mpr c12
                    clear c12
                    by_cases c13 : a0 = 2
                    · rw [if_pos c13] at H
                      have c13b0 : (a0 == 2) = true := beq_iff_eq.mpr c13
                      have c13b1 : (a0 != 2) = false := bne_eq_false_iff_eq.mpr c13
                      clear c13
                      obtain rfl := Option.some.inj H
                      go_wp2
                      go_ret
                      exact ⟨by first | rfl | (simp; done) | (simp [*]; done), by repeat (first | exact Drawn0.refl _ | apply Drawn0.step)⟩
                    · rw [if_neg c13] at H
                      have c13b0 : (a0 == 2) = false := beq_eq_false_iff_ne.mpr c13
                      have c13b1 : (a0 != 2) = true := bne_iff_ne.mpr c13
                      by_cases c14 : a0 = 6
                      · rw [if_pos c14] at H
                        have c14b0 : (a0 == 6) = true := beq_iff_eq.mpr c14
                        have c14b1 : (a0 != 6) = false := bne_eq_false_iff_eq.mpr c14
                        clear c14
                        obtain rfl := Option.some.inj H
                        go_wp2
                        go_ret
                        exact ⟨by first | rfl | (simp; done) | (simp [*]; done), by repeat (first | exact Drawn0.refl _ | apply Drawn0.step)⟩
                      · rw [if_neg c14] at H
                        have c14b0 : (a0 == 6) = false := beq_eq_false_iff_ne.mpr c14
                        have c14b1 : (a0 != 6) = true := bne_iff_ne.mpr c14
                        obtain rfl := Option.some.inj H
                        go_wp2
                        go_ret
                        exact ⟨by first | rfl | (simp; done) | (simp [*]; done), by repeat (first | exact Drawn0.refl _ | apply Drawn0.step)⟩
                  · rw [if_neg c12] at H
                    have c12b0 : (a1 == 4) = false := beq_eq_false_iff_ne.mpr c12
                    have c12b1 : (a1 != 4) = true := bne_iff_ne.mpr c12
                    have HC15 := Aside0.mk H
                    clear H
                    go_upto_region 13 with (fail)
                    go_cut [38] (fun v38 wc => ∃ (kq : Nat) (x38_14 : Bool), v38 = .bool x38_14 ∧ Aside0 (impl_ruled.j2 kq a0 a1 x38_14 = some r) ∧ Aside0 (kq ≤ kj8) ∧ Drawn0 w wc)
                    case first =>
                      have H := HC15.out
                      clear HC15
                      by_cases c16 : a1 = 8
                      · rw [if_pos c16] at H
                        have c16b0 : (a1 == 8) = true := beq_iff_eq.mpr c16
                        have c16b1 : (a1 != 8) = false := bne_eq_false_iff_eq.mpr c16
                        clear c16
                        (first | rw [c16b0] | (simp only [i64_w, i32_w]; rw [c16b0]) | skip)
                        have H' := Aside0.mk H
                        clear H
                        go_wp2
                        go_meet
                        case rel => exact ⟨_, (true), (by first | rfl | (simp; done) | (simp [*]; done)), H', ⟨by have := HJ3.out; have := HJ8.out; first | omega | exact Nat.le_refl _⟩, by repeat (first | exact Drawn0.refl _ | apply Drawn0.step)⟩
                      · rw [if_neg c16] at H
                        have c16b0 : (a1 == 8) = false := beq_eq_false_iff_ne.mpr c16
                        have c16b1 : (a1 != 8) = true := bne_iff_ne.mpr c16
                        (first | rw [c16b0] | (simp only [i64_w, i32_w]; rw [c16b0]) | skip)
                        by_cases c17 : a1 = 9
                        · rw [if_pos c17] at H
                          have c17b0 : (a1 == 9) = true := beq_iff_eq.mpr c17
                          have c17b1 : (a1 != 9) = false := bne_eq_false_iff_eq.mpr c17
                          clear c17
                          have H' := Aside0.mk H
                          clear H
                          go_wp2
                          go_meet
                          case rel => exact ⟨_, (true), (by first | rfl | (simp; done) | (simp [*]; done)), H', ⟨by have := HJ3.out; have := HJ8.out; first | omega | exact Nat.le_refl _⟩, by repeat (first | exact Drawn0.refl _ | apply Drawn0.step)⟩
                        · rw [if_neg c17] at H
                          have c17b0 : (a1 == 9) = false := beq_eq_false_iff_ne.mpr c17
                          have c17b1 : (a1 != 9) = true := bne_iff_ne.mpr c17
                          have H' := Aside0.mk H
                          clear H
                          go_wp2
                          go_meet
                          case rel => exact ⟨_, ((a0 == 7)), (by first | rfl | (simp; done) | (simp [*]; done)), H', ⟨by have := HJ3.out; have := HJ8.out; first | omega | exact Nat.le_refl _⟩, by repeat (first | exact Drawn0.refl _ | apply Drawn0.step)⟩
                    case rest =>
                      clear HC15
                      try clear c1
                      try clear p2
                      try clear c3
                      try clear c3b0
                      try clear c3b1
                      try clear c5
                      try clear c5b0
                      try clear c5b1
                      try clear c6
                      try clear c6b0
                      try clear c6b1
                      try clear c7
                      try clear c8
                      try clear c8b0
                      try clear c8b1
                      try clear c10
                      try clear c10b0
                      try clear c10b1
                      try clear c11
                      try clear c12
                      try clear c12b0
                      try clear c12b1
                      try clear c13
                      try clear c13b0
                      try clear c13b1
                      try clear c14
                      try clear c14b0
                      try clear c14b1
                      try clear c16
                      try clear c16b0
                      try clear c16b1
                      try clear c17
                      try clear c17b0
                      try clear c17b1
                      try clear p2
                      obtain ⟨kq, x38_14, rfl, HA, HJ14, ⟨mc14, rfl⟩⟩ := hcut
                      cases kq with
                      | zero => exact absurd HA.out (by simp [impl_ruled.j2])
                      | succ kj14 =>
                        have H := HA.out
                        clear HA
                        simp only [impl_ruled.j2] at H
                        by_cases c18 : x38_14 = true
                        · subst c18
                          have H1 : (some 0) = some r := by rw [if_pos rfl] at H; exact H
                          clear H
                          have H := H1
                          clear H1
                          obtain rfl := Option.some.inj H
                          go_wp2
                          go_ret
                          exact ⟨by first | rfl | (simp; done) | (simp [*]; done), by repeat (first | exact Drawn0.refl _ | apply Drawn0.step)⟩
                        · replace c18 := Bool.eq_false_iff.mpr c18
                          subst c18
                          have H1 : (if a0 = 2 then (some 1) else (if a0 = 10 then (impl_ruled.j3 kj14 a0 a1 true) else (impl_ruled.j3 kj14 a0 a1 (a1 == 10)))) = some r := by rw [if_neg (show ¬ (false = true) by decide)] at H; exact H
                          clear H
                          have H := H1
                          clear H1
                          by_cases c19 : a0 = 2
                          · rw [if_pos c19] at H
                            have c19b0 : (a0 == 2) = true := beq_iff_eq.mpr c19
                            have c19b1 : (a0 != 2) = false := bne_eq_false_iff_eq.mpr c19
                            clear c19
                            obtain rfl := Option.some.inj H
                            go_wp2
                            go_ret
                            exact ⟨by first | rfl | (simp; done) | (simp [*]; done), by repeat (first | exact Drawn0.refl _ | apply Drawn0.step)⟩
                          · rw [if_neg c19] at H
                            have c19b0 : (a0 == 2) = false := beq_eq_false_iff_ne.mpr c19
                            have c19b1 : (a0 != 2) = true := bne_iff_ne.mpr c19
                            have HC20 := Aside0.mk H
                            clear H
                            go_upto_region 17 with (fail)
                            go_cut [52] (fun v52 wc => ∃ (kq : Nat) (x52_19 : Bool), v52 = .bool x52_19 ∧ Aside0 (impl_ruled.j3 kq a0 a1 x52_19 = some r) ∧ Aside0 (kq ≤ kj14) ∧ Drawn0 w wc)
                            case first =>
                              have H := HC20.out
                              clear HC20
                              by_cases c21 : a0 = 10
                              · rw [if_pos c21] at H
                                have c21b0 : (a0 == 10) = true := beq_iff_eq.mpr c21
                                have c21b1 : (a0 != 10) = false := bne_eq_false_iff_eq.mpr c21
                                clear c21
                                (first | rw [c21b0] | (simp only [i64_w, i32_w]; rw [c21b0]) | skip)
                                have H' := Aside0.mk H
                                clear H
                                go_wp2
                                go_meet
                                case rel => exact ⟨_, (true), (by first | rfl | (simp; done) | (simp [*]; done)), H', ⟨by have := HJ3.out; have := HJ8.out; have := HJ14.out; first | omega | exact Nat.le_refl _⟩, by repeat (first | exact Drawn0.refl _ | apply Drawn0.step)⟩
                              · rw [if_neg c21] at H
                                have c21b0 : (a0 == 10) = false := beq_eq_false_iff_ne.mpr c21
                                have c21b1 : (a0 != 10) = true := bne_iff_ne.mpr c21
                                (first | rw [c21b0] | (simp only [i64_w, i32_w]; rw [c21b0]) | skip)
                                have H' := Aside0.mk H
                                clear H
                                go_wp2
                                go_meet
                                case rel => exact ⟨_, ((a1 == 10)), (by first | rfl | (simp; done) | (simp [*]; done)), H', ⟨by have := HJ3.out; have := HJ8.out; have := HJ14.out; first | omega | exact Nat.le_refl _⟩, by repeat (first | exact Drawn0.refl _ | apply Drawn0.step)⟩
                            case rest =>
                              clear HC20
                              try clear c1
                              try clear c2
                              try clear p2
                              try clear c3
                              try clear c3b0
                              try clear c3b1
                              try clear c5
                              try clear c5b0
                              try clear c5b1
                              try clear c6
                              try clear c6b0
                              try clear c6b1
                              try clear c7
                              try clear c8
                              try clear c8b0
                              try clear c8b1
                              try clear c10
                              try clear c10b0
                              try clear c10b1
                              try clear c11
                              try clear c12
                              try clear c12b0
                              try clear c12b1
                              try clear c13
                              try clear c13b0
                              try clear c13b1
                              try clear c14
                              try clear c14b0
                              try clear c14b1
                              try clear c16
                              try clear c16b0
                              try clear c16b1
                              try clear c17
                              try clear c17b0
                              try clear c17b1
                              try clear c18
                              try clear c19
                              try clear c19b0
                              try clear c19b1
                              try clear c21
                              try clear c21b0
                              try clear c21b1
                              try clear p2
                              obtain ⟨kq, x52_19, rfl, HA, HJ19, ⟨mc19, rfl⟩⟩ := hcut
                              cases kq with
                              | zero => exact absurd HA.out (by simp [impl_ruled.j3])
                              | succ kj19 =>
                                have H := HA.out
                                clear HA
                                simp only [impl_ruled.j3] at H
                                by_cases c22 : x52_19 = true
                                · subst c22
                                  have H1 : (some 0) = some r := by rw [if_pos rfl] at H; exact H
                                  clear H
                                  have H := H1
                                  clear H1
                                  obtain rfl := Option.some.inj H
                                  go_wp2
                                  go_ret
                                  exact ⟨by first | rfl | (simp; done) | (simp [*]; done), by repeat (first | exact Drawn0.refl _ | apply Drawn0.step)⟩
                                · replace c22 := Bool.eq_false_iff.mpr c22
                                  subst c22
                                  have H1 : (if a0 = 6 then (if a1 = 12 then (some 0) else (some 1)) else (if a1 = 6 then (some 0) else (if a0 = 11 then (some 1) else (if a1 = 11 then (some 1) else (some 0))))) = some r := by rw [if_neg (show ¬ (false = true) by decide)] at H; exact H
                                  clear H
                                  have H := H1
                                  clear H1
                                  by_cases c23 : a0 = 6
                                  · rw [if_pos c23] at H
                                    have c23b0 : (a0 == 6) = true := beq_iff_eq.mpr c23
                                    have c23b1 : (a0 != 6) = false := bne_eq_false_iff_eq.mpr c23
                                    clear c23
                                    by_cases c24 : a1 = 12
                                    · rw [if_pos c24] at H
                                      have c24b0 : (a1 == 12) = true := beq_iff_eq.mpr c24
                                      have c24b1 : (a1 != 12) = false := bne_eq_false_iff_eq.mpr c24
                                      clear c24
                                      obtain rfl := Option.some.inj H
                                      go_wp2
                                      go_ret
                                      exact ⟨by first | rfl | (simp; done) | (simp [*]; done), by repeat (first | exact Drawn0.refl _ | apply Drawn0.step)⟩
                                    · rw [if_neg c24] at H
                                      have c24b0 : (a1 == 12) = false := beq_eq_false_iff_ne.mpr c24
                                      have c24b1 : (a1 != 12) = true := bne_iff_ne.mpr c24
                                      obtain rfl := Option.some.inj H
                                      go_wp2
                                      go_ret
                                      exact ⟨by first | rfl | (simp; done) | (simp [*]; done), by repeat (first | exact Drawn0.refl _ | apply Drawn0.step)⟩
                                  · rw [if_neg c23] at H
                                    have c23b0 : (a0 == 6) = false := beq_eq_false_iff_ne.mpr c23
                                    have c23b1 : (a0 != 6) = true := bne_iff_ne.mpr c23
                                    by_cases c25 : a1 = 6
                                    · rw [if_pos c25] at H
                                      have c25b0 : (a1 == 6) = true := beq_iff_eq.mpr c25
                                      have c25b1 : (a1 != 6) = false := bne_eq_false_iff_eq.mpr c25
                                      clear c25
                                      obtain rfl := Option.some.inj H
                                      go_wp2
                                      go_ret
                                      exact ⟨by first | rfl | (simp; done) | (simp [*]; done), by repeat (first | exact Drawn0.refl _ | apply Drawn0.step)⟩
                                    · rw [if_neg c25] at H
                                      have c25b0 : (a1 == 6) = false := beq_eq_false_iff_ne.mpr c25
                                      have c25b1 : (a1 != 6) = true := bne_iff_ne.mpr c25
                                      by_cases c26 : a0 = 11
                                      · rw [if_pos c26] at H
                                        have c26b0 : (a0 == 11) = true := beq_iff_eq.mpr c26
                                        have c26b1 : (a0 != 11) = false := bne_eq_false_iff_eq.mpr c26
                                        clear c26
                                        obtain rfl := Option.some.inj H
                                        go_wp2
                                        go_ret
                                        exact ⟨by first | rfl | (simp; done) | (simp [*]; done), by repeat (first | exact Drawn0.refl _ | apply Drawn0.step)⟩
                                      · rw [if_neg c26] at H
                                        have c26b0 : (a0 == 11) = false := beq_eq_false_iff_ne.mpr c26
                                        have c26b1 : (a0 != 11) = true := bne_iff_ne.mpr c26
                                        by_cases c27 : a1 = 11
                                        · rw [if_pos c27] at H
                                          have c27b0 : (a1 == 11) = true := beq_iff_eq.mpr c27
                                          have c27b1 : (a1 != 11) = false := bne_eq_false_iff_eq.mpr c27
                                          clear c27
                                          obtain rfl := Option.some.inj H
                                          go_wp2
                                          go_ret
                                          exact ⟨by first | rfl | (simp; done) | (simp [*]; done), by repeat (first | exact Drawn0.refl _ | apply Drawn0.step)⟩
                                        · rw [if_neg c27] at H
                                          have c27b0 : (a1 == 11) = false := beq_eq_false_iff_ne.mpr c27
                                          have c27b1 : (a1 != 11) = true := bne_iff_ne.mpr c27
                                          obtain rfl := Option.some.inj H
                                          go_wp2
                                          go_ret
                                          exact ⟨by first | rfl | (simp; done) | (simp [*]; done), by repeat (first | exact Drawn0.refl _ | apply Drawn0.step)⟩

end Go.Proofs.Ytpknhndanbgkmaa.MFnBreaks
