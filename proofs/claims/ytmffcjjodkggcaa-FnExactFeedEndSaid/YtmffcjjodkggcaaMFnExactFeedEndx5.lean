-- Written by this session's own program (wip/gen/myprint.py).
import Derived.Test.YtmffcjjodkggcaaMFnExactFeedEndx0
namespace Go.Proofs.Ytmffcjjodkggcaa.MFnExactFeedEnd
open Go.RowKit Go.Proofs.YtmffcjjodkggcaaW.PrintWords Go.Proofs.YtmffcjjodkggcaaW.PrintLast Go.Proofs.YtmffcjjodkggcaaW.PrintMore
attribute [local go_sem] max2_int min2_int max_two min_two max_three min_three max_four min_four   -- for this text's walks alone
set_option linter.unusedVariables false
set_option linter.unusedSimpArgs false

/-! ### impl_needs: function 73 -/
mutual
def impl_needs.j0 : Nat → Int → Bool → Option (Int × Int × Int)
  | 0, _, _ => none
  | k + 1, x0, x8 => if x8 = true then (some (2, 128, 191)) else (if x0 = 224 then (some (3, 160, 191)) else (if x0 = 237 then (some (3, 128, 159)) else (if x0 ≥ 225 then (impl_needs.j1 k x0 (decide (x0 ≤ 239))) else (impl_needs.j1 k x0 false))))
def impl_needs.j1 : Nat → Int → Bool → Option (Int × Int × Int)
  | 0, _, _ => none
  | k + 1, x0, x21 => if x21 = true then (some (3, 128, 191)) else (if x0 = 240 then (some (4, 144, 191)) else (if x0 = 244 then (some (4, 128, 143)) else (if x0 ≥ 241 then (if x0 ≤ 243 then (some (4, 128, 191)) else (some (0, 0, 0))) else (some (0, 0, 0)))))
end
def impl_needs.f (k : Nat) (a0 : Int) : Option (Int × Int × Int) := if a0 < 128 then (some (1, 0, 0)) else (if a0 ≥ 194 then (impl_needs.j0 k a0 (decide (a0 ≤ 223))) else (impl_needs.j0 k a0 false))
theorem impl_needs.mono_l : ∀ k, (∀ y0 y1, LeO (impl_needs.j0 k y0 y1) (impl_needs.j0 (k + 1) y0 y1)) ∧ (∀ y0 y1, LeO (impl_needs.j1 k y0 y1) (impl_needs.j1 (k + 1) y0 y1))
  | 0 => ⟨fun _ _ r h => by simp [impl_needs.j0] at h, fun _ _ r h => by simp [impl_needs.j1] at h⟩
  | k + 1 => by
    obtain ⟨ih0, ih1⟩ := impl_needs.mono_l k
    refine ⟨?_, ?_⟩
    · intro y0 y1
      unfold impl_needs.j0
      repeat' first
      | (with_reducible exact ih0 _ _)
      | (with_reducible exact ih1 _ _)
      | (with_reducible exact LeO.refl _)
      | (with_reducible exact LeO.none _)
      | (with_reducible refine LeO.ite ?_ ?_)
      | (with_reducible refine LeO.bind ?_ (fun _ => ?_))
      | exact ih0 _ _
      | exact ih1 _ _
      | exact LeO.none _
      | refine LeO.ite ?_ ?_
      | refine LeO.bind ?_ (fun _ => ?_)
    · intro y0 y1
      unfold impl_needs.j1
      repeat' first
      | (with_reducible exact ih0 _ _)
      | (with_reducible exact ih1 _ _)
      | (with_reducible exact LeO.refl _)
      | (with_reducible exact LeO.none _)
      | (with_reducible refine LeO.ite ?_ ?_)
      | (with_reducible refine LeO.bind ?_ (fun _ => ?_))
      | exact ih0 _ _
      | exact ih1 _ _
      | exact LeO.none _
      | refine LeO.ite ?_ ?_
      | refine LeO.bind ?_ (fun _ => ?_)
theorem impl_needs.mono : ∀ a0 k, LeO (impl_needs.f k a0) (impl_needs.f (k + 1) a0) := by
  intro a0 k
  obtain ⟨ih0, ih1⟩ := impl_needs.mono_l k
  unfold impl_needs.f
  repeat' first
      | (with_reducible exact ih0 _ _)
      | (with_reducible exact ih1 _ _)
      | (with_reducible exact LeO.refl _)
      | (with_reducible exact LeO.none _)
      | (with_reducible refine LeO.ite ?_ ?_)
      | (with_reducible refine LeO.bind ?_ (fun _ => ?_))
      | exact ih0 _ _
      | exact ih1 _ _
      | exact LeO.none _
      | refine LeO.ite ?_ ?_
      | refine LeO.bind ?_ (fun _ => ?_)
set_option maxHeartbeats 8000000 in
set_option maxRecDepth 100000 in
theorem impl_needs.calls (k : Nat) (a0 : Int) (r1 : Int) (r2 : Int) (r3 : Int) (w : World) (h : impl_needs.f k a0 = some (r1, r2, r3)) :
    Calls Try.prog 73 #[.int .u8 a0] w fun e w' => e = .returned (.tuple #[.int .i64 r1, .int .u8 r2, .int .u8 r3]) ∧ Drawn0 w w' := by
  have H : (if a0 < 128 then (some (1, 0, 0)) else (if a0 ≥ 194 then (impl_needs.j0 k a0 (decide (a0 ≤ 223))) else (impl_needs.j0 k a0 false))) = some (r1, r2, r3) := h
  clear h
  by_cases c2 : a0 < 128
  · rw [if_pos c2] at H
    have c2b0 : decide (a0 < 128) = true := decide_eq_true c2
    clear c2
    simp only [Option.some.injEq, Prod.mk.injEq] at H
    obtain ⟨rfl, rfl, rfl⟩ := H
    go_enter Try.func73, Try.ntmps73
    go_wp2
    go_ret3
    exact ⟨by first | rfl | (simp; done) | (simp [*]; done), by repeat (first | exact Drawn0.refl _ | apply Drawn0.step)⟩
  · rw [if_neg c2] at H
    have c2b0 : decide (a0 < 128) = false := decide_eq_false c2
    clear c2
    have HC3 := Aside0.mk H
    clear H
    go_enter Try.func73, Try.ntmps73
    go_upto_region 3 with (fail)
    go_cut [8] (fun v8 wc => ∃ (kq : Nat) (x8_2 : Bool), v8 = .bool x8_2 ∧ Aside0 (impl_needs.j0 kq a0 x8_2 = some (r1, r2, r3)) ∧ Aside0 (kq ≤ k) ∧ Drawn0 w wc)
    case first =>
      have H := HC3.out
      clear HC3
      by_cases c4 : a0 ≥ 194
      · rw [if_pos c4] at H
        have c4b0 : decide (194 ≤ a0) = true := decide_eq_true c4
        clear c4
        (first | rw [c4b0] | (simp only [i64_w, i32_w]; rw [c4b0]) | skip)
        have H' := Aside0.mk H
        clear H
        go_wp2
        go_meet
        case rel => exact ⟨_, (decide (a0 ≤ 223)), (by first | rfl | (simp; done) | (simp [*]; done)), H', ⟨by first | omega | exact Nat.le_refl _⟩, by repeat (first | exact Drawn0.refl _ | apply Drawn0.step)⟩
      · rw [if_neg c4] at H
        have c4b0 : decide (194 ≤ a0) = false := decide_eq_false c4
        clear c4
        (first | rw [c4b0] | (simp only [i64_w, i32_w]; rw [c4b0]) | skip)
        have H' := Aside0.mk H
        clear H
        go_wp2
        go_meet
        case rel => exact ⟨_, (false), (by first | rfl | (simp; done) | (simp [*]; done)), H', ⟨by first | omega | exact Nat.le_refl _⟩, by repeat (first | exact Drawn0.refl _ | apply Drawn0.step)⟩
    case rest =>
      clear HC3
      try clear c2
      try clear c2b0
      try clear p2
      try clear c4
      try clear c4b0
      obtain ⟨kq, x8_2, rfl, HA, HJ2, ⟨mc2, rfl⟩⟩ := hcut
      cases kq with
      | zero => exact absurd HA.out (by simp [impl_needs.j0])
      | succ kj2 =>
        have H := HA.out
        clear HA
        simp only [impl_needs.j0] at H
        by_cases c5 : x8_2 = true
        · subst c5
          have H1 : (some (2, 128, 191)) = some (r1, r2, r3) := by rw [if_pos rfl] at H; exact H
          clear H
          have H := H1
          clear H1
          simp only [Option.some.injEq, Prod.mk.injEq] at H
          obtain ⟨rfl, rfl, rfl⟩ := H
          go_wp2
          go_ret3
          exact ⟨by first | rfl | (simp; done) | (simp [*]; done), by repeat (first | exact Drawn0.refl _ | apply Drawn0.step)⟩
        · replace c5 := Bool.eq_false_iff.mpr c5
          subst c5
          have H1 : (if a0 = 224 then (some (3, 160, 191)) else (if a0 = 237 then (some (3, 128, 159)) else (if a0 ≥ 225 then (impl_needs.j1 kj2 a0 (decide (a0 ≤ 239))) else (impl_needs.j1 kj2 a0 false)))) = some (r1, r2, r3) := by rw [if_neg (show ¬ (false = true) by decide)] at H; exact H
          clear H
          have H := H1
          clear H1
          by_cases c6 : a0 = 224
          · rw [if_pos c6] at H
            have c6b0 : (a0 == 224) = true := beq_iff_eq.mpr c6
            have c6b1 : (a0 != 224) = false := bne_eq_false_iff_eq.mpr c6
            clear c6
            simp only [Option.some.injEq, Prod.mk.injEq] at H
            obtain ⟨rfl, rfl, rfl⟩ := H
            go_wp2
            go_ret3
            exact ⟨by first | rfl | (simp; done) | (simp [*]; done), by repeat (first | exact Drawn0.refl _ | apply Drawn0.step)⟩
          · rw [if_neg c6] at H
            have c6b0 : (a0 == 224) = false := beq_eq_false_iff_ne.mpr c6
            have c6b1 : (a0 != 224) = true := bne_iff_ne.mpr c6
            by_cases c7 : a0 = 237
            · rw [if_pos c7] at H
              have c7b0 : (a0 == 237) = true := beq_iff_eq.mpr c7
              have c7b1 : (a0 != 237) = false := bne_eq_false_iff_eq.mpr c7
              clear c7
              simp only [Option.some.injEq, Prod.mk.injEq] at H
              obtain ⟨rfl, rfl, rfl⟩ := H
              go_wp2
              go_ret3
              exact ⟨by first | rfl | (simp; done) | (simp [*]; done), by repeat (first | exact Drawn0.refl _ | apply Drawn0.step)⟩
            · rw [if_neg c7] at H
              have c7b0 : (a0 == 237) = false := beq_eq_false_iff_ne.mpr c7
              have c7b1 : (a0 != 237) = true := bne_iff_ne.mpr c7
              have HC8 := Aside0.mk H
              clear H
              go_upto_region 9 with (fail)
              go_cut [21] (fun v21 wc => ∃ (kq : Nat) (x21_7 : Bool), v21 = .bool x21_7 ∧ Aside0 (impl_needs.j1 kq a0 x21_7 = some (r1, r2, r3)) ∧ Aside0 (kq ≤ kj2) ∧ Drawn0 w wc)
              case first =>
                have H := HC8.out
                clear HC8
                by_cases c9 : a0 ≥ 225
                · rw [if_pos c9] at H
                  have c9b0 : decide (225 ≤ a0) = true := decide_eq_true c9
                  clear c9
                  (first | rw [c9b0] | (simp only [i64_w, i32_w]; rw [c9b0]) | skip)
                  have H' := Aside0.mk H
                  clear H
                  go_wp2
                  go_meet
                  case rel => exact ⟨_, (decide (a0 ≤ 239)), (by first | rfl | (simp; done) | (simp [*]; done)), H', ⟨by have := HJ2.out; first | omega | exact Nat.le_refl _⟩, by repeat (first | exact Drawn0.refl _ | apply Drawn0.step)⟩
                · rw [if_neg c9] at H
                  have c9b0 : decide (225 ≤ a0) = false := decide_eq_false c9
                  clear c9
                  (first | rw [c9b0] | (simp only [i64_w, i32_w]; rw [c9b0]) | skip)
                  have H' := Aside0.mk H
                  clear H
                  go_wp2
                  go_meet
                  case rel => exact ⟨_, (false), (by first | rfl | (simp; done) | (simp [*]; done)), H', ⟨by have := HJ2.out; first | omega | exact Nat.le_refl _⟩, by repeat (first | exact Drawn0.refl _ | apply Drawn0.step)⟩
              case rest =>
                clear HC8
                try clear c2
                try clear c2b0
                try clear p2
                try clear c4
                try clear c4b0
                try clear c5
                try clear c6
                try clear c6b0
                try clear c6b1
                try clear c7
                try clear c7b0
                try clear c7b1
                try clear c9
                try clear c9b0
                try clear p2
                obtain ⟨kq, x21_7, rfl, HA, HJ7, ⟨mc7, rfl⟩⟩ := hcut
                cases kq with
                | zero => exact absurd HA.out (by simp [impl_needs.j1])
                | succ kj7 =>
                  have H := HA.out
                  clear HA
                  simp only [impl_needs.j1] at H
                  by_cases c10 : x21_7 = true
                  · subst c10
                    have H1 : (some (3, 128, 191)) = some (r1, r2, r3) := by rw [if_pos rfl] at H; exact H
                    clear H
                    have H := H1
                    clear H1
                    simp only [Option.some.injEq, Prod.mk.injEq] at H
                    obtain ⟨rfl, rfl, rfl⟩ := H
                    go_wp2
                    go_ret3
                    exact ⟨by first | rfl | (simp; done) | (simp [*]; done), by repeat (first | exact Drawn0.refl _ | apply Drawn0.step)⟩
                  · replace c10 := Bool.eq_false_iff.mpr c10
                    subst c10
                    have H1 : (if a0 = 240 then (some (4, 144, 191)) else (if a0 = 244 then (some (4, 128, 143)) else (if a0 ≥ 241 then (if a0 ≤ 243 then (some (4, 128, 191)) else (some (0, 0, 0))) else (some (0, 0, 0))))) = some (r1, r2, r3) := by rw [if_neg (show ¬ (false = true) by decide)] at H; exact H
                    clear H
                    have H := H1
                    clear H1
                    by_cases c11 : a0 = 240
                    · rw [if_pos c11] at H
                      have c11b0 : (a0 == 240) = true := beq_iff_eq.mpr c11
                      have c11b1 : (a0 != 240) = false := bne_eq_false_iff_eq.mpr c11
                      clear c11
                      simp only [Option.some.injEq, Prod.mk.injEq] at H
                      obtain ⟨rfl, rfl, rfl⟩ := H
                      go_wp2
                      go_ret3
                      exact ⟨by first | rfl | (simp; done) | (simp [*]; done), by repeat (first | exact Drawn0.refl _ | apply Drawn0.step)⟩
                    · rw [if_neg c11] at H
                      have c11b0 : (a0 == 240) = false := beq_eq_false_iff_ne.mpr c11
                      have c11b1 : (a0 != 240) = true := bne_iff_ne.mpr c11
                      by_cases c12 : a0 = 244
                      · rw [if_pos c12] at H
                        have c12b0 : (a0 == 244) = true := beq_iff_eq.mpr c12
                        have c12b1 : (a0 != 244) = false := bne_eq_false_iff_eq.mpr c12
                        clear c12
                        simp only [Option.some.injEq, Prod.mk.injEq] at H
                        obtain ⟨rfl, rfl, rfl⟩ := H
                        go_wp2
                        go_ret3
                        exact ⟨by first | rfl | (simp; done) | (simp [*]; done), by repeat (first | exact Drawn0.refl _ | apply Drawn0.step)⟩
                      · rw [if_neg c12] at H
                        have c12b0 : (a0 == 244) = false := beq_eq_false_iff_ne.mpr c12
                        have c12b1 : (a0 != 244) = true := bne_iff_ne.mpr c12
                        by_cases c13 : a0 ≥ 241
                        · rw [if_pos c13] at H
                          have c13b0 : decide (241 ≤ a0) = true := decide_eq_true c13
                          clear c13
                          by_cases c14 : a0 ≤ 243
                          · rw [if_pos c14] at H
                            have c14b0 : decide (a0 ≤ 243) = true := decide_eq_true c14
                            clear c14
                            simp only [Option.some.injEq, Prod.mk.injEq] at H
                            obtain ⟨rfl, rfl, rfl⟩ := H
                            go_wp2
                            go_ret3
                            exact ⟨by first | rfl | (simp; done) | (simp [*]; done), by repeat (first | exact Drawn0.refl _ | apply Drawn0.step)⟩
                          · rw [if_neg c14] at H
                            have c14b0 : decide (a0 ≤ 243) = false := decide_eq_false c14
                            clear c14
                            simp only [Option.some.injEq, Prod.mk.injEq] at H
                            obtain ⟨rfl, rfl, rfl⟩ := H
                            go_wp2
                            go_ret3
                            exact ⟨by first | rfl | (simp; done) | (simp [*]; done), by repeat (first | exact Drawn0.refl _ | apply Drawn0.step)⟩
                        · rw [if_neg c13] at H
                          have c13b0 : decide (241 ≤ a0) = false := decide_eq_false c13
                          clear c13
                          simp only [Option.some.injEq, Prod.mk.injEq] at H
                          obtain ⟨rfl, rfl, rfl⟩ := H
                          go_wp2
                          go_ret3
                          exact ⟨by first | rfl | (simp; done) | (simp [*]; done), by repeat (first | exact Drawn0.refl _ | apply Drawn0.step)⟩

/-! ### impl_stretch: function 56 -/
def impl_stretch.l0 : Nat → List Int → Int → Int → Int → Int → Option (Int × Bool × Bool)
  | 0, _, _, _, _, _ => none
  | k + 1, x0, x2, x5, x6, x7 => if x2 < x5 then (if x2 = (x0.length : Int) then (some (x2, false, true)) else (if 0 ≤ x2 then (if x2 < (x0.length : Int) then (if (rd x0 x2) < x6 then (some (x2, false, false)) else (if (rd x0 x2) > x7 then (some (x2, false, false)) else (impl_stretch.l0 k x0 (wrap64 (x2 + 1)) x5 128 191))) else (none)) else (none))) else (some (x2, true, false))
def impl_stretch.f (k : Nat) (l0 : List Int) : Option (Int × Bool × Bool) := if 0 < (l0.length : Int) then ((impl_needs.f k (rd l0 0)).bind fun bt226 => (if bt226.1 = 0 then (some (1, false, false)) else (impl_stretch.l0 k l0 1 bt226.1 bt226.2.1 bt226.2.2))) else (none)
theorem impl_stretch.mono_l : ∀ k, (∀ y0 y1 y2 y3 y4, LeO (impl_stretch.l0 k y0 y1 y2 y3 y4) (impl_stretch.l0 (k + 1) y0 y1 y2 y3 y4))
  | 0 => fun _ _ _ _ _ r h => by simp [impl_stretch.l0] at h
  | k + 1 => by
    have ih0 := impl_stretch.mono_l k
    · intro y0 y1 y2 y3 y4
      unfold impl_stretch.l0
      repeat' first
      | (with_reducible exact ih0 _ _ _ _ _)
      | (with_reducible exact impl_needs.mono _ _)
      | (with_reducible exact LeO.refl _)
      | (with_reducible exact LeO.none _)
      | (with_reducible refine LeO.ite ?_ ?_)
      | (with_reducible refine LeO.bind ?_ (fun _ => ?_))
      | exact ih0 _ _ _ _ _
      | exact impl_needs.mono _ _
      | exact LeO.none _
      | refine LeO.ite ?_ ?_
      | refine LeO.bind ?_ (fun _ => ?_)
theorem impl_stretch.mono : ∀ a0 k, LeO (impl_stretch.f k a0) (impl_stretch.f (k + 1) a0) := by
  intro a0 k
  have ih0 := impl_stretch.mono_l k
  unfold impl_stretch.f
  repeat' first
      | (with_reducible exact ih0 _ _ _ _ _)
      | (with_reducible exact impl_needs.mono _ _)
      | (with_reducible exact LeO.refl _)
      | (with_reducible exact LeO.none _)
      | (with_reducible refine LeO.ite ?_ ?_)
      | (with_reducible refine LeO.bind ?_ (fun _ => ?_))
      | exact ih0 _ _ _ _ _
      | exact impl_needs.mono _ _
      | exact LeO.none _
      | refine LeO.ite ?_ ?_
      | refine LeO.bind ?_ (fun _ => ?_)
set_option maxHeartbeats 8000000 in
set_option maxRecDepth 100000 in
theorem impl_stretch.calls (k : Nat) (A0 : Option Addr) (c0 : Nat) (l0 : List Int) (r1 : Int) (r2 : Bool) (r3 : Bool) (w : World) (hr0 : Kd.C (Kd.int .u8) w A0 l0.length l0) (hc0 : l0.length ≤ c0) (h : impl_stretch.f k l0 = some (r1, r2, r3)) :
    Calls Try.prog 56 #[.slice A0 l0.length c0] w fun e w' => e = .returned (.tuple #[.int .i64 r1, .bool r2, .bool r3]) ∧ Drawn0 w w' := by
  have HR0 := Aside0.mk hr0
  have HC0 := Aside0.mk hc0
  clear hr0 hc0
  have H : (if 0 < (l0.length : Int) then ((impl_needs.f k (rd l0 0)).bind fun bt226 => (if bt226.1 = 0 then (some (1, false, false)) else (impl_stretch.l0 k l0 1 bt226.1 bt226.2.1 bt226.2.2))) else (none)) = some (r1, r2, r3) := h
  clear h
  by_cases c2 : 0 < (l0.length : Int)
  · rw [if_pos c2] at H
    have c2b0 : decide (0 < (l0.length : Int)) = true := decide_eq_true c2
    have c2b1 : decide (0 < l0.length) = true := decide_eq_true (by omega)
    clear c2
    replace H := Option.bind_eq_some_iff.mp H
    obtain ⟨⟨t226, t227, t228⟩, A30, H⟩ := H
    replace H : (if t226 = 0 then (some (1, false, false)) else (impl_stretch.l0 k l0 1 t226 t227 t228)) = some (r1, r2, r3) := H
    have A3 := Aside0.mk A30
    clear A30
    by_cases c4 : t226 = 0
    · rw [if_pos c4] at H
      have c4b0 : (t226 == 0) = true := beq_iff_eq.mpr c4
      have c4b1 : (t226 != 0) = false := bne_eq_false_iff_eq.mpr c4
      clear c4
      simp only [Option.some.injEq, Prod.mk.injEq] at H
      obtain ⟨rfl, rfl, rfl⟩ := H
      have p225 : 0 ≤ (0 : Int) := (by omega)
      have q225 : 0 < (l0.length : Int) := of_decide_eq_true (by first | (with_reducible assumption) | assumption)
      obtain ⟨ad225, e225, hx225_0⟩ := Kd.at_int HR0.out 0 p225 q225
      cases e225
      have qi225 : (0 < l0.length) = True := eq_true (by omega)
      (try rw [show ((0 : Int)).toNat = 0 from rfl] at hx225_0)
      (try rw [Addr.add_zero'] at hx225_0)
      replace p225 := eq_true p225
      replace q225 := eq_true q225
      go_enter Try.func56, Try.ntmps56
      go_wp2_with (first | ((with_reducible refine gate_callee (f := 73) rfl ?_); refine goesL_ (some 12) rfl rfl Try.func73 (by kernel_rfl) rfl #[.int .u8 (rd l0 0)] rfl (by (try simp only [List.map_toArray, List.map_cons, List.map_nil]); first | done | rfl | (simp only [List.length_drop, List.length_take]; rfl)) ?_; (with_reducible refine (impl_needs.calls k (rd l0 0) t226 t227 t228 _ A3.out).mono ?_); rintro e w' ⟨rfl, ⟨nd, rfl⟩⟩; refine ⟨_, rfl, ?_⟩))
      go_ret3
      exact ⟨by first | rfl | (simp; done) | (simp [*]; done), by repeat (first | exact Drawn0.refl _ | apply Drawn0.step)⟩
    · rw [if_neg c4] at H
      have c4b0 : (t226 == 0) = false := beq_eq_false_iff_ne.mpr c4
      have c4b1 : (t226 != 0) = true := bne_iff_ne.mpr c4
      have H' := Aside0.mk H
      clear H
      have p225 : 0 ≤ (0 : Int) := (by omega)
      have q225 : 0 < (l0.length : Int) := of_decide_eq_true (by first | (with_reducible assumption) | assumption)
      obtain ⟨ad225, e225, hx225_0⟩ := Kd.at_int HR0.out 0 p225 q225
      cases e225
      have qi225 : (0 < l0.length) = True := eq_true (by omega)
      (try rw [show ((0 : Int)).toNat = 0 from rfl] at hx225_0)
      (try rw [Addr.add_zero'] at hx225_0)
      replace p225 := eq_true p225
      replace q225 := eq_true q225
      go_enter Try.func56, Try.ntmps56
      go_wp2_with (first | ((with_reducible refine gate_callee (f := 73) rfl ?_); refine goesL_ (some 12) rfl rfl Try.func73 (by kernel_rfl) rfl #[.int .u8 (rd l0 0)] rfl (by (try simp only [List.map_toArray, List.map_cons, List.map_nil]); first | done | rfl | (simp only [List.length_drop, List.length_take]; rfl)) ?_; (with_reducible refine (impl_needs.calls k (rd l0 0) t226 t227 t228 _ A3.out).mono ?_); rintro e w' ⟨rfl, ⟨nd, rfl⟩⟩; refine ⟨_, rfl, ?_⟩))
      go_loopg [2, 6, 7] k (fun kq v2 v6 v7 w' => ∃ (x2_1 : Int) (x6_1 : Int) (x7_1 : Int), v2 = .int .i64 x2_1 ∧ v6 = .int .u8 x6_1 ∧ v7 = .int .u8 x7_1 ∧ Aside0 (impl_stretch.l0 kq l0 x2_1 t226 x6_1 x7_1 = some (r1, r2, r3)) ∧ Aside0 (kq ≤ k) ∧ Drawn0 w w')
      case atStart => exact ⟨(1), (t227), (t228), (by first | rfl | (simp; done) | (simp [*]; done)), (by first | rfl | (simp; done) | (simp [*]; done)), (by first | rfl | (simp; done) | (simp [*]; done)), H', ⟨Nat.le_refl _⟩, by repeat (first | exact Drawn0.refl _ | apply Drawn0.step)⟩
      case round =>
        clear H'
        try clear c2
        try clear c2b0
        try clear c2b1
        try clear p2
        try clear q2
        try clear hx2
        try clear qi2
        try clear c4
        try clear c4b0
        try clear c4b1
        try clear hx225_0
        try clear p225
        try clear q225
        obtain ⟨x2_1, x6_1, x7_1, rfl, rfl, rfl, HA, HK1, ⟨m1, rfl⟩⟩ := hrel
        cases gk with
        | zero => exact absurd HA.out (by simp [impl_stretch.l0])
        | succ k1 =>
          have H := HA.out
          clear HA
          simp only [impl_stretch.l0] at H
          by_cases c5 : x2_1 < t226
          · rw [if_pos c5] at H
            have c5b0 : decide (x2_1 < t226) = true := decide_eq_true c5
            clear c5
            by_cases c6 : x2_1 = (l0.length : Int)
            · rw [if_pos c6] at H
              have c6b0 : (x2_1 == (l0.length : Int)) = true := beq_iff_eq.mpr c6
              have c6b1 : (x2_1 != (l0.length : Int)) = false := bne_eq_false_iff_eq.mpr c6
              clear c6
              simp only [Option.some.injEq, Prod.mk.injEq] at H
              obtain ⟨rfl, rfl, rfl⟩ := H
              go_wp2
              go_ret3
              exact ⟨by first | rfl | (simp; done) | (simp [*]; done), by repeat (first | exact Drawn0.refl _ | apply Drawn0.step)⟩
            · rw [if_neg c6] at H
              have c6b0 : (x2_1 == (l0.length : Int)) = false := beq_eq_false_iff_ne.mpr c6
              have c6b1 : (x2_1 != (l0.length : Int)) = true := bne_iff_ne.mpr c6
              by_cases c7 : 0 ≤ x2_1
              · rw [if_pos c7] at H
                have c7b0 : decide (0 ≤ x2_1) = true := decide_eq_true c7
                clear c7
                by_cases c8 : x2_1 < (l0.length : Int)
                · rw [if_pos c8] at H
                  have c8b0 : decide (x2_1 < (l0.length : Int)) = true := decide_eq_true c8
                  clear c8
                  by_cases c9 : (rd l0 x2_1) < x6_1
                  · rw [if_pos c9] at H
                    have c9b0 : decide ((rd l0 x2_1) < x6_1) = true := decide_eq_true c9
                    clear c9
                    simp only [Option.some.injEq, Prod.mk.injEq] at H
                    obtain ⟨rfl, rfl, rfl⟩ := H
                    have p229 : 0 ≤ (x2_1 : Int) := of_decide_eq_true (by first | (with_reducible assumption) | assumption)
                    have q229 : x2_1 < (l0.length : Int) := of_decide_eq_true (by first | (with_reducible assumption) | assumption)
                    obtain ⟨ad229, e229, hx229_0⟩ := Kd.at_int HR0.out x2_1 p229 q229
                    obtain rfl : ad225 = ad229 := (by injection e229)
                    replace p229 := eq_true p229
                    replace q229 := eq_true q229
                    go_wp2
                    go_ret3
                    exact ⟨by first | rfl | (simp; done) | (simp [*]; done), by repeat (first | exact Drawn0.refl _ | apply Drawn0.step)⟩
                  · rw [if_neg c9] at H
                    have c9b0 : decide ((rd l0 x2_1) < x6_1) = false := decide_eq_false c9
                    clear c9
                    by_cases c10 : (rd l0 x2_1) > x7_1
                    · rw [if_pos c10] at H
                      have c10b0 : decide (x7_1 < (rd l0 x2_1)) = true := decide_eq_true c10
                      clear c10
                      simp only [Option.some.injEq, Prod.mk.injEq] at H
                      obtain ⟨rfl, rfl, rfl⟩ := H
                      have p229 : 0 ≤ (x2_1 : Int) := of_decide_eq_true (by first | (with_reducible assumption) | assumption)
                      have q229 : x2_1 < (l0.length : Int) := of_decide_eq_true (by first | (with_reducible assumption) | assumption)
                      obtain ⟨ad229, e229, hx229_0⟩ := Kd.at_int HR0.out x2_1 p229 q229
                      obtain rfl : ad225 = ad229 := (by injection e229)
                      replace p229 := eq_true p229
                      replace q229 := eq_true q229
                      have p230 : 0 ≤ (x2_1 : Int) := of_decide_eq_true (by first | (with_reducible assumption) | assumption)
                      have q230 : x2_1 < (l0.length : Int) := of_decide_eq_true (by first | (with_reducible assumption) | assumption)
                      obtain ⟨ad230, e230, hx230_0⟩ := Kd.at_int HR0.out x2_1 p230 q230
                      obtain rfl : ad225 = ad230 := (by injection e230)
                      replace p230 := eq_true p230
                      replace q230 := eq_true q230
                      go_wp2
                      go_ret3
                      exact ⟨by first | rfl | (simp; done) | (simp [*]; done), by repeat (first | exact Drawn0.refl _ | apply Drawn0.step)⟩
                    · rw [if_neg c10] at H
                      have c10b0 : decide (x7_1 < (rd l0 x2_1)) = false := decide_eq_false c10
                      clear c10
                      have H' := Aside0.mk H
                      clear H
                      have p229 : 0 ≤ (x2_1 : Int) := of_decide_eq_true (by first | (with_reducible assumption) | assumption)
                      have q229 : x2_1 < (l0.length : Int) := of_decide_eq_true (by first | (with_reducible assumption) | assumption)
                      obtain ⟨ad229, e229, hx229_0⟩ := Kd.at_int HR0.out x2_1 p229 q229
                      obtain rfl : ad225 = ad229 := (by injection e229)
                      replace p229 := eq_true p229
                      replace q229 := eq_true q229
                      have p230 : 0 ≤ (x2_1 : Int) := of_decide_eq_true (by first | (with_reducible assumption) | assumption)
                      have q230 : x2_1 < (l0.length : Int) := of_decide_eq_true (by first | (with_reducible assumption) | assumption)
                      obtain ⟨ad230, e230, hx230_0⟩ := Kd.at_int HR0.out x2_1 p230 q230
                      obtain rfl : ad225 = ad230 := (by injection e230)
                      replace p230 := eq_true p230
                      replace q230 := eq_true q230
                      go_wp2
                      go_roundg k1
                      case measure => have := HK1.out; omega
                      case rel => exact ⟨(wrap64 (x2_1 + 1)), (128), (191), (by first | rfl | (simp; done) | (simp [*]; done)), (by first | rfl | (simp; done) | (simp [*]; done)), (by first | rfl | (simp; done) | (simp [*]; done)), H', ⟨by have := HK1.out; omega⟩, by repeat (first | exact Drawn0.refl _ | apply Drawn0.step)⟩
                · rw [if_neg c8] at H
                  exact absurd H (by simp)
              · rw [if_neg c7] at H
                exact absurd H (by simp)
          · rw [if_neg c5] at H
            have c5b0 : decide (x2_1 < t226) = false := decide_eq_false c5
            clear c5
            simp only [Option.some.injEq, Prod.mk.injEq] at H
            obtain ⟨rfl, rfl, rfl⟩ := H
            go_wp2
            go_ret3
            exact ⟨by first | rfl | (simp; done) | (simp [*]; done), by repeat (first | exact Drawn0.refl _ | apply Drawn0.step)⟩
  · rw [if_neg c2] at H
    exact absurd H (by simp)

/-! ### impl_utf8Coding_read: function 37, by hand -/
/-! ### how many bytes are taken at once -/
theorem needs_impl (b : Int) : impl_needs.f 7 b = some (needsF b) := by
  simp only [impl_needs.f, impl_needs.j0, impl_needs.j1, decide_eq_true_eq]
  repeat' refine some_ite (fun _ => ?_) (fun _ => ?_)
  all_goals first
    | (exfalso; simp at *; done)
    | (exfalso; omega)
    | (unfold needsF; refine congrArg some ?_; repeat (first | rw [if_pos (by omega)] | rw [if_neg (by omega)]))
theorem tl_impl (l : List Int) (hl : l.length ≤ 1099511627776) (want : Int) : ∀ (q k n : Nat) (lo hi : Int), (n : Int) + q = want → q < k → 1 ≤ n → n ≤ l.length → want ≤ 4 → impl_stretch.l0 k l n want lo hi = some (((tlF q n lo hi (l.drop n)).1 : Int), (tlF q n lo hi (l.drop n)).2.1, (tlF q n lo hi (l.drop n)).2.2) := by
  intro q
  induction q with
  | zero =>
    intro k n lo hi hw hk h1 hn h4
    obtain ⟨k, rfl⟩ : ∃ m, k = m + 1 := ⟨k - 1, by omega⟩
    rw [impl_stretch.l0, if_neg (by omega)]; first | done | rfl
  | succ q ih =>
    intro k n lo hi hw hk h1 hn h4
    obtain ⟨k, rfl⟩ : ∃ m, k = m + 1 := ⟨k - 1, by omega⟩
    rw [impl_stretch.l0, if_pos (by omega)]
    by_cases e : n = l.length
    · have hd : l.drop n = [] := List.drop_of_length_le (by omega)
      rw [if_pos (by omega), hd, tlF]
    · have hlt : n < l.length := by omega
      rw [if_neg (by omega), if_pos (by omega), if_pos (by omega), rd_n1 l n hlt, List.drop_eq_getElem_cons hlt, tlF]
      by_cases c : l[n] < lo
      · rw [if_pos c, if_pos (.inl c)]
      · by_cases d : l[n] > hi
        · rw [if_neg c, if_pos d, if_pos (.inr d)]
        · rw [if_neg c, if_neg d, if_neg (by omega)]
          have hw1 : wrap64 ((n : Int) + 1) = ((n + 1 : Nat) : Int) := by unfold wrap64; omega
          rw [hw1]
          exact ih k (n + 1) 128 191 (by omega) (by omega) (by omega) (by omega) h4
theorem stretch_impl (l : List Int) (h : l ≠ []) (hl : l.length ≤ 1099511627776) : impl_stretch.f 7 l = some (((stretchF l).1 : Int), (stretchF l).2.1, (stretchF l).2.2) := by
  cases l with
  | nil => exact absurd rfl h
  | cons b r =>
    have hb : rd (b :: r) 0 = b := rfl
    have hn := needs_le b
    rw [impl_stretch.f, if_pos (by simp only [List.length_cons]; omega), hb, needs_impl, Option.bind_some, stretchF]
    by_cases e : (needsF b).1 = 0
    · rw [if_pos e, if_pos e]; rfl
    · rw [if_neg e, if_neg e]
      have := tl_impl (b :: r) hl (needsF b).1 ((needsF b).1.toNat - 1) 7 1 (needsF b).2.1 (needsF b).2.2 (by omega) (by omega) (Nat.le_refl _) (by simp) hn.2
      exact this
/-! ### bytes read as a text -/
theorem Bld.drewN {w : World} {B g : Nat} {out : List Int} (h : Bld w B g out) (m : Nat) : Bld (w.drewN m) B g out := by
  obtain ⟨h0, p, v, h1, h2, h3⟩ := h
  exact ⟨h0, p, v, h1, h2, Kd.R_drewN h3 m⟩
set_option maxHeartbeats 8000000 in
set_option maxRecDepth 100000 in
theorem read_calls (A0 : Option Addr) (c0 : Nat) (l0 : List Int) (z : Value) (w : World) (hr0 : Kd.C (Kd.int .u8) w A0 l0.length l0) (hc0 : l0.length ≤ c0) (hl : l0.length ≤ 1099511627776) (hrg : ∀ x ∈ l0, 0 ≤ x ∧ x ≤ 255) :
    Calls Try.prog 37 #[.agg #[], .slice A0 l0.length c0] w fun e w' => e = .returned (.string (strOfNums (rdU l0.length l0))) ∧ Below w.heap.size w w' := by
  have hu29 := Try.underlying22
  have hu156 := Try.underlying74
  have hu118 := Try.underlying54
  have HR0 := Aside0.mk hr0
  have HC0 := Aside0.mk hc0
  have HL := Aside0.mk hl
  have HRG := Aside0.mk hrg
  clear hr0 hc0 hl hrg
  have HB := Aside0.mk (Below.refl w.heap.size w)
  go_enter Try.func37, Try.ntmps37
  go_wp2
  have HG : Aside0 (Bld ((w.alloc (.cells #[] 54)).alloc (.cells #[.pointer none, .slice none 0 0] 74)) w.heap.size (w.heap.size + 1) []) := ⟨by omega, _, _, by rw [show w.heap.size + 1 = (w.alloc (.cells #[] 54)).heap.size by simp]; exact blk_new _ _, .inl rfl, Kd.R_nil _ _ _ _ _⟩
  have HB1 := Aside0.mk (below_alloc (below_alloc HB.out (.cells #[] 54)) (.cells #[.pointer none, .slice none 0 0] 74))
  generalize ((w.alloc (.cells #[] 54)).alloc (.cells #[.pointer none, .slice none 0 0] 74)) = w1 at HG HB1 ⊢
  clear HB
  go_loopg [1] l0.length (fun kq v1 w' => ∃ (A : Option Addr) (c : Nat) (b out : List Int), v1 = .slice A b.length c ∧ Aside0 (Kd.C (Kd.int .u8) w A b.length b) ∧ Aside0 (b.length ≤ c) ∧ Aside0 (b.length ≤ kq) ∧ Aside0 (out.length + 3 * b.length ≤ 3298534883328) ∧ Aside0 (∀ x ∈ b, 0 ≤ x ∧ x ≤ 255) ∧ Aside0 (∀ x ∈ out, 0 ≤ x ∧ x ≤ 255) ∧ Aside0 (out ++ rdU kq b = rdU l0.length l0) ∧ Aside0 (Bld w' w.heap.size (w.heap.size + 1) out) ∧ Aside0 (Below w.heap.size w w'))
  case atStart => exact ⟨A0, c0, l0, [], rfl, HR0, HC0, ⟨Nat.le_refl _⟩, ⟨by have := HL.out; simp; omega⟩, HRG, ⟨fun x hx => by cases hx⟩, ⟨rfl⟩, HG, HB1⟩
  case round =>
    clear HR0 HC0 HL HRG HG HB1
    obtain ⟨A, c, b, out, rfl, HR, HC, HK, HS, HRG, HRO, HE, HBD, HB⟩ := hrel
    by_cases e : b = []
    · subst e
      have HE2 : Aside0 (out = rdU l0.length l0) := ⟨by have := HE.out; rwa [rdU_nil, List.append_nil] at this⟩
      clear HE
      go_wp2_with (go_at_call 59; refine (bstr_calls wr w (w.heap.size + 1) out HBD.out HB.out HRO.out).mono ?_; rintro e w' ⟨rfl, hb⟩)
      go_ret
      exact ⟨congrArg (fun x => Ending.returned (.string (strOfNums x))) HE2.out, hb⟩
    · have hpos : 0 < b.length := List.length_pos_iff.mpr e
      have hk : gk ≠ 0 := by have := HK.out; omega
      obtain ⟨k1, rfl⟩ := Nat.exists_eq_succ_of_ne_zero hk
      clear hk
      have c1 : decide ((b.length : Int) > 0) = true := decide_eq_true (by omega)
      have c1n : decide (0 < b.length) = true := decide_eq_true hpos
      have c1m : decide ((0 : Int) < (b.length : Int)) = true := decide_eq_true (by omega)
      have hsb := stretch_bd b e
      have HS1 := Aside0.mk (stretch_impl b e (by have := HS.out; omega))
      have HE1 := HE.out
      rw [rdU_cons k1 b e] at HE1
      clear HE e
      obtain ⟨n, hn⟩ : ∃ n, n = (stretchF b).1 := ⟨_, rfl⟩
      obtain ⟨wh, hwh⟩ : ∃ wh, wh = (stretchF b).2.1 := ⟨_, rfl⟩
      obtain ⟨op, hop⟩ : ∃ op, op = (stretchF b).2.2 := ⟨_, rfl⟩
      rw [← hn, ← hwh] at HE1
      rw [← hn, ← hwh, ← hop] at HS1
      rw [← hn] at hsb
      clear hn hwh hop
      have HSB := Aside0.mk hsb
      have HRW := Aside0.mk (Kd.C_below HR.out HB.out)
      have hnb : (n : Int) ≤ (b.length : Int) := by omega
      have hnc : b.length ≤ c := HC.out
      obtain ⟨i0, hi0, _, hz1, _⟩ := info_parts infoB
      have hcut1 := cut_to (P := Try.prog) 22 5 .i64 Try.underlying22 hi0 A b.length c (n : Int) (by omega) hnb hnc
      have hcut2 := cut_from (P := Try.prog) 22 5 .i64 Try.underlying22 hi0 1 hz1 A b.length c (n : Int) (by omega) hnb
      rw [Int.toNat_natCast] at hcut1 hcut2
      have HR2 := Kd.C_drop (k := Kd.int .u8) (m := n) (c := c) HR.out hsb.2.1 hnc
      have HR3 := Kd.C_take (k := Kd.int .u8) (m := n) HR.out hsb.2.1
      have hsz1 : (Kd.int .u8).sz = 1 := rfl
      rw [hsz1] at HR2
      obtain ⟨A', hA'⟩ : ∃ A', A' = (if c = n then A else A.map (·.add (n * 1))) := ⟨_, rfl⟩
      rw [← hA'] at hcut2 HR2
      have hld : (b.drop n).length = b.length - n := List.length_drop
      have hlt : (b.take n).length = n := by rw [List.length_take]; omega
      rw [← hld] at hcut2
      replace HR2 := Aside0.mk HR2
      replace HR3 := Aside0.mk HR3
      have HLD := Aside0.mk hld
      have HLT := Aside0.mk hlt
      have HCC : Aside0 ((b.drop n).length ≤ c - n) := ⟨by rw [hld]; omega⟩
      have HKK : Aside0 ((b.drop n).length ≤ k1) := ⟨by rw [hld]; have := HK.out; omega⟩
      have HRG2 : Aside0 (∀ x ∈ b.drop n, 0 ≤ x ∧ x ≤ 255) := ⟨fun x hx => HRG.out x (List.mem_of_mem_drop hx)⟩
      obtain ⟨d, hd⟩ : ∃ d, d = b.drop n := ⟨_, rfl⟩
      rw [← hd] at hcut2 HR2 HLD HCC HKK HRG2 HE1
      clear hA' hld hlt hsb hnb hnc hd hi0 hz1 hsz1 hpos
      cases wh with
      | true =>
        rw [if_pos rfl] at HE1
        have HE2 : Aside0 ((out ++ b.take n) ++ rdU k1 d = rdU l0.length l0) := ⟨by rw [List.append_assoc]; exact HE1⟩
        clear HE1
        have HO2 : Aside0 (∀ x ∈ out ++ b.take n, 0 ≤ x ∧ x ≤ 255) := ⟨fun x hx => by rcases List.mem_append.mp hx with h | h; exact HRO.out x h; exact HRG.out x (List.mem_of_mem_take h)⟩
        have HS2 : Aside0 ((out ++ b.take n).length + 3 * d.length ≤ 3298534883328) := ⟨by have h1 := HS.out; have h2 := HLD.out; have h3 := HLT.out; have h4 := HSB.out; rw [List.length_append, h3, h2]; omega⟩
        go_wp2_with (first | (go_at_call 56; refine (impl_stretch.calls 7 A c b (n : Int) true op wr HRW.out HC.out HS1.out).mono ?_; rintro e w' ⟨rfl, ⟨nd, rfl⟩⟩) | (go_at_call 57; have hq := wrb_calls (wr.drewN nd) w (w.heap.size + 1) out (b.take n) A c (HBD.out.drewN nd) (pw_below_drewN HB.out nd) HR3.out (by have h1 := HS.out; have h2 := HLT.out; have h3 := HSB.out; omega); rw [HLT.out] at hq; refine hq.mono ?_; clear hq; rintro e w' ⟨rfl, hbd, hb⟩; have HBD2 := Aside0.mk hbd; have HB2 := Aside0.mk hb; clear hbd hb))
        go_roundg k1
        case measure => omega
        case rel => exact ⟨A', c - n, d, out ++ b.take n, rfl, HR2, HCC, HKK, HS2, HRG2, HO2, HE2, HBD2, HB2⟩
      | false =>
        rw [if_neg (by simp)] at HE1
        have HE2 : Aside0 ((out ++ [239, 191, 189]) ++ rdU k1 d = rdU l0.length l0) := ⟨by rw [List.append_assoc]; exact HE1⟩
        clear HE1
        have HO2 : Aside0 (∀ x ∈ out ++ [239, 191, 189], 0 ≤ x ∧ x ≤ 255) := ⟨fun x hx => by rcases List.mem_append.mp hx with h | h; exact HRO.out x h; (simp at h; omega)⟩
        have HS2 : Aside0 ((out ++ [239, 191, 189]).length + 3 * d.length ≤ 3298534883328) := ⟨by have h1 := HS.out; have h2 := HLD.out; have h4 := HSB.out; rw [List.length_append, h2]; simp only [List.length_cons, List.length_nil]; omega⟩
        go_wp2_with (first | (go_at_call 56; refine (impl_stretch.calls 7 A c b (n : Int) false op wr HRW.out HC.out HS1.out).mono ?_; rintro e w' ⟨rfl, ⟨nd, rfl⟩⟩) | (go_at_call 58; refine (wrs_calls (wr.drewN nd) w (w.heap.size + 1) out ⟨#[239, 191, 189]⟩ (HBD.out.drewN nd) (pw_below_drewN HB.out nd) (by have h1 := HS.out; show out.length + 3 ≤ _; omega)).mono ?_; rintro e w' ⟨rfl, hbd, hb⟩; have HBD2 := Aside0.mk hbd; have HB2 := Aside0.mk hb; clear hbd hb))
        go_roundg k1
        case measure => omega
        case rel => exact ⟨A', c - n, d, out ++ [239, 191, 189], rfl, HR2, HCC, HKK, HS2, HRG2, HO2, HE2, HBD2, HB2⟩

/-! ### stringslite_HasPrefix: function 75 -/
def stringslite_HasPrefix.f (a0 : ByteArray) (a1 : ByteArray) : Option (Bool) := if (a0.size : Int) ≥ (a1.size : Int) then (if 0 ≤ (a1.size : Int) then (if (a1.size : Int) ≤ (a0.size : Int) then (some ((a0.extract 0 ((a1.size : Int) : Int).toNat).toList == a1.toList)) else (none)) else (none)) else (some false)
set_option maxHeartbeats 8000000 in
set_option maxRecDepth 100000 in
theorem stringslite_HasPrefix.calls (a0 : ByteArray) (a1 : ByteArray) (r : Bool) (w : World) (h : stringslite_HasPrefix.f a0 a1 = some r) :
    Calls Try.prog 75 #[.string a0, .string a1] w fun e w' => e = .returned (.bool r) ∧ Drawn0 w w' := by
  have H : (if (a0.size : Int) ≥ (a1.size : Int) then (if 0 ≤ (a1.size : Int) then (if (a1.size : Int) ≤ (a0.size : Int) then (some ((a0.extract 0 ((a1.size : Int) : Int).toNat).toList == a1.toList)) else (none)) else (none)) else (some false)) = some r := h
  clear h
  by_cases c3 : (a0.size : Int) ≥ (a1.size : Int)
  · rw [if_pos c3] at H
    have c3b0 : decide ((a1.size : Int) ≤ (a0.size : Int)) = true := decide_eq_true c3
    have c3b1 : decide (a1.size ≤ a0.size) = true := decide_eq_true (Int.ofNat_le.mp c3)
    clear c3
    by_cases c4 : 0 ≤ (a1.size : Int)
    · rw [if_pos c4] at H
      have c4b0 := eq_true c4
      have c4b1 : decide (0 ≤ (a1.size : Int)) = true := decide_eq_true c4
      clear c4
      by_cases c5 : (a1.size : Int) ≤ (a0.size : Int)
      · rw [if_pos c5] at H
        have c5b0 := eq_true c5
        have c5b1 : decide ((a1.size : Int) ≤ (a0.size : Int)) = true := decide_eq_true c5
        clear c5
        obtain rfl := Option.some.inj H
        go_enter Try.func75, Try.ntmps75
        go_wp2
        go_ret
        exact ⟨by first | rfl | (simp; done) | (simp [*]; done), by repeat (first | exact Drawn0.refl _ | apply Drawn0.step)⟩
      · rw [if_neg c5] at H
        exact absurd H (by simp)
    · rw [if_neg c4] at H
      exact absurd H (by simp)
  · rw [if_neg c3] at H
    have c3b0 : decide ((a1.size : Int) ≤ (a0.size : Int)) = false := decide_eq_false c3
    have c3b1 : decide (a1.size ≤ a0.size) = false := decide_eq_false (fun h => c3 (Int.ofNat_le.mpr h))
    clear c3
    obtain rfl := Option.some.inj H
    go_enter Try.func75, Try.ntmps75
    go_wp2
    go_ret
    exact ⟨by first | rfl | (simp; done) | (simp [*]; done), by repeat (first | exact Drawn0.refl _ | apply Drawn0.step)⟩

/-! ### strings_HasPrefix: function 61 -/
def strings_HasPrefix.f (a0 : ByteArray) (a1 : ByteArray) : Option (Bool) := (stringslite_HasPrefix.f a0 a1).bind fun t231 => (some t231)
set_option maxHeartbeats 8000000 in
set_option maxRecDepth 100000 in
theorem strings_HasPrefix.calls (a0 : ByteArray) (a1 : ByteArray) (r : Bool) (w : World) (h : strings_HasPrefix.f a0 a1 = some r) :
    Calls Try.prog 61 #[.string a0, .string a1] w fun e w' => e = .returned (.bool r) ∧ Drawn0 w w' := by
  have H : ((stringslite_HasPrefix.f a0 a1).bind fun t231 => (some t231)) = some r := h
  clear h
  replace H := Option.bind_eq_some_iff.mp H
  obtain ⟨t231, A30, H⟩ := H
  replace H : (some t231) = some r := H
  have A3 := Aside0.mk A30
  clear A30
  obtain rfl := Option.some.inj H
  go_enter Try.func61, Try.ntmps61
  go_wp2_with (first | ((with_reducible refine gate_callee (f := 75) rfl ?_); refine goesL_ (some 7) rfl rfl Try.func75 (by kernel_rfl) rfl #[.string a0, .string a1] rfl (by (try simp only [List.map_toArray, List.map_cons, List.map_nil]); first | done | rfl | (simp only [List.length_drop, List.length_take]; rfl)) ?_; (with_reducible refine (stringslite_HasPrefix.calls a0 a1 t231 _ A3.out).mono ?_); rintro e w' ⟨rfl, ⟨nd, rfl⟩⟩; refine ⟨_, rfl, ?_⟩))
  go_ret
  exact ⟨by first | rfl | (simp; done) | (simp [*]; done), by repeat (first | exact Drawn0.refl _ | apply Drawn0.step)⟩

/-! ### impl_pairCoding_mark: function 96 -/
def impl_pairCoding_mark.f (a0_0 : Bool) : Option (ByteArray) := if a0_0 = true then (some (⟨#[254, 255]⟩ : ByteArray)) else (some (⟨#[255, 254]⟩ : ByteArray))
set_option maxHeartbeats 8000000 in
set_option maxRecDepth 100000 in
theorem impl_pairCoding_mark.calls (a0_0 : Bool) (r : ByteArray) (w : World) (h : impl_pairCoding_mark.f a0_0 = some r) :
    Calls Try.prog 96 #[.agg #[.bool a0_0]] w fun e w' => e = .returned (.string r) ∧ Below w.heap.size w w' := by
  have hu86 := Try.underlying86
  have HB := Aside0.mk (Below.refl w.heap.size w)
  have H : (if a0_0 = true then (some (⟨#[254, 255]⟩ : ByteArray)) else (some (⟨#[255, 254]⟩ : ByteArray))) = some r := h
  clear h
  by_cases c2 : a0_0 = true
  · subst c2
    have H1 : (some (⟨#[254, 255]⟩ : ByteArray)) = some r := by rw [if_pos rfl] at H; exact H
    clear H
    have H := H1
    clear H1
    obtain rfl := Option.some.inj H
    go_enter Try.func96, Try.ntmps96
    go_wp2_with (first | ((with_reducible refine gate_dst (N := 1) rfl ?_); refine box_event ?hg (N := 1) ?hd (cs := #[.bool true]) (t := 86) ?hr ?_; (case hd => rfl); (case hg => rfl); (case hr => first | (go_simp; done) | (go_simp; rfl)); intro gb232 hg w3 hbox hb; have n0_ := Aside0.mk (below_step (by repeat (first | (with_reducible first | exact HB.out | apply below_alloc | apply pw_below_drewN | apply below_drew1) | exact HB.out)) hb); have n1_ := Aside0.mk (hbox); have n2_ := Aside0.mk ((by rw [hg]; exact (below_size (by repeat (first | (with_reducible first | exact HB.out | apply below_alloc | apply pw_below_drewN | apply below_drew1) | exact HB.out))) : w.heap.size ≤ gb232)); have n3_ := Aside0.mk ((by rw [hg]; exact (below_size (by repeat (first | (with_reducible first | exact HB.out | apply below_alloc | apply pw_below_drewN | apply below_drew1) | exact HB.out))) : w.heap.size ≤ gb232)); clear HB; have HB := n0_; have BK232 := n1_; have GW232 := n2_; have GE232 := n3_; clear n0_ n1_ n2_ n3_; clear hb hbox hg; have hcz4_0 : w3.cell? ⟨gb232, 0, none⟩ = some (.bool true) := (blk_cell BK232.out 0).trans rfl; have hfz4_0 := blk_frozen BK232.out 0))
    go_ret
    exact ⟨by first | rfl | (simp [errW_none, errW_some] <;> rfl) | (simp [*, errW_none, errW_some] <;> rfl), by repeat (first | (with_reducible first | exact HB.out | apply below_alloc | apply pw_below_drewN | apply below_drew1 | refine below_set ?_ GE232.out) | exact HB.out)⟩
  · replace c2 := Bool.eq_false_iff.mpr c2
    subst c2
    have H1 : (some (⟨#[255, 254]⟩ : ByteArray)) = some r := by rw [if_neg (show ¬ (false = true) by decide)] at H; exact H
    clear H
    have H := H1
    clear H1
    obtain rfl := Option.some.inj H
    go_enter Try.func96, Try.ntmps96
    go_wp2_with (first | ((with_reducible refine gate_dst (N := 1) rfl ?_); refine box_event ?hg (N := 1) ?hd (cs := #[.bool false]) (t := 86) ?hr ?_; (case hd => rfl); (case hg => rfl); (case hr => first | (go_simp; done) | (go_simp; rfl)); intro gb232 hg w5 hbox hb; have n0_ := Aside0.mk (below_step (by repeat (first | (with_reducible first | exact HB.out | apply below_alloc | apply pw_below_drewN | apply below_drew1) | exact HB.out)) hb); have n1_ := Aside0.mk (hbox); have n2_ := Aside0.mk ((by rw [hg]; exact (below_size (by repeat (first | (with_reducible first | exact HB.out | apply below_alloc | apply pw_below_drewN | apply below_drew1) | exact HB.out))) : w.heap.size ≤ gb232)); have n3_ := Aside0.mk ((by rw [hg]; exact (below_size (by repeat (first | (with_reducible first | exact HB.out | apply below_alloc | apply pw_below_drewN | apply below_drew1) | exact HB.out))) : w.heap.size ≤ gb232)); clear HB; have HB := n0_; have BK232 := n1_; have GW232 := n2_; have GE232 := n3_; clear n0_ n1_ n2_ n3_; clear hb hbox hg; have hcz6_0 : w5.cell? ⟨gb232, 0, none⟩ = some (.bool false) := (blk_cell BK232.out 0).trans rfl; have hfz6_0 := blk_frozen BK232.out 0))
    go_ret
    exact ⟨by first | rfl | (simp [errW_none, errW_some] <;> rfl) | (simp [*, errW_none, errW_some] <;> rfl), by repeat (first | (with_reducible first | exact HB.out | apply below_alloc | apply pw_below_drewN | apply below_drew1 | refine below_set ?_ GE232.out) | exact HB.out)⟩

/-! ### impl_isHigh: function 98 -/
def impl_isHigh.f (a0 : Int) : Option (Bool) := if a0 ≥ 55296 then (some (decide (a0 ≤ 56319))) else (some false)
set_option maxHeartbeats 8000000 in
set_option maxRecDepth 100000 in
theorem impl_isHigh.calls (a0 : Int) (r : Bool) (w : World) (h : impl_isHigh.f a0 = some r) :
    Calls Try.prog 98 #[.int .i64 a0] w fun e w' => e = .returned (.bool r) ∧ Drawn0 w w' := by
  have H : (if a0 ≥ 55296 then (some (decide (a0 ≤ 56319))) else (some false)) = some r := h
  clear h
  by_cases c2 : a0 ≥ 55296
  · rw [if_pos c2] at H
    have c2b0 : decide (55296 ≤ a0) = true := decide_eq_true c2
    clear c2
    obtain rfl := Option.some.inj H
    go_enter Try.func98, Try.ntmps98
    go_wp2
    go_ret
    exact ⟨by first | rfl | (simp; done) | (simp [*]; done), by repeat (first | exact Drawn0.refl _ | apply Drawn0.step)⟩
  · rw [if_neg c2] at H
    have c2b0 : decide (55296 ≤ a0) = false := decide_eq_false c2
    clear c2
    obtain rfl := Option.some.inj H
    go_enter Try.func98, Try.ntmps98
    go_wp2
    go_ret
    exact ⟨by first | rfl | (simp; done) | (simp [*]; done), by repeat (first | exact Drawn0.refl _ | apply Drawn0.step)⟩

/-! ### impl_pairCoding_number: function 99 -/
def impl_pairCoding_number.f (a0_0 : Bool) (l1 : List Int) : Option (Int) := if a0_0 = true then (if 0 < (l1.length : Int) then (if 1 < (l1.length : Int) then (some (Go.bits .or .i64 (wrap64 ((wrap64 (rd l1 0)) * 256)) (wrap64 (rd l1 1)))) else (none)) else (none)) else (if 1 < (l1.length : Int) then (if 0 < (l1.length : Int) then (some (Go.bits .or .i64 (wrap64 ((wrap64 (rd l1 1)) * 256)) (wrap64 (rd l1 0)))) else (none)) else (none))
set_option maxHeartbeats 8000000 in
set_option maxRecDepth 100000 in
theorem impl_pairCoding_number.calls (a0_0 : Bool) (A1 : Option Addr) (c1 : Nat) (l1 : List Int) (r : Int) (w : World) (hr1 : Kd.C (Kd.int .u8) w A1 l1.length l1) (hc1 : l1.length ≤ c1) (h : impl_pairCoding_number.f a0_0 l1 = some r) :
    Calls Try.prog 99 #[.agg #[.bool a0_0], .slice A1 l1.length c1] w fun e w' => e = .returned (.int .i64 r) ∧ Below w.heap.size w w' := by
  have hu86 := Try.underlying86
  have HR1 := Aside0.mk hr1
  have HC1 := Aside0.mk hc1
  clear hr1 hc1
  have HB := Aside0.mk (Below.refl w.heap.size w)
  have H : (if a0_0 = true then (if 0 < (l1.length : Int) then (if 1 < (l1.length : Int) then (some (Go.bits .or .i64 (wrap64 ((wrap64 (rd l1 0)) * 256)) (wrap64 (rd l1 1)))) else (none)) else (none)) else (if 1 < (l1.length : Int) then (if 0 < (l1.length : Int) then (some (Go.bits .or .i64 (wrap64 ((wrap64 (rd l1 1)) * 256)) (wrap64 (rd l1 0)))) else (none)) else (none))) = some r := h
  clear h
  by_cases c3 : a0_0 = true
  · subst c3
    have H1 : (if 0 < (l1.length : Int) then (if 1 < (l1.length : Int) then (some (Go.bits .or .i64 (wrap64 ((wrap64 (rd l1 0)) * 256)) (wrap64 (rd l1 1)))) else (none)) else (none)) = some r := by rw [if_pos rfl] at H; exact H
    clear H
    have H := H1
    clear H1
    by_cases c4 : 0 < (l1.length : Int)
    · rw [if_pos c4] at H
      have c4b0 : decide (0 < (l1.length : Int)) = true := decide_eq_true c4
      have c4b1 : decide (0 < l1.length) = true := decide_eq_true (by omega)
      clear c4
      by_cases c5 : 1 < (l1.length : Int)
      · rw [if_pos c5] at H
        have c5b0 : decide (1 < (l1.length : Int)) = true := decide_eq_true c5
        have c5b1 : decide (1 < l1.length) = true := decide_eq_true (by omega)
        clear c5
        obtain rfl := Option.some.inj H
        go_enter Try.func99, Try.ntmps99
        go_wp2_with (first | ((with_reducible refine gate_dst (N := 2) rfl ?_); refine box_event ?hg (N := 2) ?hd (cs := #[.bool true]) (t := 86) ?hr ?_; (case hd => rfl); (case hg => rfl); (case hr => first | (go_simp; done) | (go_simp; rfl)); intro gb233 hg w6 hbox hb; have n0_ := Aside0.mk (below_step (by repeat (first | (with_reducible first | exact HB.out | apply below_alloc | apply pw_below_drewN | apply below_drew1) | exact HB.out)) hb); have n1_ := Aside0.mk (hbox); have n2_ := Aside0.mk ((by rw [hg]; exact (below_size (by repeat (first | (with_reducible first | exact HB.out | apply below_alloc | apply pw_below_drewN | apply below_drew1) | exact HB.out))) : w.heap.size ≤ gb233)); have n3_ := Aside0.mk ((by rw [hg]; exact (below_size (by repeat (first | (with_reducible first | exact HB.out | apply below_alloc | apply pw_below_drewN | apply below_drew1) | exact HB.out))) : w.heap.size ≤ gb233)); clear HB; have HB := n0_; have BK233 := n1_; have GW233 := n2_; have GE233 := n3_; clear n0_ n1_ n2_ n3_; clear hb hbox hg; have hcz7_0 : w6.cell? ⟨gb233, 0, none⟩ = some (.bool true) := (blk_cell BK233.out 0).trans rfl; have hfz7_0 := blk_frozen BK233.out 0; have p234 : 0 ≤ (0 : Int) := (by omega); have q234 : 0 < (l1.length : Int) := of_decide_eq_true (by first | (with_reducible assumption) | assumption); obtain ⟨ad234, e234, hx234_0⟩ := Kd.at_int HR1.out 0 p234 q234; cases e234; have qi234 : (0 < l1.length) = True := eq_true (by omega); (try rw [show ((0 : Int)).toNat = 0 from rfl] at hx234_0); (try rw [Addr.add_zero'] at hx234_0); replace hx234_0 := (HB.out.cell (World.block_lt_of_cell? w _ hx234_0)).trans hx234_0; replace p234 := eq_true p234; replace q234 := eq_true q234; have p235 : 0 ≤ (1 : Int) := (by omega); have q235 : 1 < (l1.length : Int) := of_decide_eq_true (by first | (with_reducible assumption) | assumption); obtain ⟨ad235, e235, hx235_0⟩ := Kd.at_int HR1.out 1 p235 q235; obtain rfl : ad234 = ad235 := (by injection e235); (try simp only [show (1 : Int).toNat = 1 from rfl, Nat.reduceMul, Nat.reduceEqDiff, Go.Addr.add, ↓reduceIte] at hx235_0); have qi235 : (1 < l1.length) = True := eq_true (by omega); (try rw [show ((1 : Int)).toNat = 1 from rfl] at hx235_0); replace hx235_0 := (HB.out.cell (World.block_lt_of_cell? w _ hx235_0)).trans hx235_0; replace p235 := eq_true p235; replace q235 := eq_true q235))
        repeat (go_quiet (first | ((with_reducible refine gate_dst (N := 2) rfl ?_); refine box_event ?hg (N := 2) ?hd (cs := #[.bool true]) (t := 86) ?hr ?_; (case hd => rfl); (case hg => rfl); (case hr => first | (go_simp; done) | (go_simp; rfl)); intro gb233 hg w6 hbox hb; have n0_ := Aside0.mk (below_step (by repeat (first | (with_reducible first | exact HB.out | apply below_alloc | apply pw_below_drewN | apply below_drew1) | exact HB.out)) hb); have n1_ := Aside0.mk (hbox); have n2_ := Aside0.mk ((by rw [hg]; exact (below_size (by repeat (first | (with_reducible first | exact HB.out | apply below_alloc | apply pw_below_drewN | apply below_drew1) | exact HB.out))) : w.heap.size ≤ gb233)); have n3_ := Aside0.mk ((by rw [hg]; exact (below_size (by repeat (first | (with_reducible first | exact HB.out | apply below_alloc | apply pw_below_drewN | apply below_drew1) | exact HB.out))) : w.heap.size ≤ gb233)); clear HB; have HB := n0_; have BK233 := n1_; have GW233 := n2_; have GE233 := n3_; clear n0_ n1_ n2_ n3_; clear hb hbox hg; have hcz7_0 : w6.cell? ⟨gb233, 0, none⟩ = some (.bool true) := (blk_cell BK233.out 0).trans rfl; have hfz7_0 := blk_frozen BK233.out 0; have p234 : 0 ≤ (0 : Int) := (by omega); have q234 : 0 < (l1.length : Int) := of_decide_eq_true (by first | (with_reducible assumption) | assumption); obtain ⟨ad234, e234, hx234_0⟩ := Kd.at_int HR1.out 0 p234 q234; cases e234; have qi234 : (0 < l1.length) = True := eq_true (by omega); (try rw [show ((0 : Int)).toNat = 0 from rfl] at hx234_0); (try rw [Addr.add_zero'] at hx234_0); replace hx234_0 := (HB.out.cell (World.block_lt_of_cell? w _ hx234_0)).trans hx234_0; replace p234 := eq_true p234; replace q234 := eq_true q234; have p235 : 0 ≤ (1 : Int) := (by omega); have q235 : 1 < (l1.length : Int) := of_decide_eq_true (by first | (with_reducible assumption) | assumption); obtain ⟨ad235, e235, hx235_0⟩ := Kd.at_int HR1.out 1 p235 q235; obtain rfl : ad234 = ad235 := (by injection e235); (try simp only [show (1 : Int).toNat = 1 from rfl, Nat.reduceMul, Nat.reduceEqDiff, Go.Addr.add, ↓reduceIte] at hx235_0); have qi235 : (1 < l1.length) = True := eq_true (by omega); (try rw [show ((1 : Int)).toNat = 1 from rfl] at hx235_0); replace hx235_0 := (HB.out.cell (World.block_lt_of_cell? w _ hx235_0)).trans hx235_0; replace p235 := eq_true p235; replace q235 := eq_true q235)); try go_wp2_with (first | ((with_reducible refine gate_dst (N := 2) rfl ?_); refine box_event ?hg (N := 2) ?hd (cs := #[.bool true]) (t := 86) ?hr ?_; (case hd => rfl); (case hg => rfl); (case hr => first | (go_simp; done) | (go_simp; rfl)); intro gb233 hg w6 hbox hb; have n0_ := Aside0.mk (below_step (by repeat (first | (with_reducible first | exact HB.out | apply below_alloc | apply pw_below_drewN | apply below_drew1) | exact HB.out)) hb); have n1_ := Aside0.mk (hbox); have n2_ := Aside0.mk ((by rw [hg]; exact (below_size (by repeat (first | (with_reducible first | exact HB.out | apply below_alloc | apply pw_below_drewN | apply below_drew1) | exact HB.out))) : w.heap.size ≤ gb233)); have n3_ := Aside0.mk ((by rw [hg]; exact (below_size (by repeat (first | (with_reducible first | exact HB.out | apply below_alloc | apply pw_below_drewN | apply below_drew1) | exact HB.out))) : w.heap.size ≤ gb233)); clear HB; have HB := n0_; have BK233 := n1_; have GW233 := n2_; have GE233 := n3_; clear n0_ n1_ n2_ n3_; clear hb hbox hg; have hcz7_0 : w6.cell? ⟨gb233, 0, none⟩ = some (.bool true) := (blk_cell BK233.out 0).trans rfl; have hfz7_0 := blk_frozen BK233.out 0; have p234 : 0 ≤ (0 : Int) := (by omega); have q234 : 0 < (l1.length : Int) := of_decide_eq_true (by first | (with_reducible assumption) | assumption); obtain ⟨ad234, e234, hx234_0⟩ := Kd.at_int HR1.out 0 p234 q234; cases e234; have qi234 : (0 < l1.length) = True := eq_true (by omega); (try rw [show ((0 : Int)).toNat = 0 from rfl] at hx234_0); (try rw [Addr.add_zero'] at hx234_0); replace hx234_0 := (HB.out.cell (World.block_lt_of_cell? w _ hx234_0)).trans hx234_0; replace p234 := eq_true p234; replace q234 := eq_true q234; have p235 : 0 ≤ (1 : Int) := (by omega); have q235 : 1 < (l1.length : Int) := of_decide_eq_true (by first | (with_reducible assumption) | assumption); obtain ⟨ad235, e235, hx235_0⟩ := Kd.at_int HR1.out 1 p235 q235; obtain rfl : ad234 = ad235 := (by injection e235); (try simp only [show (1 : Int).toNat = 1 from rfl, Nat.reduceMul, Nat.reduceEqDiff, Go.Addr.add, ↓reduceIte] at hx235_0); have qi235 : (1 < l1.length) = True := eq_true (by omega); (try rw [show ((1 : Int)).toNat = 1 from rfl] at hx235_0); replace hx235_0 := (HB.out.cell (World.block_lt_of_cell? w _ hx235_0)).trans hx235_0; replace p235 := eq_true p235; replace q235 := eq_true q235)))
        go_ret
        exact ⟨by first | rfl | (simp [errW_none, errW_some] <;> rfl) | (simp [*, errW_none, errW_some] <;> rfl), by repeat (first | (with_reducible first | exact HB.out | apply below_alloc | apply pw_below_drewN | apply below_drew1 | refine below_set ?_ GE233.out) | exact HB.out)⟩
      · rw [if_neg c5] at H
        exact absurd H (by simp)
    · rw [if_neg c4] at H
      exact absurd H (by simp)
  · replace c3 := Bool.eq_false_iff.mpr c3
    subst c3
    have H1 : (if 1 < (l1.length : Int) then (if 0 < (l1.length : Int) then (some (Go.bits .or .i64 (wrap64 ((wrap64 (rd l1 1)) * 256)) (wrap64 (rd l1 0)))) else (none)) else (none)) = some r := by rw [if_neg (show ¬ (false = true) by decide)] at H; exact H
    clear H
    have H := H1
    clear H1
    by_cases c8 : 1 < (l1.length : Int)
    · rw [if_pos c8] at H
      have c8b0 : decide (1 < (l1.length : Int)) = true := decide_eq_true c8
      have c8b1 : decide (1 < l1.length) = true := decide_eq_true (by omega)
      clear c8
      by_cases c9 : 0 < (l1.length : Int)
      · rw [if_pos c9] at H
        have c9b0 : decide (0 < (l1.length : Int)) = true := decide_eq_true c9
        have c9b1 : decide (0 < l1.length) = true := decide_eq_true (by omega)
        clear c9
        obtain rfl := Option.some.inj H
        go_enter Try.func99, Try.ntmps99
        go_wp2_with (first | ((with_reducible refine gate_dst (N := 2) rfl ?_); refine box_event ?hg (N := 2) ?hd (cs := #[.bool false]) (t := 86) ?hr ?_; (case hd => rfl); (case hg => rfl); (case hr => first | (go_simp; done) | (go_simp; rfl)); intro gb233 hg w10 hbox hb; have n0_ := Aside0.mk (below_step (by repeat (first | (with_reducible first | exact HB.out | apply below_alloc | apply pw_below_drewN | apply below_drew1) | exact HB.out)) hb); have n1_ := Aside0.mk (hbox); have n2_ := Aside0.mk ((by rw [hg]; exact (below_size (by repeat (first | (with_reducible first | exact HB.out | apply below_alloc | apply pw_below_drewN | apply below_drew1) | exact HB.out))) : w.heap.size ≤ gb233)); have n3_ := Aside0.mk ((by rw [hg]; exact (below_size (by repeat (first | (with_reducible first | exact HB.out | apply below_alloc | apply pw_below_drewN | apply below_drew1) | exact HB.out))) : w.heap.size ≤ gb233)); clear HB; have HB := n0_; have BK233 := n1_; have GW233 := n2_; have GE233 := n3_; clear n0_ n1_ n2_ n3_; clear hb hbox hg; have hcz11_0 : w10.cell? ⟨gb233, 0, none⟩ = some (.bool false) := (blk_cell BK233.out 0).trans rfl; have hfz11_0 := blk_frozen BK233.out 0; have p236 : 0 ≤ (1 : Int) := (by omega); have q236 : 1 < (l1.length : Int) := of_decide_eq_true (by first | (with_reducible assumption) | assumption); obtain ⟨ad236, e236, hx236_0⟩ := Kd.at_int HR1.out 1 p236 q236; cases e236; (try simp only [show (1 : Int).toNat = 1 from rfl, Nat.reduceMul, Nat.reduceEqDiff, Go.Addr.add, ↓reduceIte] at hx236_0); have qi236 : (1 < l1.length) = True := eq_true (by omega); (try rw [show ((1 : Int)).toNat = 1 from rfl] at hx236_0); replace hx236_0 := (HB.out.cell (World.block_lt_of_cell? w _ hx236_0)).trans hx236_0; replace p236 := eq_true p236; replace q236 := eq_true q236; have p237 : 0 ≤ (0 : Int) := (by omega); have q237 : 0 < (l1.length : Int) := of_decide_eq_true (by first | (with_reducible assumption) | assumption); obtain ⟨ad237, e237, hx237_0⟩ := Kd.at_int HR1.out 0 p237 q237; obtain rfl : ad236 = ad237 := (by injection e237); have qi237 : (0 < l1.length) = True := eq_true (by omega); (try rw [show ((0 : Int)).toNat = 0 from rfl] at hx237_0); (try rw [Addr.add_zero'] at hx237_0); replace hx237_0 := (HB.out.cell (World.block_lt_of_cell? w _ hx237_0)).trans hx237_0; replace p237 := eq_true p237; replace q237 := eq_true q237))
        repeat (go_quiet (first | ((with_reducible refine gate_dst (N := 2) rfl ?_); refine box_event ?hg (N := 2) ?hd (cs := #[.bool false]) (t := 86) ?hr ?_; (case hd => rfl); (case hg => rfl); (case hr => first | (go_simp; done) | (go_simp; rfl)); intro gb233 hg w10 hbox hb; have n0_ := Aside0.mk (below_step (by repeat (first | (with_reducible first | exact HB.out | apply below_alloc | apply pw_below_drewN | apply below_drew1) | exact HB.out)) hb); have n1_ := Aside0.mk (hbox); have n2_ := Aside0.mk ((by rw [hg]; exact (below_size (by repeat (first | (with_reducible first | exact HB.out | apply below_alloc | apply pw_below_drewN | apply below_drew1) | exact HB.out))) : w.heap.size ≤ gb233)); have n3_ := Aside0.mk ((by rw [hg]; exact (below_size (by repeat (first | (with_reducible first | exact HB.out | apply below_alloc | apply pw_below_drewN | apply below_drew1) | exact HB.out))) : w.heap.size ≤ gb233)); clear HB; have HB := n0_; have BK233 := n1_; have GW233 := n2_; have GE233 := n3_; clear n0_ n1_ n2_ n3_; clear hb hbox hg; have hcz11_0 : w10.cell? ⟨gb233, 0, none⟩ = some (.bool false) := (blk_cell BK233.out 0).trans rfl; have hfz11_0 := blk_frozen BK233.out 0; have p236 : 0 ≤ (1 : Int) := (by omega); have q236 : 1 < (l1.length : Int) := of_decide_eq_true (by first | (with_reducible assumption) | assumption); obtain ⟨ad236, e236, hx236_0⟩ := Kd.at_int HR1.out 1 p236 q236; cases e236; (try simp only [show (1 : Int).toNat = 1 from rfl, Nat.reduceMul, Nat.reduceEqDiff, Go.Addr.add, ↓reduceIte] at hx236_0); have qi236 : (1 < l1.length) = True := eq_true (by omega); (try rw [show ((1 : Int)).toNat = 1 from rfl] at hx236_0); replace hx236_0 := (HB.out.cell (World.block_lt_of_cell? w _ hx236_0)).trans hx236_0; replace p236 := eq_true p236; replace q236 := eq_true q236; have p237 : 0 ≤ (0 : Int) := (by omega); have q237 : 0 < (l1.length : Int) := of_decide_eq_true (by first | (with_reducible assumption) | assumption); obtain ⟨ad237, e237, hx237_0⟩ := Kd.at_int HR1.out 0 p237 q237; obtain rfl : ad236 = ad237 := (by injection e237); have qi237 : (0 < l1.length) = True := eq_true (by omega); (try rw [show ((0 : Int)).toNat = 0 from rfl] at hx237_0); (try rw [Addr.add_zero'] at hx237_0); replace hx237_0 := (HB.out.cell (World.block_lt_of_cell? w _ hx237_0)).trans hx237_0; replace p237 := eq_true p237; replace q237 := eq_true q237)); try go_wp2_with (first | ((with_reducible refine gate_dst (N := 2) rfl ?_); refine box_event ?hg (N := 2) ?hd (cs := #[.bool false]) (t := 86) ?hr ?_; (case hd => rfl); (case hg => rfl); (case hr => first | (go_simp; done) | (go_simp; rfl)); intro gb233 hg w10 hbox hb; have n0_ := Aside0.mk (below_step (by repeat (first | (with_reducible first | exact HB.out | apply below_alloc | apply pw_below_drewN | apply below_drew1) | exact HB.out)) hb); have n1_ := Aside0.mk (hbox); have n2_ := Aside0.mk ((by rw [hg]; exact (below_size (by repeat (first | (with_reducible first | exact HB.out | apply below_alloc | apply pw_below_drewN | apply below_drew1) | exact HB.out))) : w.heap.size ≤ gb233)); have n3_ := Aside0.mk ((by rw [hg]; exact (below_size (by repeat (first | (with_reducible first | exact HB.out | apply below_alloc | apply pw_below_drewN | apply below_drew1) | exact HB.out))) : w.heap.size ≤ gb233)); clear HB; have HB := n0_; have BK233 := n1_; have GW233 := n2_; have GE233 := n3_; clear n0_ n1_ n2_ n3_; clear hb hbox hg; have hcz11_0 : w10.cell? ⟨gb233, 0, none⟩ = some (.bool false) := (blk_cell BK233.out 0).trans rfl; have hfz11_0 := blk_frozen BK233.out 0; have p236 : 0 ≤ (1 : Int) := (by omega); have q236 : 1 < (l1.length : Int) := of_decide_eq_true (by first | (with_reducible assumption) | assumption); obtain ⟨ad236, e236, hx236_0⟩ := Kd.at_int HR1.out 1 p236 q236; cases e236; (try simp only [show (1 : Int).toNat = 1 from rfl, Nat.reduceMul, Nat.reduceEqDiff, Go.Addr.add, ↓reduceIte] at hx236_0); have qi236 : (1 < l1.length) = True := eq_true (by omega); (try rw [show ((1 : Int)).toNat = 1 from rfl] at hx236_0); replace hx236_0 := (HB.out.cell (World.block_lt_of_cell? w _ hx236_0)).trans hx236_0; replace p236 := eq_true p236; replace q236 := eq_true q236; have p237 : 0 ≤ (0 : Int) := (by omega); have q237 : 0 < (l1.length : Int) := of_decide_eq_true (by first | (with_reducible assumption) | assumption); obtain ⟨ad237, e237, hx237_0⟩ := Kd.at_int HR1.out 0 p237 q237; obtain rfl : ad236 = ad237 := (by injection e237); have qi237 : (0 < l1.length) = True := eq_true (by omega); (try rw [show ((0 : Int)).toNat = 0 from rfl] at hx237_0); (try rw [Addr.add_zero'] at hx237_0); replace hx237_0 := (HB.out.cell (World.block_lt_of_cell? w _ hx237_0)).trans hx237_0; replace p237 := eq_true p237; replace q237 := eq_true q237)))
        go_ret
        exact ⟨by first | rfl | (simp [errW_none, errW_some] <;> rfl) | (simp [*, errW_none, errW_some] <;> rfl), by repeat (first | (with_reducible first | exact HB.out | apply below_alloc | apply pw_below_drewN | apply below_drew1 | refine below_set ?_ GE233.out) | exact HB.out)⟩
      · rw [if_neg c9] at H
        exact absurd H (by simp)
    · rw [if_neg c8] at H
      exact absurd H (by simp)

/-! ### impl_isLow: function 100 -/
def impl_isLow.f (a0 : Int) : Option (Bool) := if a0 ≥ 56320 then (some (decide (a0 ≤ 57343))) else (some false)
set_option maxHeartbeats 8000000 in
set_option maxRecDepth 100000 in
theorem impl_isLow.calls (a0 : Int) (r : Bool) (w : World) (h : impl_isLow.f a0 = some r) :
    Calls Try.prog 100 #[.int .i64 a0] w fun e w' => e = .returned (.bool r) ∧ Drawn0 w w' := by
  have H : (if a0 ≥ 56320 then (some (decide (a0 ≤ 57343))) else (some false)) = some r := h
  clear h
  by_cases c2 : a0 ≥ 56320
  · rw [if_pos c2] at H
    have c2b0 : decide (56320 ≤ a0) = true := decide_eq_true c2
    clear c2
    obtain rfl := Option.some.inj H
    go_enter Try.func100, Try.ntmps100
    go_wp2
    go_ret
    exact ⟨by first | rfl | (simp; done) | (simp [*]; done), by repeat (first | exact Drawn0.refl _ | apply Drawn0.step)⟩
  · rw [if_neg c2] at H
    have c2b0 : decide (56320 ≤ a0) = false := decide_eq_false c2
    clear c2
    obtain rfl := Option.some.inj H
    go_enter Try.func100, Try.ntmps100
    go_wp2
    go_ret
    exact ⟨by first | rfl | (simp; done) | (simp [*]; done), by repeat (first | exact Drawn0.refl _ | apply Drawn0.step)⟩

end Go.Proofs.Ytmffcjjodkggcaa.MFnExactFeedEnd
