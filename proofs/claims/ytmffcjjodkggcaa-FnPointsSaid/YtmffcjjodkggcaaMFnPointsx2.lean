-- Written by this session's own program (wip/gen/myprint.py).
import Derived.Test.YtmffcjjodkggcaaMFnPointsx0
namespace Go.Proofs.Ytmffcjjodkggcaa.MFnPoints
open Go.RowKit Go.Proofs.YtmffcjjodkggcaaW.PrintWords Go.Proofs.YtmffcjjodkggcaaW.PrintLast Go.Proofs.YtmffcjjodkggcaaW.PrintMore
attribute [local go_sem] max2_int min2_int max_two min_two max_three min_three max_four min_four   -- for this text's walks alone
set_option linter.unusedVariables false
set_option linter.unusedSimpArgs false

/-! ### impl_needs: function 73 -/
mutual
def impl_needs.j0 : Nat → Int → Bool → Option (Int × Int × Int)
  | 0, _, _ => none
  | k + 1, x0, x8 => if x8 = true then (some (2, 128, 191)) else (if x0 = 224 then (some (3, 160, 191)) else (if x0 = 237 then (some (3, 128, 159)) else (if x0 ≥ 225 then (impl_needs.j1 k x0 (decide (x0 ≤ 239))) else (impl_needs.j1 k x0 false))))
def impl_needs.j1 : Nat → Int → Bool → Option (Int × Int × Int)
  | 0, _, _ => none
  | k + 1, x0, x21 => if x21 = true then (some (3, 128, 191)) else (if x0 = 240 then (some (4, 144, 191)) else (if x0 = 244 then (some (4, 128, 143)) else (if x0 ≥ 241 then (if x0 ≤ 243 then (some (4, 128, 191)) else (some (0, 0, 0))) else (some (0, 0, 0)))))
end
def impl_needs.f (k : Nat) (a0 : Int) : Option (Int × Int × Int) := if a0 < 128 then (some (1, 0, 0)) else (if a0 ≥ 194 then (impl_needs.j0 k a0 (decide (a0 ≤ 223))) else (impl_needs.j0 k a0 false))
theorem impl_needs.mono_l : ∀ k, (∀ y0 y1, LeO (impl_needs.j0 k y0 y1) (impl_needs.j0 (k + 1) y0 y1)) ∧ (∀ y0 y1, LeO (impl_needs.j1 k y0 y1) (impl_needs.j1 (k + 1) y0 y1))
  | 0 => ⟨fun _ _ r h => by simp [impl_needs.j0] at h, fun _ _ r h => by simp [impl_needs.j1] at h⟩
  | k + 1 => by
    obtain ⟨ih0, ih1⟩ := impl_needs.mono_l k
    refine ⟨?_, ?_⟩
    · intro y0 y1
      unfold impl_needs.j0
      repeat' first
      | (with_reducible exact ih0 _ _)
      | (with_reducible exact ih1 _ _)
      | (with_reducible exact LeO.refl _)
      | (with_reducible exact LeO.none _)
      | (with_reducible refine LeO.ite ?_ ?_)
      | (with_reducible refine LeO.bind ?_ (fun _ => ?_))
      | exact ih0 _ _
      | exact ih1 _ _
      | exact LeO.none _
      | refine LeO.ite ?_ ?_
      | refine LeO.bind ?_ (fun _ => ?_)
    · intro y0 y1
      unfold impl_needs.j1
      repeat' first
      | (with_reducible exact ih0 _ _)
      | (with_reducible exact ih1 _ _)
      | (with_reducible exact LeO.refl _)
      | (with_reducible exact LeO.none _)
      | (with_reducible refine LeO.ite ?_ ?_)
      | (with_reducible refine LeO.bind ?_ (fun _ => ?_))
      | exact ih0 _ _
      | exact ih1 _ _
      | exact LeO.none _
      | refine LeO.ite ?_ ?_
      | refine LeO.bind ?_ (fun _ => ?_)
theorem impl_needs.mono : ∀ a0 k, LeO (impl_needs.f k a0) (impl_needs.f (k + 1) a0) := by
  intro a0 k
  obtain ⟨ih0, ih1⟩ := impl_needs.mono_l k
  unfold impl_needs.f
  repeat' first
      | (with_reducible exact ih0 _ _)
      | (with_reducible exact ih1 _ _)
      | (with_reducible exact LeO.refl _)
      | (with_reducible exact LeO.none _)
      | (with_reducible refine LeO.ite ?_ ?_)
      | (with_reducible refine LeO.bind ?_ (fun _ => ?_))
      | exact ih0 _ _
      | exact ih1 _ _
      | exact LeO.none _
      | refine LeO.ite ?_ ?_
      | refine LeO.bind ?_ (fun _ => ?_)
set_option maxHeartbeats 8000000 in
set_option maxRecDepth 100000 in
theorem impl_needs.calls (k : Nat) (a0 : Int) (r1 : Int) (r2 : Int) (r3 : Int) (w : World) (h : impl_needs.f k a0 = some (r1, r2, r3)) :
    Calls Try.prog 73 #[.int .u8 a0] w fun e w' => e = .returned (.tuple #[.int .i64 r1, .int .u8 r2, .int .u8 r3]) ∧ Drawn0 w w' := by
  have H : (if a0 < 128 then (some (1, 0, 0)) else (if a0 ≥ 194 then (impl_needs.j0 k a0 (decide (a0 ≤ 223))) else (impl_needs.j0 k a0 false))) = some (r1, r2, r3) := h
  clear h
  by_cases c2 : a0 < 128
  · rw [if_pos c2] at H
    have c2b0 : decide (a0 < 128) = true := decide_eq_true c2
    clear c2
    simp only [Option.some.injEq, Prod.mk.injEq] at H
    obtain ⟨rfl, rfl, rfl⟩ := H
    go_enter Try.func73, Try.ntmps73
    go_wp2
    go_ret3
    exact ⟨by first | rfl | (simp; done) | (simp [*]; done), by repeat (first | exact Drawn0.refl _ | apply Drawn0.step)⟩
  · rw [if_neg c2] at H
    have c2b0 : decide (a0 < 128) = false := decide_eq_false c2
    clear c2
    have HC3 := Aside0.mk H
    clear H
    go_enter Try.func73, Try.ntmps73
    go_upto_region 3 with (fail)
    go_cut [8] (fun v8 wc => ∃ (kq : Nat) (x8_2 : Bool), v8 = .bool x8_2 ∧ Aside0 (impl_needs.j0 kq a0 x8_2 = some (r1, r2, r3)) ∧ Aside0 (kq ≤ k) ∧ Drawn0 w wc)
    case first =>
      have H := HC3.out
      clear HC3
      by_cases c4 : a0 ≥ 194
      · rw [if_pos c4] at H
        have c4b0 : decide (194 ≤ a0) = true := decide_eq_true c4
        clear c4
        (first | rw [c4b0] | (simp only [i64_w, i32_w]; rw [c4b0]) | skip)
        have H' := Aside0.mk H
        clear H
        go_wp2
        go_meet
        case rel => exact ⟨_, (decide (a0 ≤ 223)), (by first | rfl | (simp; done) | (simp [*]; done)), H', ⟨by first | omega | exact Nat.le_refl _⟩, by repeat (first | exact Drawn0.refl _ | apply Drawn0.step)⟩
      · rw [if_neg c4] at H
        have c4b0 : decide (194 ≤ a0) = false := decide_eq_false c4
        clear c4
        (first | rw [c4b0] | (simp only [i64_w, i32_w]; rw [c4b0]) | skip)
        have H' := Aside0.mk H
        clear H
        go_wp2
        go_meet
        case rel => exact ⟨_, (false), (by first | rfl | (simp; done) | (simp [*]; done)), H', ⟨by first | omega | exact Nat.le_refl _⟩, by repeat (first | exact Drawn0.refl _ | apply Drawn0.step)⟩
    case rest =>
      clear HC3
      try clear c2
      try clear c2b0
      try clear p2
      try clear c4
      try clear c4b0
      obtain ⟨kq, x8_2, rfl, HA, HJ2, ⟨mc2, rfl⟩⟩ := hcut
      cases kq with
      | zero => exact absurd HA.out (by simp [impl_needs.j0])
      | succ kj2 =>
        have H := HA.out
        clear HA
        simp only [impl_needs.j0] at H
        by_cases c5 : x8_2 = true
        · subst c5
          have H1 : (some (2, 128, 191)) = some (r1, r2, r3) := by rw [if_pos rfl] at H; exact H
          clear H
          have H := H1
          clear H1
          simp only [Option.some.injEq, Prod.mk.injEq] at H
          obtain ⟨rfl, rfl, rfl⟩ := H
          go_wp2
          go_ret3
          exact ⟨by first | rfl | (simp; done) | (simp [*]; done), by repeat (first | exact Drawn0.refl _ | apply Drawn0.step)⟩
        · replace c5 := Bool.eq_false_iff.mpr c5
          subst c5
          have H1 : (if a0 = 224 then (some (3, 160, 191)) else (if a0 = 237 then (some (3, 128, 159)) else (if a0 ≥ 225 then (impl_needs.j1 kj2 a0 (decide (a0 ≤ 239))) else (impl_needs.j1 kj2 a0 false)))) = some (r1, r2, r3) := by rw [if_neg (show ¬ (false = true) by decide)] at H; exact H
          clear H
          have H := H1
          clear H1
          by_cases c6 : a0 = 224
          · rw [if_pos c6] at H
            have c6b0 : (a0 == 224) = true := beq_iff_eq.mpr c6
            have c6b1 : (a0 != 224) = false := bne_eq_false_iff_eq.mpr c6
            clear c6
            simp only [Option.some.injEq, Prod.mk.injEq] at H
            obtain ⟨rfl, rfl, rfl⟩ := H
            go_wp2
            go_ret3
            exact ⟨by first | rfl | (simp; done) | (simp [*]; done), by repeat (first | exact Drawn0.refl _ | apply Drawn0.step)⟩
          · rw [if_neg c6] at H
            have c6b0 : (a0 == 224) = false := beq_eq_false_iff_ne.mpr c6
            have c6b1 : (a0 != 224) = true := bne_iff_ne.mpr c6
            by_cases c7 : a0 = 237
            · rw [if_pos c7] at H
              have c7b0 : (a0 == 237) = true := beq_iff_eq.mpr c7
              have c7b1 : (a0 != 237) = false := bne_eq_false_iff_eq.mpr c7
              clear c7
              simp only [Option.some.injEq, Prod.mk.injEq] at H
              obtain ⟨rfl, rfl, rfl⟩ := H
              go_wp2
              go_ret3
              exact ⟨by first | rfl | (simp; done) | (simp [*]; done), by repeat (first | exact Drawn0.refl _ | apply Drawn0.step)⟩
            · rw [if_neg c7] at H
              have c7b0 : (a0 == 237) = false := beq_eq_false_iff_ne.mpr c7
              have c7b1 : (a0 != 237) = true := bne_iff_ne.mpr c7
              have HC8 := Aside0.mk H
              clear H
              go_upto_region 9 with (fail)
              go_cut [21] (fun v21 wc => ∃ (kq : Nat) (x21_7 : Bool), v21 = .bool x21_7 ∧ Aside0 (impl_needs.j1 kq a0 x21_7 = some (r1, r2, r3)) ∧ Aside0 (kq ≤ kj2) ∧ Drawn0 w wc)
              case first =>
                have H := HC8.out
                clear HC8
                by_cases c9 : a0 ≥ 225
                · rw [if_pos c9] at H
                  have c9b0 : decide (225 ≤ a0) = true := decide_eq_true c9
                  clear c9
                  (first | rw [c9b0] | (simp only [i64_w, i32_w]; rw [c9b0]) | skip)
                  have H' := Aside0.mk H
                  clear H
                  go_wp2
                  go_meet
                  case rel => exact ⟨_, (decide (a0 ≤ 239)), (by first | rfl | (simp; done) | (simp [*]; done)), H', ⟨by have := HJ2.out; first | omega | exact Nat.le_refl _⟩, by repeat (first | exact Drawn0.refl _ | apply Drawn0.step)⟩
                · rw [if_neg c9] at H
                  have c9b0 : decide (225 ≤ a0) = false := decide_eq_false c9
                  clear c9
                  (first | rw [c9b0] | (simp only [i64_w, i32_w]; rw [c9b0]) | skip)
                  have H' := Aside0.mk H
                  clear H
                  go_wp2
                  go_meet
                  case rel => exact ⟨_, (false), (by first | rfl | (simp; done) | (simp [*]; done)), H', ⟨by have := HJ2.out; first | omega | exact Nat.le_refl _⟩, by repeat (first | exact Drawn0.refl _ | apply Drawn0.step)⟩
              case rest =>
                clear HC8
                try clear c2
                try clear c2b0
                try clear p2
                try clear c4
                try clear c4b0
                try clear c5
                try clear c6
                try clear c6b0
                try clear c6b1
                try clear c7
                try clear c7b0
                try clear c7b1
                try clear c9
                try clear c9b0
                try clear p2
                obtain ⟨kq, x21_7, rfl, HA, HJ7, ⟨mc7, rfl⟩⟩ := hcut
                cases kq with
                | zero => exact absurd HA.out (by simp [impl_needs.j1])
                | succ kj7 =>
                  have H := HA.out
                  clear HA
                  simp only [impl_needs.j1] at H
                  by_cases c10 : x21_7 = true
                  · subst c10
                    have H1 : (some (3, 128, 191)) = some (r1, r2, r3) := by rw [if_pos rfl] at H; exact H
                    clear H
                    have H := H1
                    clear H1
                    simp only [Option.some.injEq, Prod.mk.injEq] at H
                    obtain ⟨rfl, rfl, rfl⟩ := H
                    go_wp2
                    go_ret3
                    exact ⟨by first | rfl | (simp; done) | (simp [*]; done), by repeat (first | exact Drawn0.refl _ | apply Drawn0.step)⟩
                  · replace c10 := Bool.eq_false_iff.mpr c10
                    subst c10
                    have H1 : (if a0 = 240 then (some (4, 144, 191)) else (if a0 = 244 then (some (4, 128, 143)) else (if a0 ≥ 241 then (if a0 ≤ 243 then (some (4, 128, 191)) else (some (0, 0, 0))) else (some (0, 0, 0))))) = some (r1, r2, r3) := by rw [if_neg (show ¬ (false = true) by decide)] at H; exact H
                    clear H
                    have H := H1
                    clear H1
                    by_cases c11 : a0 = 240
                    · rw [if_pos c11] at H
                      have c11b0 : (a0 == 240) = true := beq_iff_eq.mpr c11
                      have c11b1 : (a0 != 240) = false := bne_eq_false_iff_eq.mpr c11
                      clear c11
                      simp only [Option.some.injEq, Prod.mk.injEq] at H
                      obtain ⟨rfl, rfl, rfl⟩ := H
                      go_wp2
                      go_ret3
                      exact ⟨by first | rfl | (simp; done) | (simp [*]; done), by repeat (first | exact Drawn0.refl _ | apply Drawn0.step)⟩
                    · rw [if_neg c11] at H
                      have c11b0 : (a0 == 240) = false := beq_eq_false_iff_ne.mpr c11
                      have c11b1 : (a0 != 240) = true := bne_iff_ne.mpr c11
                      by_cases c12 : a0 = 244
                      · rw [if_pos c12] at H
                        have c12b0 : (a0 == 244) = true := beq_iff_eq.mpr c12
                        have c12b1 : (a0 != 244) = false := bne_eq_false_iff_eq.mpr c12
                        clear c12
                        simp only [Option.some.injEq, Prod.mk.injEq] at H
                        obtain ⟨rfl, rfl, rfl⟩ := H
                        go_wp2
                        go_ret3
                        exact ⟨by first | rfl | (simp; done) | (simp [*]; done), by repeat (first | exact Drawn0.refl _ | apply Drawn0.step)⟩
                      · rw [if_neg c12] at H
                        have c12b0 : (a0 == 244) = false := beq_eq_false_iff_ne.mpr c12
                        have c12b1 : (a0 != 244) = true := bne_iff_ne.mpr c12
                        by_cases c13 : a0 ≥ 241
                        · rw [if_pos c13] at H
                          have c13b0 : decide (241 ≤ a0) = true := decide_eq_true c13
                          clear c13
                          by_cases c14 : a0 ≤ 243
                          · rw [if_pos c14] at H
                            have c14b0 : decide (a0 ≤ 243) = true := decide_eq_true c14
                            clear c14
                            simp only [Option.some.injEq, Prod.mk.injEq] at H
                            obtain ⟨rfl, rfl, rfl⟩ := H
                            go_wp2
                            go_ret3
                            exact ⟨by first | rfl | (simp; done) | (simp [*]; done), by repeat (first | exact Drawn0.refl _ | apply Drawn0.step)⟩
                          · rw [if_neg c14] at H
                            have c14b0 : decide (a0 ≤ 243) = false := decide_eq_false c14
                            clear c14
                            simp only [Option.some.injEq, Prod.mk.injEq] at H
                            obtain ⟨rfl, rfl, rfl⟩ := H
                            go_wp2
                            go_ret3
                            exact ⟨by first | rfl | (simp; done) | (simp [*]; done), by repeat (first | exact Drawn0.refl _ | apply Drawn0.step)⟩
                        · rw [if_neg c13] at H
                          have c13b0 : decide (241 ≤ a0) = false := decide_eq_false c13
                          clear c13
                          simp only [Option.some.injEq, Prod.mk.injEq] at H
                          obtain ⟨rfl, rfl, rfl⟩ := H
                          go_wp2
                          go_ret3
                          exact ⟨by first | rfl | (simp; done) | (simp [*]; done), by repeat (first | exact Drawn0.refl _ | apply Drawn0.step)⟩

/-! ### impl_stretch: function 56 -/
def impl_stretch.l0 : Nat → List Int → Int → Int → Int → Int → Option (Int × Bool × Bool)
  | 0, _, _, _, _, _ => none
  | k + 1, x0, x2, x5, x6, x7 => if x2 < x5 then (if x2 = (x0.length : Int) then (some (x2, false, true)) else (if 0 ≤ x2 then (if x2 < (x0.length : Int) then (if (rd x0 x2) < x6 then (some (x2, false, false)) else (if (rd x0 x2) > x7 then (some (x2, false, false)) else (impl_stretch.l0 k x0 (wrap64 (x2 + 1)) x5 128 191))) else (none)) else (none))) else (some (x2, true, false))
def impl_stretch.f (k : Nat) (l0 : List Int) : Option (Int × Bool × Bool) := if 0 < (l0.length : Int) then ((impl_needs.f k (rd l0 0)).bind fun bt142 => (if bt142.1 = 0 then (some (1, false, false)) else (impl_stretch.l0 k l0 1 bt142.1 bt142.2.1 bt142.2.2))) else (none)
theorem impl_stretch.mono_l : ∀ k, (∀ y0 y1 y2 y3 y4, LeO (impl_stretch.l0 k y0 y1 y2 y3 y4) (impl_stretch.l0 (k + 1) y0 y1 y2 y3 y4))
  | 0 => fun _ _ _ _ _ r h => by simp [impl_stretch.l0] at h
  | k + 1 => by
    have ih0 := impl_stretch.mono_l k
    · intro y0 y1 y2 y3 y4
      unfold impl_stretch.l0
      repeat' first
      | (with_reducible exact ih0 _ _ _ _ _)
      | (with_reducible exact impl_needs.mono _ _)
      | (with_reducible exact LeO.refl _)
      | (with_reducible exact LeO.none _)
      | (with_reducible refine LeO.ite ?_ ?_)
      | (with_reducible refine LeO.bind ?_ (fun _ => ?_))
      | exact ih0 _ _ _ _ _
      | exact impl_needs.mono _ _
      | exact LeO.none _
      | refine LeO.ite ?_ ?_
      | refine LeO.bind ?_ (fun _ => ?_)
theorem impl_stretch.mono : ∀ a0 k, LeO (impl_stretch.f k a0) (impl_stretch.f (k + 1) a0) := by
  intro a0 k
  have ih0 := impl_stretch.mono_l k
  unfold impl_stretch.f
  repeat' first
      | (with_reducible exact ih0 _ _ _ _ _)
      | (with_reducible exact impl_needs.mono _ _)
      | (with_reducible exact LeO.refl _)
      | (with_reducible exact LeO.none _)
      | (with_reducible refine LeO.ite ?_ ?_)
      | (with_reducible refine LeO.bind ?_ (fun _ => ?_))
      | exact ih0 _ _ _ _ _
      | exact impl_needs.mono _ _
      | exact LeO.none _
      | refine LeO.ite ?_ ?_
      | refine LeO.bind ?_ (fun _ => ?_)
set_option maxHeartbeats 8000000 in
set_option maxRecDepth 100000 in
theorem impl_stretch.calls (k : Nat) (A0 : Option Addr) (c0 : Nat) (l0 : List Int) (r1 : Int) (r2 : Bool) (r3 : Bool) (w : World) (hr0 : Kd.C (Kd.int .u8) w A0 l0.length l0) (hc0 : l0.length ≤ c0) (h : impl_stretch.f k l0 = some (r1, r2, r3)) :
    Calls Try.prog 56 #[.slice A0 l0.length c0] w fun e w' => e = .returned (.tuple #[.int .i64 r1, .bool r2, .bool r3]) ∧ Drawn0 w w' := by
  have HR0 := Aside0.mk hr0
  have HC0 := Aside0.mk hc0
  clear hr0 hc0
  have H : (if 0 < (l0.length : Int) then ((impl_needs.f k (rd l0 0)).bind fun bt142 => (if bt142.1 = 0 then (some (1, false, false)) else (impl_stretch.l0 k l0 1 bt142.1 bt142.2.1 bt142.2.2))) else (none)) = some (r1, r2, r3) := h
  clear h
  by_cases c2 : 0 < (l0.length : Int)
  · rw [if_pos c2] at H
    have c2b0 : decide (0 < (l0.length : Int)) = true := decide_eq_true c2
    have c2b1 : decide (0 < l0.length) = true := decide_eq_true (by omega)
    clear c2
    replace H := Option.bind_eq_some_iff.mp H
    obtain ⟨⟨t142, t143, t144⟩, A30, H⟩ := H
    replace H : (if t142 = 0 then (some (1, false, false)) else (impl_stretch.l0 k l0 1 t142 t143 t144)) = some (r1, r2, r3) := H
    have A3 := Aside0.mk A30
    clear A30
    by_cases c4 : t142 = 0
    · rw [if_pos c4] at H
      have c4b0 : (t142 == 0) = true := beq_iff_eq.mpr c4
      have c4b1 : (t142 != 0) = false := bne_eq_false_iff_eq.mpr c4
      clear c4
      simp only [Option.some.injEq, Prod.mk.injEq] at H
      obtain ⟨rfl, rfl, rfl⟩ := H
      have p141 : 0 ≤ (0 : Int) := (by omega)
      have q141 : 0 < (l0.length : Int) := of_decide_eq_true (by first | (with_reducible assumption) | assumption)
      obtain ⟨ad141, e141, hx141_0⟩ := Kd.at_int HR0.out 0 p141 q141
      cases e141
      have qi141 : (0 < l0.length) = True := eq_true (by omega)
      (try rw [show ((0 : Int)).toNat = 0 from rfl] at hx141_0)
      (try rw [Addr.add_zero'] at hx141_0)
      replace p141 := eq_true p141
      replace q141 := eq_true q141
      go_enter Try.func56, Try.ntmps56
      go_wp2_with (first | ((with_reducible refine gate_callee (f := 73) rfl ?_); refine goesL_ (some 12) rfl rfl Try.func73 (by kernel_rfl) rfl #[.int .u8 (rd l0 0)] rfl (by (try simp only [List.map_toArray, List.map_cons, List.map_nil]); first | done | rfl | (simp only [List.length_drop, List.length_take]; rfl)) ?_; (with_reducible refine (impl_needs.calls k (rd l0 0) t142 t143 t144 _ A3.out).mono ?_); rintro e w' ⟨rfl, ⟨nd, rfl⟩⟩; refine ⟨_, rfl, ?_⟩))
      go_ret3
      exact ⟨by first | rfl | (simp; done) | (simp [*]; done), by repeat (first | exact Drawn0.refl _ | apply Drawn0.step)⟩
    · rw [if_neg c4] at H
      have c4b0 : (t142 == 0) = false := beq_eq_false_iff_ne.mpr c4
      have c4b1 : (t142 != 0) = true := bne_iff_ne.mpr c4
      have H' := Aside0.mk H
      clear H
      have p141 : 0 ≤ (0 : Int) := (by omega)
      have q141 : 0 < (l0.length : Int) := of_decide_eq_true (by first | (with_reducible assumption) | assumption)
      obtain ⟨ad141, e141, hx141_0⟩ := Kd.at_int HR0.out 0 p141 q141
      cases e141
      have qi141 : (0 < l0.length) = True := eq_true (by omega)
      (try rw [show ((0 : Int)).toNat = 0 from rfl] at hx141_0)
      (try rw [Addr.add_zero'] at hx141_0)
      replace p141 := eq_true p141
      replace q141 := eq_true q141
      go_enter Try.func56, Try.ntmps56
      go_wp2_with (first | ((with_reducible refine gate_callee (f := 73) rfl ?_); refine goesL_ (some 12) rfl rfl Try.func73 (by kernel_rfl) rfl #[.int .u8 (rd l0 0)] rfl (by (try simp only [List.map_toArray, List.map_cons, List.map_nil]); first | done | rfl | (simp only [List.length_drop, List.length_take]; rfl)) ?_; (with_reducible refine (impl_needs.calls k (rd l0 0) t142 t143 t144 _ A3.out).mono ?_); rintro e w' ⟨rfl, ⟨nd, rfl⟩⟩; refine ⟨_, rfl, ?_⟩))
      go_loopg [2, 6, 7] k (fun kq v2 v6 v7 w' => ∃ (x2_1 : Int) (x6_1 : Int) (x7_1 : Int), v2 = .int .i64 x2_1 ∧ v6 = .int .u8 x6_1 ∧ v7 = .int .u8 x7_1 ∧ Aside0 (impl_stretch.l0 kq l0 x2_1 t142 x6_1 x7_1 = some (r1, r2, r3)) ∧ Aside0 (kq ≤ k) ∧ Drawn0 w w')
      case atStart => exact ⟨(1), (t143), (t144), (by first | rfl | (simp; done) | (simp [*]; done)), (by first | rfl | (simp; done) | (simp [*]; done)), (by first | rfl | (simp; done) | (simp [*]; done)), H', ⟨Nat.le_refl _⟩, by repeat (first | exact Drawn0.refl _ | apply Drawn0.step)⟩
      case round =>
        clear H'
        try clear p1
        try clear q1
        try clear hx1
        try clear qi1
        try clear c2
        try clear c2b0
        try clear c2b1
        try clear p2
        try clear c4
        try clear c4b0
        try clear c4b1
        try clear hx141_0
        try clear p141
        try clear q141
        obtain ⟨x2_1, x6_1, x7_1, rfl, rfl, rfl, HA, HK1, ⟨m1, rfl⟩⟩ := hrel
        cases gk with
        | zero => exact absurd HA.out (by simp [impl_stretch.l0])
        | succ k1 =>
          have H := HA.out
          clear HA
          simp only [impl_stretch.l0] at H
          by_cases c5 : x2_1 < t142
          · rw [if_pos c5] at H
            have c5b0 : decide (x2_1 < t142) = true := decide_eq_true c5
            clear c5
            by_cases c6 : x2_1 = (l0.length : Int)
            · rw [if_pos c6] at H
              have c6b0 : (x2_1 == (l0.length : Int)) = true := beq_iff_eq.mpr c6
              have c6b1 : (x2_1 != (l0.length : Int)) = false := bne_eq_false_iff_eq.mpr c6
              clear c6
              simp only [Option.some.injEq, Prod.mk.injEq] at H
              obtain ⟨rfl, rfl, rfl⟩ := H
              go_wp2
              go_ret3
              exact ⟨by first | rfl | (simp; done) | (simp [*]; done), by repeat (first | exact Drawn0.refl _ | apply Drawn0.step)⟩
            · rw [if_neg c6] at H
              have c6b0 : (x2_1 == (l0.length : Int)) = false := beq_eq_false_iff_ne.mpr c6
              have c6b1 : (x2_1 != (l0.length : Int)) = true := bne_iff_ne.mpr c6
              by_cases c7 : 0 ≤ x2_1
              · rw [if_pos c7] at H
                have c7b0 : decide (0 ≤ x2_1) = true := decide_eq_true c7
                clear c7
                by_cases c8 : x2_1 < (l0.length : Int)
                · rw [if_pos c8] at H
                  have c8b0 : decide (x2_1 < (l0.length : Int)) = true := decide_eq_true c8
                  clear c8
                  by_cases c9 : (rd l0 x2_1) < x6_1
                  · rw [if_pos c9] at H
                    have c9b0 : decide ((rd l0 x2_1) < x6_1) = true := decide_eq_true c9
                    clear c9
                    simp only [Option.some.injEq, Prod.mk.injEq] at H
                    obtain ⟨rfl, rfl, rfl⟩ := H
                    have p145 : 0 ≤ (x2_1 : Int) := of_decide_eq_true (by first | (with_reducible assumption) | assumption)
                    have q145 : x2_1 < (l0.length : Int) := of_decide_eq_true (by first | (with_reducible assumption) | assumption)
                    obtain ⟨ad145, e145, hx145_0⟩ := Kd.at_int HR0.out x2_1 p145 q145
                    obtain rfl : ad141 = ad145 := (by injection e145)
                    replace p145 := eq_true p145
                    replace q145 := eq_true q145
                    go_wp2
                    go_ret3
                    exact ⟨by first | rfl | (simp; done) | (simp [*]; done), by repeat (first | exact Drawn0.refl _ | apply Drawn0.step)⟩
                  · rw [if_neg c9] at H
                    have c9b0 : decide ((rd l0 x2_1) < x6_1) = false := decide_eq_false c9
                    clear c9
                    by_cases c10 : (rd l0 x2_1) > x7_1
                    · rw [if_pos c10] at H
                      have c10b0 : decide (x7_1 < (rd l0 x2_1)) = true := decide_eq_true c10
                      clear c10
                      simp only [Option.some.injEq, Prod.mk.injEq] at H
                      obtain ⟨rfl, rfl, rfl⟩ := H
                      have p145 : 0 ≤ (x2_1 : Int) := of_decide_eq_true (by first | (with_reducible assumption) | assumption)
                      have q145 : x2_1 < (l0.length : Int) := of_decide_eq_true (by first | (with_reducible assumption) | assumption)
                      obtain ⟨ad145, e145, hx145_0⟩ := Kd.at_int HR0.out x2_1 p145 q145
                      obtain rfl : ad141 = ad145 := (by injection e145)
                      replace p145 := eq_true p145
                      replace q145 := eq_true q145
                      have p146 : 0 ≤ (x2_1 : Int) := of_decide_eq_true (by first | (with_reducible assumption) | assumption)
                      have q146 : x2_1 < (l0.length : Int) := of_decide_eq_true (by first | (with_reducible assumption) | assumption)
                      obtain ⟨ad146, e146, hx146_0⟩ := Kd.at_int HR0.out x2_1 p146 q146
                      obtain rfl : ad141 = ad146 := (by injection e146)
                      replace p146 := eq_true p146
                      replace q146 := eq_true q146
                      go_wp2
                      go_ret3
                      exact ⟨by first | rfl | (simp; done) | (simp [*]; done), by repeat (first | exact Drawn0.refl _ | apply Drawn0.step)⟩
                    · rw [if_neg c10] at H
                      have c10b0 : decide (x7_1 < (rd l0 x2_1)) = false := decide_eq_false c10
                      clear c10
                      have H' := Aside0.mk H
                      clear H
                      have p145 : 0 ≤ (x2_1 : Int) := of_decide_eq_true (by first | (with_reducible assumption) | assumption)
                      have q145 : x2_1 < (l0.length : Int) := of_decide_eq_true (by first | (with_reducible assumption) | assumption)
                      obtain ⟨ad145, e145, hx145_0⟩ := Kd.at_int HR0.out x2_1 p145 q145
                      obtain rfl : ad141 = ad145 := (by injection e145)
                      replace p145 := eq_true p145
                      replace q145 := eq_true q145
                      have p146 : 0 ≤ (x2_1 : Int) := of_decide_eq_true (by first | (with_reducible assumption) | assumption)
                      have q146 : x2_1 < (l0.length : Int) := of_decide_eq_true (by first | (with_reducible assumption) | assumption)
                      obtain ⟨ad146, e146, hx146_0⟩ := Kd.at_int HR0.out x2_1 p146 q146
                      obtain rfl : ad141 = ad146 := (by injection e146)
                      replace p146 := eq_true p146
                      replace q146 := eq_true q146
                      go_wp2
                      go_roundg k1
                      case measure => have := HK1.out; omega
                      case rel => exact ⟨(wrap64 (x2_1 + 1)), (128), (191), (by first | rfl | (simp; done) | (simp [*]; done)), (by first | rfl | (simp; done) | (simp [*]; done)), (by first | rfl | (simp; done) | (simp [*]; done)), H', ⟨by have := HK1.out; omega⟩, by repeat (first | exact Drawn0.refl _ | apply Drawn0.step)⟩
                · rw [if_neg c8] at H
                  exact absurd H (by simp)
              · rw [if_neg c7] at H
                exact absurd H (by simp)
          · rw [if_neg c5] at H
            have c5b0 : decide (x2_1 < t142) = false := decide_eq_false c5
            clear c5
            simp only [Option.some.injEq, Prod.mk.injEq] at H
            obtain ⟨rfl, rfl, rfl⟩ := H
            go_wp2
            go_ret3
            exact ⟨by first | rfl | (simp; done) | (simp [*]; done), by repeat (first | exact Drawn0.refl _ | apply Drawn0.step)⟩
  · rw [if_neg c2] at H
    exact absurd H (by simp)

/-! ### impl_utf8Coding_read: function 37, by hand -/
/-! ### how many bytes are taken at once -/
theorem needs_impl (b : Int) : impl_needs.f 7 b = some (needsF b) := by
  simp only [impl_needs.f, impl_needs.j0, impl_needs.j1, decide_eq_true_eq]
  repeat' refine some_ite (fun _ => ?_) (fun _ => ?_)
  all_goals first
    | (exfalso; simp at *; done)
    | (exfalso; omega)
    | (unfold needsF; refine congrArg some ?_; repeat (first | rw [if_pos (by omega)] | rw [if_neg (by omega)]))
theorem tl_impl (l : List Int) (hl : l.length ≤ 1099511627776) (want : Int) : ∀ (q k n : Nat) (lo hi : Int), (n : Int) + q = want → q < k → 1 ≤ n → n ≤ l.length → want ≤ 4 → impl_stretch.l0 k l n want lo hi = some (((tlF q n lo hi (l.drop n)).1 : Int), (tlF q n lo hi (l.drop n)).2.1, (tlF q n lo hi (l.drop n)).2.2) := by
  intro q
  induction q with
  | zero =>
    intro k n lo hi hw hk h1 hn h4
    obtain ⟨k, rfl⟩ : ∃ m, k = m + 1 := ⟨k - 1, by omega⟩
    rw [impl_stretch.l0, if_neg (by omega)]; first | done | rfl
  | succ q ih =>
    intro k n lo hi hw hk h1 hn h4
    obtain ⟨k, rfl⟩ : ∃ m, k = m + 1 := ⟨k - 1, by omega⟩
    rw [impl_stretch.l0, if_pos (by omega)]
    by_cases e : n = l.length
    · have hd : l.drop n = [] := List.drop_of_length_le (by omega)
      rw [if_pos (by omega), hd, tlF]
    · have hlt : n < l.length := by omega
      rw [if_neg (by omega), if_pos (by omega), if_pos (by omega), rd_n1 l n hlt, List.drop_eq_getElem_cons hlt, tlF]
      by_cases c : l[n] < lo
      · rw [if_pos c, if_pos (.inl c)]
      · by_cases d : l[n] > hi
        · rw [if_neg c, if_pos d, if_pos (.inr d)]
        · rw [if_neg c, if_neg d, if_neg (by omega)]
          have hw1 : wrap64 ((n : Int) + 1) = ((n + 1 : Nat) : Int) := by unfold wrap64; omega
          rw [hw1]
          exact ih k (n + 1) 128 191 (by omega) (by omega) (by omega) (by omega) h4
theorem stretch_impl (l : List Int) (h : l ≠ []) (hl : l.length ≤ 1099511627776) : impl_stretch.f 7 l = some (((stretchF l).1 : Int), (stretchF l).2.1, (stretchF l).2.2) := by
  cases l with
  | nil => exact absurd rfl h
  | cons b r =>
    have hb : rd (b :: r) 0 = b := rfl
    have hn := needs_le b
    rw [impl_stretch.f, if_pos (by simp only [List.length_cons]; omega), hb, needs_impl, Option.bind_some, stretchF]
    by_cases e : (needsF b).1 = 0
    · rw [if_pos e, if_pos e]; rfl
    · rw [if_neg e, if_neg e]
      have := tl_impl (b :: r) hl (needsF b).1 ((needsF b).1.toNat - 1) 7 1 (needsF b).2.1 (needsF b).2.2 (by omega) (by omega) (Nat.le_refl _) (by simp) hn.2
      exact this
/-! ### bytes read as a text -/
theorem Bld.drewN {w : World} {B g : Nat} {out : List Int} (h : Bld w B g out) (m : Nat) : Bld (w.drewN m) B g out := by
  obtain ⟨h0, p, v, h1, h2, h3⟩ := h
  exact ⟨h0, p, v, h1, h2, Kd.R_drewN h3 m⟩
set_option maxHeartbeats 8000000 in
set_option maxRecDepth 100000 in
theorem read_calls (A0 : Option Addr) (c0 : Nat) (l0 : List Int) (z : Value) (w : World) (hr0 : Kd.C (Kd.int .u8) w A0 l0.length l0) (hc0 : l0.length ≤ c0) (hl : l0.length ≤ 1099511627776) (hrg : ∀ x ∈ l0, 0 ≤ x ∧ x ≤ 255) :
    Calls Try.prog 37 #[.agg #[], .slice A0 l0.length c0] w fun e w' => e = .returned (.string (strOfNums (rdU l0.length l0))) ∧ Below w.heap.size w w' := by
  have hu29 := Try.underlying22
  have hu156 := Try.underlying74
  have hu118 := Try.underlying54
  have HR0 := Aside0.mk hr0
  have HC0 := Aside0.mk hc0
  have HL := Aside0.mk hl
  have HRG := Aside0.mk hrg
  clear hr0 hc0 hl hrg
  have HB := Aside0.mk (Below.refl w.heap.size w)
  go_enter Try.func37, Try.ntmps37
  go_wp2
  have HG : Aside0 (Bld ((w.alloc (.cells #[] 54)).alloc (.cells #[.pointer none, .slice none 0 0] 74)) w.heap.size (w.heap.size + 1) []) := ⟨by omega, _, _, by rw [show w.heap.size + 1 = (w.alloc (.cells #[] 54)).heap.size by simp]; exact blk_new _ _, .inl rfl, Kd.R_nil _ _ _ _ _⟩
  have HB1 := Aside0.mk (below_alloc (below_alloc HB.out (.cells #[] 54)) (.cells #[.pointer none, .slice none 0 0] 74))
  generalize ((w.alloc (.cells #[] 54)).alloc (.cells #[.pointer none, .slice none 0 0] 74)) = w1 at HG HB1 ⊢
  clear HB
  go_loopg [1] l0.length (fun kq v1 w' => ∃ (A : Option Addr) (c : Nat) (b out : List Int), v1 = .slice A b.length c ∧ Aside0 (Kd.C (Kd.int .u8) w A b.length b) ∧ Aside0 (b.length ≤ c) ∧ Aside0 (b.length ≤ kq) ∧ Aside0 (out.length + 3 * b.length ≤ 3298534883328) ∧ Aside0 (∀ x ∈ b, 0 ≤ x ∧ x ≤ 255) ∧ Aside0 (∀ x ∈ out, 0 ≤ x ∧ x ≤ 255) ∧ Aside0 (out ++ rdU kq b = rdU l0.length l0) ∧ Aside0 (Bld w' w.heap.size (w.heap.size + 1) out) ∧ Aside0 (Below w.heap.size w w'))
  case atStart => exact ⟨A0, c0, l0, [], rfl, HR0, HC0, ⟨Nat.le_refl _⟩, ⟨by have := HL.out; simp; omega⟩, HRG, ⟨fun x hx => by cases hx⟩, ⟨rfl⟩, HG, HB1⟩
  case round =>
    clear HR0 HC0 HL HRG HG HB1
    obtain ⟨A, c, b, out, rfl, HR, HC, HK, HS, HRG, HRO, HE, HBD, HB⟩ := hrel
    by_cases e : b = []
    · subst e
      have HE2 : Aside0 (out = rdU l0.length l0) := ⟨by have := HE.out; rwa [rdU_nil, List.append_nil] at this⟩
      clear HE
      go_wp2_with (go_at_call 59; refine (bstr_calls wr w (w.heap.size + 1) out HBD.out HB.out HRO.out).mono ?_; rintro e w' ⟨rfl, hb⟩)
      go_ret
      exact ⟨congrArg (fun x => Ending.returned (.string (strOfNums x))) HE2.out, hb⟩
    · have hpos : 0 < b.length := List.length_pos_iff.mpr e
      have hk : gk ≠ 0 := by have := HK.out; omega
      obtain ⟨k1, rfl⟩ := Nat.exists_eq_succ_of_ne_zero hk
      clear hk
      have c1 : decide ((b.length : Int) > 0) = true := decide_eq_true (by omega)
      have c1n : decide (0 < b.length) = true := decide_eq_true hpos
      have c1m : decide ((0 : Int) < (b.length : Int)) = true := decide_eq_true (by omega)
      have hsb := stretch_bd b e
      have HS1 := Aside0.mk (stretch_impl b e (by have := HS.out; omega))
      have HE1 := HE.out
      rw [rdU_cons k1 b e] at HE1
      clear HE e
      obtain ⟨n, hn⟩ : ∃ n, n = (stretchF b).1 := ⟨_, rfl⟩
      obtain ⟨wh, hwh⟩ : ∃ wh, wh = (stretchF b).2.1 := ⟨_, rfl⟩
      obtain ⟨op, hop⟩ : ∃ op, op = (stretchF b).2.2 := ⟨_, rfl⟩
      rw [← hn, ← hwh] at HE1
      rw [← hn, ← hwh, ← hop] at HS1
      rw [← hn] at hsb
      clear hn hwh hop
      have HSB := Aside0.mk hsb
      have HRW := Aside0.mk (Kd.C_below HR.out HB.out)
      have hnb : (n : Int) ≤ (b.length : Int) := by omega
      have hnc : b.length ≤ c := HC.out
      obtain ⟨i0, hi0, _, hz1, _⟩ := info_parts infoB
      have hcut1 := cut_to (P := Try.prog) 22 5 .i64 Try.underlying22 hi0 A b.length c (n : Int) (by omega) hnb hnc
      have hcut2 := cut_from (P := Try.prog) 22 5 .i64 Try.underlying22 hi0 1 hz1 A b.length c (n : Int) (by omega) hnb
      rw [Int.toNat_natCast] at hcut1 hcut2
      have HR2 := Kd.C_drop (k := Kd.int .u8) (m := n) (c := c) HR.out hsb.2.1 hnc
      have HR3 := Kd.C_take (k := Kd.int .u8) (m := n) HR.out hsb.2.1
      have hsz1 : (Kd.int .u8).sz = 1 := rfl
      rw [hsz1] at HR2
      obtain ⟨A', hA'⟩ : ∃ A', A' = (if c = n then A else A.map (·.add (n * 1))) := ⟨_, rfl⟩
      rw [← hA'] at hcut2 HR2
      have hld : (b.drop n).length = b.length - n := List.length_drop
      have hlt : (b.take n).length = n := by rw [List.length_take]; omega
      rw [← hld] at hcut2
      replace HR2 := Aside0.mk HR2
      replace HR3 := Aside0.mk HR3
      have HLD := Aside0.mk hld
      have HLT := Aside0.mk hlt
      have HCC : Aside0 ((b.drop n).length ≤ c - n) := ⟨by rw [hld]; omega⟩
      have HKK : Aside0 ((b.drop n).length ≤ k1) := ⟨by rw [hld]; have := HK.out; omega⟩
      have HRG2 : Aside0 (∀ x ∈ b.drop n, 0 ≤ x ∧ x ≤ 255) := ⟨fun x hx => HRG.out x (List.mem_of_mem_drop hx)⟩
      obtain ⟨d, hd⟩ : ∃ d, d = b.drop n := ⟨_, rfl⟩
      rw [← hd] at hcut2 HR2 HLD HCC HKK HRG2 HE1
      clear hA' hld hlt hsb hnb hnc hd hi0 hz1 hsz1 hpos
      cases wh with
      | true =>
        rw [if_pos rfl] at HE1
        have HE2 : Aside0 ((out ++ b.take n) ++ rdU k1 d = rdU l0.length l0) := ⟨by rw [List.append_assoc]; exact HE1⟩
        clear HE1
        have HO2 : Aside0 (∀ x ∈ out ++ b.take n, 0 ≤ x ∧ x ≤ 255) := ⟨fun x hx => by rcases List.mem_append.mp hx with h | h; exact HRO.out x h; exact HRG.out x (List.mem_of_mem_take h)⟩
        have HS2 : Aside0 ((out ++ b.take n).length + 3 * d.length ≤ 3298534883328) := ⟨by have h1 := HS.out; have h2 := HLD.out; have h3 := HLT.out; have h4 := HSB.out; rw [List.length_append, h3, h2]; omega⟩
        go_wp2_with (first | (go_at_call 56; refine (impl_stretch.calls 7 A c b (n : Int) true op wr HRW.out HC.out HS1.out).mono ?_; rintro e w' ⟨rfl, ⟨nd, rfl⟩⟩) | (go_at_call 57; have hq := wrb_calls (wr.drewN nd) w (w.heap.size + 1) out (b.take n) A c (HBD.out.drewN nd) (pw_below_drewN HB.out nd) HR3.out (by have h1 := HS.out; have h2 := HLT.out; have h3 := HSB.out; omega); rw [HLT.out] at hq; refine hq.mono ?_; clear hq; rintro e w' ⟨rfl, hbd, hb⟩; have HBD2 := Aside0.mk hbd; have HB2 := Aside0.mk hb; clear hbd hb))
        go_roundg k1
        case measure => omega
        case rel => exact ⟨A', c - n, d, out ++ b.take n, rfl, HR2, HCC, HKK, HS2, HRG2, HO2, HE2, HBD2, HB2⟩
      | false =>
        rw [if_neg (by simp)] at HE1
        have HE2 : Aside0 ((out ++ [239, 191, 189]) ++ rdU k1 d = rdU l0.length l0) := ⟨by rw [List.append_assoc]; exact HE1⟩
        clear HE1
        have HO2 : Aside0 (∀ x ∈ out ++ [239, 191, 189], 0 ≤ x ∧ x ≤ 255) := ⟨fun x hx => by rcases List.mem_append.mp hx with h | h; exact HRO.out x h; (simp at h; omega)⟩
        have HS2 : Aside0 ((out ++ [239, 191, 189]).length + 3 * d.length ≤ 3298534883328) := ⟨by have h1 := HS.out; have h2 := HLD.out; have h4 := HSB.out; rw [List.length_append, h2]; simp only [List.length_cons, List.length_nil]; omega⟩
        go_wp2_with (first | (go_at_call 56; refine (impl_stretch.calls 7 A c b (n : Int) false op wr HRW.out HC.out HS1.out).mono ?_; rintro e w' ⟨rfl, ⟨nd, rfl⟩⟩) | (go_at_call 58; refine (wrs_calls (wr.drewN nd) w (w.heap.size + 1) out ⟨#[239, 191, 189]⟩ (HBD.out.drewN nd) (pw_below_drewN HB.out nd) (by have h1 := HS.out; show out.length + 3 ≤ _; omega)).mono ?_; rintro e w' ⟨rfl, hbd, hb⟩; have HBD2 := Aside0.mk hbd; have HB2 := Aside0.mk hb; clear hbd hb))
        go_roundg k1
        case measure => omega
        case rel => exact ⟨A', c - n, d, out ++ [239, 191, 189], rfl, HR2, HCC, HKK, HS2, HRG2, HO2, HE2, HBD2, HB2⟩

/-! ### impl_CodePoints: function 11, by hand -/
/-! ### a text's code points -/
set_option maxHeartbeats 8000000 in
set_option maxRecDepth 100000 in
theorem cps_calls (s : ByteArray) (w : World) (hs : s.size ≤ 1099511627776) :
    Calls Try.prog 11 #[.string s] w fun e w' => ∃ v0_ : Value, e = .returned v0_ ∧ Kd.R (Kd.int .i64) 3 w' w.heap.size (fun _ => True) v0_ (dcp (strOfNums (rdU s.size (bytesOf s))) (strOfNums (rdU s.size (bytesOf s))).size 0) ∧ Below w.heap.size w w' := by
  have hu9 := Try.underlying9
  have hu29 := Try.underlying22
  have hu118 := Try.underlying54
  have HS := Aside0.mk hs
  clear hs
  have HB := Aside0.mk (Below.refl w.heap.size w)
  have hcv := fun W => print_bytes (P := Try.prog) 9 22 5 Try.underlying9 Try.underlying22 Try.underlying5 s W
  go_enter Try.func11, Try.ntmps11
  go_wp2_with (first | ((with_reducible refine gate_dst (N := 6) rfl ?_); refine Kd.R_lit (Kd.int .i64) _ 3 ?hg (N := 6) ?hd (xs := ([] : List Int)) (inner := []) (ok := fun _ => True) (okp := fun _ => True) ?hr ?hp (fun _ hk => hk) trivial (Below.refl _ _) (Nat.le_refl _) (by simp) ?_; (case hd => rfl); (case hg => rfl); (case hr => first | (go_simp; done) | (go_simp; rfl)); (case hp => exact (Reps.none _ _)); intro v3 w3 ho3 hb hg_ hnew_; clear hg_ hnew_; have HO1 := Aside0.mk (Kd.R_lower ho3 (below_size HB.out)); have HB1 := Aside0.mk (below_step HB.out hb); clear HB hb ho3) | (go_at_call 37; have hq := read_calls (some ⟨w3.heap.size, 0, none⟩) (grownCap w3 s.size 0 5) (bytesOf s) .nilIface (Lib.bytesWorld w3 5 s) (by rw [bytesOf_length]; exact Kd.C_of_reads (d := (0 : Int)) (bytes_reads w3 5 s (by have := HS.out; omega))) (by rw [bytesOf_length]; exact grownCap_ge _ _ _ _) (by rw [bytesOf_length]; exact HS.out) (fun x hx => by simp only [bytesOf, List.mem_map] at hx; obtain ⟨u, _, rfl⟩ := hx; have := u.toNat_lt; omega); rw [bytesOf_length] at hq; refine hq.mono ?_; clear hq; rintro e w4 ⟨rfl, hb⟩; have HO2 := Aside0.mk (Kd.R_below (Kd.R_below HO1.out (bytes_below (Below.refl _ _) (Nat.le_refl _) 5 s)) hb); have HB2 := Aside0.mk (below_step (bytes_below HB1.out HB1.out.size 5 s) hb); clear HO1 HB1 hb; have HT : Aside0 ((strOfNums (rdU s.size (bytesOf s))).size ≤ 3298534883328) := ⟨by rw [strOfNums_size]; have := rdU_len s.size (bytesOf s); rw [bytesOf_length] at this; have := HS.out; omega⟩; generalize hT : strOfNums (rdU s.size (bytesOf s)) = t at HT ⊢; have HTE := Aside0.mk hT; clear hT))
  have HI := Aside0.mk (World.iter_heap w4 t 0)
  have HO3 := Aside0.mk (Kd.R_alloc (Kd.R_mono (Kd.R_bound HO2.out) (fun k hk => show k ≠ w4.heap.size by have := hk.2.2.1; omega)) (.stringIter t 0))
  have HB3 := Aside0.mk (below_alloc HB2.out (.stringIter t 0))
  have HG := Aside0.mk HB2.out.size
  clear HO2 HB2 hcv
  replace HO3 : Aside0 (Kd.R (Kd.int .i64) 3 (w4.iter t 0) w.heap.size (fun k => k ≠ w4.heap.size) v3 []) := HO3
  replace HB3 : Aside0 (Below w.heap.size w (w4.iter t 0)) := HB3
  generalize w4.iter t 0 = w5 at HI HO3 HB3 ⊢
  generalize w4.heap.size = gI at HI HG HO3 ⊢
  go_loopg [3] t.size (fun kq v3 w' => ∃ (pos : Nat) (xs : List Int), Aside0 (t.size - pos ≤ kq) ∧ Aside0 (xs.length ≤ pos) ∧ Aside0 (xs ++ dcp t kq pos = dcp t t.size 0) ∧ Aside0 (w'.heap[gI]? = some (.stringIter t pos)) ∧ Aside0 (Kd.R (Kd.int .i64) 3 w' w.heap.size (fun k => k ≠ gI) v3 xs) ∧ Aside0 (Below w.heap.size w w'))
  case atStart => exact ⟨0, [], ⟨by omega⟩, ⟨Nat.le_refl _⟩, ⟨rfl⟩, HI, HO3, HB3⟩
  case round =>
    clear HI HO3 HB3
    obtain ⟨pos, xs, HK, HX, HE, HI, HO, HB⟩ := hrel
    by_cases c : pos < t.size
    · have hk : gk ≠ 0 := by have := HK.out; omega
      obtain ⟨k1, rfl⟩ := Nat.exists_eq_succ_of_ne_zero hk
      clear hk
      have HE1 := HE.out
      rw [dcp, if_pos c] at HE1
      have hnx := fun ty => Lib.run_next_any_at (P := Try.prog) wr gI t pos ty HI.out c
      have hd := decode_le t pos
      have hp := dec_pos t pos c
      have HO2 := Aside0.mk (Kd.R_move (w1 := wr.iterAt gI t (pos + (Utf8.decode t pos).2)) HO.out (fun k hk => Lib.iterAt_other wr gI k t _ hk))
      have HB2 := Aside0.mk (Lib.below_iterAt HB.out HG.out t (pos + (Utf8.decode t pos).2))
      have HI2 := Aside0.mk (Lib.iterAt_heap wr gI t pos (pos + (Utf8.decode t pos).2) HI.out)
      generalize (Utf8.decode t pos).2 = wd at HE1 hnx hp HO2 HB2 HI2
      generalize (Utf8.decode t pos).1 = dv at HE1 hnx hd
      generalize wr.iterAt gI t (pos + wd) = w6 at hnx HO2 HB2 HI2
      have hw : IntKind.i64.wrap (dv : Int) = (dv : Int) := by rw [i64_w]; unfold wrap64; omega
      have HE2 : Aside0 ((xs ++ [(dv : Int)]) ++ dcp t k1 (pos + wd) = dcp t t.size 0) := ⟨by rw [List.append_assoc]; exact HE1⟩
      have HC := Aside0.mk c
      have HP := Aside0.mk hp
      clear HE1 HE hp c HO HB HI
      have HLT := Aside0.mk (blk_lt HI2.out)
      go_wp2_with (first | ((with_reducible refine gate_builtin (b := .append) (xs := #[.tmp 15, .tmp 18]) rfl ?_); at_builtin; refine Kd.R_append (Kd.int .i64) (w0 := w) w.heap.size rfl (.tmp 15) (.tmp 18) 24 3 (.int .i64 0) 8 rfl Try.underlying24 info3 rfl (by decide) (by omega) u3 xs (dv : Int) [.int .i64 (dv : Int)] (fun k => k ≠ gI) (fun _ => False) rfl rfl ?aP (fun _ hk => hk.elim) ?aF ?aO ?aB ?aS ?aL ?_; (case aP => exact rfl); (case aB => exact HB2.out); (case aF => exact fun k hk => by have := HLT.out; omega); (case aO => exact HO2.out); (case aS => exact HB2.out.size); (case aL => have h1 := HX.out; have h2 := HC.out; have h3 := HT.out; omega); intro v7 w7 ho hb hg hat; have HO3 := Aside0.mk ho; have HB3 := Aside0.mk hb; have HI3 := Aside0.mk (blk_grown HI2.out hg (fun he => (Kd.R_away HO2.out (g := gI) (fun _ hk => hk)) he)); clear ho hb hg hat))
      go_roundg k1
      case measure => omega
      case rel => exact ⟨pos + wd, xs ++ [(dv : Int)], ⟨by have := HK.out; have := HP.out; omega⟩, ⟨by have := HX.out; have := HP.out; simp; omega⟩, HE2, HI3, HO3, HB3⟩
    · have HE2 : Aside0 (xs = dcp t t.size 0) := ⟨by have := HE.out; cases gk with | zero => rwa [dcp, List.append_nil] at this | succ k => rwa [dcp, if_neg c, List.append_nil] at this⟩
      have hnx := fun ty => Lib.run_next_end_at (P := Try.prog) wr gI t pos ty HI.out c
      clear HE c
      go_wp2
      go_ret
      exact ⟨_, rfl, by rw [HTE.out, ← HE2.out]; exact Kd.R_mono HO.out (fun _ _ => trivial), HB.out⟩
def impl_CodePoints.f (a0 : ByteArray) : Option (List Int) := if a0.size ≤ 1099511627776 then some (dcp (strOfNums (rdU a0.size (bytesOf a0))) (strOfNums (rdU a0.size (bytesOf a0))).size 0) else none
theorem impl_CodePoints.calls (a0 : ByteArray) (r : List Int) (w : World) (h : impl_CodePoints.f a0 = some r) :
    Calls Try.prog 11 #[.string a0] w fun e w' => ∃ v0_ : Value, e = .returned (v0_) ∧ Kd.R (Kd.int .i64) 3 w' w.heap.size (fun _ => True) v0_ r ∧ Below w.heap.size w w' := by
  unfold impl_CodePoints.f at h
  by_cases c : a0.size ≤ 1099511627776
  · rw [if_pos c] at h
    obtain rfl := Option.some.inj h
    exact cps_calls a0 w c
  · rw [if_neg c] at h
    cases h

end Go.Proofs.Ytmffcjjodkggcaa.MFnPoints
