-- Written by this session's own program (wip/gen/myprint.py).
import Derived.Test.YtpknhndanbgkmaaMFnBreaksx0
import Derived.Test.YtpknhndanbgkmaaMFnBreaksx1
namespace Go.Proofs.Ytpknhndanbgkmaa.MFnBreaks
open Go.RowKit Go.Proofs.YtpknhndanbgkmaaW.PrintWords Go.Proofs.YtpknhndanbgkmaaW.PrintLast Go.Proofs.YtpknhndanbgkmaaW.PrintMore
attribute [local go_sem] max2_int min2_int max_two min_two max_three min_three max_four min_four   -- for this text's walks alone
set_option linter.unusedVariables false
set_option linter.unusedSimpArgs false

/-! ### impl_classOf: function 69 -/
mutual
def impl_classOf.j0 : Nat → Int → Bool → Option (Int)
  | 0, _, _ => none
  | k + 1, x0, x6 => if x6 = true then (some 2) else (if x0 = 8203 then (some 3) else (if x0 = 160 then (impl_classOf.j1 k x0 true) else (if x0 = 8239 then (impl_classOf.j1 k x0 true) else (impl_classOf.j1 k x0 (x0 == 8288)))))
def impl_classOf.j1 : Nat → Int → Bool → Option (Int)
  | 0, _, _ => none
  | k + 1, x0, x16 => if x16 = true then (some 4) else ((impl_between.f x0 768 879).bind fun t138 => (if t138 = true then (impl_classOf.j2 k x0 true) else (impl_classOf.j2 k x0 (x0 == 8205))))
def impl_classOf.j2 : Nat → Int → Bool → Option (Int)
  | 0, _, _ => none
  | k + 1, x0, x27 => if x27 = true then (some 5) else (if x0 = 45 then (impl_classOf.j3 k x0 true) else (if x0 = 8208 then (impl_classOf.j3 k x0 true) else (impl_classOf.j3 k x0 (x0 == 173))))
def impl_classOf.j3 : Nat → Int → Bool → Option (Int)
  | 0, _, _ => none
  | k + 1, x0, x34 => if x34 = true then (some 6) else ((impl_inText.f x0 (⟨#[40, 91, 123]⟩ : ByteArray)).bind fun t139 => (if t139 = true then (some 7) else ((impl_inText.f x0 (⟨#[41, 93, 125]⟩ : ByteArray)).bind fun t140 => (if t140 = true then (some 8) else ((impl_inText.f x0 (⟨#[46, 44, 33, 63, 59, 58]⟩ : ByteArray)).bind fun t141 => (if t141 = true then (impl_classOf.j4 k x0 true) else (impl_classOf.j4 k x0 (x0 == 8230))))))))
def impl_classOf.j4 : Nat → Int → Bool → Option (Int)
  | 0, _, _ => none
  | k + 1, x0, x51 => if x51 = true then (some 9) else ((impl_inText.f x0 (⟨#[34, 39]⟩ : ByteArray)).bind fun t142 => (if t142 = true then (some 10) else ((impl_between.f x0 12352 12543).bind fun t143 => (if t143 = true then (impl_classOf.j5 k x0 true) else ((impl_between.f x0 19968 40959).bind fun t144 => (impl_classOf.j5 k x0 t144))))))
def impl_classOf.j5 : Nat → Int → Bool → Option (Int)
  | 0, _, _ => none
  | k + 1, x0, x61 => if x61 = true then (some 11) else ((impl_between.f x0 48 57).bind fun t145 => (if t145 = true then (some 12) else (some 0)))
end
def impl_classOf.f (k : Nat) (a0 : Int) : Option (Int) := if a0 = 10 then (some 1) else (if a0 = 32 then (impl_classOf.j0 k a0 true) else (impl_classOf.j0 k a0 (a0 == 9)))
theorem impl_classOf.mono_l : ∀ k, (∀ y0 y1, LeO (impl_classOf.j0 k y0 y1) (impl_classOf.j0 (k + 1) y0 y1)) ∧ (∀ y0 y1, LeO (impl_classOf.j1 k y0 y1) (impl_classOf.j1 (k + 1) y0 y1)) ∧ (∀ y0 y1, LeO (impl_classOf.j2 k y0 y1) (impl_classOf.j2 (k + 1) y0 y1)) ∧ (∀ y0 y1, LeO (impl_classOf.j3 k y0 y1) (impl_classOf.j3 (k + 1) y0 y1)) ∧ (∀ y0 y1, LeO (impl_classOf.j4 k y0 y1) (impl_classOf.j4 (k + 1) y0 y1)) ∧ (∀ y0 y1, LeO (impl_classOf.j5 k y0 y1) (impl_classOf.j5 (k + 1) y0 y1))
  | 0 => ⟨fun _ _ r h => by simp [impl_classOf.j0] at h, fun _ _ r h => by simp [impl_classOf.j1] at h, fun _ _ r h => by simp [impl_classOf.j2] at h, fun _ _ r h => by simp [impl_classOf.j3] at h, fun _ _ r h => by simp [impl_classOf.j4] at h, fun _ _ r h => by simp [impl_classOf.j5] at h⟩
  | k + 1 => by
    obtain ⟨ih0, ih1, ih2, ih3, ih4, ih5⟩ := impl_classOf.mono_l k
    refine ⟨?_, ?_, ?_, ?_, ?_, ?_⟩
    · intro y0 y1
      unfold impl_classOf.j0
      repeat' first
      | (with_reducible exact ih0 _ _)
      | (with_reducible exact ih1 _ _)
      | (with_reducible exact ih2 _ _)
      | (with_reducible exact ih3 _ _)
      | (with_reducible exact ih4 _ _)
      | (with_reducible exact ih5 _ _)
      | (with_reducible exact LeO.refl _)
      | (with_reducible exact LeO.none _)
      | (with_reducible refine LeO.ite ?_ ?_)
      | (with_reducible refine LeO.bind ?_ (fun _ => ?_))
      | exact ih0 _ _
      | exact ih1 _ _
      | exact ih2 _ _
      | exact ih3 _ _
      | exact ih4 _ _
      | exact ih5 _ _
      | exact LeO.none _
      | refine LeO.ite ?_ ?_
      | refine LeO.bind ?_ (fun _ => ?_)
    · intro y0 y1
      unfold impl_classOf.j1
      repeat' first
      | (with_reducible exact ih0 _ _)
      | (with_reducible exact ih1 _ _)
      | (with_reducible exact ih2 _ _)
      | (with_reducible exact ih3 _ _)
      | (with_reducible exact ih4 _ _)
      | (with_reducible exact ih5 _ _)
      | (with_reducible exact LeO.refl _)
      | (with_reducible exact LeO.none _)
      | (with_reducible refine LeO.ite ?_ ?_)
      | (with_reducible refine LeO.bind ?_ (fun _ => ?_))
      | exact ih0 _ _
      | exact ih1 _ _
      | exact ih2 _ _
      | exact ih3 _ _
      | exact ih4 _ _
      | exact ih5 _ _
      | exact LeO.none _
      | refine LeO.ite ?_ ?_
      | refine LeO.bind ?_ (fun _ => ?_)
    · intro y0 y1
      unfold impl_classOf.j2
      repeat' first
      | (with_reducible exact ih0 _ _)
      | (with_reducible exact ih1 _ _)
      | (with_reducible exact ih2 _ _)
      | (with_reducible exact ih3 _ _)
      | (with_reducible exact ih4 _ _)
      | (with_reducible exact ih5 _ _)
      | (with_reducible exact LeO.refl _)
      | (with_reducible exact LeO.none _)
      | (with_reducible refine LeO.ite ?_ ?_)
      | (with_reducible refine LeO.bind ?_ (fun _ => ?_))
      | exact ih0 _ _
      | exact ih1 _ _
      | exact ih2 _ _
      | exact ih3 _ _
      | exact ih4 _ _
      | exact ih5 _ _
      | exact LeO.none _
      | refine LeO.ite ?_ ?_
      | refine LeO.bind ?_ (fun _ => ?_)
    · intro y0 y1
      unfold impl_classOf.j3
      repeat' first
      | (with_reducible exact ih0 _ _)
      | (with_reducible exact ih1 _ _)
      | (with_reducible exact ih2 _ _)
      | (with_reducible exact ih3 _ _)
      | (with_reducible exact ih4 _ _)
      | (with_reducible exact ih5 _ _)
      | (with_reducible exact LeO.refl _)
      | (with_reducible exact LeO.none _)
      | (with_reducible refine LeO.ite ?_ ?_)
      | (with_reducible refine LeO.bind ?_ (fun _ => ?_))
      | exact ih0 _ _
      | exact ih1 _ _
      | exact ih2 _ _
      | exact ih3 _ _
      | exact ih4 _ _
      | exact ih5 _ _
      | exact LeO.none _
      | refine LeO.ite ?_ ?_
      | refine LeO.bind ?_ (fun _ => ?_)
    · intro y0 y1
      unfold impl_classOf.j4
      repeat' first
      | (with_reducible exact ih0 _ _)
      | (with_reducible exact ih1 _ _)
      | (with_reducible exact ih2 _ _)
      | (with_reducible exact ih3 _ _)
      | (with_reducible exact ih4 _ _)
      | (with_reducible exact ih5 _ _)
      | (with_reducible exact LeO.refl _)
      | (with_reducible exact LeO.none _)
      | (with_reducible refine LeO.ite ?_ ?_)
      | (with_reducible refine LeO.bind ?_ (fun _ => ?_))
      | exact ih0 _ _
      | exact ih1 _ _
      | exact ih2 _ _
      | exact ih3 _ _
      | exact ih4 _ _
      | exact ih5 _ _
      | exact LeO.none _
      | refine LeO.ite ?_ ?_
      | refine LeO.bind ?_ (fun _ => ?_)
    · intro y0 y1
      unfold impl_classOf.j5
      repeat' first
      | (with_reducible exact ih0 _ _)
      | (with_reducible exact ih1 _ _)
      | (with_reducible exact ih2 _ _)
      | (with_reducible exact ih3 _ _)
      | (with_reducible exact ih4 _ _)
      | (with_reducible exact ih5 _ _)
      | (with_reducible exact LeO.refl _)
      | (with_reducible exact LeO.none _)
      | (with_reducible refine LeO.ite ?_ ?_)
      | (with_reducible refine LeO.bind ?_ (fun _ => ?_))
      | exact ih0 _ _
      | exact ih1 _ _
      | exact ih2 _ _
      | exact ih3 _ _
      | exact ih4 _ _
      | exact ih5 _ _
      | exact LeO.none _
      | refine LeO.ite ?_ ?_
      | refine LeO.bind ?_ (fun _ => ?_)
theorem impl_classOf.mono : ∀ a0 k, LeO (impl_classOf.f k a0) (impl_classOf.f (k + 1) a0) := by
  intro a0 k
  obtain ⟨ih0, ih1, ih2, ih3, ih4, ih5⟩ := impl_classOf.mono_l k
  unfold impl_classOf.f
  repeat' first
      | (with_reducible exact ih0 _ _)
      | (with_reducible exact ih1 _ _)
      | (with_reducible exact ih2 _ _)
      | (with_reducible exact ih3 _ _)
      | (with_reducible exact ih4 _ _)
      | (with_reducible exact ih5 _ _)
      | (with_reducible exact LeO.refl _)
      | (with_reducible exact LeO.none _)
      | (with_reducible refine LeO.ite ?_ ?_)
      | (with_reducible refine LeO.bind ?_ (fun _ => ?_))
      | exact ih0 _ _
      | exact ih1 _ _
      | exact ih2 _ _
      | exact ih3 _ _
      | exact ih4 _ _
      | exact ih5 _ _
      | exact LeO.none _
      | refine LeO.ite ?_ ?_
      | refine LeO.bind ?_ (fun _ => ?_)
set_option maxHeartbeats 8000000 in
set_option maxRecDepth 100000 in
theorem impl_classOf.calls (k : Nat) (a0 : Int) (r : Int) (w : World) (h : impl_classOf.f k a0 = some r) :
    Calls Try.prog 69 #[.int .i64 a0] w fun e w' => e = .returned (.int .i64 r) ∧ Drawn0 w w' := by
  have H : (if a0 = 10 then (some 1) else (if a0 = 32 then (impl_classOf.j0 k a0 true) else (impl_classOf.j0 k a0 (a0 == 9)))) = some r := h
  clear h
  by_cases c2 : a0 = 10
  · rw [if_pos c2] at H
    have c2b0 : (a0 == 10) = true := beq_iff_eq.mpr c2
    have c2b1 : (a0 != 10) = false := bne_eq_false_iff_eq.mpr c2
    clear c2
    obtain rfl := Option.some.inj H
    go_enter Try.func69, Try.ntmps69
    go_wp2
    go_ret
    exact ⟨by first | rfl | (simp; done) | (simp [*]; done), by repeat (first | exact Drawn0.refl _ | apply Drawn0.step)⟩
  · rw [if_neg c2] at H
    have c2b0 : (a0 == 10) = false := beq_eq_false_iff_ne.mpr c2
    have c2b1 : (a0 != 10) = true := bne_iff_ne.mpr c2
    have HC3 := Aside0.mk H
    clear H
    go_enter Try.func69, Try.ntmps69
    go_upto_region 3 with (fail)
    go_cut [6] (fun v6 wc => ∃ (kq : Nat) (x6_2 : Bool), v6 = .bool x6_2 ∧ Aside0 (impl_classOf.j0 kq a0 x6_2 = some r) ∧ Aside0 (kq ≤ k) ∧ Drawn0 w wc)
    case first =>
      have H := HC3.out
      clear HC3
      by_cases c4 : a0 = 32
      · rw [if_pos c4] at H
        have c4b0 : (a0 == 32) = true := beq_iff_eq.mpr c4
        have c4b1 : (a0 != 32) = false := bne_eq_false_iff_eq.mpr c4
        clear c4
        (first | rw [c4b0] | (simp only [i64_w, i32_w]; rw [c4b0]) | skip)
        have H' := Aside0.mk H
        clear H
        go_wp2
        go_meet
        case rel => exact ⟨_, (true), (by first | rfl | (simp; done) | (simp [*]; done)), H', ⟨by first | omega | exact Nat.le_refl _⟩, by repeat (first | exact Drawn0.refl _ | apply Drawn0.step)⟩
      · rw [if_neg c4] at H
        have c4b0 : (a0 == 32) = false := beq_eq_false_iff_ne.mpr c4
        have c4b1 : (a0 != 32) = true := bne_iff_ne.mpr c4
        (first | rw [c4b0] | (simp only [i64_w, i32_w]; rw [c4b0]) | skip)
        have H' := Aside0.mk H
        clear H
        go_wp2
        go_meet
        case rel => exact ⟨_, ((a0 == 9)), (by first | rfl | (simp; done) | (simp [*]; done)), H', ⟨by first | omega | exact Nat.le_refl _⟩, by repeat (first | exact Drawn0.refl _ | apply Drawn0.step)⟩
    case rest =>
      clear HC3
      try clear c2
      try clear c2b0
      try clear c2b1
      try clear p2
      try clear c4
      try clear c4b0
      try clear c4b1
      obtain ⟨kq, x6_2, rfl, HA, HJ2, ⟨mc2, rfl⟩⟩ := hcut
      cases kq with
      | zero => exact absurd HA.out (by simp [impl_classOf.j0])
      | succ kj2 =>
        have H := HA.out
        clear HA
        simp only [impl_classOf.j0] at H
        by_cases c5 : x6_2 = true
        · subst c5
          have H1 : (some 2) = some r := by rw [if_pos rfl] at H; exact H
          clear H
          have H := H1
          clear H1
          obtain rfl := Option.some.inj H
          go_wp2
          go_ret
          exact ⟨by first | rfl | (simp; done) | (simp [*]; done), by repeat (first | exact Drawn0.refl _ | apply Drawn0.step)⟩
        · replace c5 := Bool.eq_false_iff.mpr c5
          subst c5
          have H1 : (if a0 = 8203 then (some 3) else (if a0 = 160 then (impl_classOf.j1 kj2 a0 true) else (if a0 = 8239 then (impl_classOf.j1 kj2 a0 true) else (impl_classOf.j1 kj2 a0 (a0 == 8288))))) = some r := by rw [if_neg (show ¬ (false = true) by decide)] at H; exact H
          clear H
          have H := H1
          clear H1
          by_cases c6 : a0 = 8203
          · rw [if_pos c6] at H
            have c6b0 : (a0 == 8203) = true := beq_iff_eq.mpr c6
            have c6b1 : (a0 != 8203) = false := bne_eq_false_iff_eq.mpr c6
            clear c6
            obtain rfl := Option.some.inj H
            go_wp2
            go_ret
            exact ⟨by first | rfl | (simp; done) | (simp [*]; done), by repeat (first | exact Drawn0.refl _ | apply Drawn0.step)⟩
          · rw [if_neg c6] at H
            have c6b0 : (a0 == 8203) = false := beq_eq_false_iff_ne.mpr c6
            have c6b1 : (a0 != 8203) = true := bne_iff_ne.mpr c6
            have HC7 := Aside0.mk H
            clear H
            go_upto_region 7 with (fail)
            go_cut [16] (fun v16 wc => ∃ (kq : Nat) (x16_6 : Bool), v16 = .bool x16_6 ∧ Aside0 (impl_classOf.j1 kq a0 x16_6 = some r) ∧ Aside0 (kq ≤ kj2) ∧ Drawn0 w wc)
            case first =>
              have H := HC7.out
              clear HC7
              by_cases c8 : a0 = 160
              · rw [if_pos c8] at H
                have c8b0 : (a0 == 160) = true := beq_iff_eq.mpr c8
                have c8b1 : (a0 != 160) = false := bne_eq_false_iff_eq.mpr c8
                clear c8
                (first | rw [c8b0] | (simp only [i64_w, i32_w]; rw [c8b0]) | skip)
                have H' := Aside0.mk H
                clear H
                go_wp2
                go_meet
                case rel => exact ⟨_, (true), (by first | rfl | (simp; done) | (simp [*]; done)), H', ⟨by have := HJ2.out; first | omega | exact Nat.le_refl _⟩, by repeat (first | exact Drawn0.refl _ | apply Drawn0.step)⟩
              · rw [if_neg c8] at H
                have c8b0 : (a0 == 160) = false := beq_eq_false_iff_ne.mpr c8
                have c8b1 : (a0 != 160) = true := bne_iff_ne.mpr c8
                (first | rw [c8b0] | (simp only [i64_w, i32_w]; rw [c8b0]) | skip)
                by_cases c9 : a0 = 8239
                · rw [if_pos c9] at H
                  have c9b0 : (a0 == 8239) = true := beq_iff_eq.mpr c9
                  have c9b1 : (a0 != 8239) = false := bne_eq_false_iff_eq.mpr c9
                  clear c9
                  have H' := Aside0.mk H
                  clear H
                  go_wp2
                  go_meet
                  case rel => exact ⟨_, (true), (by first | rfl | (simp; done) | (simp [*]; done)), H', ⟨by have := HJ2.out; first | omega | exact Nat.le_refl _⟩, by repeat (first | exact Drawn0.refl _ | apply Drawn0.step)⟩
                · rw [if_neg c9] at H
                  have c9b0 : (a0 == 8239) = false := beq_eq_false_iff_ne.mpr c9
                  have c9b1 : (a0 != 8239) = true := bne_iff_ne.mpr c9
                  have H' := Aside0.mk H
                  clear H
                  go_wp2
                  go_meet
                  case rel => exact ⟨_, ((a0 == 8288)), (by first | rfl | (simp; done) | (simp [*]; done)), H', ⟨by have := HJ2.out; first | omega | exact Nat.le_refl _⟩, by repeat (first | exact Drawn0.refl _ | apply Drawn0.step)⟩
            case rest =>
              clear HC7
              try clear c2
              try clear c2b0
              try clear c2b1
              try clear p2
              try clear c4
              try clear c4b0
              try clear c4b1
              try clear c5
              try clear c6
              try clear c6b0
              try clear c6b1
              try clear c8
              try clear c8b0
              try clear c8b1
              try clear c9
              try clear c9b0
              try clear c9b1
              try clear p2
              obtain ⟨kq, x16_6, rfl, HA, HJ6, ⟨mc6, rfl⟩⟩ := hcut
              cases kq with
              | zero => exact absurd HA.out (by simp [impl_classOf.j1])
              | succ kj6 =>
                have H := HA.out
                clear HA
                simp only [impl_classOf.j1] at H
                by_cases c10 : x16_6 = true
                · subst c10
                  have H1 : (some 4) = some r := by rw [if_pos rfl] at H; exact H
                  clear H
                  have H := H1
                  clear H1
                  obtain rfl := Option.some.inj H
                  go_wp2
                  go_ret
                  exact ⟨by first | rfl | (simp; done) | (simp [*]; done), by repeat (first | exact Drawn0.refl _ | apply Drawn0.step)⟩
                · replace c10 := Bool.eq_false_iff.mpr c10
                  subst c10
                  have H1 : ((impl_between.f a0 768 879).bind fun t138 => (if t138 = true then (impl_classOf.j2 kj6 a0 true) else (impl_classOf.j2 kj6 a0 (a0 == 8205)))) = some r := by rw [if_neg (show ¬ (false = true) by decide)] at H; exact H
                  clear H
                  have H := H1
                  clear H1
                  have HC11 := Aside0.mk H
                  clear H
                  go_upto_region 9 with (fail)
                  go_cut [27] (fun v27 wc => ∃ (kq : Nat) (x27_10 : Bool), v27 = .bool x27_10 ∧ Aside0 (impl_classOf.j2 kq a0 x27_10 = some r) ∧ Aside0 (kq ≤ kj6) ∧ Drawn0 w wc)
                  case first =>
                    have H := HC11.out
                    clear HC11
                    replace H := Option.bind_eq_some_iff.mp H
                    obtain ⟨t138, A120, H⟩ := H
                    replace H : (if t138 = true then (impl_classOf.j2 kj6 a0 true) else (impl_classOf.j2 kj6 a0 (a0 == 8205))) = some r := H
                    have A12 := Aside0.mk A120
                    clear A120
                    by_cases c13 : t138 = true
                    · subst c13
                      have H1 : (impl_classOf.j2 kj6 a0 true) = some r := by rw [if_pos rfl] at H; exact H
                      clear H
                      have H := H1
                      clear H1
                      have H' := Aside0.mk H
                      clear H
                      go_wp2_with (first | ((with_reducible refine gate_callee (f := 107) rfl ?_); refine goesL_ (some 29) rfl rfl Try.func107 (by kernel_rfl) rfl #[.int .i64 a0, .int .i64 768, .int .i64 879] rfl (by (try simp only [List.map_toArray, List.map_cons, List.map_nil]); first | done | rfl | (simp only [List.length_drop, List.length_take]; rfl)) ?_; (with_reducible refine (impl_between.calls a0 768 879 true _ A12.out).mono ?_); rintro e w' ⟨rfl, ⟨nd, rfl⟩⟩; refine ⟨_, rfl, ?_⟩))
                      go_meet
                      case rel => exact ⟨_, (true), (by first | rfl | (simp; done) | (simp [*]; done)), H', ⟨by have := HJ2.out; have := HJ6.out; first | omega | exact Nat.le_refl _⟩, by repeat (first | exact Drawn0.refl _ | apply Drawn0.step)⟩
                    · replace c13 := Bool.eq_false_iff.mpr c13
                      subst c13
                      have H1 : (impl_classOf.j2 kj6 a0 (a0 == 8205)) = some r := by rw [if_neg (show ¬ (false = true) by decide)] at H; exact H
                      clear H
                      have H := H1
                      clear H1
                      have H' := Aside0.mk H
                      clear H
                      go_wp2_with (first | ((with_reducible refine gate_callee (f := 107) rfl ?_); refine goesL_ (some 29) rfl rfl Try.func107 (by kernel_rfl) rfl #[.int .i64 a0, .int .i64 768, .int .i64 879] rfl (by (try simp only [List.map_toArray, List.map_cons, List.map_nil]); first | done | rfl | (simp only [List.length_drop, List.length_take]; rfl)) ?_; (with_reducible refine (impl_between.calls a0 768 879 false _ A12.out).mono ?_); rintro e w' ⟨rfl, ⟨nd, rfl⟩⟩; refine ⟨_, rfl, ?_⟩))
                      go_meet
                      case rel => exact ⟨_, ((a0 == 8205)), (by first | rfl | (simp; done) | (simp [*]; done)), H', ⟨by have := HJ2.out; have := HJ6.out; first | omega | exact Nat.le_refl _⟩, by repeat (first | exact Drawn0.refl _ | apply Drawn0.step)⟩
                  case rest =>
                    clear HC11
                    try clear c1
                    try clear c2
                    try clear c2b0
                    try clear c2b1
                    try clear p2
                    try clear c4
                    try clear c4b0
                    try clear c4b1
                    try clear c5
                    try clear c6
                    try clear c6b0
                    try clear c6b1
                    try clear c8
                    try clear c8b0
                    try clear c8b1
                    try clear c9
                    try clear c9b0
                    try clear c9b1
                    try clear c10
                    try clear c13
                    try clear p2
                    obtain ⟨kq, x27_10, rfl, HA, HJ10, ⟨mc10, rfl⟩⟩ := hcut
                    cases kq with
                    | zero => exact absurd HA.out (by simp [impl_classOf.j2])
                    | succ kj10 =>
                      have H := HA.out
                      clear HA
                      simp only [impl_classOf.j2] at H
                      by_cases c14 : x27_10 = true
                      · subst c14
                        have H1 : (some 5) = some r := by rw [if_pos rfl] at H; exact H
                        clear H
                        have H := H1
                        clear H1
                        obtain rfl := Option.some.inj H
                        go_wp2
                        go_ret
                        exact ⟨by first | rfl | (simp; done) | (simp [*]; done), by repeat (first | exact Drawn0.refl _ | apply Drawn0.step)⟩
                      · replace c14 := Bool.eq_false_iff.mpr c14
                        subst c14
                        have H1 : (if a0 = 45 then (impl_classOf.j3 kj10 a0 true) else (if a0 = 8208 then (impl_classOf.j3 kj10 a0 true) else (impl_classOf.j3 kj10 a0 (a0 == 173)))) = some r := by rw [if_neg (show ¬ (false = true) by decide)] at H; exact H
                        clear H
                        have H := H1
                        clear H1
                        have HC15 := Aside0.mk H
                        clear H
                        go_upto_region 11 with (fail)
                        go_cut [34] (fun v34 wc => ∃ (kq : Nat) (x34_14 : Bool), v34 = .bool x34_14 ∧ Aside0 (impl_classOf.j3 kq a0 x34_14 = some r) ∧ Aside0 (kq ≤ kj10) ∧ Drawn0 w wc)
                        case first =>
                          have H := HC15.out
                          clear HC15
                          by_cases c16 : a0 = 45
                          · rw [if_pos c16] at H
                            have c16b0 : (a0 == 45) = true := beq_iff_eq.mpr c16
                            have c16b1 : (a0 != 45) = false := bne_eq_false_iff_eq.mpr c16
                            clear c16
                            (first | rw [c16b0] | (simp only [i64_w, i32_w]; rw [c16b0]) | skip)
                            have H' := Aside0.mk H
                            clear H
                            go_wp2
                            go_meet
                            case rel => exact ⟨_, (true), (by first | rfl | (simp; done) | (simp [*]; done)), H', ⟨by have := HJ2.out; have := HJ6.out; have := HJ10.out; first | omega | exact Nat.le_refl _⟩, by repeat (first | exact Drawn0.refl _ | apply Drawn0.step)⟩
                          · rw [if_neg c16] at H
                            have c16b0 : (a0 == 45) = false := beq_eq_false_iff_ne.mpr c16
                            have c16b1 : (a0 != 45) = true := bne_iff_ne.mpr c16
                            (first | rw [c16b0] | (simp only [i64_w, i32_w]; rw [c16b0]) | skip)
                            by_cases c17 : a0 = 8208
                            · rw [if_pos c17] at H
                              have c17b0 : (a0 == 8208) = true := beq_iff_eq.mpr c17
                              have c17b1 : (a0 != 8208) = false := bne_eq_false_iff_eq.mpr c17
                              clear c17
                              have H' := Aside0.mk H
                              clear H
                              go_wp2
                              go_meet
                              case rel => exact ⟨_, (true), (by first | rfl | (simp; done) | (simp [*]; done)), H', ⟨by have := HJ2.out; have := HJ6.out; have := HJ10.out; first | omega | exact Nat.le_refl _⟩, by repeat (first | exact Drawn0.refl _ | apply Drawn0.step)⟩
                            · rw [if_neg c17] at H
                              have c17b0 : (a0 == 8208) = false := beq_eq_false_iff_ne.mpr c17
                              have c17b1 : (a0 != 8208) = true := bne_iff_ne.mpr c17
                              have H' := Aside0.mk H
                              clear H
                              go_wp2
                              go_meet
                              case rel => exact ⟨_, ((a0 == 173)), (by first | rfl | (simp; done) | (simp [*]; done)), H', ⟨by have := HJ2.out; have := HJ6.out; have := HJ10.out; first | omega | exact Nat.le_refl _⟩, by repeat (first | exact Drawn0.refl _ | apply Drawn0.step)⟩
                        case rest =>
                          clear HC15
                          try clear c1
                          try clear c2
                          try clear c2b0
                          try clear c2b1
                          try clear p2
                          try clear c4
                          try clear c4b0
                          try clear c4b1
                          try clear c5
                          try clear c6
                          try clear c6b0
                          try clear c6b1
                          try clear c8
                          try clear c8b0
                          try clear c8b1
                          try clear c9
                          try clear c9b0
                          try clear c9b1
                          try clear c10
                          try clear c13
                          try clear c14
                          try clear c16
                          try clear c16b0
                          try clear c16b1
                          try clear c17
                          try clear c17b0
                          try clear c17b1
                          try clear p2
                          obtain ⟨kq, x34_14, rfl, HA, HJ14, ⟨mc14, rfl⟩⟩ := hcut
                          cases kq with
                          | zero => exact absurd HA.out (by simp [impl_classOf.j3])
                          | succ kj14 =>
                            have H := HA.out
                            clear HA
                            simp only [impl_classOf.j3] at H
                            by_cases c18 : x34_14 = true
                            · subst c18
                              have H1 : (some 6) = some r := by rw [if_pos rfl] at H; exact H
                              clear H
                              have H := H1
                              clear H1
                              obtain rfl := Option.some.inj H
                              go_wp2
                              go_ret
                              exact ⟨by first | rfl | (simp; done) | (simp [*]; done), by repeat (first | exact Drawn0.refl _ | apply Drawn0.step)⟩
                            · replace c18 := Bool.eq_false_iff.mpr c18
                              subst c18
                              have H1 : ((impl_inText.f a0 (⟨#[40, 91, 123]⟩ : ByteArray)).bind fun t139 => (if t139 = true then (some 7) else ((impl_inText.f a0 (⟨#[41, 93, 125]⟩ : ByteArray)).bind fun t140 => (if t140 = true then (some 8) else ((impl_inText.f a0 (⟨#[46, 44, 33, 63, 59, 58]⟩ : ByteArray)).bind fun t141 => (if t141 = true then (impl_classOf.j4 kj14 a0 true) else (impl_classOf.j4 kj14 a0 (a0 == 8230)))))))) = some r := by rw [if_neg (show ¬ (false = true) by decide)] at H; exact H
                              clear H
                              have H := H1
                              clear H1
                              replace H := Option.bind_eq_some_iff.mp H
                              obtain ⟨t139, A190, H⟩ := H
                              replace H : (if t139 = true then (some 7) else ((impl_inText.f a0 (⟨#[41, 93, 125]⟩ : ByteArray)).bind fun t140 => (if t140 = true then (some 8) else ((impl_inText.f a0 (⟨#[46, 44, 33, 63, 59, 58]⟩ : ByteArray)).bind fun t141 => (if t141 = true then (impl_classOf.j4 kj14 a0 true) else (impl_classOf.j4 kj14 a0 (a0 == 8230))))))) = some r := H
                              have A19 := Aside0.mk A190
                              clear A190
                              by_cases c20 : t139 = true
                              · subst c20
                                have H1 : (some 7) = some r := by rw [if_pos rfl] at H; exact H
                                clear H
                                have H := H1
                                clear H1
                                obtain rfl := Option.some.inj H
                                go_wp2_with (first | ((with_reducible refine gate_callee (f := 108) rfl ?_); refine goesL_ (some 47) rfl rfl Try.func108 (by kernel_rfl) rfl #[.int .i64 a0, .string (⟨#[40, 91, 123]⟩ : ByteArray)] rfl (by (try simp only [List.map_toArray, List.map_cons, List.map_nil]); first | done | rfl | (simp only [List.length_drop, List.length_take]; rfl)) ?_; (with_reducible refine (impl_inText.calls a0 (⟨#[40, 91, 123]⟩ : ByteArray) true _ A19.out).mono ?_); rintro e w' ⟨rfl, ⟨nd, rfl⟩⟩; refine ⟨_, rfl, ?_⟩))
                                go_ret
                                exact ⟨by first | rfl | (simp; done) | (simp [*]; done), by repeat (first | exact Drawn0.refl _ | apply Drawn0.step)⟩
                              · replace c20 := Bool.eq_false_iff.mpr c20
                                subst c20
                                have H1 : ((impl_inText.f a0 (⟨#[41, 93, 125]⟩ : ByteArray)).bind fun t140 => (if t140 = true then (some 8) else ((impl_inText.f a0 (⟨#[46, 44, 33, 63, 59, 58]⟩ : ByteArray)).bind fun t141 => (if t141 = true then (impl_classOf.j4 kj14 a0 true) else (impl_classOf.j4 kj14 a0 (a0 == 8230)))))) = some r := by rw [if_neg (show ¬ (false = true) by decide)] at H; exact H
                                clear H
                                have H := H1
                                clear H1
                                replace H := Option.bind_eq_some_iff.mp H
                                obtain ⟨t140, A210, H⟩ := H
                                replace H : (if t140 = true then (some 8) else ((impl_inText.f a0 (⟨#[46, 44, 33, 63, 59, 58]⟩ : ByteArray)).bind fun t141 => (if t141 = true then (impl_classOf.j4 kj14 a0 true) else (impl_classOf.j4 kj14 a0 (a0 == 8230))))) = some r := H
                                have A21 := Aside0.mk A210
                                clear A210
                                by_cases c22 : t140 = true
                                · subst c22
                                  have H1 : (some 8) = some r := by rw [if_pos rfl] at H; exact H
                                  clear H
                                  have H := H1
                                  clear H1
                                  obtain rfl := Option.some.inj H
                                  go_wp2_with (first | ((with_reducible refine gate_callee (f := 108) rfl ?_); refine goesL_ (some 47) rfl rfl Try.func108 (by kernel_rfl) rfl #[.int .i64 a0, .string (⟨#[40, 91, 123]⟩ : ByteArray)] rfl (by (try simp only [List.map_toArray, List.map_cons, List.map_nil]); first | done | rfl | (simp only [List.length_drop, List.length_take]; rfl)) ?_; (with_reducible refine (impl_inText.calls a0 (⟨#[40, 91, 123]⟩ : ByteArray) false _ A19.out).mono ?_); rintro e w' ⟨rfl, ⟨nd, rfl⟩⟩; refine ⟨_, rfl, ?_⟩) | ((with_reducible refine gate_callee (f := 108) rfl ?_); refine goesL_ (some 50) rfl rfl Try.func108 (by kernel_rfl) rfl #[.int .i64 a0, .string (⟨#[41, 93, 125]⟩ : ByteArray)] rfl (by (try simp only [List.map_toArray, List.map_cons, List.map_nil]); first | done | rfl | (simp only [List.length_drop, List.length_take]; rfl)) ?_; (with_reducible refine (impl_inText.calls a0 (⟨#[41, 93, 125]⟩ : ByteArray) true _ A21.out).mono ?_); rintro e w' ⟨rfl, ⟨nd, rfl⟩⟩; refine ⟨_, rfl, ?_⟩))
                                  go_ret
                                  exact ⟨by first | rfl | (simp; done) | (simp [*]; done), by repeat (first | exact Drawn0.refl _ | apply Drawn0.step)⟩
                                · replace c22 := Bool.eq_false_iff.mpr c22
                                  subst c22
                                  have H1 : ((impl_inText.f a0 (⟨#[46, 44, 33, 63, 59, 58]⟩ : ByteArray)).bind fun t141 => (if t141 = true then (impl_classOf.j4 kj14 a0 true) else (impl_classOf.j4 kj14 a0 (a0 == 8230)))) = some r := by rw [if_neg (show ¬ (false = true) by decide)] at H; exact H
                                  clear H
                                  have H := H1
                                  clear H1
                                  have HC23 := Aside0.mk H
                                  clear H
                                  go_upto_region 17 with (first | ((with_reducible refine gate_callee (f := 108) rfl ?_); refine goesL_ (some 47) rfl rfl Try.func108 (by kernel_rfl) rfl #[.int .i64 a0, .string (⟨#[40, 91, 123]⟩ : ByteArray)] rfl (by (try simp only [List.map_toArray, List.map_cons, List.map_nil]); first | done | rfl | (simp only [List.length_drop, List.length_take]; rfl)) ?_; (with_reducible refine (impl_inText.calls a0 (⟨#[40, 91, 123]⟩ : ByteArray) false _ A19.out).mono ?_); rintro e w' ⟨rfl, ⟨nd, rfl⟩⟩; refine ⟨_, rfl, ?_⟩) | ((with_reducible refine gate_callee (f := 108) rfl ?_); refine goesL_ (some 50) rfl rfl Try.func108 (by kernel_rfl) rfl #[.int .i64 a0, .string (⟨#[41, 93, 125]⟩ : ByteArray)] rfl (by (try simp only [List.map_toArray, List.map_cons, List.map_nil]); first | done | rfl | (simp only [List.length_drop, List.length_take]; rfl)) ?_; (with_reducible refine (impl_inText.calls a0 (⟨#[41, 93, 125]⟩ : ByteArray) false _ A21.out).mono ?_); rintro e w' ⟨rfl, ⟨nd, rfl⟩⟩; refine ⟨_, rfl, ?_⟩))
                                  (try simp only [Act.put, List.setIfInBounds_toArray, List.set_cons_zero, List.set_cons_succ])
                                  go_cut [51] (fun v51 wc => ∃ (kq : Nat) (x51_22 : Bool), v51 = .bool x51_22 ∧ Aside0 (impl_classOf.j4 kq a0 x51_22 = some r) ∧ Aside0 (kq ≤ kj14) ∧ Drawn0 w wc)
                                  case first =>
                                    have H := HC23.out
                                    clear HC23
                                    replace H := Option.bind_eq_some_iff.mp H
                                    obtain ⟨t141, A240, H⟩ := H
                                    replace H : (if t141 = true then (impl_classOf.j4 kj14 a0 true) else (impl_classOf.j4 kj14 a0 (a0 == 8230))) = some r := H
                                    have A24 := Aside0.mk A240
                                    clear A240
                                    by_cases c25 : t141 = true
                                    · subst c25
                                      have H1 : (impl_classOf.j4 kj14 a0 true) = some r := by rw [if_pos rfl] at H; exact H
                                      clear H
                                      have H := H1
                                      clear H1
                                      have H' := Aside0.mk H
                                      clear H
                                      go_wp2_with (first | ((with_reducible refine gate_callee (f := 108) rfl ?_); refine goesL_ (some 53) rfl rfl Try.func108 (by kernel_rfl) rfl #[.int .i64 a0, .string (⟨#[46, 44, 33, 63, 59, 58]⟩ : ByteArray)] rfl (by (try simp only [List.map_toArray, List.map_cons, List.map_nil]); first | done | rfl | (simp only [List.length_drop, List.length_take]; rfl)) ?_; (with_reducible refine (impl_inText.calls a0 (⟨#[46, 44, 33, 63, 59, 58]⟩ : ByteArray) true _ A24.out).mono ?_); rintro e w' ⟨rfl, ⟨nd, rfl⟩⟩; refine ⟨_, rfl, ?_⟩))
                                      go_meet
                                      case rel => exact ⟨_, (true), (by first | rfl | (simp; done) | (simp [*]; done)), H', ⟨by have := HJ2.out; have := HJ6.out; have := HJ10.out; have := HJ14.out; first | omega | exact Nat.le_refl _⟩, by repeat (first | exact Drawn0.refl _ | apply Drawn0.step)⟩
                                    · replace c25 := Bool.eq_false_iff.mpr c25
                                      subst c25
                                      have H1 : (impl_classOf.j4 kj14 a0 (a0 == 8230)) = some r := by rw [if_neg (show ¬ (false = true) by decide)] at H; exact H
                                      clear H
                                      have H := H1
                                      clear H1
                                      have H' := Aside0.mk H
                                      clear H
                                      go_wp2_with (first | ((with_reducible refine gate_callee (f := 108) rfl ?_); refine goesL_ (some 53) rfl rfl Try.func108 (by kernel_rfl) rfl #[.int .i64 a0, .string (⟨#[46, 44, 33, 63, 59, 58]⟩ : ByteArray)] rfl (by (try simp only [List.map_toArray, List.map_cons, List.map_nil]); first | done | rfl | (simp only [List.length_drop, List.length_take]; rfl)) ?_; (with_reducible refine (impl_inText.calls a0 (⟨#[46, 44, 33, 63, 59, 58]⟩ : ByteArray) false _ A24.out).mono ?_); rintro e w' ⟨rfl, ⟨nd, rfl⟩⟩; refine ⟨_, rfl, ?_⟩))
                                      go_meet
                                      case rel => exact ⟨_, ((a0 == 8230)), (by first | rfl | (simp; done) | (simp [*]; done)), H', ⟨by have := HJ2.out; have := HJ6.out; have := HJ10.out; have := HJ14.out; first | omega | exact Nat.le_refl _⟩, by repeat (first | exact Drawn0.refl _ | apply Drawn0.step)⟩
                                  case rest =>
                                    clear HC23
                                    try clear c1
                                    try clear c2
                                    try clear c2b0
                                    try clear c2b1
                                    try clear p2
                                    try clear c4
                                    try clear c4b0
                                    try clear c4b1
                                    try clear c5
                                    try clear c6
                                    try clear c6b0
                                    try clear c6b1
                                    try clear c8
                                    try clear c8b0
                                    try clear c8b1
                                    try clear c9
                                    try clear c9b0
                                    try clear c9b1
                                    try clear c10
                                    try clear c13
                                    try clear c14
                                    try clear c16
                                    try clear c16b0
                                    try clear c16b1
                                    try clear c17
                                    try clear c17b0
                                    try clear c17b1
                                    try clear c18
                                    try clear c20
                                    try clear c22
                                    try clear c25
                                    try clear p2
                                    obtain ⟨kq, x51_22, rfl, HA, HJ22, ⟨mc22, rfl⟩⟩ := hcut
                                    cases kq with
                                    | zero => exact absurd HA.out (by simp [impl_classOf.j4])
                                    | succ kj22 =>
                                      have H := HA.out
                                      clear HA
                                      simp only [impl_classOf.j4] at H
                                      by_cases c26 : x51_22 = true
                                      · subst c26
                                        have H1 : (some 9) = some r := by rw [if_pos rfl] at H; exact H
                                        clear H
                                        have H := H1
                                        clear H1
                                        obtain rfl := Option.some.inj H
                                        go_wp2
                                        go_ret
                                        exact ⟨by first | rfl | (simp; done) | (simp [*]; done), by repeat (first | exact Drawn0.refl _ | apply Drawn0.step)⟩
                                      · replace c26 := Bool.eq_false_iff.mpr c26
                                        subst c26
                                        have H1 : ((impl_inText.f a0 (⟨#[34, 39]⟩ : ByteArray)).bind fun t142 => (if t142 = true then (some 10) else ((impl_between.f a0 12352 12543).bind fun t143 => (if t143 = true then (impl_classOf.j5 kj22 a0 true) else ((impl_between.f a0 19968 40959).bind fun t144 => (impl_classOf.j5 kj22 a0 t144)))))) = some r := by rw [if_neg (show ¬ (false = true) by decide)] at H; exact H
                                        clear H
                                        have H := H1
                                        clear H1
                                        replace H := Option.bind_eq_some_iff.mp H
                                        obtain ⟨t142, A270, H⟩ := H
                                        replace H : (if t142 = true then (some 10) else ((impl_between.f a0 12352 12543).bind fun t143 => (if t143 = true then (impl_classOf.j5 kj22 a0 true) else ((impl_between.f a0 19968 40959).bind fun t144 => (impl_classOf.j5 kj22 a0 t144))))) = some r := H
                                        have A27 := Aside0.mk A270
                                        clear A270
                                        by_cases c28 : t142 = true
                                        · subst c28
                                          have H1 : (some 10) = some r := by rw [if_pos rfl] at H; exact H
                                          clear H
                                          have H := H1
                                          clear H1
                                          obtain rfl := Option.some.inj H
                                          go_wp2_with (first | ((with_reducible refine gate_callee (f := 108) rfl ?_); refine goesL_ (some 60) rfl rfl Try.func108 (by kernel_rfl) rfl #[.int .i64 a0, .string (⟨#[34, 39]⟩ : ByteArray)] rfl (by (try simp only [List.map_toArray, List.map_cons, List.map_nil]); first | done | rfl | (simp only [List.length_drop, List.length_take]; rfl)) ?_; (with_reducible refine (impl_inText.calls a0 (⟨#[34, 39]⟩ : ByteArray) true _ A27.out).mono ?_); rintro e w' ⟨rfl, ⟨nd, rfl⟩⟩; refine ⟨_, rfl, ?_⟩))
                                          go_ret
                                          exact ⟨by first | rfl | (simp; done) | (simp [*]; done), by repeat (first | exact Drawn0.refl _ | apply Drawn0.step)⟩
                                        · replace c28 := Bool.eq_false_iff.mpr c28
                                          subst c28
                                          have H1 : ((impl_between.f a0 12352 12543).bind fun t143 => (if t143 = true then (impl_classOf.j5 kj22 a0 true) else ((impl_between.f a0 19968 40959).bind fun t144 => (impl_classOf.j5 kj22 a0 t144)))) = some r := by rw [if_neg (show ¬ (false = true) by decide)] at H; exact H
                                          clear H
                                          have H := H1
                                          clear H1
                                          have HC29 := Aside0.mk H
                                          clear H
                                          go_upto_region 21 with (first | ((with_reducible refine gate_callee (f := 108) rfl ?_); refine goesL_ (some 60) rfl rfl Try.func108 (by kernel_rfl) rfl #[.int .i64 a0, .string (⟨#[34, 39]⟩ : ByteArray)] rfl (by (try simp only [List.map_toArray, List.map_cons, List.map_nil]); first | done | rfl | (simp only [List.length_drop, List.length_take]; rfl)) ?_; (with_reducible refine (impl_inText.calls a0 (⟨#[34, 39]⟩ : ByteArray) false _ A27.out).mono ?_); rintro e w' ⟨rfl, ⟨nd, rfl⟩⟩; refine ⟨_, rfl, ?_⟩))
                                          (try simp only [Act.put, List.setIfInBounds_toArray, List.set_cons_zero, List.set_cons_succ])
                                          go_cut [61] (fun v61 wc => ∃ (kq : Nat) (x61_28 : Bool), v61 = .bool x61_28 ∧ Aside0 (impl_classOf.j5 kq a0 x61_28 = some r) ∧ Aside0 (kq ≤ kj22) ∧ Drawn0 w wc)
                                          case first =>
                                            have H := HC29.out
                                            clear HC29
                                            replace H := Option.bind_eq_some_iff.mp H
                                            obtain ⟨t143, A300, H⟩ := H
                                            replace H : (if t143 = true then (impl_classOf.j5 kj22 a0 true) else ((impl_between.f a0 19968 40959).bind fun t144 => (impl_classOf.j5 kj22 a0 t144))) = some r := H
                                            have A30 := Aside0.mk A300
                                            clear A300
                                            by_cases c31 : t143 = true
                                            · subst c31
                                              have H1 : (impl_classOf.j5 kj22 a0 true) = some r := by rw [if_pos rfl] at H; exact H
                                              clear H
                                              have H := H1
                                              clear H1
                                              have H' := Aside0.mk H
                                              clear H
                                              go_wp2_with (first | ((with_reducible refine gate_callee (f := 107) rfl ?_); refine goesL_ (some 63) rfl rfl Try.func107 (by kernel_rfl) rfl #[.int .i64 a0, .int .i64 12352, .int .i64 12543] rfl (by (try simp only [List.map_toArray, List.map_cons, List.map_nil]); first | done | rfl | (simp only [List.length_drop, List.length_take]; rfl)) ?_; (with_reducible refine (impl_between.calls a0 12352 12543 true _ A30.out).mono ?_); rintro e w' ⟨rfl, ⟨nd, rfl⟩⟩; refine ⟨_, rfl, ?_⟩))
                                              go_meet
                                              case rel => exact ⟨_, (true), (by first | rfl | (simp; done) | (simp [*]; done)), H', ⟨by have := HJ2.out; have := HJ6.out; have := HJ10.out; have := HJ14.out; have := HJ22.out; first | omega | exact Nat.le_refl _⟩, by repeat (first | exact Drawn0.refl _ | apply Drawn0.step)⟩
                                            · replace c31 := Bool.eq_false_iff.mpr c31
                                              subst c31
                                              have H1 : ((impl_between.f a0 19968 40959).bind fun t144 => (impl_classOf.j5 kj22 a0 t144)) = some r := by rw [if_neg (show ¬ (false = true) by decide)] at H; exact H
                                              clear H
                                              have H := H1
                                              clear H1
                                              replace H := Option.bind_eq_some_iff.mp H
                                              obtain ⟨t144, A320, H⟩ := H
                                              replace H : (impl_classOf.j5 kj22 a0 t144) = some r := H
                                              have A32 := Aside0.mk A320
                                              clear A320
                                              have H' := Aside0.mk H
                                              clear H
                                              go_wp2_with (first | ((with_reducible refine gate_callee (f := 107) rfl ?_); refine goesL_ (some 63) rfl rfl Try.func107 (by kernel_rfl) rfl #[.int .i64 a0, .int .i64 12352, .int .i64 12543] rfl (by (try simp only [List.map_toArray, List.map_cons, List.map_nil]); first | done | rfl | (simp only [List.length_drop, List.length_take]; rfl)) ?_; (with_reducible refine (impl_between.calls a0 12352 12543 false _ A30.out).mono ?_); rintro e w' ⟨rfl, ⟨nd, rfl⟩⟩; refine ⟨_, rfl, ?_⟩) | (go_at_call 107; (with_reducible refine (impl_between.calls a0 19968 40959 t144 _ A32.out).mono ?_); rintro e w' ⟨rfl, ⟨nd, rfl⟩⟩))
                                              go_meet
                                              case rel => exact ⟨_, (t144), (by first | rfl | (simp; done) | (simp [*]; done)), H', ⟨by have := HJ2.out; have := HJ6.out; have := HJ10.out; have := HJ14.out; have := HJ22.out; first | omega | exact Nat.le_refl _⟩, by repeat (first | exact Drawn0.refl _ | apply Drawn0.step)⟩
                                          case rest =>
                                            clear HC29
                                            try clear c1
                                            try clear c2
                                            try clear c2b0
                                            try clear c2b1
                                            try clear p2
                                            try clear c3
                                            try clear c4
                                            try clear c4b0
                                            try clear c4b1
                                            try clear c5
                                            try clear c6
                                            try clear c6b0
                                            try clear c6b1
                                            try clear c8
                                            try clear c8b0
                                            try clear c8b1
                                            try clear c9
                                            try clear c9b0
                                            try clear c9b1
                                            try clear c10
                                            try clear c13
                                            try clear c14
                                            try clear c16
                                            try clear c16b0
                                            try clear c16b1
                                            try clear c17
                                            try clear c17b0
                                            try clear c17b1
                                            try clear c18
                                            try clear c20
                                            try clear c22
                                            try clear c25
                                            try clear c26
                                            try clear c28
                                            try clear c31
                                            try clear p2
                                            obtain ⟨kq, x61_28, rfl, HA, HJ28, ⟨mc28, rfl⟩⟩ := hcut
                                            cases kq with
                                            | zero => exact absurd HA.out (by simp [impl_classOf.j5])
                                            | succ kj28 =>
                                              have H := HA.out
                                              clear HA
                                              simp only [impl_classOf.j5] at H
                                              by_cases c33 : x61_28 = true
                                              · subst c33
                                                have H1 : (some 11) = some r := by rw [if_pos rfl] at H; exact H
                                                clear H
                                                have H := H1
                                                clear H1
                                                obtain rfl := Option.some.inj H
                                                go_wp2
                                                go_ret
                                                exact ⟨by first | rfl | (simp; done) | (simp [*]; done), by repeat (first | exact Drawn0.refl _ | apply Drawn0.step)⟩
                                              · replace c33 := Bool.eq_false_iff.mpr c33
                                                subst c33
                                                have H1 : ((impl_between.f a0 48 57).bind fun t145 => (if t145 = true then (some 12) else (some 0))) = some r := by rw [if_neg (show ¬ (false = true) by decide)] at H; exact H
                                                clear H
                                                have H := H1
                                                clear H1
                                                replace H := Option.bind_eq_some_iff.mp H
                                                obtain ⟨t145, A340, H⟩ := H
                                                replace H : (if t145 = true then (some 12) else (some 0)) = some r := H
                                                have A34 := Aside0.mk A340
                                                clear A340
                                                by_cases c35 : t145 = true
                                                · subst c35
                                                  have H1 : (some 12) = some r := by rw [if_pos rfl] at H; exact H
                                                  clear H
                                                  have H := H1
                                                  clear H1
                                                  obtain rfl := Option.some.inj H
                                                  go_wp2_with (first | ((with_reducible refine gate_callee (f := 107) rfl ?_); refine goesL_ (some 70) rfl rfl Try.func107 (by kernel_rfl) rfl #[.int .i64 a0, .int .i64 48, .int .i64 57] rfl (by (try simp only [List.map_toArray, List.map_cons, List.map_nil]); first | done | rfl | (simp only [List.length_drop, List.length_take]; rfl)) ?_; (with_reducible refine (impl_between.calls a0 48 57 true _ A34.out).mono ?_); rintro e w' ⟨rfl, ⟨nd, rfl⟩⟩; refine ⟨_, rfl, ?_⟩))
                                                  go_ret
                                                  exact ⟨by first | rfl | (simp; done) | (simp [*]; done), by repeat (first | exact Drawn0.refl _ | apply Drawn0.step)⟩
                                                · replace c35 := Bool.eq_false_iff.mpr c35
                                                  subst c35
                                                  have H1 : (some 0) = some r := by rw [if_neg (show ¬ (false = true) by decide)] at H; exact H
                                                  clear H
                                                  have H := H1
                                                  clear H1
                                                  obtain rfl := Option.some.inj H
                                                  go_wp2_with (first | ((with_reducible refine gate_callee (f := 107) rfl ?_); refine goesL_ (some 70) rfl rfl Try.func107 (by kernel_rfl) rfl #[.int .i64 a0, .int .i64 48, .int .i64 57] rfl (by (try simp only [List.map_toArray, List.map_cons, List.map_nil]); first | done | rfl | (simp only [List.length_drop, List.length_take]; rfl)) ?_; (with_reducible refine (impl_between.calls a0 48 57 false _ A34.out).mono ?_); rintro e w' ⟨rfl, ⟨nd, rfl⟩⟩; refine ⟨_, rfl, ?_⟩))
                                                  go_ret
                                                  exact ⟨by first | rfl | (simp; done) | (simp [*]; done), by repeat (first | exact Drawn0.refl _ | apply Drawn0.step)⟩

end Go.Proofs.Ytpknhndanbgkmaa.MFnBreaks
