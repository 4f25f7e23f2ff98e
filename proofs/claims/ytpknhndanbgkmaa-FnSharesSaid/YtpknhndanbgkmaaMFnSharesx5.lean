-- Written by this session's own program (wip/gen/myprint.py).
import Derived.Test.YtpknhndanbgkmaaMFnSharesx0
namespace Go.Proofs.Ytpknhndanbgkmaa.MFnShares
open Go.RowKit Go.Proofs.YtpknhndanbgkmaaW.PrintWords Go.Proofs.YtpknhndanbgkmaaW.PrintLast Go.Proofs.YtpknhndanbgkmaaW.PrintMore
attribute [local go_sem] max2_int min2_int max_two min_two max_three min_three max_four min_four   -- for this text's walks alone
set_option linter.unusedVariables false
set_option linter.unusedSimpArgs false
mutual
def spec_MulDiv.j0 : Nat → Int → Int → Int → Bool → Option (Int)
 | 0, _, _, _, _ => none
 | k + 1, x0, x1, x2, x27 => if x27 = true then (some 0) else (if x2 = 0 then (none) else (spec_MulDiv.l0 k x0 x2 0 0 (wrap64 (Int.tdiv x1 x2)) (Int.tmod x1 x2) 62))
def spec_MulDiv.l0 : Nat → Int → Int → Int → Int → Int → Int → Int → Option (Int)
 | 0, _, _, _, _, _, _, _ => none
 | k + 1, x0, x2, x8, x9, x10, x11, x12 => if x12 ≥ 0 then (if x8 > 2305843009213693952 then (some 0) else (if (wrap64 (2 * x9)) ≥ x2 then (spec_MulDiv.j2 k x0 x2 (wrap64 (2 * x8)) (wrap64 (2 * x9)) x10 x11 x12 true) else (spec_MulDiv.j2 k x0 x2 (wrap64 (2 * x8)) (wrap64 (2 * x9)) x10 x11 x12 (decide ((wrap64 (2 * x9)) < 0))))) else (some x8)
def spec_MulDiv.j2 : Nat → Int → Int → Int → Int → Int → Int → Int → Bool → Option (Int)
 | 0, _, _, _, _, _, _, _, _ => none
 | k + 1, x0, x2, x8, x9, x10, x11, x12, x52 => if x52 = true then (spec_MulDiv.j3 k x0 x2 (wrap64 (x8 + 1)) (wrap64 (x9 - x2)) x10 x11 x12) else (spec_MulDiv.j3 k x0 x2 x8 x9 x10 x11 x12)
def spec_MulDiv.j3 : Nat → Int → Int → Int → Int → Int → Int → Int → Option (Int)
 | 0, _, _, _, _, _, _, _ => none
 | k + 1, x0, x2, x8, x9, x10, x11, x12 => if 0 ≤ x12 then (if (Go.bits .and .i64 (shr .i64 x0 x12) 1) = 1 then (if x10 > (wrap64 (4611686018427387904 - x8)) then (some 0) else (if (wrap64 (x9 + x11)) ≥ x2 then (spec_MulDiv.j4 k x0 x2 (wrap64 (x8 + x10)) (wrap64 (x9 + x11)) x10 x11 x12 true) else (spec_MulDiv.j4 k x0 x2 (wrap64 (x8 + x10)) (wrap64 (x9 + x11)) x10 x11 x12 (decide ((wrap64 (x9 + x11)) < 0))))) else (if x8 > 4611686018427387904 then (some 0) else (spec_MulDiv.l0 k x0 x2 x8 x9 x10 x11 (wrap64 (x12 - 1))))) else (none)
def spec_MulDiv.j4 : Nat → Int → Int → Int → Int → Int → Int → Int → Bool → Option (Int)
 | 0, _, _, _, _, _, _, _, _ => none
 | k + 1, x0, x2, x8, x9, x10, x11, x12, x80 => if x80 = true then (if (wrap64 (x8 + 1)) > 4611686018427387904 then (some 0) else (spec_MulDiv.l0 k x0 x2 (wrap64 (x8 + 1)) (wrap64 (x9 - x2)) x10 x11 (wrap64 (x12 - 1)))) else (if x8 > 4611686018427387904 then (some 0) else (spec_MulDiv.l0 k x0 x2 x8 x9 x10 x11 (wrap64 (x12 - 1))))
end
def spec_MulDiv.f (k : Nat) (a0 : Int) (a1 : Int) (a2 : Int) : Option (Int) := if a0 < 0 then (spec_MulDiv.j0 k a0 a1 a2 true) else (if a1 < 0 then (spec_MulDiv.j0 k a0 a1 a2 true) else (if a2 < 1 then (spec_MulDiv.j0 k a0 a1 a2 true) else (spec_MulDiv.j0 k a0 a1 a2 (decide (a2 > 4611686018427387904)))))
set_option maxHeartbeats 8000000 in
set_option maxRecDepth 100000 in
theorem spec_MulDiv.calls (k : Nat) (a0 : Int) (a1 : Int) (a2 : Int) (r : Int) (w : World) (h : spec_MulDiv.f k a0 a1 a2 = some r) :
 Calls Try.prog 129 #[.int .i64 a0, .int .i64 a1, .int .i64 a2] w fun e w' => e = .returned (.int .i64 r) ∧ Drawn0 w w' := by
 have H : (if a0 < 0 then (spec_MulDiv.j0 k a0 a1 a2 true) else (if a1 < 0 then (spec_MulDiv.j0 k a0 a1 a2 true) else (if a2 < 1 then (spec_MulDiv.j0 k a0 a1 a2 true) else (spec_MulDiv.j0 k a0 a1 a2 (decide (a2 > 4611686018427387904)))))) = some r := h
 clear h
 have HC4 := aMk H
 clear H
 go_enter Try.func129, Try.ntmps129
 go_upto_region 2 with (fail)
 go_cut [27] (fun v27 wc => ∃ (kq : Nat) (x27_3 : Bool), v27 = .bool x27_3 ∧ Aside0 (spec_MulDiv.j0 kq a0 a1 a2 x27_3 = some r) ∧ Aside0 (kq ≤ k) ∧ Drawn0 w wc)
 case first =>
  have H := HC4.out
  clear HC4
  by_cases c5 : a0 < 0
  · rw [if_pos c5] at H
    have c5b0 : decide (a0 < 0) = true := decide_eq_true c5
    clear c5
    (first | rw [c5b0] | (simp only [i64_w, i32_w]; rw [c5b0]) | skip)
    have H' := aMk H
    clear H
    go_wp2
    go_meet
    case rel => exact ⟨_, (true), (by first | rfl | (simp; done) | (simp [*]; done)), H', ⟨by first | omega | exact Nat.le_refl _⟩, by repeat (first | exact Drawn0.refl _ | apply Drawn0.step)⟩
  · rw [if_neg c5] at H
    have c5b0 : decide (a0 < 0) = false := decide_eq_false c5
    clear c5
    (first | rw [c5b0] | (simp only [i64_w, i32_w]; rw [c5b0]) | skip)
    by_cases c6 : a1 < 0
    · rw [if_pos c6] at H
      have c6b0 : decide (a1 < 0) = true := decide_eq_true c6
      clear c6
      have H' := aMk H
      clear H
      go_wp2
      go_meet
      case rel => exact ⟨_, (true), (by first | rfl | (simp; done) | (simp [*]; done)), H', ⟨by first | omega | exact Nat.le_refl _⟩, by repeat (first | exact Drawn0.refl _ | apply Drawn0.step)⟩
    · rw [if_neg c6] at H
      have c6b0 : decide (a1 < 0) = false := decide_eq_false c6
      clear c6
      by_cases c7 : a2 < 1
      · rw [if_pos c7] at H
        have c7b0 : decide (a2 < 1) = true := decide_eq_true c7
        clear c7
        have H' := aMk H
        clear H
        go_wp2
        go_meet
        case rel => exact ⟨_, (true), (by first | rfl | (simp; done) | (simp [*]; done)), H', ⟨by first | omega | exact Nat.le_refl _⟩, by repeat (first | exact Drawn0.refl _ | apply Drawn0.step)⟩
      · rw [if_neg c7] at H
        have c7b0 : decide (a2 < 1) = false := decide_eq_false c7
        clear c7
        have H' := aMk H
        clear H
        go_wp2
        go_meet
        case rel => exact ⟨_, (decide (a2 > 4611686018427387904)), (by first | rfl | (simp; done) | (simp [*]; done)), H', ⟨by first | omega | exact Nat.le_refl _⟩, by repeat (first | exact Drawn0.refl _ | apply Drawn0.step)⟩
 case rest =>
  clear HC4
  try clear c1
  try clear p2
  try clear c5
  try clear c5b0
  try clear c6
  try clear c6b0
  try clear c7
  try clear c7b0
  obtain ⟨kq, x27_3, rfl, HA, HJ3, ⟨mc3, rfl⟩⟩ := hcut
  cases kq with
  | zero => exact absurd HA.out (by simp [spec_MulDiv.j0])
  | succ kj3 =>
   have H := HA.out
   clear HA
   simp only [spec_MulDiv.j0] at H
   by_cases c8 : x27_3 = true
   · subst c8
     have H1 : (some 0) = some r := by rw [if_pos rfl] at H; exact H
     clear H
     have H := H1
     clear H1
     obtain rfl := Option.some.inj H
     go_wp2
     go_ret
     exact ⟨by first | rfl | (simp; done) | (simp [*]; done), by repeat (first | exact Drawn0.refl _ | apply Drawn0.step)⟩
   · replace c8 := Bool.eq_false_iff.mpr c8
     subst c8
     have H1 : (if a2 = 0 then (none) else (spec_MulDiv.l0 kj3 a0 a2 0 0 (wrap64 (Int.tdiv a1 a2)) (Int.tmod a1 a2) 62)) = some r := by rw [if_neg (show ¬ (false = true) by decide)] at H; exact H
     clear H
     have H := H1
     clear H1
     by_cases c9 : a2 = 0
     · rw [if_pos c9] at H
       exact absurd H (by simp)
     · rw [if_neg c9] at H
       have c9b0 : (a2 == 0) = false := beq_eq_false_iff_ne.mpr c9
       have c9b1 : (a2 != 0) = true := bne_iff_ne.mpr c9
       have H' := aMk H
       clear H
       go_wp2
       go_loopg [8, 9, 12] kj3 (fun kq v8 v9 v12 w' => ∃ (x8_2 : Int) (x9_2 : Int) (x12_2 : Int), v8 = .int .i64 x8_2 ∧ v9 = .int .i64 x9_2 ∧ v12 = .int .i64 x12_2 ∧ Aside0 (spec_MulDiv.l0 kq a0 a2 x8_2 x9_2 (wrap64 (Int.tdiv a1 a2)) (Int.tmod a1 a2) x12_2 = some r) ∧ Aside0 (kq ≤ kj3) ∧ Drawn0 w w')
       case atStart => exact ⟨(0), (0), (62), (by first | rfl | (simp; done) | (simp [*]; done)), (by first | rfl | (simp; done) | (simp [*]; done)), (by first | rfl | (simp; done) | (simp [*]; done)), H', ⟨Nat.le_refl _⟩, by repeat (first | exact Drawn0.refl _ | apply Drawn0.step)⟩
       case round =>
        clear H'
        try clear c1
        try clear p2
        try clear c3
        try clear c5
        try clear c5b0
        try clear c6
        try clear c6b0
        try clear p6
        try clear c7
        try clear c7b0
        try clear c8
        try clear c9
        try clear c9b0
        try clear c9b1
        try clear p2
        obtain ⟨x8_2, x9_2, x12_2, rfl, rfl, rfl, HA, HK2, ⟨m2, rfl⟩⟩ := hrel
        cases gk with
        | zero => exact absurd HA.out (by simp [spec_MulDiv.l0])
        | succ k2 =>
         have H := HA.out
         clear HA
         simp only [spec_MulDiv.l0] at H
         by_cases c10 : x12_2 ≥ 0
         · rw [if_pos c10] at H
           have c10b0 : decide (0 ≤ x12_2) = true := decide_eq_true c10
           clear c10
           by_cases c11 : x8_2 > 2305843009213693952
           · rw [if_pos c11] at H
             have c11b0 : decide (2305843009213693952 < x8_2) = true := decide_eq_true c11
             clear c11
             obtain rfl := Option.some.inj H
             go_wp2
             go_ret
             exact ⟨by first | rfl | (simp; done) | (simp [*]; done), by repeat (first | exact Drawn0.refl _ | apply Drawn0.step)⟩
           · rw [if_neg c11] at H
             have c11b0 : decide (2305843009213693952 < x8_2) = false := decide_eq_false c11
             clear c11
             have HC12 := aMk H
             clear H
             go_upto_region 15 with (fail)
             go_cut [52] (fun v52 wc => ∃ (kq : Nat) (x52_11 : Bool), v52 = .bool x52_11 ∧ Aside0 (spec_MulDiv.j2 kq a0 a2 (wrap64 (2 * x8_2)) (wrap64 (2 * x9_2)) (wrap64 (Int.tdiv a1 a2)) (Int.tmod a1 a2) x12_2 x52_11 = some r) ∧ Aside0 (kq ≤ k2) ∧ Drawn0 w wc)
             case first =>
              have H := HC12.out
              clear HC12
              by_cases c13 : (wrap64 (2 * x9_2)) ≥ a2
              · rw [if_pos c13] at H
                have c13b0 : decide (a2 ≤ (wrap64 (2 * x9_2))) = true := decide_eq_true c13
                clear c13
                (first | rw [c13b0] | (simp only [i64_w, i32_w]; rw [c13b0]) | skip)
                have H' := aMk H
                clear H
                go_wp2
                go_meet
                case rel => exact ⟨_, (true), (by first | rfl | (simp; done) | (simp [*]; done)), H', ⟨by have := HJ3.out; have := HK2.out; first | omega | exact Nat.le_refl _⟩, by repeat (first | exact Drawn0.refl _ | apply Drawn0.step)⟩
              · rw [if_neg c13] at H
                have c13b0 : decide (a2 ≤ (wrap64 (2 * x9_2))) = false := decide_eq_false c13
                clear c13
                (first | rw [c13b0] | (simp only [i64_w, i32_w]; rw [c13b0]) | skip)
                have H' := aMk H
                clear H
                go_wp2
                go_meet
                case rel => exact ⟨_, (decide ((wrap64 (2 * x9_2)) < 0)), (by first | rfl | (simp; done) | (simp [*]; done)), H', ⟨by have := HJ3.out; have := HK2.out; first | omega | exact Nat.le_refl _⟩, by repeat (first | exact Drawn0.refl _ | apply Drawn0.step)⟩
             case rest =>
              clear HC12
              try clear c1
              try clear p2
              try clear c3
              try clear c5
              try clear c5b0
              try clear c6
              try clear c6b0
              try clear p6
              try clear c7
              try clear c7b0
              try clear c8
              try clear c9
              try clear c9b0
              try clear c9b1
              try clear c10
              try clear c10b0
              try clear c11
              try clear c11b0
              try clear c12
              try clear c13
              try clear c13b0
              try clear p2
              try clear p6
              obtain ⟨kq, x52_11, rfl, HA, HJ11, ⟨mc11, rfl⟩⟩ := hcut
              cases kq with
              | zero => exact absurd HA.out (by simp [spec_MulDiv.j2])
              | succ kj11 =>
               have H := HA.out
               clear HA
               simp only [spec_MulDiv.j2] at H
               have HC14 := aMk H
               clear H
               go_upto_if 52 with (fail)
               go_cut [8, 9] (fun v8 v9 wc => ∃ (kq : Nat) (x8_13 : Int) (x9_13 : Int), v8 = .int .i64 x8_13 ∧ v9 = .int .i64 x9_13 ∧ Aside0 (spec_MulDiv.j3 kq a0 a2 x8_13 x9_13 (wrap64 (Int.tdiv a1 a2)) (Int.tmod a1 a2) x12_2 = some r) ∧ Aside0 (kq ≤ kj11) ∧ Drawn0 w wc)
               case first =>
                have H := HC14.out
                clear HC14
                by_cases c15 : x52_11 = true
                · subst c15
                  have H1 : (spec_MulDiv.j3 kj11 a0 a2 (wrap64 ((wrap64 (2 * x8_2)) + 1)) (wrap64 ((wrap64 (2 * x9_2)) - a2)) (wrap64 (Int.tdiv a1 a2)) (Int.tmod a1 a2) x12_2) = some r := by rw [if_pos rfl] at H; exact H
                  clear H
                  have H := H1
                  clear H1
                  have H' := aMk H
                  clear H
                  go_wp2
                  go_meet
                  case rel => exact ⟨_, (wrap64 ((wrap64 (2 * x8_2)) + 1)), (wrap64 ((wrap64 (2 * x9_2)) - a2)), (by first | rfl | (simp; done) | (simp [*]; done)), (by first | rfl | (simp; done) | (simp [*]; done)), H', ⟨by have := HJ3.out; have := HK2.out; have := HJ11.out; first | omega | exact Nat.le_refl _⟩, by repeat (first | exact Drawn0.refl _ | apply Drawn0.step)⟩
                · replace c15 := Bool.eq_false_iff.mpr c15
                  subst c15
                  have H1 : (spec_MulDiv.j3 kj11 a0 a2 (wrap64 (2 * x8_2)) (wrap64 (2 * x9_2)) (wrap64 (Int.tdiv a1 a2)) (Int.tmod a1 a2) x12_2) = some r := by rw [if_neg (show ¬ (false = true) by decide)] at H; exact H
                  clear H
                  have H := H1
                  clear H1
                  have H' := aMk H
                  clear H
                  go_wp2
                  go_meet
                  case rel => exact ⟨_, ((wrap64 (2 * x8_2))), ((wrap64 (2 * x9_2))), (by first | rfl | (simp; done) | (simp [*]; done)), (by first | rfl | (simp; done) | (simp [*]; done)), H', ⟨by have := HJ3.out; have := HK2.out; have := HJ11.out; first | omega | exact Nat.le_refl _⟩, by repeat (first | exact Drawn0.refl _ | apply Drawn0.step)⟩
               case rest =>
                clear HC14
                try clear c1
                try clear p2
                try clear c3
                try clear c5
                try clear c5b0
                try clear c6
                try clear c6b0
                try clear p6
                try clear c7
                try clear c7b0
                try clear c8
                try clear c9
                try clear c9b0
                try clear c9b1
                try clear c10
                try clear c10b0
                try clear c11
                try clear c11b0
                try clear c12
                try clear c13
                try clear c13b0
                try clear c15
                try clear p2
                try clear p6
                obtain ⟨kq, x8_13, x9_13, rfl, rfl, HA, HJ13, ⟨mc13, rfl⟩⟩ := hcut
                cases kq with
                | zero => exact absurd HA.out (by simp [spec_MulDiv.j3])
                | succ kj13 =>
                 have H := HA.out
                 clear HA
                 simp only [spec_MulDiv.j3] at H
                 by_cases c16 : 0 ≤ x12_2
                 · rw [if_pos c16] at H
                   have c16b0 := eq_true c16
                   have c16b1 : decide (0 ≤ x12_2) = true := decide_eq_true c16
                   clear c16
                   obtain ⟨ji17, hji17⟩ : ∃ j_ : Int, (shr .i64 a0 x12_2) = j_ := ⟨_, rfl⟩
                   replace H : (if (Go.bits .and .i64 (ji17) 1) = 1 then (if (wrap64 (Int.tdiv a1 a2)) > (wrap64 (4611686018427387904 - x8_13)) then (some 0) else (if (wrap64 (x9_13 + (Int.tmod a1 a2))) ≥ a2 then (spec_MulDiv.j4 kj13 a0 a2 (wrap64 (x8_13 + (wrap64 (Int.tdiv a1 a2)))) (wrap64 (x9_13 + (Int.tmod a1 a2))) (wrap64 (Int.tdiv a1 a2)) (Int.tmod a1 a2) x12_2 true) else (spec_MulDiv.j4 kj13 a0 a2 (wrap64 (x8_13 + (wrap64 (Int.tdiv a1 a2)))) (wrap64 (x9_13 + (Int.tmod a1 a2))) (wrap64 (Int.tdiv a1 a2)) (Int.tmod a1 a2) x12_2 (decide ((wrap64 (x9_13 + (Int.tmod a1 a2))) < 0))))) else (if x8_13 > 4611686018427387904 then (some 0) else (spec_MulDiv.l0 kj13 a0 a2 x8_13 x9_13 (wrap64 (Int.tdiv a1 a2)) (Int.tmod a1 a2) (wrap64 (x12_2 - 1))))) = some r := by first | (rw [hji17] at H; exact H) | (simp only [hji17] at H ⊢; exact H)
                   have hji17_ : (a0 / 2 ^ min x12_2.toNat 64) = ji17 := hji17
                   have hji17z : x12_2 ≤ 64 → (a0 / 2 ^ x12_2.toNat) = ji17 := shr_small hji17
                   by_cases c18 : (Go.bits .and .i64 (ji17) 1) = 1
                   · rw [if_pos c18] at H
                     have c18b0 : ((Go.bits .and .i64 (ji17) 1) == 1) = true := beq_iff_eq.mpr c18
                     have c18b1 : ((Go.bits .and .i64 (ji17) 1) != 1) = false := bne_eq_false_iff_eq.mpr c18
                     clear c18
                     by_cases c19 : (wrap64 (Int.tdiv a1 a2)) > (wrap64 (4611686018427387904 - x8_13))
                     · rw [if_pos c19] at H
                       have c19b0 : decide ((wrap64 (4611686018427387904 - x8_13)) < (wrap64 (Int.tdiv a1 a2))) = true := decide_eq_true c19
                       clear c19
                       obtain rfl := Option.some.inj H
                       go_wp2
                       go_ret
                       exact ⟨by first | rfl | (simp; done) | (simp only [← hji17] <;> (first | rfl | simp)) | (simp [*]; done), by repeat (first | exact Drawn0.refl _ | apply Drawn0.step)⟩
                     · rw [if_neg c19] at H
                       have c19b0 : decide ((wrap64 (4611686018427387904 - x8_13)) < (wrap64 (Int.tdiv a1 a2))) = false := decide_eq_false c19
                       clear c19
                       have HC20 := aMk H
                       clear H
                       go_upto_region 23 with (fail)
                       go_cut [80] (fun v80 wc => ∃ (kq : Nat) (x80_19 : Bool), v80 = .bool x80_19 ∧ Aside0 (spec_MulDiv.j4 kq a0 a2 (wrap64 (x8_13 + (wrap64 (Int.tdiv a1 a2)))) (wrap64 (x9_13 + (Int.tmod a1 a2))) (wrap64 (Int.tdiv a1 a2)) (Int.tmod a1 a2) x12_2 x80_19 = some r) ∧ Aside0 (kq ≤ kj13) ∧ Drawn0 w wc)
                       case first =>
                        have H := HC20.out
                        clear HC20
                        by_cases c21 : (wrap64 (x9_13 + (Int.tmod a1 a2))) ≥ a2
                        · rw [if_pos c21] at H
                          have c21b0 : decide (a2 ≤ (wrap64 (x9_13 + (Int.tmod a1 a2)))) = true := decide_eq_true c21
                          clear c21
                          (first | rw [c21b0] | (simp only [i64_w, i32_w]; rw [c21b0]) | skip)
                          have H' := aMk H
                          clear H
                          go_wp2
                          go_meet
                          case rel => exact ⟨_, (true), (by first | rfl | (simp; done) | (simp [*]; done)), H', ⟨by have := HJ3.out; have := HK2.out; have := HJ11.out; have := HJ13.out; first | omega | exact Nat.le_refl _⟩, by repeat (first | exact Drawn0.refl _ | apply Drawn0.step)⟩
                        · rw [if_neg c21] at H
                          have c21b0 : decide (a2 ≤ (wrap64 (x9_13 + (Int.tmod a1 a2)))) = false := decide_eq_false c21
                          clear c21
                          (first | rw [c21b0] | (simp only [i64_w, i32_w]; rw [c21b0]) | skip)
                          have H' := aMk H
                          clear H
                          go_wp2
                          go_meet
                          case rel => exact ⟨_, (decide ((wrap64 (x9_13 + (Int.tmod a1 a2))) < 0)), (by first | rfl | (simp; done) | (simp [*]; done)), H', ⟨by have := HJ3.out; have := HK2.out; have := HJ11.out; have := HJ13.out; first | omega | exact Nat.le_refl _⟩, by repeat (first | exact Drawn0.refl _ | apply Drawn0.step)⟩
                       case rest =>
                        clear HC20
                        try clear c1
                        try clear c2
                        try clear p2
                        try clear c3
                        try clear c5
                        try clear c5b0
                        try clear c6
                        try clear c6b0
                        try clear p6
                        try clear c7
                        try clear c7b0
                        try clear c8
                        try clear c9
                        try clear c9b0
                        try clear c9b1
                        try clear c10
                        try clear c10b0
                        try clear c11
                        try clear c11b0
                        try clear c12
                        try clear c13
                        try clear c13b0
                        try clear c15
                        try clear c16
                        try clear c16b0
                        try clear c16b1
                        try clear c18
                        try clear c18b0
                        try clear c18b1
                        try clear c19
                        try clear c19b0
                        try clear c21
                        try clear c21b0
                        try clear p2
                        try clear p6
                        obtain ⟨kq, x80_19, rfl, HA, HJ19, ⟨mc19, rfl⟩⟩ := hcut
                        cases kq with
                        | zero => exact absurd HA.out (by simp [spec_MulDiv.j4])
                        | succ kj19 =>
                         have H := HA.out
                         clear HA
                         simp only [spec_MulDiv.j4] at H
                         by_cases c22 : x80_19 = true
                         · subst c22
                           have H1 : (if (wrap64 ((wrap64 (x8_13 + (wrap64 (Int.tdiv a1 a2)))) + 1)) > 4611686018427387904 then (some 0) else (spec_MulDiv.l0 kj19 a0 a2 (wrap64 ((wrap64 (x8_13 + (wrap64 (Int.tdiv a1 a2)))) + 1)) (wrap64 ((wrap64 (x9_13 + (Int.tmod a1 a2))) - a2)) (wrap64 (Int.tdiv a1 a2)) (Int.tmod a1 a2) (wrap64 (x12_2 - 1)))) = some r := by rw [if_pos rfl] at H; exact H
                           clear H
                           have H := H1
                           clear H1
                           by_cases c23 : (wrap64 ((wrap64 (x8_13 + (wrap64 (Int.tdiv a1 a2)))) + 1)) > 4611686018427387904
                           · rw [if_pos c23] at H
                             have c23b0 : decide (4611686018427387904 < (wrap64 ((wrap64 (x8_13 + (wrap64 (Int.tdiv a1 a2)))) + 1))) = true := decide_eq_true c23
                             clear c23
                             obtain rfl := Option.some.inj H
                             go_wp2
                             go_ret
                             exact ⟨by first | rfl | (simp; done) | (simp only [← hji17] <;> (first | rfl | simp)) | (simp [*]; done), by repeat (first | exact Drawn0.refl _ | apply Drawn0.step)⟩
                           · rw [if_neg c23] at H
                             have c23b0 : decide (4611686018427387904 < (wrap64 ((wrap64 (x8_13 + (wrap64 (Int.tdiv a1 a2)))) + 1))) = false := decide_eq_false c23
                             clear c23
                             have H' := aMk H
                             clear H
                             go_wp2
                             go_roundg kj19
                             case measure => have := HJ3.out; have := HK2.out; have := HJ11.out; have := HJ13.out; have := HJ19.out; omega
                             case rel => exact ⟨(wrap64 ((wrap64 (x8_13 + (wrap64 (Int.tdiv a1 a2)))) + 1)), (wrap64 ((wrap64 (x9_13 + (Int.tmod a1 a2))) - a2)), (wrap64 (x12_2 - 1)), (by first | rfl | (simp; done) | (simp [*]; done)), (by first | rfl | (simp; done) | (simp [*]; done)), (by first | rfl | (simp; done) | (simp [*]; done)), H', ⟨by have := HJ3.out; have := HK2.out; have := HJ11.out; have := HJ13.out; have := HJ19.out; omega⟩, by repeat (first | exact Drawn0.refl _ | apply Drawn0.step)⟩
                         · replace c22 := Bool.eq_false_iff.mpr c22
                           subst c22
                           have H1 : (if (wrap64 (x8_13 + (wrap64 (Int.tdiv a1 a2)))) > 4611686018427387904 then (some 0) else (spec_MulDiv.l0 kj19 a0 a2 (wrap64 (x8_13 + (wrap64 (Int.tdiv a1 a2)))) (wrap64 (x9_13 + (Int.tmod a1 a2))) (wrap64 (Int.tdiv a1 a2)) (Int.tmod a1 a2) (wrap64 (x12_2 - 1)))) = some r := by rw [if_neg (show ¬ (false = true) by decide)] at H; exact H
                           clear H
                           have H := H1
                           clear H1
                           by_cases c24 : (wrap64 (x8_13 + (wrap64 (Int.tdiv a1 a2)))) > 4611686018427387904
                           · rw [if_pos c24] at H
                             have c24b0 : decide (4611686018427387904 < (wrap64 (x8_13 + (wrap64 (Int.tdiv a1 a2))))) = true := decide_eq_true c24
                             clear c24
                             obtain rfl := Option.some.inj H
                             go_wp2
                             go_ret
                             exact ⟨by first | rfl | (simp; done) | (simp only [← hji17] <;> (first | rfl | simp)) | (simp [*]; done), by repeat (first | exact Drawn0.refl _ | apply Drawn0.step)⟩
                           · rw [if_neg c24] at H
                             have c24b0 : decide (4611686018427387904 < (wrap64 (x8_13 + (wrap64 (Int.tdiv a1 a2))))) = false := decide_eq_false c24
                             clear c24
                             have H' := aMk H
                             clear H
                             go_wp2
                             go_roundg kj19
                             case measure => have := HJ3.out; have := HK2.out; have := HJ11.out; have := HJ13.out; have := HJ19.out; omega
                             case rel => exact ⟨((wrap64 (x8_13 + (wrap64 (Int.tdiv a1 a2))))), ((wrap64 (x9_13 + (Int.tmod a1 a2)))), (wrap64 (x12_2 - 1)), (by first | rfl | (simp; done) | (simp [*]; done)), (by first | rfl | (simp; done) | (simp [*]; done)), (by first | rfl | (simp; done) | (simp [*]; done)), H', ⟨by have := HJ3.out; have := HK2.out; have := HJ11.out; have := HJ13.out; have := HJ19.out; omega⟩, by repeat (first | exact Drawn0.refl _ | apply Drawn0.step)⟩
                   · rw [if_neg c18] at H
                     have c18b0 : ((Go.bits .and .i64 (ji17) 1) == 1) = false := beq_eq_false_iff_ne.mpr c18
                     have c18b1 : ((Go.bits .and .i64 (ji17) 1) != 1) = true := bne_iff_ne.mpr c18
                     by_cases c25 : x8_13 > 4611686018427387904
                     · rw [if_pos c25] at H
                       have c25b0 : decide (4611686018427387904 < x8_13) = true := decide_eq_true c25
                       clear c25
                       obtain rfl := Option.some.inj H
                       go_wp2
                       go_ret
                       exact ⟨by first | rfl | (simp; done) | (simp only [← hji17] <;> (first | rfl | simp)) | (simp [*]; done), by repeat (first | exact Drawn0.refl _ | apply Drawn0.step)⟩
                     · rw [if_neg c25] at H
                       have c25b0 : decide (4611686018427387904 < x8_13) = false := decide_eq_false c25
                       clear c25
                       have H' := aMk H
                       clear H
                       go_wp2
                       go_roundg kj13
                       case measure => have := HJ3.out; have := HK2.out; have := HJ11.out; have := HJ13.out; omega
                       case rel => exact ⟨(x8_13), (x9_13), (wrap64 (x12_2 - 1)), (by first | rfl | (simp; done) | (simp [*]; done)), (by first | rfl | (simp; done) | (simp [*]; done)), (by first | rfl | (simp; done) | (simp [*]; done)), H', ⟨by have := HJ3.out; have := HK2.out; have := HJ11.out; have := HJ13.out; omega⟩, by repeat (first | exact Drawn0.refl _ | apply Drawn0.step)⟩
                 · rw [if_neg c16] at H
                   exact absurd H (by simp)
         · rw [if_neg c10] at H
           have c10b0 : decide (0 ≤ x12_2) = false := decide_eq_false c10
           clear c10
           obtain rfl := Option.some.inj H
           go_wp2
           go_ret
           exact ⟨by first | rfl | (simp; done) | (simp [*]; done), by repeat (first | exact Drawn0.refl _ | apply Drawn0.step)⟩
end Go.Proofs.Ytpknhndanbgkmaa.MFnShares
