-- Written by this session's own program (wip/gen/myprint.py).
import Derived.Test.YtppjmcfcacgbdaaMFnFloatsx0
namespace Go.Proofs.Ytppjmcfcacgbdaa.MFnFloats
open Go.RowKit Go.Proofs.YtppjmcfcacgbdaaW.PrintWords Go.Proofs.YtppjmcfcacgbdaaW.PrintLast Go.Proofs.YtppjmcfcacgbdaaW.PrintMore
attribute [local go_sem] max2_int min2_int max_two min_two max_three min_three max_four min_four   -- for this text's walks alone
set_option linter.unusedVariables false
set_option linter.unusedSimpArgs false

/-! ### spec_Margin: function 28 -/
def spec_Margin.l0 : Nat → List Int → Int → Int → Int → Option (Int)
 | 0, _, _, _, _ => none
 | k + 1, x0, x3, x4, x5 => if x5 < (x0.length : Int) then (if 0 ≤ x5 then (if (rd x0 x5) > x3 then (if (rd x0 x5) < x4 then (spec_Margin.l0 k x0 (rd x0 x5) (rd x0 x5) (wrap64 (x5 + 1))) else (spec_Margin.l0 k x0 (rd x0 x5) x4 (wrap64 (x5 + 1)))) else (if (rd x0 x5) < x4 then (spec_Margin.l0 k x0 x3 (rd x0 x5) (wrap64 (x5 + 1))) else (spec_Margin.l0 k x0 x3 x4 (wrap64 (x5 + 1))))) else (none)) else (some (wrap64 (x3 + x4)))
def spec_Margin.f (k : Nat) (l0 : List Int) : Option (Int) := spec_Margin.l0 k l0 0 0 0
theorem spec_Margin.mono_l : ∀ k, (∀ y0 y1 y2 y3, LeO (spec_Margin.l0 k y0 y1 y2 y3) (spec_Margin.l0 (k + 1) y0 y1 y2 y3))
 | 0 => fun _ _ _ _ r h => by simp [spec_Margin.l0] at h
 | k + 1 => by
  have ih0 := spec_Margin.mono_l k
  · intro y0 y1 y2 y3
    unfold spec_Margin.l0
    repeat' first
    | (with_reducible exact ih0 _ _ _ _)
    | (with_reducible exact LeO.refl _)
    | (with_reducible exact LeO.none _)
    | (with_reducible refine LeO.ite ?_ ?_)
    | (with_reducible refine LeO.bind ?_ (fun _ => ?_))
    | exact ih0 _ _ _ _
    | exact LeO.none _
    | refine LeO.ite ?_ ?_
    | refine LeO.bind ?_ (fun _ => ?_)
theorem spec_Margin.mono : ∀ a0 k, LeO (spec_Margin.f k a0) (spec_Margin.f (k + 1) a0) := by
 intro a0 k
 have ih0 := spec_Margin.mono_l k
 unfold spec_Margin.f
 repeat' first
  | (with_reducible exact ih0 _ _ _ _)
  | (with_reducible exact LeO.refl _)
  | (with_reducible exact LeO.none _)
  | (with_reducible refine LeO.ite ?_ ?_)
  | (with_reducible refine LeO.bind ?_ (fun _ => ?_))
  | exact ih0 _ _ _ _
  | exact LeO.none _
  | refine LeO.ite ?_ ?_
  | refine LeO.bind ?_ (fun _ => ?_)
set_option maxHeartbeats 8000000 in
set_option maxRecDepth 100000 in
theorem spec_Margin.calls (k : Nat) (A0 : Option Addr) (c0 : Nat) (l0 : List Int) (r : Int) (w : World) (hr0 : Kd.C (Kd.int .i64) w A0 l0.length l0) (hc0 : l0.length ≤ c0) (h : spec_Margin.f k l0 = some r) :
 Calls Try.prog 28 #[.slice A0 l0.length c0] w fun e w' => e = .returned (.int .i64 r) ∧ Drawn0 w w' := by
 have HR0 := aMk hr0
 have HC0 := aMk hc0
 clear hr0 hc0
 have H : (spec_Margin.l0 k l0 0 0 0) = some r := h
 clear h
 have H' := aMk H
 clear H
 go_enter Try.func28, Try.ntmps28
 go_wp2
 go_loopg [3, 4, 5] k (fun kq v3 v4 v5 w' => ∃ (x3_1 : Int) (x4_1 : Int) (x5_1 : Int), v3 = .int .i64 x3_1 ∧ v4 = .int .i64 x4_1 ∧ v5 = .int .i64 x5_1 ∧ Aside0 (spec_Margin.l0 kq l0 x3_1 x4_1 x5_1 = some r) ∧ Aside0 (kq ≤ k) ∧ Drawn0 w w')
 case atStart => exact ⟨(0), (0), (0), (by first | rfl | (simp; done) | (simp [*]; done)), (by first | rfl | (simp; done) | (simp [*]; done)), (by first | rfl | (simp; done) | (simp [*]; done)), H', ⟨Nat.le_refl _⟩, by repeat (first | exact Drawn0.refl _ | apply Drawn0.step)⟩
 case round =>
  clear H'
  obtain ⟨x3_1, x4_1, x5_1, rfl, rfl, rfl, HA, HK1, ⟨m1, rfl⟩⟩ := hrel
  cases gk with
  | zero => exact absurd HA.out (by simp [spec_Margin.l0])
  | succ k1 =>
   have H := HA.out
   clear HA
   simp only [spec_Margin.l0] at H
   by_cases c2 : x5_1 < (l0.length : Int)
   · rw [if_pos c2] at H
     have c2b0 : decide (x5_1 < (l0.length : Int)) = true := decide_eq_true c2
     clear c2
     by_cases c3 : 0 ≤ x5_1
     · rw [if_pos c3] at H
       have c3b0 : decide (0 ≤ x5_1) = true := decide_eq_true c3
       clear c3
       by_cases c4 : (rd l0 x5_1) > x3_1
       · rw [if_pos c4] at H
         have c4b0 : decide (x3_1 < (rd l0 x5_1)) = true := decide_eq_true c4
         clear c4
         by_cases c5 : (rd l0 x5_1) < x4_1
         · rw [if_pos c5] at H
           have c5b0 : decide ((rd l0 x5_1) < x4_1) = true := decide_eq_true c5
           clear c5
           have H' := aMk H
           clear H
           have p348 : 0 ≤ (x5_1 : Int) := oDt (by first | (with_reducible assumption) | assumption)
           have q348 : x5_1 < (l0.length : Int) := oDt (by first | (with_reducible assumption) | assumption)
           obtain ⟨ad348, e348, hx348_0⟩ := Kd.at_int HR0.out x5_1 p348 q348
           cases e348
           replace p348 := eq_true p348
           replace q348 := eq_true q348
           have p349 : 0 ≤ (x5_1 : Int) := oDt (by first | (with_reducible assumption) | assumption)
           have q349 : x5_1 < (l0.length : Int) := oDt (by first | (with_reducible assumption) | assumption)
           obtain ⟨ad349, e349, hx349_0⟩ := Kd.at_int HR0.out x5_1 p349 q349
           obtain rfl : ad348 = ad349 := (by injection e349)
           replace p349 := eq_true p349
           replace q349 := eq_true q349
           have p350 : 0 ≤ (x5_1 : Int) := oDt (by first | (with_reducible assumption) | assumption)
           have q350 : x5_1 < (l0.length : Int) := oDt (by first | (with_reducible assumption) | assumption)
           obtain ⟨ad350, e350, hx350_0⟩ := Kd.at_int HR0.out x5_1 p350 q350
           obtain rfl : ad348 = ad350 := (by injection e350)
           replace p350 := eq_true p350
           replace q350 := eq_true q350
           have p351 : 0 ≤ (x5_1 : Int) := oDt (by first | (with_reducible assumption) | assumption)
           have q351 : x5_1 < (l0.length : Int) := oDt (by first | (with_reducible assumption) | assumption)
           obtain ⟨ad351, e351, hx351_0⟩ := Kd.at_int HR0.out x5_1 p351 q351
           obtain rfl : ad348 = ad351 := (by injection e351)
           replace p351 := eq_true p351
           replace q351 := eq_true q351
           go_wp2
           go_roundg k1
           case measure => have := HK1.out; omega
           case rel => exact ⟨(rd l0 x5_1), (rd l0 x5_1), (wrap64 (x5_1 + 1)), (by first | rfl | (simp; done) | (simp [*]; done)), (by first | rfl | (simp; done) | (simp [*]; done)), (by first | rfl | (simp; done) | (simp [*]; done)), H', ⟨by have := HK1.out; omega⟩, by repeat (first | exact Drawn0.refl _ | apply Drawn0.step)⟩
         · rw [if_neg c5] at H
           have c5b0 : decide ((rd l0 x5_1) < x4_1) = false := decide_eq_false c5
           clear c5
           have H' := aMk H
           clear H
           have p348 : 0 ≤ (x5_1 : Int) := oDt (by first | (with_reducible assumption) | assumption)
           have q348 : x5_1 < (l0.length : Int) := oDt (by first | (with_reducible assumption) | assumption)
           obtain ⟨ad348, e348, hx348_0⟩ := Kd.at_int HR0.out x5_1 p348 q348
           cases e348
           replace p348 := eq_true p348
           replace q348 := eq_true q348
           have p349 : 0 ≤ (x5_1 : Int) := oDt (by first | (with_reducible assumption) | assumption)
           have q349 : x5_1 < (l0.length : Int) := oDt (by first | (with_reducible assumption) | assumption)
           obtain ⟨ad349, e349, hx349_0⟩ := Kd.at_int HR0.out x5_1 p349 q349
           obtain rfl : ad348 = ad349 := (by injection e349)
           replace p349 := eq_true p349
           replace q349 := eq_true q349
           have p350 : 0 ≤ (x5_1 : Int) := oDt (by first | (with_reducible assumption) | assumption)
           have q350 : x5_1 < (l0.length : Int) := oDt (by first | (with_reducible assumption) | assumption)
           obtain ⟨ad350, e350, hx350_0⟩ := Kd.at_int HR0.out x5_1 p350 q350
           obtain rfl : ad348 = ad350 := (by injection e350)
           replace p350 := eq_true p350
           replace q350 := eq_true q350
           go_wp2
           go_roundg k1
           case measure => have := HK1.out; omega
           case rel => exact ⟨(rd l0 x5_1), (x4_1), (wrap64 (x5_1 + 1)), (by first | rfl | (simp; done) | (simp [*]; done)), (by first | rfl | (simp; done) | (simp [*]; done)), (by first | rfl | (simp; done) | (simp [*]; done)), H', ⟨by have := HK1.out; omega⟩, by repeat (first | exact Drawn0.refl _ | apply Drawn0.step)⟩
       · rw [if_neg c4] at H
         have c4b0 : decide (x3_1 < (rd l0 x5_1)) = false := decide_eq_false c4
         clear c4
         by_cases c6 : (rd l0 x5_1) < x4_1
         · rw [if_pos c6] at H
           have c6b0 : decide ((rd l0 x5_1) < x4_1) = true := decide_eq_true c6
           clear c6
           have H' := aMk H
           clear H
           have p348 : 0 ≤ (x5_1 : Int) := oDt (by first | (with_reducible assumption) | assumption)
           have q348 : x5_1 < (l0.length : Int) := oDt (by first | (with_reducible assumption) | assumption)
           obtain ⟨ad348, e348, hx348_0⟩ := Kd.at_int HR0.out x5_1 p348 q348
           cases e348
           replace p348 := eq_true p348
           replace q348 := eq_true q348
           have p352 : 0 ≤ (x5_1 : Int) := oDt (by first | (with_reducible assumption) | assumption)
           have q352 : x5_1 < (l0.length : Int) := oDt (by first | (with_reducible assumption) | assumption)
           obtain ⟨ad352, e352, hx352_0⟩ := Kd.at_int HR0.out x5_1 p352 q352
           obtain rfl : ad348 = ad352 := (by injection e352)
           replace p352 := eq_true p352
           replace q352 := eq_true q352
           have p353 : 0 ≤ (x5_1 : Int) := oDt (by first | (with_reducible assumption) | assumption)
           have q353 : x5_1 < (l0.length : Int) := oDt (by first | (with_reducible assumption) | assumption)
           obtain ⟨ad353, e353, hx353_0⟩ := Kd.at_int HR0.out x5_1 p353 q353
           obtain rfl : ad348 = ad353 := (by injection e353)
           replace p353 := eq_true p353
           replace q353 := eq_true q353
           go_wp2
           go_roundg k1
           case measure => have := HK1.out; omega
           case rel => exact ⟨(x3_1), (rd l0 x5_1), (wrap64 (x5_1 + 1)), (by first | rfl | (simp; done) | (simp [*]; done)), (by first | rfl | (simp; done) | (simp [*]; done)), (by first | rfl | (simp; done) | (simp [*]; done)), H', ⟨by have := HK1.out; omega⟩, by repeat (first | exact Drawn0.refl _ | apply Drawn0.step)⟩
         · rw [if_neg c6] at H
           have c6b0 : decide ((rd l0 x5_1) < x4_1) = false := decide_eq_false c6
           clear c6
           have H' := aMk H
           clear H
           have p348 : 0 ≤ (x5_1 : Int) := oDt (by first | (with_reducible assumption) | assumption)
           have q348 : x5_1 < (l0.length : Int) := oDt (by first | (with_reducible assumption) | assumption)
           obtain ⟨ad348, e348, hx348_0⟩ := Kd.at_int HR0.out x5_1 p348 q348
           cases e348
           replace p348 := eq_true p348
           replace q348 := eq_true q348
           have p352 : 0 ≤ (x5_1 : Int) := oDt (by first | (with_reducible assumption) | assumption)
           have q352 : x5_1 < (l0.length : Int) := oDt (by first | (with_reducible assumption) | assumption)
           obtain ⟨ad352, e352, hx352_0⟩ := Kd.at_int HR0.out x5_1 p352 q352
           obtain rfl : ad348 = ad352 := (by injection e352)
           replace p352 := eq_true p352
           replace q352 := eq_true q352
           go_wp2
           go_roundg k1
           case measure => have := HK1.out; omega
           case rel => exact ⟨(x3_1), (x4_1), (wrap64 (x5_1 + 1)), (by first | rfl | (simp; done) | (simp [*]; done)), (by first | rfl | (simp; done) | (simp [*]; done)), (by first | rfl | (simp; done) | (simp [*]; done)), H', ⟨by have := HK1.out; omega⟩, by repeat (first | exact Drawn0.refl _ | apply Drawn0.step)⟩
     · rw [if_neg c3] at H
       exact absurd H (by simp)
   · rw [if_neg c2] at H
     have c2b0 : decide (x5_1 < (l0.length : Int)) = false := decide_eq_false c2
     clear c2
     obtain rfl := Option.some.inj H
     go_wp2
     go_ret
     exact ⟨by first | rfl | (simp; done) | (simp [*]; done), by repeat (first | exact Drawn0.refl _ | apply Drawn0.step)⟩

end Go.Proofs.Ytppjmcfcacgbdaa.MFnFloats
