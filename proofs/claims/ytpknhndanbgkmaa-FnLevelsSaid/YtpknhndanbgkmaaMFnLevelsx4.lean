-- Written by this session's own program (wip/gen/myprint.py).
import Derived.Test.YtpknhndanbgkmaaMFnLevelsx0
import Derived.Test.YtpknhndanbgkmaaMFnLevelsx3
namespace Go.Proofs.Ytpknhndanbgkmaa.MFnLevels
open Go.RowKit Go.Proofs.YtpknhndanbgkmaaW.PrintWords Go.Proofs.YtpknhndanbgkmaaW.PrintLast Go.Proofs.YtpknhndanbgkmaaW.PrintMore
attribute [local go_sem] max2_int min2_int max_two min_two max_three min_three max_four min_four   -- for this text's walks alone
set_option linter.unusedVariables false
set_option linter.unusedSimpArgs false
def spec_BaseLevel.l0 : Nat → List Int → Int → Option (Int)
 | 0, _, _ => none
 | k + 1, x0, x3 => if x3 < (x0.length : Int) then (if 0 ≤ x3 then ((spec_DirClass.f k (rd x0 x3)).bind fun t143 => (if t143 ≤ 2 then (if t143 = 0 then (some 0) else (some 1)) else (spec_BaseLevel.l0 k x0 (wrap64 (x3 + 1))))) else (none)) else (some 0)
def spec_BaseLevel.f (k : Nat) (l0 : List Int) : Option (Int) := spec_BaseLevel.l0 k l0 0
set_option maxHeartbeats 8000000 in
set_option maxRecDepth 100000 in
theorem spec_BaseLevel.calls (k : Nat) (A0 : Option Addr) (c0 : Nat) (l0 : List Int) (r : Int) (w : World) (hr0 : Kd.C (Kd.int .i64) w A0 l0.length l0) (hc0 : l0.length ≤ c0) (h : spec_BaseLevel.f k l0 = some r) :
 Calls Try.prog 74 #[.slice A0 l0.length c0] w fun e w' => e = .returned (.int .i64 r) ∧ Drawn0 w w' := by
 have HR0 := aMk hr0
 have HC0 := aMk hc0
 clear hr0 hc0
 have H : (spec_BaseLevel.l0 k l0 0) = some r := h
 clear h
 have H' := aMk H
 clear H
 go_enter Try.func74, Try.ntmps74
 go_wp2
 go_loopg [3] k (fun kq v3 w' => ∃ (x3_1 : Int), v3 = .int .i64 x3_1 ∧ Aside0 (spec_BaseLevel.l0 kq l0 x3_1 = some r) ∧ Aside0 (kq ≤ k) ∧ Drawn0 w w')
 case atStart => exact ⟨(0), (by first | rfl | (simp; done) | (simp [*]; done)), H', ⟨Nat.le_refl _⟩, by repeat (first | exact Drawn0.refl _ | apply Drawn0.step)⟩
 case round =>
  clear H'
  obtain ⟨x3_1, rfl, HA, HK1, ⟨m1, rfl⟩⟩ := hrel
  cases gk with
  | zero => exact absurd HA.out (by simp [spec_BaseLevel.l0])
  | succ k1 =>
   have H := HA.out
   clear HA
   simp only [spec_BaseLevel.l0] at H
   by_cases c2 : x3_1 < (l0.length : Int)
   · rw [if_pos c2] at H
     have c2b0 : decide (x3_1 < (l0.length : Int)) = true := decide_eq_true c2
     clear c2
     by_cases c3 : 0 ≤ x3_1
     · rw [if_pos c3] at H
       have c3b0 : decide (0 ≤ x3_1) = true := decide_eq_true c3
       clear c3
       replace H := oBm H
       obtain ⟨t143, A40, H⟩ := H
       replace H : (if t143 ≤ 2 then (if t143 = 0 then (some 0) else (some 1)) else (spec_BaseLevel.l0 k1 l0 (wrap64 (x3_1 + 1)))) = some r := H
       have A4 := aMk A40
       clear A40
       by_cases c5 : t143 ≤ 2
       · rw [if_pos c5] at H
         have c5b0 : decide (t143 ≤ 2) = true := decide_eq_true c5
         clear c5
         by_cases c6 : t143 = 0
         · rw [if_pos c6] at H
           have c6b0 : (t143 == 0) = true := beq_iff_eq.mpr c6
           have c6b1 : (t143 != 0) = false := bne_eq_false_iff_eq.mpr c6
           clear c6
           obtain rfl := Option.some.inj H
           have p142 : 0 ≤ (x3_1 : Int) := oDt (by first | (with_reducible assumption) | assumption)
           have q142 : x3_1 < (l0.length : Int) := oDt (by first | (with_reducible assumption) | assumption)
           obtain ⟨ad142, e142, hx142_0⟩ := Kd.at_int HR0.out x3_1 p142 q142
           cases e142
           replace p142 := eq_true p142
           replace q142 := eq_true q142
           go_wp2_with (first | ((with_reducible refine gate_callee (f := 44) rfl ?_); refine goesL_ (some 15) rfl rfl Try.func44 (by kernel_rfl) rfl #[.int .i64 (rd l0 x3_1)] rfl (by (try simp only [List.map_toArray, List.map_cons, List.map_nil]); first | done | rfl | (simp only [List.length_drop, List.length_take]; rfl)) ?_; (with_reducible refine (spec_DirClass.calls k1 (rd l0 x3_1) t143 _ A4.out).mono ?_); rintro e w' ⟨rfl, ⟨nd, rfl⟩⟩; refine ⟨_, rfl, ?_⟩))
           go_ret
           exact ⟨by first | rfl | (simp; done) | (simp [*]; done), by repeat (first | exact Drawn0.refl _ | apply Drawn0.step)⟩
         · rw [if_neg c6] at H
           have c6b0 : (t143 == 0) = false := beq_eq_false_iff_ne.mpr c6
           have c6b1 : (t143 != 0) = true := bne_iff_ne.mpr c6
           obtain rfl := Option.some.inj H
           have p142 : 0 ≤ (x3_1 : Int) := oDt (by first | (with_reducible assumption) | assumption)
           have q142 : x3_1 < (l0.length : Int) := oDt (by first | (with_reducible assumption) | assumption)
           obtain ⟨ad142, e142, hx142_0⟩ := Kd.at_int HR0.out x3_1 p142 q142
           cases e142
           replace p142 := eq_true p142
           replace q142 := eq_true q142
           go_wp2_with (first | ((with_reducible refine gate_callee (f := 44) rfl ?_); refine goesL_ (some 15) rfl rfl Try.func44 (by kernel_rfl) rfl #[.int .i64 (rd l0 x3_1)] rfl (by (try simp only [List.map_toArray, List.map_cons, List.map_nil]); first | done | rfl | (simp only [List.length_drop, List.length_take]; rfl)) ?_; (with_reducible refine (spec_DirClass.calls k1 (rd l0 x3_1) t143 _ A4.out).mono ?_); rintro e w' ⟨rfl, ⟨nd, rfl⟩⟩; refine ⟨_, rfl, ?_⟩))
           go_ret
           exact ⟨by first | rfl | (simp; done) | (simp [*]; done), by repeat (first | exact Drawn0.refl _ | apply Drawn0.step)⟩
       · rw [if_neg c5] at H
         have c5b0 : decide (t143 ≤ 2) = false := decide_eq_false c5
         clear c5
         have H' := aMk H
         clear H
         have p142 : 0 ≤ (x3_1 : Int) := oDt (by first | (with_reducible assumption) | assumption)
         have q142 : x3_1 < (l0.length : Int) := oDt (by first | (with_reducible assumption) | assumption)
         obtain ⟨ad142, e142, hx142_0⟩ := Kd.at_int HR0.out x3_1 p142 q142
         cases e142
         replace p142 := eq_true p142
         replace q142 := eq_true q142
         go_wp2_with (first | ((with_reducible refine gate_callee (f := 44) rfl ?_); refine goesL_ (some 15) rfl rfl Try.func44 (by kernel_rfl) rfl #[.int .i64 (rd l0 x3_1)] rfl (by (try simp only [List.map_toArray, List.map_cons, List.map_nil]); first | done | rfl | (simp only [List.length_drop, List.length_take]; rfl)) ?_; (with_reducible refine (spec_DirClass.calls k1 (rd l0 x3_1) t143 _ A4.out).mono ?_); rintro e w' ⟨rfl, ⟨nd, rfl⟩⟩; refine ⟨_, rfl, ?_⟩))
         go_roundg k1
         case measure => have := HK1.out; omega
         case rel => exact ⟨(wrap64 (x3_1 + 1)), (by first | rfl | (simp; done) | (simp [*]; done)), H', ⟨by have := HK1.out; omega⟩, by repeat (first | exact Drawn0.refl _ | apply Drawn0.step)⟩
     · rw [if_neg c3] at H
       exact absurd H (by simp)
   · rw [if_neg c2] at H
     have c2b0 : decide (x3_1 < (l0.length : Int)) = false := decide_eq_false c2
     clear c2
     obtain rfl := Option.some.inj H
     go_wp2
     go_ret
     exact ⟨by first | rfl | (simp; done) | (simp [*]; done), by repeat (first | exact Drawn0.refl _ | apply Drawn0.step)⟩
end Go.Proofs.Ytpknhndanbgkmaa.MFnLevels
