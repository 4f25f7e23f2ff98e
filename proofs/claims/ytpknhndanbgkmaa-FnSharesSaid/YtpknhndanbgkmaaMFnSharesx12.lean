-- Written by this session's own program (wip/gen/myprint.py).
import Derived.Test.YtpknhndanbgkmaaMFnSharesx0
import Derived.Test.YtpknhndanbgkmaaMFnSharesx1
import Derived.Test.YtpknhndanbgkmaaMFnSharesx2
import Derived.Test.YtpknhndanbgkmaaMFnSharesx8
import Derived.Test.YtpknhndanbgkmaaMFnSharesx9
import Derived.Test.YtpknhndanbgkmaaMFnSharesx11
namespace Go.Proofs.Ytpknhndanbgkmaa.MFnShares
open Go.RowKit Go.Proofs.YtpknhndanbgkmaaW.PrintWords Go.Proofs.YtpknhndanbgkmaaW.PrintLast Go.Proofs.YtpknhndanbgkmaaW.PrintMore
attribute [local go_sem] max2_int min2_int max_two min_two max_three min_three max_four min_four   -- for this text's walks alone
set_option linter.unusedVariables false
set_option linter.unusedSimpArgs false
mutual
def laws_FnShares.l0 : Nat → List Int → Int → List Int → Int → Int → Option (Bool)
 | 0, _, _, _, _, _ => none
 | k + 1, x0, x6, x8, x9, x10 => if x10 < (x8.length : Int) then (if 0 ≤ x10 then (if (rd x8 x10) < 0 then (some false) else (laws_FnShares.l0 k x0 x6 x8 (wrap64 (x9 + (rd x8 x10))) (wrap64 (x10 + 1)))) else (none)) else (if (x8.length : Int) > 0 then (laws_FnShares.j1 k x0 (x9 != x6)) else (laws_FnShares.j1 k x0 false))
def laws_FnShares.j1 : Nat → List Int → Bool → Option (Bool)
 | 0, _, _ => none
 | k + 1, x0, x81 => if x81 = true then (some false) else ((spec_DrawFlexShares.f k x0).bind fun bt329 => ((impl_FlexShares.f k bt329.1 bt329.2).bind fun t333 => ((spec_FlexShares.f k bt329.1 bt329.2).bind fun t336 => ((laws_sameInts.f k t333 t336).bind fun t339 => (if t339 = true then (laws_FnShares.l1 k 0 bt329.1 bt329.2 t333 0 false 0) else (some false))))))
def laws_FnShares.l1 : Nat → Int → List (S66) → Int → List Int → Int → Bool → Int → Option (Bool)
 | 0, _, _, _, _, _, _, _ => none
 | k + 1, x9, x11, x12, x13, x14, x15, x16 => if x16 < (x13.length : Int) then (if 0 ≤ x16 then (if x16 < (x11.length : Int) then (if (rd x13 x16) < ((rd_T66 x11 x16).f3) then (laws_FnShares.j3 k x9 x11 x12 x13 x14 x15 x16 true ((rd_T66 x11 x16).f0) ((rd_T66 x11 x16).f1) ((rd_T66 x11 x16).f2) ((rd_T66 x11 x16).f3) ((rd_T66 x11 x16).f4)) else (if ((rd_T66 x11 x16).f4) ≥ ((rd_T66 x11 x16).f3) then (laws_FnShares.j3 k x9 x11 x12 x13 x14 x15 x16 (decide ((rd x13 x16) > ((rd_T66 x11 x16).f4))) ((rd_T66 x11 x16).f0) ((rd_T66 x11 x16).f1) ((rd_T66 x11 x16).f2) ((rd_T66 x11 x16).f3) ((rd_T66 x11 x16).f4)) else (laws_FnShares.j3 k x9 x11 x12 x13 x14 x15 x16 false ((rd_T66 x11 x16).f0) ((rd_T66 x11 x16).f1) ((rd_T66 x11 x16).f2) ((rd_T66 x11 x16).f3) ((rd_T66 x11 x16).f4)))) else (none)) else (none)) else (if x15 = true then (if x14 ≥ x12 then (some true) else (some (x9 == x12))) else (some true))
def laws_FnShares.j3 : Nat → Int → List (S66) → Int → List Int → Int → Bool → Int → Bool → Int → Int → Int → Int → Int → Option (Bool)
 | 0, _, _, _, _, _, _, _, _, _, _, _, _, _ => none
 | k + 1, x9, x11, x12, x13, x14, x15, x16, x128, x342000, x342001, x342002, x342003, x342004 => if x128 = true then (some false) else (if x342004 ≥ 0 then (laws_FnShares.j4 k x9 x11 x12 x13 x14 x15 x16 x342000 (decide (x342000 > x342004)) x342000 x342001 x342002 x342003 x342004) else (laws_FnShares.j4 k x9 x11 x12 x13 x14 x15 x16 x342000 false x342000 x342001 x342002 x342003 x342004))
def laws_FnShares.j4 : Nat → Int → List (S66) → Int → List Int → Int → Bool → Int → Int → Bool → Int → Int → Int → Int → Int → Option (Bool)
 | 0, _, _, _, _, _, _, _, _, _, _, _, _, _, _ => none
 | k + 1, x9, x11, x12, x13, x14, x15, x16, x18, x139, x342000, x342001, x342002, x342003, x342004 => if x139 = true then (if x342004 < x342003 then (if 0 ≤ x16 then (if x16 < (x13.length : Int) then (if x15 = true then (laws_FnShares.l1 k (wrap64 (x9 + (rd x13 x16))) x11 x12 x13 (wrap64 (x14 + x342003)) true (wrap64 (x16 + 1))) else (if x342004 < 0 then (if x342001 ≥ 1000 then (laws_FnShares.l1 k (wrap64 (x9 + (rd x13 x16))) x11 x12 x13 (wrap64 (x14 + x342003)) (decide (x342000 ≥ x342003)) (wrap64 (x16 + 1))) else (laws_FnShares.l1 k (wrap64 (x9 + (rd x13 x16))) x11 x12 x13 (wrap64 (x14 + x342003)) false (wrap64 (x16 + 1)))) else (laws_FnShares.l1 k (wrap64 (x9 + (rd x13 x16))) x11 x12 x13 (wrap64 (x14 + x342003)) false (wrap64 (x16 + 1))))) else (none)) else (none)) else (if 0 ≤ x16 then (if x16 < (x13.length : Int) then (if x15 = true then (laws_FnShares.l1 k (wrap64 (x9 + (rd x13 x16))) x11 x12 x13 (wrap64 (x14 + x342004)) true (wrap64 (x16 + 1))) else (if x342004 < 0 then (if x342001 ≥ 1000 then (laws_FnShares.l1 k (wrap64 (x9 + (rd x13 x16))) x11 x12 x13 (wrap64 (x14 + x342004)) (decide (x342000 ≥ x342003)) (wrap64 (x16 + 1))) else (laws_FnShares.l1 k (wrap64 (x9 + (rd x13 x16))) x11 x12 x13 (wrap64 (x14 + x342004)) false (wrap64 (x16 + 1)))) else (laws_FnShares.l1 k (wrap64 (x9 + (rd x13 x16))) x11 x12 x13 (wrap64 (x14 + x342004)) false (wrap64 (x16 + 1))))) else (none)) else (none))) else (if x18 < x342003 then (if 0 ≤ x16 then (if x16 < (x13.length : Int) then (if x15 = true then (laws_FnShares.l1 k (wrap64 (x9 + (rd x13 x16))) x11 x12 x13 (wrap64 (x14 + x342003)) true (wrap64 (x16 + 1))) else (if x342004 < 0 then (if x342001 ≥ 1000 then (laws_FnShares.l1 k (wrap64 (x9 + (rd x13 x16))) x11 x12 x13 (wrap64 (x14 + x342003)) (decide (x342000 ≥ x342003)) (wrap64 (x16 + 1))) else (laws_FnShares.l1 k (wrap64 (x9 + (rd x13 x16))) x11 x12 x13 (wrap64 (x14 + x342003)) false (wrap64 (x16 + 1)))) else (laws_FnShares.l1 k (wrap64 (x9 + (rd x13 x16))) x11 x12 x13 (wrap64 (x14 + x342003)) false (wrap64 (x16 + 1))))) else (none)) else (none)) else (if 0 ≤ x16 then (if x16 < (x13.length : Int) then (if x15 = true then (laws_FnShares.l1 k (wrap64 (x9 + (rd x13 x16))) x11 x12 x13 (wrap64 (x14 + x18)) true (wrap64 (x16 + 1))) else (if x342004 < 0 then (if x342001 ≥ 1000 then (laws_FnShares.l1 k (wrap64 (x9 + (rd x13 x16))) x11 x12 x13 (wrap64 (x14 + x18)) (decide (x342000 ≥ x342003)) (wrap64 (x16 + 1))) else (laws_FnShares.l1 k (wrap64 (x9 + (rd x13 x16))) x11 x12 x13 (wrap64 (x14 + x18)) false (wrap64 (x16 + 1)))) else (laws_FnShares.l1 k (wrap64 (x9 + (rd x13 x16))) x11 x12 x13 (wrap64 (x14 + x18)) false (wrap64 (x16 + 1))))) else (none)) else (none)))
end
def laws_FnShares.f (k : Nat) (l0 : List Int) : Option (Bool) := (laws_big.f l0).bind fun t314 => (if t314 = true then (some true) else ((impl_MulDiv.f k (wrap64 ((l0.length : Int) * 977)) (wrap64 (1 + (Int.tmod (wrap64 ((l0.length : Int) * 131)) 4099))) (1 + ((l0.length : Int) % 89))).bind fun t315 => (if (1 + ((l0.length : Int) % 89)) = 0 then (none) else (if t315 = (wrap64 (Int.tdiv (wrap64 ((wrap64 ((l0.length : Int) * 977)) * (wrap64 (1 + (Int.tmod (wrap64 ((l0.length : Int) * 131)) 4099))))) (1 + ((l0.length : Int) % 89)))) then ((spec_DrawSpread.f k l0).bind fun bt316 => ((impl_Spread.f k bt316.1 bt316.2).bind fun t320 => ((spec_Spread.f k bt316.1 bt316.2).bind fun t323 => ((laws_sameInts.f k t320 t323).bind fun t326 => (if t326 = true then (laws_FnShares.l0 k l0 bt316.1 t320 0 0) else (some false)))))) else (some false)))))
set_option maxHeartbeats 8000000 in
set_option maxRecDepth 100000 in
theorem laws_FnShares.calls (k : Nat) (A0 : Option Addr) (c0 : Nat) (l0 : List Int) (r : Bool) (w : World) (hr0 : Kd.C (Kd.int .u8) w A0 l0.length l0) (hc0 : l0.length ≤ c0) (h : laws_FnShares.f k l0 = some r) :
 Calls Try.prog 10 #[.slice A0 l0.length c0] w fun e w' => e = .returned (.bool r) ∧ Below w.heap.size w w' := by
 have hu66 := Try.underlying66
 have HR0 := aMk hr0
 have HC0 := aMk hc0
 clear hr0 hc0
 have HB := aMk (Below.refl w.heap.size w)
 have H : ((laws_big.f l0).bind fun t314 => (if t314 = true then (some true) else ((impl_MulDiv.f k (wrap64 ((l0.length : Int) * 977)) (wrap64 (1 + (Int.tmod (wrap64 ((l0.length : Int) * 131)) 4099))) (1 + ((l0.length : Int) % 89))).bind fun t315 => (if (1 + ((l0.length : Int) % 89)) = 0 then (none) else (if t315 = (wrap64 (Int.tdiv (wrap64 ((wrap64 ((l0.length : Int) * 977)) * (wrap64 (1 + (Int.tmod (wrap64 ((l0.length : Int) * 131)) 4099))))) (1 + ((l0.length : Int) % 89)))) then ((spec_DrawSpread.f k l0).bind fun bt316 => ((impl_Spread.f k bt316.1 bt316.2).bind fun t320 => ((spec_Spread.f k bt316.1 bt316.2).bind fun t323 => ((laws_sameInts.f k t320 t323).bind fun t326 => (if t326 = true then (laws_FnShares.l0 k l0 bt316.1 t320 0 0) else (some false)))))) else (some false)))))) = some r := h
 clear h
 replace H := oBm H
 obtain ⟨t314, A20, H⟩ := H
 replace H : (if t314 = true then (some true) else ((impl_MulDiv.f k (wrap64 ((l0.length : Int) * 977)) (wrap64 (1 + (Int.tmod (wrap64 ((l0.length : Int) * 131)) 4099))) (1 + ((l0.length : Int) % 89))).bind fun t315 => (if (1 + ((l0.length : Int) % 89)) = 0 then (none) else (if t315 = (wrap64 (Int.tdiv (wrap64 ((wrap64 ((l0.length : Int) * 977)) * (wrap64 (1 + (Int.tmod (wrap64 ((l0.length : Int) * 131)) 4099))))) (1 + ((l0.length : Int) % 89)))) then ((spec_DrawSpread.f k l0).bind fun bt316 => ((impl_Spread.f k bt316.1 bt316.2).bind fun t320 => ((spec_Spread.f k bt316.1 bt316.2).bind fun t323 => ((laws_sameInts.f k t320 t323).bind fun t326 => (if t326 = true then (laws_FnShares.l0 k l0 bt316.1 t320 0 0) else (some false)))))) else (some false))))) = some r := H
 have A2 := aMk A20
 clear A20
 by_cases c3 : t314 = true
 · subst c3
   have H1 : (some true) = some r := by rw [if_pos rfl] at H; exact H
   clear H
   have H := H1
   clear H1
   obtain rfl := Option.some.inj H
   go_enter Try.func10, Try.ntmps10
   go_wp2_with (first | (go_at_call 20; (with_reducible refine (laws_big.calls _ _ l0 true _ ?side1 ?side2 A2.out).mono ?_); (case side1 => repeat (first | exact HR0.out | (with_reducible refine Kd.C_alloc ?_ _) | (with_reducible refine Kd.C_drewN ?_ _) | (with_reducible refine Kd.C_drew ?_))); (case side2 => exact HC0.out); rintro e w' ⟨rfl, ⟨nd, rfl⟩⟩; (try first | exact ⟨rfl, _, World.drewN_drewN _ _ _⟩ | exact ⟨rfl, _, Eq.trans (World.drewN_drewN _ _ _) (congrArg (World.drewN _) (Nat.add_assoc _ _ _))⟩)))
   repeat (go_quiet (first | (go_at_call 20; (with_reducible refine (laws_big.calls _ _ l0 true _ ?side1 ?side2 A2.out).mono ?_); (case side1 => repeat (first | exact HR0.out | (with_reducible refine Kd.C_alloc ?_ _) | (with_reducible refine Kd.C_drewN ?_ _) | (with_reducible refine Kd.C_drew ?_))); (case side2 => exact HC0.out); rintro e w' ⟨rfl, ⟨nd, rfl⟩⟩; (try first | exact ⟨rfl, _, World.drewN_drewN _ _ _⟩ | exact ⟨rfl, _, Eq.trans (World.drewN_drewN _ _ _) (congrArg (World.drewN _) (Nat.add_assoc _ _ _))⟩))); try go_wp2_with (first | (go_at_call 20; (with_reducible refine (laws_big.calls _ _ l0 true _ ?side1 ?side2 A2.out).mono ?_); (case side1 => repeat (first | exact HR0.out | (with_reducible refine Kd.C_alloc ?_ _) | (with_reducible refine Kd.C_drewN ?_ _) | (with_reducible refine Kd.C_drew ?_))); (case side2 => exact HC0.out); rintro e w' ⟨rfl, ⟨nd, rfl⟩⟩; (try first | exact ⟨rfl, _, World.drewN_drewN _ _ _⟩ | exact ⟨rfl, _, Eq.trans (World.drewN_drewN _ _ _) (congrArg (World.drewN _) (Nat.add_assoc _ _ _))⟩))))
   go_ret
   exact ⟨by first | rfl | (simp [errW_none, errW_some] <;> rfl) | (simp [*, errW_none, errW_some] <;> rfl), by repeat (first | (with_reducible first | exact HB.out | apply bAl | apply bDn | apply bD1) | exact HB.out)⟩
 · replace c3 := Bool.eq_false_iff.mpr c3
   subst c3
   have H1 : ((impl_MulDiv.f k (wrap64 ((l0.length : Int) * 977)) (wrap64 (1 + (Int.tmod (wrap64 ((l0.length : Int) * 131)) 4099))) (1 + ((l0.length : Int) % 89))).bind fun t315 => (if (1 + ((l0.length : Int) % 89)) = 0 then (none) else (if t315 = (wrap64 (Int.tdiv (wrap64 ((wrap64 ((l0.length : Int) * 977)) * (wrap64 (1 + (Int.tmod (wrap64 ((l0.length : Int) * 131)) 4099))))) (1 + ((l0.length : Int) % 89)))) then ((spec_DrawSpread.f k l0).bind fun bt316 => ((impl_Spread.f k bt316.1 bt316.2).bind fun t320 => ((spec_Spread.f k bt316.1 bt316.2).bind fun t323 => ((laws_sameInts.f k t320 t323).bind fun t326 => (if t326 = true then (laws_FnShares.l0 k l0 bt316.1 t320 0 0) else (some false)))))) else (some false)))) = some r := by rw [if_neg (show ¬ (false = true) by decide)] at H; exact H
   clear H
   have H := H1
   clear H1
   replace H := oBm H
   obtain ⟨t315, A40, H⟩ := H
   replace H : (if (1 + ((l0.length : Int) % 89)) = 0 then (none) else (if t315 = (wrap64 (Int.tdiv (wrap64 ((wrap64 ((l0.length : Int) * 977)) * (wrap64 (1 + (Int.tmod (wrap64 ((l0.length : Int) * 131)) 4099))))) (1 + ((l0.length : Int) % 89)))) then ((spec_DrawSpread.f k l0).bind fun bt316 => ((impl_Spread.f k bt316.1 bt316.2).bind fun t320 => ((spec_Spread.f k bt316.1 bt316.2).bind fun t323 => ((laws_sameInts.f k t320 t323).bind fun t326 => (if t326 = true then (laws_FnShares.l0 k l0 bt316.1 t320 0 0) else (some false)))))) else (some false))) = some r := H
   have A4 := aMk A40
   clear A40
   by_cases c5 : (1 + ((l0.length : Int) % 89)) = 0
   · rw [if_pos c5] at H
     exact absurd H (by simp)
   · rw [if_neg c5] at H
     have c5b0 : ((1 + ((l0.length : Int) % 89)) == 0) = false := beq_eq_false_iff_ne.mpr c5
     have c5b1 : ((1 + ((l0.length : Int) % 89)) != 0) = true := bne_iff_ne.mpr c5
     by_cases c6 : t315 = (wrap64 (Int.tdiv (wrap64 ((wrap64 ((l0.length : Int) * 977)) * (wrap64 (1 + (Int.tmod (wrap64 ((l0.length : Int) * 131)) 4099))))) (1 + ((l0.length : Int) % 89))))
     · rw [if_pos c6] at H
       have c6b0 : (t315 == (wrap64 (Int.tdiv (wrap64 ((wrap64 ((l0.length : Int) * 977)) * (wrap64 (1 + (Int.tmod (wrap64 ((l0.length : Int) * 131)) 4099))))) (1 + ((l0.length : Int) % 89))))) = true := beq_iff_eq.mpr c6
       have c6b1 : (t315 != (wrap64 (Int.tdiv (wrap64 ((wrap64 ((l0.length : Int) * 977)) * (wrap64 (1 + (Int.tmod (wrap64 ((l0.length : Int) * 131)) 4099))))) (1 + ((l0.length : Int) % 89))))) = false := bne_eq_false_iff_eq.mpr c6
       clear c6
       replace H := oBm H
       obtain ⟨⟨t316, t317⟩, A70, H⟩ := H
       replace H : ((impl_Spread.f k t316 t317).bind fun t320 => ((spec_Spread.f k t316 t317).bind fun t323 => ((laws_sameInts.f k t320 t323).bind fun t326 => (if t326 = true then (laws_FnShares.l0 k l0 t316 t320 0 0) else (some false))))) = some r := H
       have A7 := aMk A70
       clear A70
       replace H := oBm H
       obtain ⟨t320, A80, H⟩ := H
       replace H : ((spec_Spread.f k t316 t317).bind fun t323 => ((laws_sameInts.f k t320 t323).bind fun t326 => (if t326 = true then (laws_FnShares.l0 k l0 t316 t320 0 0) else (some false)))) = some r := H
       have A8 := aMk A80
       clear A80
       replace H := oBm H
       obtain ⟨t323, A90, H⟩ := H
       replace H : ((laws_sameInts.f k t320 t323).bind fun t326 => (if t326 = true then (laws_FnShares.l0 k l0 t316 t320 0 0) else (some false))) = some r := H
       have A9 := aMk A90
       clear A90
       replace H := oBm H
       obtain ⟨t326, A100, H⟩ := H
       replace H : (if t326 = true then (laws_FnShares.l0 k l0 t316 t320 0 0) else (some false)) = some r := H
       have A10 := aMk A100
       clear A100
       by_cases c11 : t326 = true
       · subst c11
         have H1 : (laws_FnShares.l0 k l0 t316 t320 0 0) = some r := by rw [if_pos rfl] at H; exact H
         clear H
         have H := H1
         clear H1
         have H' := aMk H
         clear H
         go_enter Try.func10, Try.ntmps10
         go_wp2_with (first | (go_at_call 20; (with_reducible refine (laws_big.calls _ _ l0 false _ ?side1 ?side2 A2.out).mono ?_); (case side1 => repeat (first | exact HR0.out | (with_reducible refine Kd.C_alloc ?_ _) | (with_reducible refine Kd.C_drewN ?_ _) | (with_reducible refine Kd.C_drew ?_))); (case side2 => exact HC0.out); rintro e w' ⟨rfl, ⟨nd, rfl⟩⟩; (try first | exact ⟨rfl, _, World.drewN_drewN _ _ _⟩ | exact ⟨rfl, _, Eq.trans (World.drewN_drewN _ _ _) (congrArg (World.drewN _) (Nat.add_assoc _ _ _))⟩)) | (go_at_call 45; (with_reducible refine (impl_MulDiv.calls k (wrap64 ((l0.length : Int) * 977)) (wrap64 (1 + (Int.tmod (wrap64 ((l0.length : Int) * 131)) 4099))) (1 + ((l0.length : Int) % 89)) t315 _ A4.out).mono ?_); rintro e w' ⟨rfl, ⟨nd, rfl⟩⟩; (try first | exact ⟨rfl, _, World.drewN_drewN _ _ _⟩ | exact ⟨rfl, _, Eq.trans (World.drewN_drewN _ _ _) (congrArg (World.drewN _) (Nat.add_assoc _ _ _))⟩)) | (go_at_call 46; (with_reducible refine (spec_DrawSpread.calls k _ _ l0 t316 t317 _ ?side1 ?side2 A7.out).mono ?_); (case side1 => repeat (first | exact HR0.out | (with_reducible refine Kd.C_alloc ?_ _) | (with_reducible refine Kd.C_drewN ?_ _) | (with_reducible refine Kd.C_drew ?_))); (case side2 => exact HC0.out); rintro e w12 ⟨v318, rfl, ho0, hb⟩; have n0_ := aMk (Kd.R_lower ho0 (below_size (by repeat (first | (with_reducible first | exact HB.out | apply bAl | apply bDn | apply bD1) | exact HB.out)))); have n1_ := aMk (below_step (by repeat (first | (with_reducible first | exact HB.out | apply bAl | apply bDn | apply bD1) | exact HB.out)) hb); clear HB; have HO319 := n0_; have HB := n1_; clear n0_ n1_; (try clear hb); (try clear hb2); (try clear hk); (try clear hi); (try clear ho0); obtain ⟨Ao13, co13, eo13⟩ := Kd.R_slice HO319.out; subst eo13) | (go_at_call 47; (with_reducible refine (impl_Spread.calls k t316 _ _ t317 t320 _ ?side1 ?side2 A8.out).mono ?_); (case side1 => repeat (first | exact (Kd.R_reads' HO319.out).2.2 | (with_reducible refine Kd.C_alloc ?_ _) | (with_reducible refine Kd.C_drewN ?_ _) | (with_reducible refine Kd.C_drew ?_))); (case side2 => exact (Kd.R_reads' HO319.out).2.1); rintro e w14 ⟨v321, rfl, ho0, hb⟩; have n0_ := aMk (Kd.R_elder' (by (with_reducible repeat (first | apply Kd.R_alloc | apply Kd.R_drewN | apply Kd.R_drew)); exact HO319.out) (Kd.R_base ho0) hb); have n1_ := aMk (Kd.R_lower (Kd.R_new' ho0 (Kd.R_lt (by (with_reducible repeat (first | apply Kd.R_alloc | apply Kd.R_drewN | apply Kd.R_drew)); exact HO319.out))) (below_size (by repeat (first | (with_reducible first | exact HB.out | apply bAl | apply bDn | apply bD1) | exact HB.out)))); have n2_ := aMk (below_step (by repeat (first | (with_reducible first | exact HB.out | apply bAl | apply bDn | apply bD1) | exact HB.out)) hb); clear HO319; clear HB; have HO319 := n0_; have HO322 := n1_; have HB := n2_; clear n0_ n1_ n2_; (try clear hb); (try clear hb2); (try clear hk); (try clear hi); (try clear ho0)) | (go_at_call 48; (with_reducible refine (spec_Spread.calls k t316 _ _ t317 t323 _ ?side1 ?side2 A9.out).mono ?_); (case side1 => repeat (first | exact (Kd.R_reads' HO319.out).2.2 | (with_reducible refine Kd.C_alloc ?_ _) | (with_reducible refine Kd.C_drewN ?_ _) | (with_reducible refine Kd.C_drew ?_))); (case side2 => exact (Kd.R_reads' HO319.out).2.1); rintro e w15 ⟨v324, rfl, ho0, hb⟩; have n0_ := aMk (Kd.R_elder' (by (with_reducible repeat (first | apply Kd.R_alloc | apply Kd.R_drewN | apply Kd.R_drew)); exact HO319.out) (Kd.R_base ho0) hb); have n1_ := aMk (Kd.R_elder' (by (with_reducible repeat (first | apply Kd.R_alloc | apply Kd.R_drewN | apply Kd.R_drew)); exact HO322.out) (Kd.R_base ho0) hb); have n2_ := aMk (Kd.R_lower (Kd.R_new' (Kd.R_new' ho0 (Kd.R_lt (by (with_reducible repeat (first | apply Kd.R_alloc | apply Kd.R_drewN | apply Kd.R_drew)); exact HO319.out))) (Kd.R_lt (by (with_reducible repeat (first | apply Kd.R_alloc | apply Kd.R_drewN | apply Kd.R_drew)); exact HO322.out))) (below_size (by repeat (first | (with_reducible first | exact HB.out | apply bAl | apply bDn | apply bD1) | exact HB.out)))); have n3_ := aMk (below_step (by repeat (first | (with_reducible first | exact HB.out | apply bAl | apply bDn | apply bD1) | exact HB.out)) hb); clear HO319; clear HO322; clear HB; have HO319 := n0_; have HO322 := n1_; have HO325 := n2_; have HB := n3_; clear n0_ n1_ n2_ n3_; (try clear hb); (try clear hb2); (try clear hk); (try clear hi); (try clear ho0); obtain ⟨Ao16, co16, eo16⟩ := Kd.R_slice HO322.out; subst eo16; obtain ⟨Ao17, co17, eo17⟩ := Kd.R_slice HO325.out; subst eo17) | (go_at_call 23; (with_reducible refine (laws_sameInts.calls k _ _ t320 _ _ t323 true _ ?side1 ?side2 ?side3 ?side4 A10.out).mono ?_); (case side1 => repeat (first | exact (Kd.R_reads' HO322.out).2.2 | (with_reducible refine Kd.C_alloc ?_ _) | (with_reducible refine Kd.C_drewN ?_ _) | (with_reducible refine Kd.C_drew ?_))); (case side2 => exact (Kd.R_reads' HO322.out).2.1); (case side3 => repeat (first | exact (Kd.R_reads' HO325.out).2.2 | (with_reducible refine Kd.C_alloc ?_ _) | (with_reducible refine Kd.C_drewN ?_ _) | (with_reducible refine Kd.C_drew ?_))); (case side4 => exact (Kd.R_reads' HO325.out).2.1); rintro e w' ⟨rfl, ⟨nd, rfl⟩⟩; (try first | exact ⟨rfl, _, World.drewN_drewN _ _ _⟩ | exact ⟨rfl, _, Eq.trans (World.drewN_drewN _ _ _) (congrArg (World.drewN _) (Nat.add_assoc _ _ _))⟩)))
         repeat (go_quiet (first | (go_at_call 20; (with_reducible refine (laws_big.calls _ _ l0 false _ ?side1 ?side2 A2.out).mono ?_); (case side1 => repeat (first | exact HR0.out | (with_reducible refine Kd.C_alloc ?_ _) | (with_reducible refine Kd.C_drewN ?_ _) | (with_reducible refine Kd.C_drew ?_))); (case side2 => exact HC0.out); rintro e w' ⟨rfl, ⟨nd, rfl⟩⟩; (try first | exact ⟨rfl, _, World.drewN_drewN _ _ _⟩ | exact ⟨rfl, _, Eq.trans (World.drewN_drewN _ _ _) (congrArg (World.drewN _) (Nat.add_assoc _ _ _))⟩)) | (go_at_call 45; (with_reducible refine (impl_MulDiv.calls k (wrap64 ((l0.length : Int) * 977)) (wrap64 (1 + (Int.tmod (wrap64 ((l0.length : Int) * 131)) 4099))) (1 + ((l0.length : Int) % 89)) t315 _ A4.out).mono ?_); rintro e w' ⟨rfl, ⟨nd, rfl⟩⟩; (try first | exact ⟨rfl, _, World.drewN_drewN _ _ _⟩ | exact ⟨rfl, _, Eq.trans (World.drewN_drewN _ _ _) (congrArg (World.drewN _) (Nat.add_assoc _ _ _))⟩)) | (go_at_call 46; (with_reducible refine (spec_DrawSpread.calls k _ _ l0 t316 t317 _ ?side1 ?side2 A7.out).mono ?_); (case side1 => repeat (first | exact HR0.out | (with_reducible refine Kd.C_alloc ?_ _) | (with_reducible refine Kd.C_drewN ?_ _) | (with_reducible refine Kd.C_drew ?_))); (case side2 => exact HC0.out); rintro e w12 ⟨v318, rfl, ho0, hb⟩; have n0_ := aMk (Kd.R_lower ho0 (below_size (by repeat (first | (with_reducible first | exact HB.out | apply bAl | apply bDn | apply bD1) | exact HB.out)))); have n1_ := aMk (below_step (by repeat (first | (with_reducible first | exact HB.out | apply bAl | apply bDn | apply bD1) | exact HB.out)) hb); clear HB; have HO319 := n0_; have HB := n1_; clear n0_ n1_; (try clear hb); (try clear hb2); (try clear hk); (try clear hi); (try clear ho0); obtain ⟨Ao13, co13, eo13⟩ := Kd.R_slice HO319.out; subst eo13) | (go_at_call 47; (with_reducible refine (impl_Spread.calls k t316 _ _ t317 t320 _ ?side1 ?side2 A8.out).mono ?_); (case side1 => repeat (first | exact (Kd.R_reads' HO319.out).2.2 | (with_reducible refine Kd.C_alloc ?_ _) | (with_reducible refine Kd.C_drewN ?_ _) | (with_reducible refine Kd.C_drew ?_))); (case side2 => exact (Kd.R_reads' HO319.out).2.1); rintro e w14 ⟨v321, rfl, ho0, hb⟩; have n0_ := aMk (Kd.R_elder' (by (with_reducible repeat (first | apply Kd.R_alloc | apply Kd.R_drewN | apply Kd.R_drew)); exact HO319.out) (Kd.R_base ho0) hb); have n1_ := aMk (Kd.R_lower (Kd.R_new' ho0 (Kd.R_lt (by (with_reducible repeat (first | apply Kd.R_alloc | apply Kd.R_drewN | apply Kd.R_drew)); exact HO319.out))) (below_size (by repeat (first | (with_reducible first | exact HB.out | apply bAl | apply bDn | apply bD1) | exact HB.out)))); have n2_ := aMk (below_step (by repeat (first | (with_reducible first | exact HB.out | apply bAl | apply bDn | apply bD1) | exact HB.out)) hb); clear HO319; clear HB; have HO319 := n0_; have HO322 := n1_; have HB := n2_; clear n0_ n1_ n2_; (try clear hb); (try clear hb2); (try clear hk); (try clear hi); (try clear ho0)) | (go_at_call 48; (with_reducible refine (spec_Spread.calls k t316 _ _ t317 t323 _ ?side1 ?side2 A9.out).mono ?_); (case side1 => repeat (first | exact (Kd.R_reads' HO319.out).2.2 | (with_reducible refine Kd.C_alloc ?_ _) | (with_reducible refine Kd.C_drewN ?_ _) | (with_reducible refine Kd.C_drew ?_))); (case side2 => exact (Kd.R_reads' HO319.out).2.1); rintro e w15 ⟨v324, rfl, ho0, hb⟩; have n0_ := aMk (Kd.R_elder' (by (with_reducible repeat (first | apply Kd.R_alloc | apply Kd.R_drewN | apply Kd.R_drew)); exact HO319.out) (Kd.R_base ho0) hb); have n1_ := aMk (Kd.R_elder' (by (with_reducible repeat (first | apply Kd.R_alloc | apply Kd.R_drewN | apply Kd.R_drew)); exact HO322.out) (Kd.R_base ho0) hb); have n2_ := aMk (Kd.R_lower (Kd.R_new' (Kd.R_new' ho0 (Kd.R_lt (by (with_reducible repeat (first | apply Kd.R_alloc | apply Kd.R_drewN | apply Kd.R_drew)); exact HO319.out))) (Kd.R_lt (by (with_reducible repeat (first | apply Kd.R_alloc | apply Kd.R_drewN | apply Kd.R_drew)); exact HO322.out))) (below_size (by repeat (first | (with_reducible first | exact HB.out | apply bAl | apply bDn | apply bD1) | exact HB.out)))); have n3_ := aMk (below_step (by repeat (first | (with_reducible first | exact HB.out | apply bAl | apply bDn | apply bD1) | exact HB.out)) hb); clear HO319; clear HO322; clear HB; have HO319 := n0_; have HO322 := n1_; have HO325 := n2_; have HB := n3_; clear n0_ n1_ n2_ n3_; (try clear hb); (try clear hb2); (try clear hk); (try clear hi); (try clear ho0); obtain ⟨Ao16, co16, eo16⟩ := Kd.R_slice HO322.out; subst eo16; obtain ⟨Ao17, co17, eo17⟩ := Kd.R_slice HO325.out; subst eo17) | (go_at_call 23; (with_reducible refine (laws_sameInts.calls k _ _ t320 _ _ t323 true _ ?side1 ?side2 ?side3 ?side4 A10.out).mono ?_); (case side1 => repeat (first | exact (Kd.R_reads' HO322.out).2.2 | (with_reducible refine Kd.C_alloc ?_ _) | (with_reducible refine Kd.C_drewN ?_ _) | (with_reducible refine Kd.C_drew ?_))); (case side2 => exact (Kd.R_reads' HO322.out).2.1); (case side3 => repeat (first | exact (Kd.R_reads' HO325.out).2.2 | (with_reducible refine Kd.C_alloc ?_ _) | (with_reducible refine Kd.C_drewN ?_ _) | (with_reducible refine Kd.C_drew ?_))); (case side4 => exact (Kd.R_reads' HO325.out).2.1); rintro e w' ⟨rfl, ⟨nd, rfl⟩⟩; (try first | exact ⟨rfl, _, World.drewN_drewN _ _ _⟩ | exact ⟨rfl, _, Eq.trans (World.drewN_drewN _ _ _) (congrArg (World.drewN _) (Nat.add_assoc _ _ _))⟩))); try go_wp2_with (first | (go_at_call 20; (with_reducible refine (laws_big.calls _ _ l0 false _ ?side1 ?side2 A2.out).mono ?_); (case side1 => repeat (first | exact HR0.out | (with_reducible refine Kd.C_alloc ?_ _) | (with_reducible refine Kd.C_drewN ?_ _) | (with_reducible refine Kd.C_drew ?_))); (case side2 => exact HC0.out); rintro e w' ⟨rfl, ⟨nd, rfl⟩⟩; (try first | exact ⟨rfl, _, World.drewN_drewN _ _ _⟩ | exact ⟨rfl, _, Eq.trans (World.drewN_drewN _ _ _) (congrArg (World.drewN _) (Nat.add_assoc _ _ _))⟩)) | (go_at_call 45; (with_reducible refine (impl_MulDiv.calls k (wrap64 ((l0.length : Int) * 977)) (wrap64 (1 + (Int.tmod (wrap64 ((l0.length : Int) * 131)) 4099))) (1 + ((l0.length : Int) % 89)) t315 _ A4.out).mono ?_); rintro e w' ⟨rfl, ⟨nd, rfl⟩⟩; (try first | exact ⟨rfl, _, World.drewN_drewN _ _ _⟩ | exact ⟨rfl, _, Eq.trans (World.drewN_drewN _ _ _) (congrArg (World.drewN _) (Nat.add_assoc _ _ _))⟩)) | (go_at_call 46; (with_reducible refine (spec_DrawSpread.calls k _ _ l0 t316 t317 _ ?side1 ?side2 A7.out).mono ?_); (case side1 => repeat (first | exact HR0.out | (with_reducible refine Kd.C_alloc ?_ _) | (with_reducible refine Kd.C_drewN ?_ _) | (with_reducible refine Kd.C_drew ?_))); (case side2 => exact HC0.out); rintro e w12 ⟨v318, rfl, ho0, hb⟩; have n0_ := aMk (Kd.R_lower ho0 (below_size (by repeat (first | (with_reducible first | exact HB.out | apply bAl | apply bDn | apply bD1) | exact HB.out)))); have n1_ := aMk (below_step (by repeat (first | (with_reducible first | exact HB.out | apply bAl | apply bDn | apply bD1) | exact HB.out)) hb); clear HB; have HO319 := n0_; have HB := n1_; clear n0_ n1_; (try clear hb); (try clear hb2); (try clear hk); (try clear hi); (try clear ho0); obtain ⟨Ao13, co13, eo13⟩ := Kd.R_slice HO319.out; subst eo13) | (go_at_call 47; (with_reducible refine (impl_Spread.calls k t316 _ _ t317 t320 _ ?side1 ?side2 A8.out).mono ?_); (case side1 => repeat (first | exact (Kd.R_reads' HO319.out).2.2 | (with_reducible refine Kd.C_alloc ?_ _) | (with_reducible refine Kd.C_drewN ?_ _) | (with_reducible refine Kd.C_drew ?_))); (case side2 => exact (Kd.R_reads' HO319.out).2.1); rintro e w14 ⟨v321, rfl, ho0, hb⟩; have n0_ := aMk (Kd.R_elder' (by (with_reducible repeat (first | apply Kd.R_alloc | apply Kd.R_drewN | apply Kd.R_drew)); exact HO319.out) (Kd.R_base ho0) hb); have n1_ := aMk (Kd.R_lower (Kd.R_new' ho0 (Kd.R_lt (by (with_reducible repeat (first | apply Kd.R_alloc | apply Kd.R_drewN | apply Kd.R_drew)); exact HO319.out))) (below_size (by repeat (first | (with_reducible first | exact HB.out | apply bAl | apply bDn | apply bD1) | exact HB.out)))); have n2_ := aMk (below_step (by repeat (first | (with_reducible first | exact HB.out | apply bAl | apply bDn | apply bD1) | exact HB.out)) hb); clear HO319; clear HB; have HO319 := n0_; have HO322 := n1_; have HB := n2_; clear n0_ n1_ n2_; (try clear hb); (try clear hb2); (try clear hk); (try clear hi); (try clear ho0)) | (go_at_call 48; (with_reducible refine (spec_Spread.calls k t316 _ _ t317 t323 _ ?side1 ?side2 A9.out).mono ?_); (case side1 => repeat (first | exact (Kd.R_reads' HO319.out).2.2 | (with_reducible refine Kd.C_alloc ?_ _) | (with_reducible refine Kd.C_drewN ?_ _) | (with_reducible refine Kd.C_drew ?_))); (case side2 => exact (Kd.R_reads' HO319.out).2.1); rintro e w15 ⟨v324, rfl, ho0, hb⟩; have n0_ := aMk (Kd.R_elder' (by (with_reducible repeat (first | apply Kd.R_alloc | apply Kd.R_drewN | apply Kd.R_drew)); exact HO319.out) (Kd.R_base ho0) hb); have n1_ := aMk (Kd.R_elder' (by (with_reducible repeat (first | apply Kd.R_alloc | apply Kd.R_drewN | apply Kd.R_drew)); exact HO322.out) (Kd.R_base ho0) hb); have n2_ := aMk (Kd.R_lower (Kd.R_new' (Kd.R_new' ho0 (Kd.R_lt (by (with_reducible repeat (first | apply Kd.R_alloc | apply Kd.R_drewN | apply Kd.R_drew)); exact HO319.out))) (Kd.R_lt (by (with_reducible repeat (first | apply Kd.R_alloc | apply Kd.R_drewN | apply Kd.R_drew)); exact HO322.out))) (below_size (by repeat (first | (with_reducible first | exact HB.out | apply bAl | apply bDn | apply bD1) | exact HB.out)))); have n3_ := aMk (below_step (by repeat (first | (with_reducible first | exact HB.out | apply bAl | apply bDn | apply bD1) | exact HB.out)) hb); clear HO319; clear HO322; clear HB; have HO319 := n0_; have HO322 := n1_; have HO325 := n2_; have HB := n3_; clear n0_ n1_ n2_ n3_; (try clear hb); (try clear hb2); (try clear hk); (try clear hi); (try clear ho0); obtain ⟨Ao16, co16, eo16⟩ := Kd.R_slice HO322.out; subst eo16; obtain ⟨Ao17, co17, eo17⟩ := Kd.R_slice HO325.out; subst eo17) | (go_at_call 23; (with_reducible refine (laws_sameInts.calls k _ _ t320 _ _ t323 true _ ?side1 ?side2 ?side3 ?side4 A10.out).mono ?_); (case side1 => repeat (first | exact (Kd.R_reads' HO322.out).2.2 | (with_reducible refine Kd.C_alloc ?_ _) | (with_reducible refine Kd.C_drewN ?_ _) | (with_reducible refine Kd.C_drew ?_))); (case side2 => exact (Kd.R_reads' HO322.out).2.1); (case side3 => repeat (first | exact (Kd.R_reads' HO325.out).2.2 | (with_reducible refine Kd.C_alloc ?_ _) | (with_reducible refine Kd.C_drewN ?_ _) | (with_reducible refine Kd.C_drew ?_))); (case side4 => exact (Kd.R_reads' HO325.out).2.1); rintro e w' ⟨rfl, ⟨nd, rfl⟩⟩; (try first | exact ⟨rfl, _, World.drewN_drewN _ _ _⟩ | exact ⟨rfl, _, Eq.trans (World.drewN_drewN _ _ _) (congrArg (World.drewN _) (Nat.add_assoc _ _ _))⟩))))
         go_loopg [9, 10] k (fun kq v9 v10 w' => ∃ (x9_1 : Int) (x10_1 : Int), v9 = .int .i64 x9_1 ∧ v10 = .int .i64 x10_1 ∧ Aside0 (laws_FnShares.l0 kq l0 t316 t320 x9_1 x10_1 = some r) ∧ Aside0 (kq ≤ k) ∧ Aside0 (Kd.R (Kd.int .i64) 3 w' w.heap.size (fun _ => True) (.slice Ao16 t320.length co16) t320) ∧ Aside0 (Below w.heap.size w w'))
         case atStart => exact ⟨(0), (0), (by first | rfl | (simp; done) | (simp [*]; done)), (by first | rfl | (simp; done) | (simp [*]; done)), H', ⟨Nat.le_refl _⟩, ⟨by (with_reducible repeat (first | apply Kd.R_alloc | apply Kd.R_drewN | apply Kd.R_drew)); exact Kd.R_mono HO322.out (fun _ hk => trivial)⟩, ⟨by repeat (first | (with_reducible first | exact HB.out | apply bAl | apply bDn | apply bD1) | exact HB.out)⟩⟩
         case round =>
          clear H'
          try clear c1
          try clear p2
          try clear c3
          try clear c5
          try clear c5b0
          try clear c5b1
          try clear c6
          try clear c6b0
          try clear c6b1
          try clear p6
          try clear c10
          try clear c11
          obtain ⟨x9_1, x10_1, rfl, rfl, HA, HK1, HO_8, HB⟩ := hrel
          cases gk with
          | zero => exact absurd HA.out (by simp [laws_FnShares.l0])
          | succ k1 =>
           have H := HA.out
           clear HA
           simp only [laws_FnShares.l0] at H
           by_cases c18 : x10_1 < (t320.length : Int)
           · rw [if_pos c18] at H
             have c18b0 : decide (x10_1 < (t320.length : Int)) = true := decide_eq_true c18
             clear c18
             by_cases c19 : 0 ≤ x10_1
             · rw [if_pos c19] at H
               have c19b0 : decide (0 ≤ x10_1) = true := decide_eq_true c19
               clear c19
               by_cases c20 : (rd t320 x10_1) < 0
               · rw [if_pos c20] at H
                 have c20b0 : decide ((rd t320 x10_1) < 0) = true := decide_eq_true c20
                 clear c20
                 obtain rfl := Option.some.inj H
                 have p327 : 0 ≤ (x10_1 : Int) := oDt (by first | (with_reducible assumption) | assumption)
                 have q327 : x10_1 < (t320.length : Int) := oDt (by first | (with_reducible assumption) | assumption)
                 obtain ⟨ad327, e327, hx327_0⟩ := Kd.at_int (Kd.R_reads' HO_8.out).2.2 x10_1 p327 q327
                 cases e327
                 replace p327 := eq_true p327
                 replace q327 := eq_true q327
                 have p328 : 0 ≤ (x10_1 : Int) := oDt (by first | (with_reducible assumption) | assumption)
                 have q328 : x10_1 < (t320.length : Int) := oDt (by first | (with_reducible assumption) | assumption)
                 obtain ⟨ad328, e328, hx328_0⟩ := Kd.at_int (Kd.R_reads' HO_8.out).2.2 x10_1 p328 q328
                 obtain rfl : ad327 = ad328 := (by injection e328)
                 replace p328 := eq_true p328
                 replace q328 := eq_true q328
                 go_wp2
                 repeat (go_quiet (fail); try go_wp2)
                 go_ret
                 exact ⟨by first | rfl | (simp [errW_none, errW_some] <;> rfl) | (simp [*, errW_none, errW_some] <;> rfl), by repeat (first | (with_reducible first | exact HB.out | apply bAl | apply bDn | apply bD1) | exact HB.out)⟩
               · rw [if_neg c20] at H
                 have c20b0 : decide ((rd t320 x10_1) < 0) = false := decide_eq_false c20
                 clear c20
                 have H' := aMk H
                 clear H
                 have p327 : 0 ≤ (x10_1 : Int) := oDt (by first | (with_reducible assumption) | assumption)
                 have q327 : x10_1 < (t320.length : Int) := oDt (by first | (with_reducible assumption) | assumption)
                 obtain ⟨ad327, e327, hx327_0⟩ := Kd.at_int (Kd.R_reads' HO_8.out).2.2 x10_1 p327 q327
                 cases e327
                 replace p327 := eq_true p327
                 replace q327 := eq_true q327
                 have p328 : 0 ≤ (x10_1 : Int) := oDt (by first | (with_reducible assumption) | assumption)
                 have q328 : x10_1 < (t320.length : Int) := oDt (by first | (with_reducible assumption) | assumption)
                 obtain ⟨ad328, e328, hx328_0⟩ := Kd.at_int (Kd.R_reads' HO_8.out).2.2 x10_1 p328 q328
                 obtain rfl : ad327 = ad328 := (by injection e328)
                 replace p328 := eq_true p328
                 replace q328 := eq_true q328
                 go_wp2
                 repeat (go_quiet (fail); try go_wp2)
                 go_roundg k1
                 case measure => have := HK1.out; omega
                 case rel => exact ⟨(wrap64 (x9_1 + (rd t320 x10_1))), (wrap64 (x10_1 + 1)), (by first | rfl | (simp; done) | (simp [*]; done)), (by first | rfl | (simp; done) | (simp [*]; done)), H', ⟨by have := HK1.out; omega⟩, ⟨by (with_reducible repeat (first | apply Kd.R_alloc | apply Kd.R_drewN | apply Kd.R_drew)); exact HO_8.out⟩, ⟨by repeat (first | (with_reducible first | exact HB.out | apply bAl | apply bDn | apply bD1) | exact HB.out)⟩⟩
             · rw [if_neg c19] at H
               exact absurd H (by simp)
           · rw [if_neg c18] at H
             have c18b0 : decide (x10_1 < (t320.length : Int)) = false := decide_eq_false c18
             clear c18
             have HC21 := aMk H
             clear H
             go_upto_region 19 with (fail)
             repeat (go_quiet (fail); go_upto_region 19 with (fail))
             go_cut [81] (fun v81 wc => ∃ (kq : Nat) (x81_20 : Bool), v81 = .bool x81_20 ∧ Aside0 (laws_FnShares.j1 kq l0 x81_20 = some r) ∧ Aside0 (kq ≤ k1) ∧ Aside0 (Below w.heap.size w wc))
             case first =>
              have H := HC21.out
              clear HC21
              by_cases c22 : (t320.length : Int) > 0
              · rw [if_pos c22] at H
                have c22b0 : decide (0 < (t320.length : Int)) = true := decide_eq_true c22
                have c22b1 : decide (0 < t320.length) = true := decide_eq_true (by omega)
                clear c22
                (first | rw [c22b0] | (simp only [i64_w, i32_w]; rw [c22b0]) | skip)
                have H' := aMk H
                clear H
                go_wp2
                repeat (go_quiet (fail); try go_wp2)
                go_meet
                case rel => exact ⟨_, ((x9_1 != t316)), (by first | rfl | (simp; done) | (simp [*]; done)), H', ⟨by have := HK1.out; first | omega | exact Nat.le_refl _⟩, ⟨by repeat (first | (with_reducible first | exact HB.out | apply bAl | apply bDn | apply bD1) | exact HB.out)⟩⟩
              · rw [if_neg c22] at H
                have c22b0 : decide (0 < (t320.length : Int)) = false := decide_eq_false c22
                have c22b1 : decide (0 < t320.length) = false := decide_eq_false (by omega)
                clear c22
                (first | rw [c22b0] | (simp only [i64_w, i32_w]; rw [c22b0]) | skip)
                have H' := aMk H
                clear H
                go_wp2
                repeat (go_quiet (fail); try go_wp2)
                go_meet
                case rel => exact ⟨_, (false), (by first | rfl | (simp; done) | (simp [*]; done)), H', ⟨by have := HK1.out; first | omega | exact Nat.le_refl _⟩, ⟨by repeat (first | (with_reducible first | exact HB.out | apply bAl | apply bDn | apply bD1) | exact HB.out)⟩⟩
             case rest =>
              clear HC21
              try clear c1
              try clear c2
              try clear p2
              try clear c3
              try clear p3
              try clear q3
              try clear hx3
              try clear c5
              try clear c5b0
              try clear c5b1
              try clear c6
              try clear c6b0
              try clear c6b1
              try clear p6
              try clear c10
              try clear c11
              try clear c18
              try clear c18b0
              try clear c19
              try clear c19b0
              try clear c20
              try clear c20b0
              try clear c22
              try clear c22b0
              try clear c22b1
              try clear hx327_0
              try clear hx328_0
              try clear p2
              try clear p327
              try clear p328
              try clear p6
              try clear q327
              try clear q328
              obtain ⟨kq, x81_20, rfl, HA, HJ20, HB⟩ := hcut
              cases kq with
              | zero => exact absurd HA.out (by simp [laws_FnShares.j1])
              | succ kj20 =>
               have H := HA.out
               clear HA
               simp only [laws_FnShares.j1] at H
               by_cases c23 : x81_20 = true
               · subst c23
                 have H1 : (some false) = some r := by rw [if_pos rfl] at H; exact H
                 clear H
                 have H := H1
                 clear H1
                 obtain rfl := Option.some.inj H
                 go_wp2
                 repeat (go_quiet (fail); try go_wp2)
                 go_ret
                 exact ⟨by first | rfl | (simp [errW_none, errW_some] <;> rfl) | (simp [*, errW_none, errW_some] <;> rfl), by repeat (first | (with_reducible first | exact HB.out | apply bAl | apply bDn | apply bD1) | exact HB.out)⟩
               · replace c23 := Bool.eq_false_iff.mpr c23
                 subst c23
                 have H1 : ((spec_DrawFlexShares.f kj20 l0).bind fun bt329 => ((impl_FlexShares.f kj20 bt329.1 bt329.2).bind fun t333 => ((spec_FlexShares.f kj20 bt329.1 bt329.2).bind fun t336 => ((laws_sameInts.f kj20 t333 t336).bind fun t339 => (if t339 = true then (laws_FnShares.l1 kj20 0 bt329.1 bt329.2 t333 0 false 0) else (some false)))))) = some r := by rw [if_neg (show ¬ (false = true) by decide)] at H; exact H
                 clear H
                 have H := H1
                 clear H1
                 replace H := oBm H
                 obtain ⟨⟨t329, t330⟩, A240, H⟩ := H
                 replace H : ((impl_FlexShares.f kj20 t329 t330).bind fun t333 => ((spec_FlexShares.f kj20 t329 t330).bind fun t336 => ((laws_sameInts.f kj20 t333 t336).bind fun t339 => (if t339 = true then (laws_FnShares.l1 kj20 0 t329 t330 t333 0 false 0) else (some false))))) = some r := H
                 have A24 := aMk A240
                 clear A240
                 replace H := oBm H
                 obtain ⟨t333, A250, H⟩ := H
                 replace H : ((spec_FlexShares.f kj20 t329 t330).bind fun t336 => ((laws_sameInts.f kj20 t333 t336).bind fun t339 => (if t339 = true then (laws_FnShares.l1 kj20 0 t329 t330 t333 0 false 0) else (some false)))) = some r := H
                 have A25 := aMk A250
                 clear A250
                 replace H := oBm H
                 obtain ⟨t336, A260, H⟩ := H
                 replace H : ((laws_sameInts.f kj20 t333 t336).bind fun t339 => (if t339 = true then (laws_FnShares.l1 kj20 0 t329 t330 t333 0 false 0) else (some false))) = some r := H
                 have A26 := aMk A260
                 clear A260
                 replace H := oBm H
                 obtain ⟨t339, A270, H⟩ := H
                 replace H : (if t339 = true then (laws_FnShares.l1 kj20 0 t329 t330 t333 0 false 0) else (some false)) = some r := H
                 have A27 := aMk A270
                 clear A270
                 by_cases c28 : t339 = true
                 · subst c28
                   have H1 : (laws_FnShares.l1 kj20 0 t329 t330 t333 0 false 0) = some r := by rw [if_pos rfl] at H; exact H
                   clear H
                   have H := H1
                   clear H1
                   have H' := aMk H
                   clear H
                   go_wp2_with (first | (go_at_call 49; (with_reducible refine (spec_DrawFlexShares.calls kj20 _ _ l0 t329 t330 _ ?side1 ?side2 A24.out).mono ?_); (case side1 => repeat (first | exact (Kd.C_below HR0.out HB.out) | (with_reducible refine Kd.C_alloc ?_ _) | (with_reducible refine Kd.C_drewN ?_ _) | (with_reducible refine Kd.C_drew ?_))); (case side2 => exact HC0.out); rintro e w29 ⟨v331, rfl, ho0, hb⟩; have n0_ := aMk (Kd.R_lower ho0 (below_size (by repeat (first | (with_reducible first | exact HB.out | apply bAl | apply bDn | apply bD1) | exact HB.out)))); have n1_ := aMk (below_step (by repeat (first | (with_reducible first | exact HB.out | apply bAl | apply bDn | apply bD1) | exact HB.out)) hb); clear HB; have HO332 := n0_; have HB := n1_; clear n0_ n1_; (try clear hb); (try clear hb2); (try clear hk); (try clear hi); (try clear ho0); obtain ⟨Ao30, co30, eo30⟩ := Kd.R_slice HO332.out; subst eo30) | (go_at_call 34; (with_reducible refine (impl_FlexShares.calls kj20 _ _ t329 t330 t333 _ ?side1 ?side2 A25.out).mono ?_); (case side1 => repeat (first | exact (Kd.R_reads' HO332.out).2.2 | (with_reducible refine Kd.C_alloc ?_ _) | (with_reducible refine Kd.C_drewN ?_ _) | (with_reducible refine Kd.C_drew ?_))); (case side2 => exact (Kd.R_reads' HO332.out).2.1); rintro e w31 ⟨v334, rfl, ho0, hb⟩; have n0_ := aMk (Kd.R_below (by (with_reducible repeat (first | apply Kd.R_alloc | apply Kd.R_drewN | apply Kd.R_drew)); exact HO332.out) hb); have n1_ := aMk (Kd.R_lower ho0 (below_size (by repeat (first | (with_reducible first | exact HB.out | apply bAl | apply bDn | apply bD1) | exact HB.out)))); have n2_ := aMk (below_step (by repeat (first | (with_reducible first | exact HB.out | apply bAl | apply bDn | apply bD1) | exact HB.out)) hb); clear HO332; clear HB; have HO332 := n0_; have HO335 := n1_; have HB := n2_; clear n0_ n1_ n2_; (try clear hb); (try clear hb2); (try clear hk); (try clear hi); (try clear ho0)) | (go_at_call 32; (with_reducible refine (spec_FlexShares.calls kj20 _ _ t329 t330 t336 _ ?side1 ?side2 A26.out).mono ?_); (case side1 => repeat (first | exact (Kd.R_reads' HO332.out).2.2 | (with_reducible refine Kd.C_alloc ?_ _) | (with_reducible refine Kd.C_drewN ?_ _) | (with_reducible refine Kd.C_drew ?_))); (case side2 => exact (Kd.R_reads' HO332.out).2.1); rintro e w32 ⟨v337, rfl, ho0, hb⟩; have n0_ := aMk (Kd.R_below (by (with_reducible repeat (first | apply Kd.R_alloc | apply Kd.R_drewN | apply Kd.R_drew)); exact HO332.out) hb); have n1_ := aMk (Kd.R_elder' (by (with_reducible repeat (first | apply Kd.R_alloc | apply Kd.R_drewN | apply Kd.R_drew)); exact HO335.out) (Kd.R_base ho0) hb); have n2_ := aMk (Kd.R_lower (Kd.R_new' ho0 (Kd.R_lt (by (with_reducible repeat (first | apply Kd.R_alloc | apply Kd.R_drewN | apply Kd.R_drew)); exact HO335.out))) (below_size (by repeat (first | (with_reducible first | exact HB.out | apply bAl | apply bDn | apply bD1) | exact HB.out)))); have n3_ := aMk (below_step (by repeat (first | (with_reducible first | exact HB.out | apply bAl | apply bDn | apply bD1) | exact HB.out)) hb); clear HO332; clear HO335; clear HB; have HO332 := n0_; have HO335 := n1_; have HO338 := n2_; have HB := n3_; clear n0_ n1_ n2_ n3_; (try clear hb); (try clear hb2); (try clear hk); (try clear hi); (try clear ho0); obtain ⟨Ao33, co33, eo33⟩ := Kd.R_slice HO335.out; subst eo33; obtain ⟨Ao34, co34, eo34⟩ := Kd.R_slice HO338.out; subst eo34) | (go_at_call 23; (with_reducible refine (laws_sameInts.calls kj20 _ _ t333 _ _ t336 true _ ?side1 ?side2 ?side3 ?side4 A27.out).mono ?_); (case side1 => repeat (first | exact (Kd.R_reads' HO335.out).2.2 | (with_reducible refine Kd.C_alloc ?_ _) | (with_reducible refine Kd.C_drewN ?_ _) | (with_reducible refine Kd.C_drew ?_))); (case side2 => exact (Kd.R_reads' HO335.out).2.1); (case side3 => repeat (first | exact (Kd.R_reads' HO338.out).2.2 | (with_reducible refine Kd.C_alloc ?_ _) | (with_reducible refine Kd.C_drewN ?_ _) | (with_reducible refine Kd.C_drew ?_))); (case side4 => exact (Kd.R_reads' HO338.out).2.1); rintro e w' ⟨rfl, ⟨nd, rfl⟩⟩; (try first | exact ⟨rfl, _, World.drewN_drewN _ _ _⟩ | exact ⟨rfl, _, Eq.trans (World.drewN_drewN _ _ _) (congrArg (World.drewN _) (Nat.add_assoc _ _ _))⟩)))
                   repeat (go_quiet (first | (go_at_call 49; (with_reducible refine (spec_DrawFlexShares.calls kj20 _ _ l0 t329 t330 _ ?side1 ?side2 A24.out).mono ?_); (case side1 => repeat (first | exact (Kd.C_below HR0.out HB.out) | (with_reducible refine Kd.C_alloc ?_ _) | (with_reducible refine Kd.C_drewN ?_ _) | (with_reducible refine Kd.C_drew ?_))); (case side2 => exact HC0.out); rintro e w29 ⟨v331, rfl, ho0, hb⟩; have n0_ := aMk (Kd.R_lower ho0 (below_size (by repeat (first | (with_reducible first | exact HB.out | apply bAl | apply bDn | apply bD1) | exact HB.out)))); have n1_ := aMk (below_step (by repeat (first | (with_reducible first | exact HB.out | apply bAl | apply bDn | apply bD1) | exact HB.out)) hb); clear HB; have HO332 := n0_; have HB := n1_; clear n0_ n1_; (try clear hb); (try clear hb2); (try clear hk); (try clear hi); (try clear ho0); obtain ⟨Ao30, co30, eo30⟩ := Kd.R_slice HO332.out; subst eo30) | (go_at_call 34; (with_reducible refine (impl_FlexShares.calls kj20 _ _ t329 t330 t333 _ ?side1 ?side2 A25.out).mono ?_); (case side1 => repeat (first | exact (Kd.R_reads' HO332.out).2.2 | (with_reducible refine Kd.C_alloc ?_ _) | (with_reducible refine Kd.C_drewN ?_ _) | (with_reducible refine Kd.C_drew ?_))); (case side2 => exact (Kd.R_reads' HO332.out).2.1); rintro e w31 ⟨v334, rfl, ho0, hb⟩; have n0_ := aMk (Kd.R_below (by (with_reducible repeat (first | apply Kd.R_alloc | apply Kd.R_drewN | apply Kd.R_drew)); exact HO332.out) hb); have n1_ := aMk (Kd.R_lower ho0 (below_size (by repeat (first | (with_reducible first | exact HB.out | apply bAl | apply bDn | apply bD1) | exact HB.out)))); have n2_ := aMk (below_step (by repeat (first | (with_reducible first | exact HB.out | apply bAl | apply bDn | apply bD1) | exact HB.out)) hb); clear HO332; clear HB; have HO332 := n0_; have HO335 := n1_; have HB := n2_; clear n0_ n1_ n2_; (try clear hb); (try clear hb2); (try clear hk); (try clear hi); (try clear ho0)) | (go_at_call 32; (with_reducible refine (spec_FlexShares.calls kj20 _ _ t329 t330 t336 _ ?side1 ?side2 A26.out).mono ?_); (case side1 => repeat (first | exact (Kd.R_reads' HO332.out).2.2 | (with_reducible refine Kd.C_alloc ?_ _) | (with_reducible refine Kd.C_drewN ?_ _) | (with_reducible refine Kd.C_drew ?_))); (case side2 => exact (Kd.R_reads' HO332.out).2.1); rintro e w32 ⟨v337, rfl, ho0, hb⟩; have n0_ := aMk (Kd.R_below (by (with_reducible repeat (first | apply Kd.R_alloc | apply Kd.R_drewN | apply Kd.R_drew)); exact HO332.out) hb); have n1_ := aMk (Kd.R_elder' (by (with_reducible repeat (first | apply Kd.R_alloc | apply Kd.R_drewN | apply Kd.R_drew)); exact HO335.out) (Kd.R_base ho0) hb); have n2_ := aMk (Kd.R_lower (Kd.R_new' ho0 (Kd.R_lt (by (with_reducible repeat (first | apply Kd.R_alloc | apply Kd.R_drewN | apply Kd.R_drew)); exact HO335.out))) (below_size (by repeat (first | (with_reducible first | exact HB.out | apply bAl | apply bDn | apply bD1) | exact HB.out)))); have n3_ := aMk (below_step (by repeat (first | (with_reducible first | exact HB.out | apply bAl | apply bDn | apply bD1) | exact HB.out)) hb); clear HO332; clear HO335; clear HB; have HO332 := n0_; have HO335 := n1_; have HO338 := n2_; have HB := n3_; clear n0_ n1_ n2_ n3_; (try clear hb); (try clear hb2); (try clear hk); (try clear hi); (try clear ho0); obtain ⟨Ao33, co33, eo33⟩ := Kd.R_slice HO335.out; subst eo33; obtain ⟨Ao34, co34, eo34⟩ := Kd.R_slice HO338.out; subst eo34) | (go_at_call 23; (with_reducible refine (laws_sameInts.calls kj20 _ _ t333 _ _ t336 true _ ?side1 ?side2 ?side3 ?side4 A27.out).mono ?_); (case side1 => repeat (first | exact (Kd.R_reads' HO335.out).2.2 | (with_reducible refine Kd.C_alloc ?_ _) | (with_reducible refine Kd.C_drewN ?_ _) | (with_reducible refine Kd.C_drew ?_))); (case side2 => exact (Kd.R_reads' HO335.out).2.1); (case side3 => repeat (first | exact (Kd.R_reads' HO338.out).2.2 | (with_reducible refine Kd.C_alloc ?_ _) | (with_reducible refine Kd.C_drewN ?_ _) | (with_reducible refine Kd.C_drew ?_))); (case side4 => exact (Kd.R_reads' HO338.out).2.1); rintro e w' ⟨rfl, ⟨nd, rfl⟩⟩; (try first | exact ⟨rfl, _, World.drewN_drewN _ _ _⟩ | exact ⟨rfl, _, Eq.trans (World.drewN_drewN _ _ _) (congrArg (World.drewN _) (Nat.add_assoc _ _ _))⟩))); try go_wp2_with (first | (go_at_call 49; (with_reducible refine (spec_DrawFlexShares.calls kj20 _ _ l0 t329 t330 _ ?side1 ?side2 A24.out).mono ?_); (case side1 => repeat (first | exact (Kd.C_below HR0.out HB.out) | (with_reducible refine Kd.C_alloc ?_ _) | (with_reducible refine Kd.C_drewN ?_ _) | (with_reducible refine Kd.C_drew ?_))); (case side2 => exact HC0.out); rintro e w29 ⟨v331, rfl, ho0, hb⟩; have n0_ := aMk (Kd.R_lower ho0 (below_size (by repeat (first | (with_reducible first | exact HB.out | apply bAl | apply bDn | apply bD1) | exact HB.out)))); have n1_ := aMk (below_step (by repeat (first | (with_reducible first | exact HB.out | apply bAl | apply bDn | apply bD1) | exact HB.out)) hb); clear HB; have HO332 := n0_; have HB := n1_; clear n0_ n1_; (try clear hb); (try clear hb2); (try clear hk); (try clear hi); (try clear ho0); obtain ⟨Ao30, co30, eo30⟩ := Kd.R_slice HO332.out; subst eo30) | (go_at_call 34; (with_reducible refine (impl_FlexShares.calls kj20 _ _ t329 t330 t333 _ ?side1 ?side2 A25.out).mono ?_); (case side1 => repeat (first | exact (Kd.R_reads' HO332.out).2.2 | (with_reducible refine Kd.C_alloc ?_ _) | (with_reducible refine Kd.C_drewN ?_ _) | (with_reducible refine Kd.C_drew ?_))); (case side2 => exact (Kd.R_reads' HO332.out).2.1); rintro e w31 ⟨v334, rfl, ho0, hb⟩; have n0_ := aMk (Kd.R_below (by (with_reducible repeat (first | apply Kd.R_alloc | apply Kd.R_drewN | apply Kd.R_drew)); exact HO332.out) hb); have n1_ := aMk (Kd.R_lower ho0 (below_size (by repeat (first | (with_reducible first | exact HB.out | apply bAl | apply bDn | apply bD1) | exact HB.out)))); have n2_ := aMk (below_step (by repeat (first | (with_reducible first | exact HB.out | apply bAl | apply bDn | apply bD1) | exact HB.out)) hb); clear HO332; clear HB; have HO332 := n0_; have HO335 := n1_; have HB := n2_; clear n0_ n1_ n2_; (try clear hb); (try clear hb2); (try clear hk); (try clear hi); (try clear ho0)) | (go_at_call 32; (with_reducible refine (spec_FlexShares.calls kj20 _ _ t329 t330 t336 _ ?side1 ?side2 A26.out).mono ?_); (case side1 => repeat (first | exact (Kd.R_reads' HO332.out).2.2 | (with_reducible refine Kd.C_alloc ?_ _) | (with_reducible refine Kd.C_drewN ?_ _) | (with_reducible refine Kd.C_drew ?_))); (case side2 => exact (Kd.R_reads' HO332.out).2.1); rintro e w32 ⟨v337, rfl, ho0, hb⟩; have n0_ := aMk (Kd.R_below (by (with_reducible repeat (first | apply Kd.R_alloc | apply Kd.R_drewN | apply Kd.R_drew)); exact HO332.out) hb); have n1_ := aMk (Kd.R_elder' (by (with_reducible repeat (first | apply Kd.R_alloc | apply Kd.R_drewN | apply Kd.R_drew)); exact HO335.out) (Kd.R_base ho0) hb); have n2_ := aMk (Kd.R_lower (Kd.R_new' ho0 (Kd.R_lt (by (with_reducible repeat (first | apply Kd.R_alloc | apply Kd.R_drewN | apply Kd.R_drew)); exact HO335.out))) (below_size (by repeat (first | (with_reducible first | exact HB.out | apply bAl | apply bDn | apply bD1) | exact HB.out)))); have n3_ := aMk (below_step (by repeat (first | (with_reducible first | exact HB.out | apply bAl | apply bDn | apply bD1) | exact HB.out)) hb); clear HO332; clear HO335; clear HB; have HO332 := n0_; have HO335 := n1_; have HO338 := n2_; have HB := n3_; clear n0_ n1_ n2_ n3_; (try clear hb); (try clear hb2); (try clear hk); (try clear hi); (try clear ho0); obtain ⟨Ao33, co33, eo33⟩ := Kd.R_slice HO335.out; subst eo33; obtain ⟨Ao34, co34, eo34⟩ := Kd.R_slice HO338.out; subst eo34) | (go_at_call 23; (with_reducible refine (laws_sameInts.calls kj20 _ _ t333 _ _ t336 true _ ?side1 ?side2 ?side3 ?side4 A27.out).mono ?_); (case side1 => repeat (first | exact (Kd.R_reads' HO335.out).2.2 | (with_reducible refine Kd.C_alloc ?_ _) | (with_reducible refine Kd.C_drewN ?_ _) | (with_reducible refine Kd.C_drew ?_))); (case side2 => exact (Kd.R_reads' HO335.out).2.1); (case side3 => repeat (first | exact (Kd.R_reads' HO338.out).2.2 | (with_reducible refine Kd.C_alloc ?_ _) | (with_reducible refine Kd.C_drewN ?_ _) | (with_reducible refine Kd.C_drew ?_))); (case side4 => exact (Kd.R_reads' HO338.out).2.1); rintro e w' ⟨rfl, ⟨nd, rfl⟩⟩; (try first | exact ⟨rfl, _, World.drewN_drewN _ _ _⟩ | exact ⟨rfl, _, Eq.trans (World.drewN_drewN _ _ _) (congrArg (World.drewN _) (Nat.add_assoc _ _ _))⟩))))
                   go_loopg [9, 14, 15, 16] kj20 (fun kq v9 v14 v15 v16 w' => ∃ (x9_3 : Int) (x14_3 : Int) (x15_3 : Bool) (x16_3 : Int), v9 = .int .i64 x9_3 ∧ v14 = .int .i64 x14_3 ∧ v15 = .bool x15_3 ∧ v16 = .int .i64 x16_3 ∧ Aside0 (laws_FnShares.l1 kq x9_3 t329 t330 t333 x14_3 x15_3 x16_3 = some r) ∧ Aside0 (kq ≤ kj20) ∧ Aside0 (Kd.R k66 66 w' w.heap.size (fun _ => True) (.slice Ao30 t329.length co30) t329) ∧ Aside0 (Kd.R (Kd.int .i64) 3 w' w.heap.size (fun _ => True) (.slice Ao33 t333.length co33) t333) ∧ Aside0 (Below w.heap.size w w'))
                   case atStart => exact ⟨(0), (0), (false), (0), (by first | rfl | (simp; done) | (simp [*]; done)), (by first | rfl | (simp; done) | (simp [*]; done)), (by first | rfl | (simp; done) | (simp [*]; done)), (by first | rfl | (simp; done) | (simp [*]; done)), H', ⟨Nat.le_refl _⟩, ⟨by (with_reducible repeat (first | apply Kd.R_alloc | apply Kd.R_drewN | apply Kd.R_drew)); exact HO332.out⟩, ⟨by (with_reducible repeat (first | apply Kd.R_alloc | apply Kd.R_drewN | apply Kd.R_drew)); exact Kd.R_mono HO335.out (fun _ hk => trivial)⟩, ⟨by repeat (first | (with_reducible first | exact HB.out | apply bAl | apply bDn | apply bD1) | exact HB.out)⟩⟩
                   case round =>
                    clear H'
                    try clear c1
                    try clear c2
                    try clear p2
                    try clear c3
                    try clear p3
                    try clear q3
                    try clear hx3
                    try clear c5
                    try clear c5b0
                    try clear c5b1
                    try clear c6
                    try clear c6b0
                    try clear c6b1
                    try clear p6
                    try clear c10
                    try clear c11
                    try clear c18
                    try clear c18b0
                    try clear c19
                    try clear c19b0
                    try clear c20
                    try clear c20b0
                    try clear c22
                    try clear c22b0
                    try clear c22b1
                    try clear c23
                    try clear c28
                    try clear p32
                    try clear q32
                    try clear hx32
                    try clear hx327_0
                    try clear hx328_0
                    try clear p2
                    try clear p3
                    try clear p327
                    try clear p328
                    try clear p6
                    try clear q3
                    try clear q327
                    try clear q328
                    obtain ⟨x9_3, x14_3, x15_3, x16_3, rfl, rfl, rfl, rfl, HA, HK3, HO_11, HO_13, HB⟩ := hrel
                    cases gk with
                    | zero => exact absurd HA.out (by simp [laws_FnShares.l1])
                    | succ k3 =>
                     have H := HA.out
                     clear HA
                     simp only [laws_FnShares.l1] at H
                     by_cases c35 : x16_3 < (t333.length : Int)
                     · rw [if_pos c35] at H
                       have c35b0 : decide (x16_3 < (t333.length : Int)) = true := decide_eq_true c35
                       clear c35
                       by_cases c36 : 0 ≤ x16_3
                       · rw [if_pos c36] at H
                         have c36b0 : decide (0 ≤ x16_3) = true := decide_eq_true c36
                         clear c36
                         by_cases c37 : x16_3 < (t329.length : Int)
                         · rw [if_pos c37] at H
                           have c37b0 : decide (x16_3 < (t329.length : Int)) = true := decide_eq_true c37
                           clear c37
                           have HC38 := aMk H
                           clear H
                           have p340 : 0 ≤ (x16_3 : Int) := oDt (by first | (with_reducible assumption) | assumption)
                           have q340 : x16_3 < (t329.length : Int) := oDt (by first | (with_reducible assumption) | assumption)
                           obtain ⟨ad340, e340, hx340_0, hx340_1, hx340_2, hx340_3, hx340_4⟩ := at_T66 (Kd.R_reads' HO_11.out).2.2 x16_3 p340 q340
                           cases e340
                           replace p340 := eq_true p340
                           replace q340 := eq_true q340
                           go_upto_region 32 with (first | ((with_reducible refine gate_dst (N := 17) rfl ?_); refine box_event ?hg (N := 17) ?hd (cs := #[.int .i64 0, .int .i64 0, .int .i64 0, .int .i64 0, .int .i64 0]) (t := 66) ?hr ?_; (case hd => rfl); (case hg => rfl); (case hr => first | (go_simp; done) | (go_simp; rfl)); intro gb341 hg w39 hbox hb; have n0_ := aMk (Kd.R_below (Kd.R_elderB (by (with_reducible repeat (first | apply Kd.R_alloc | apply Kd.R_drewN | apply Kd.R_drew)); exact HO_11.out) gb341 (Nat.le_of_eq hg.symm)) hb); have n1_ := aMk (Kd.R_below (by (with_reducible repeat (first | apply Kd.R_alloc | apply Kd.R_drewN | apply Kd.R_drew)); exact HO_13.out) hb); have n2_ := aMk (below_step (by repeat (first | (with_reducible first | exact HB.out | apply bAl | apply bDn | apply bD1) | exact HB.out)) hb); have n3_ := aMk (hbox); have n4_ := aMk ((by rw [hg]; exact (below_size (by repeat (first | (with_reducible first | exact HB.out | apply bAl | apply bDn | apply bD1) | exact HB.out))) : w.heap.size ≤ gb341)); have n5_ := aMk ((by rw [hg]; exact (below_size (by repeat (first | (with_reducible first | exact HB.out | apply bAl | apply bDn | apply bD1) | exact HB.out))) : w.heap.size ≤ gb341)); clear HO_11; clear HO_13; clear HB; have HO_11 := n0_; have HO_13 := n1_; have HB := n2_; have BK341 := n3_; have GW341 := n4_; have GE341 := n5_; clear n0_ n1_ n2_ n3_ n4_ n5_; clear hb hbox hg; have hcz40_0 : w39.cell? ⟨gb341, 0, none⟩ = some (.int .i64 0) := (bCe BK341.out 0).trans rfl; have hcz40_1 : w39.cell? ⟨gb341, 1, none⟩ = some (.int .i64 0) := (bCe BK341.out 1).trans rfl; have hcz40_2 : w39.cell? ⟨gb341, 2, none⟩ = some (.int .i64 0) := (bCe BK341.out 2).trans rfl; have hcz40_3 : w39.cell? ⟨gb341, 3, none⟩ = some (.int .i64 0) := (bCe BK341.out 3).trans rfl; have hcz40_4 : w39.cell? ⟨gb341, 4, none⟩ = some (.int .i64 0) := (bCe BK341.out 4).trans rfl; have hfz40_0 := bFr BK341.out 0; have hfz40_1 := bFr BK341.out 1; have hfz40_2 := bFr BK341.out 2; have hfz40_3 := bFr BK341.out 3; have hfz40_4 := bFr BK341.out 4))
                           repeat (go_quiet (first | ((with_reducible refine gate_dst (N := 17) rfl ?_); refine box_event ?hg (N := 17) ?hd (cs := #[.int .i64 0, .int .i64 0, .int .i64 0, .int .i64 0, .int .i64 0]) (t := 66) ?hr ?_; (case hd => rfl); (case hg => rfl); (case hr => first | (go_simp; done) | (go_simp; rfl)); intro gb341 hg w39 hbox hb; have n0_ := aMk (Kd.R_below (Kd.R_elderB (by (with_reducible repeat (first | apply Kd.R_alloc | apply Kd.R_drewN | apply Kd.R_drew)); exact HO_11.out) gb341 (Nat.le_of_eq hg.symm)) hb); have n1_ := aMk (Kd.R_below (by (with_reducible repeat (first | apply Kd.R_alloc | apply Kd.R_drewN | apply Kd.R_drew)); exact HO_13.out) hb); have n2_ := aMk (below_step (by repeat (first | (with_reducible first | exact HB.out | apply bAl | apply bDn | apply bD1) | exact HB.out)) hb); have n3_ := aMk (hbox); have n4_ := aMk ((by rw [hg]; exact (below_size (by repeat (first | (with_reducible first | exact HB.out | apply bAl | apply bDn | apply bD1) | exact HB.out))) : w.heap.size ≤ gb341)); have n5_ := aMk ((by rw [hg]; exact (below_size (by repeat (first | (with_reducible first | exact HB.out | apply bAl | apply bDn | apply bD1) | exact HB.out))) : w.heap.size ≤ gb341)); clear HO_11; clear HO_13; clear HB; have HO_11 := n0_; have HO_13 := n1_; have HB := n2_; have BK341 := n3_; have GW341 := n4_; have GE341 := n5_; clear n0_ n1_ n2_ n3_ n4_ n5_; clear hb hbox hg; have hcz40_0 : w39.cell? ⟨gb341, 0, none⟩ = some (.int .i64 0) := (bCe BK341.out 0).trans rfl; have hcz40_1 : w39.cell? ⟨gb341, 1, none⟩ = some (.int .i64 0) := (bCe BK341.out 1).trans rfl; have hcz40_2 : w39.cell? ⟨gb341, 2, none⟩ = some (.int .i64 0) := (bCe BK341.out 2).trans rfl; have hcz40_3 : w39.cell? ⟨gb341, 3, none⟩ = some (.int .i64 0) := (bCe BK341.out 3).trans rfl; have hcz40_4 : w39.cell? ⟨gb341, 4, none⟩ = some (.int .i64 0) := (bCe BK341.out 4).trans rfl; have hfz40_0 := bFr BK341.out 0; have hfz40_1 := bFr BK341.out 1; have hfz40_2 := bFr BK341.out 2; have hfz40_3 := bFr BK341.out 3; have hfz40_4 := bFr BK341.out 4)); go_upto_region 32 with (first | ((with_reducible refine gate_dst (N := 17) rfl ?_); refine box_event ?hg (N := 17) ?hd (cs := #[.int .i64 0, .int .i64 0, .int .i64 0, .int .i64 0, .int .i64 0]) (t := 66) ?hr ?_; (case hd => rfl); (case hg => rfl); (case hr => first | (go_simp; done) | (go_simp; rfl)); intro gb341 hg w39 hbox hb; have n0_ := aMk (Kd.R_below (Kd.R_elderB (by (with_reducible repeat (first | apply Kd.R_alloc | apply Kd.R_drewN | apply Kd.R_drew)); exact HO_11.out) gb341 (Nat.le_of_eq hg.symm)) hb); have n1_ := aMk (Kd.R_below (by (with_reducible repeat (first | apply Kd.R_alloc | apply Kd.R_drewN | apply Kd.R_drew)); exact HO_13.out) hb); have n2_ := aMk (below_step (by repeat (first | (with_reducible first | exact HB.out | apply bAl | apply bDn | apply bD1) | exact HB.out)) hb); have n3_ := aMk (hbox); have n4_ := aMk ((by rw [hg]; exact (below_size (by repeat (first | (with_reducible first | exact HB.out | apply bAl | apply bDn | apply bD1) | exact HB.out))) : w.heap.size ≤ gb341)); have n5_ := aMk ((by rw [hg]; exact (below_size (by repeat (first | (with_reducible first | exact HB.out | apply bAl | apply bDn | apply bD1) | exact HB.out))) : w.heap.size ≤ gb341)); clear HO_11; clear HO_13; clear HB; have HO_11 := n0_; have HO_13 := n1_; have HB := n2_; have BK341 := n3_; have GW341 := n4_; have GE341 := n5_; clear n0_ n1_ n2_ n3_ n4_ n5_; clear hb hbox hg; have hcz40_0 : w39.cell? ⟨gb341, 0, none⟩ = some (.int .i64 0) := (bCe BK341.out 0).trans rfl; have hcz40_1 : w39.cell? ⟨gb341, 1, none⟩ = some (.int .i64 0) := (bCe BK341.out 1).trans rfl; have hcz40_2 : w39.cell? ⟨gb341, 2, none⟩ = some (.int .i64 0) := (bCe BK341.out 2).trans rfl; have hcz40_3 : w39.cell? ⟨gb341, 3, none⟩ = some (.int .i64 0) := (bCe BK341.out 3).trans rfl; have hcz40_4 : w39.cell? ⟨gb341, 4, none⟩ = some (.int .i64 0) := (bCe BK341.out 4).trans rfl; have hfz40_0 := bFr BK341.out 0; have hfz40_1 := bFr BK341.out 1; have hfz40_2 := bFr BK341.out 2; have hfz40_3 := bFr BK341.out 3; have hfz40_4 := bFr BK341.out 4)))
                           (try simp only [Act.put, lSa, lSz, lSs])
                           go_cut [128] (fun v128 wc => ∃ (kq : Nat) (x128_37 : Bool), v128 = .bool x128_37 ∧ Aside0 (laws_FnShares.j3 kq x9_3 t329 t330 t333 x14_3 x15_3 x16_3 x128_37 ((rd_T66 t329 x16_3).f0) ((rd_T66 t329 x16_3).f1) ((rd_T66 t329 x16_3).f2) ((rd_T66 t329 x16_3).f3) ((rd_T66 t329 x16_3).f4) = some r) ∧ Aside0 (kq ≤ k3) ∧ Aside0 (Kd.R k66 66 wc w.heap.size (fun k_ => k_ ≠ gb341) (.slice (some ad340) t329.length co30) t329) ∧ Aside0 (Kd.R (Kd.int .i64) 3 wc w.heap.size (fun _ => True) (.slice Ao33 t333.length co33) t333) ∧ Aside0 (wc.heap[gb341]? = some (.cells #[.int .i64 ((rd_T66 t329 x16_3).f0), .int .i64 ((rd_T66 t329 x16_3).f1), .int .i64 ((rd_T66 t329 x16_3).f2), .int .i64 ((rd_T66 t329 x16_3).f3), .int .i64 ((rd_T66 t329 x16_3).f4)] 66 (0, 0))) ∧ Aside0 (Below w.heap.size w wc))
                           case first =>
                            have H := HC38.out
                            clear HC38
                            by_cases c41 : (rd t333 x16_3) < ((rd_T66 t329 x16_3).f3)
                            · rw [if_pos c41] at H
                              have c41b0 : decide ((rd t333 x16_3) < ((rd_T66 t329 x16_3).f3)) = true := decide_eq_true c41
                              clear c41
                              (first | rw [c41b0] | (simp only [i64_w, i32_w]; rw [c41b0]) | skip)
                              have H' := aMk H
                              clear H
                              have p342 : 0 ≤ (x16_3 : Int) := oDt (by first | (with_reducible assumption) | assumption)
                              have q342 : x16_3 < (t333.length : Int) := oDt (by first | (with_reducible assumption) | assumption)
                              obtain ⟨ad342, e342, hx342_0⟩ := Kd.at_int (Kd.R_reads' HO_13.out).2.2 x16_3 p342 q342
                              cases e342
                              have hn342_0 : ad342.block ≠ gb341 := Kd.own_blk (Kd.R_ne HO_13.out BK341.out (by decide))
                              have hn342_1 : ad342.block ≠ gb341 := Kd.own_blk (Kd.R_ne HO_13.out BK341.out (by decide))
                              have hn342_2 : ad342.block ≠ gb341 := Kd.own_blk (Kd.R_ne HO_13.out BK341.out (by decide))
                              have hn342_3 : ad342.block ≠ gb341 := Kd.own_blk (Kd.R_ne HO_13.out BK341.out (by decide))
                              have hn342_4 : ad342.block ≠ gb341 := Kd.own_blk (Kd.R_ne HO_13.out BK341.out (by decide))
                              replace hx342_0 := (cell_far (p := ⟨gb341, 0, none⟩) (by first | (rw [add_block]; exact hn342_0) | (show (Addr.add _ _).block ≠ _; rw [add_block]; exact hn342_0) | exact hn342_0) (.int .i64 ((rd_T66 t329 x16_3).f0))).trans hx342_0
                              replace hx342_0 := (cell_far (p := ⟨gb341, 1, none⟩) (by first | (rw [add_block]; exact hn342_1) | (show (Addr.add _ _).block ≠ _; rw [add_block]; exact hn342_1) | exact hn342_1) (.int .i64 ((rd_T66 t329 x16_3).f1))).trans hx342_0
                              replace hx342_0 := (cell_far (p := ⟨gb341, 2, none⟩) (by first | (rw [add_block]; exact hn342_2) | (show (Addr.add _ _).block ≠ _; rw [add_block]; exact hn342_2) | exact hn342_2) (.int .i64 ((rd_T66 t329 x16_3).f2))).trans hx342_0
                              replace hx342_0 := (cell_far (p := ⟨gb341, 3, none⟩) (by first | (rw [add_block]; exact hn342_3) | (show (Addr.add _ _).block ≠ _; rw [add_block]; exact hn342_3) | exact hn342_3) (.int .i64 ((rd_T66 t329 x16_3).f3))).trans hx342_0
                              replace hx342_0 := (cell_far (p := ⟨gb341, 4, none⟩) (by first | (rw [add_block]; exact hn342_4) | (show (Addr.add _ _).block ≠ _; rw [add_block]; exact hn342_4) | exact hn342_4) (.int .i64 ((rd_T66 t329 x16_3).f4))).trans hx342_0
                              (try have hy342_0 := fun (n_ : Nat) => (show (((((((w39.drewN n_).setCell ⟨gb341, 0, none⟩ (.int .i64 ((rd_T66 t329 x16_3).f0))).setCell ⟨gb341, 1, none⟩ (.int .i64 ((rd_T66 t329 x16_3).f1))).setCell ⟨gb341, 2, none⟩ (.int .i64 ((rd_T66 t329 x16_3).f2))).setCell ⟨gb341, 3, none⟩ (.int .i64 ((rd_T66 t329 x16_3).f3))).setCell ⟨gb341, 4, none⟩ (.int .i64 ((rd_T66 t329 x16_3).f4)))).cell? _ = some _ from hx342_0))
                              clear hn342_0
                              clear hn342_1
                              clear hn342_2
                              clear hn342_3
                              clear hn342_4
                              replace p342 := eq_true p342
                              replace q342 := eq_true q342
                              have hcz42_0 : w39.cell? ⟨gb341, 0, none⟩ = some (.int .i64 0) := (bCe BK341.out 0).trans rfl
                              have hcz42_1 : w39.cell? ⟨gb341, 1, none⟩ = some (.int .i64 0) := (bCe BK341.out 1).trans rfl
                              have hcz42_2 : w39.cell? ⟨gb341, 2, none⟩ = some (.int .i64 0) := (bCe BK341.out 2).trans rfl
                              have hcz42_3 : w39.cell? ⟨gb341, 3, none⟩ = some (.int .i64 0) := (bCe BK341.out 3).trans rfl
                              have hcz42_4 : w39.cell? ⟨gb341, 4, none⟩ = some (.int .i64 0) := (bCe BK341.out 4).trans rfl
                              have hfz42_0 := bFr BK341.out 0
                              have hfz42_1 := bFr BK341.out 1
                              have hfz42_2 := bFr BK341.out 2
                              have hfz42_3 := bFr BK341.out 3
                              have hfz42_4 := bFr BK341.out 4
                              go_wp2
                              repeat (go_quiet (fail); try go_wp2)
                              go_meet
                              case rel => exact ⟨_, (true), (by first | rfl | (simp; done) | (simp [*]; done)), H', ⟨by have := HK1.out; have := HJ20.out; have := HK3.out; first | omega | exact Nat.le_refl _⟩, ⟨by (with_reducible repeat (first | apply Kd.R_alloc | apply Kd.R_drewN | apply Kd.R_drew)); exact Kd.R_mono (Kd.R_far (p := ⟨gb341, 4, none⟩) (Kd.R_far (p := ⟨gb341, 3, none⟩) (Kd.R_far (p := ⟨gb341, 2, none⟩) (Kd.R_far (p := ⟨gb341, 1, none⟩) (Kd.R_far (p := ⟨gb341, 0, none⟩) (Kd.R_mono HO_11.out (fun k_ hk => (⟨hk, hk.2⟩ : _ ∧ k_ ≠ gb341))) (fun _ hk => hk.2) (.int .i64 ((rd_T66 t329 x16_3).f0))) (fun _ hk => hk.2) (.int .i64 ((rd_T66 t329 x16_3).f1))) (fun _ hk => hk.2) (.int .i64 ((rd_T66 t329 x16_3).f2))) (fun _ hk => hk.2) (.int .i64 ((rd_T66 t329 x16_3).f3))) (fun _ hk => hk.2) (.int .i64 ((rd_T66 t329 x16_3).f4))) (fun _ hk => hk.1.2)⟩, ⟨by (with_reducible repeat (first | apply Kd.R_alloc | apply Kd.R_drewN | apply Kd.R_drew)); exact Kd.R_mono (Kd.R_far (p := ⟨gb341, 4, none⟩) (Kd.R_far (p := ⟨gb341, 3, none⟩) (Kd.R_far (p := ⟨gb341, 2, none⟩) (Kd.R_far (p := ⟨gb341, 1, none⟩) (Kd.R_far (p := ⟨gb341, 0, none⟩) (Kd.R_types HO_13.out BK341.out (by decide)) (fun _ hk => hk.2) (.int .i64 ((rd_T66 t329 x16_3).f0))) (fun _ hk => hk.2) (.int .i64 ((rd_T66 t329 x16_3).f1))) (fun _ hk => hk.2) (.int .i64 ((rd_T66 t329 x16_3).f2))) (fun _ hk => hk.2) (.int .i64 ((rd_T66 t329 x16_3).f3))) (fun _ hk => hk.2) (.int .i64 ((rd_T66 t329 x16_3).f4))) (fun _ hk => trivial)⟩, ⟨by (with_reducible repeat (first | refine bkD ?_ _ | refine blk_drew ?_ | refine bkA ?_ _)); refine blk_put (cs := #[.int .i64 ((rd_T66 t329 x16_3).f0), .int .i64 ((rd_T66 t329 x16_3).f1), .int .i64 ((rd_T66 t329 x16_3).f2), .int .i64 ((rd_T66 t329 x16_3).f3), .int .i64 0]) ?_ 4 _ rfl; (with_reducible repeat (first | refine bkD ?_ _ | refine blk_drew ?_ | refine bkA ?_ _)); refine blk_put (cs := #[.int .i64 ((rd_T66 t329 x16_3).f0), .int .i64 ((rd_T66 t329 x16_3).f1), .int .i64 ((rd_T66 t329 x16_3).f2), .int .i64 0, .int .i64 0]) ?_ 3 _ rfl; (with_reducible repeat (first | refine bkD ?_ _ | refine blk_drew ?_ | refine bkA ?_ _)); refine blk_put (cs := #[.int .i64 ((rd_T66 t329 x16_3).f0), .int .i64 ((rd_T66 t329 x16_3).f1), .int .i64 0, .int .i64 0, .int .i64 0]) ?_ 2 _ rfl; (with_reducible repeat (first | refine bkD ?_ _ | refine blk_drew ?_ | refine bkA ?_ _)); refine blk_put (cs := #[.int .i64 ((rd_T66 t329 x16_3).f0), .int .i64 0, .int .i64 0, .int .i64 0, .int .i64 0]) ?_ 1 _ rfl; (with_reducible repeat (first | refine bkD ?_ _ | refine blk_drew ?_ | refine bkA ?_ _)); refine blk_put (cs := #[.int .i64 0, .int .i64 0, .int .i64 0, .int .i64 0, .int .i64 0]) ?_ 0 _ rfl; (with_reducible repeat (first | refine bkD ?_ _ | refine blk_drew ?_ | refine bkA ?_ _)); exact BK341.out⟩, ⟨by repeat (first | (with_reducible first | exact HB.out | apply bAl | apply bDn | apply bD1 | refine bSe ?_ GE341.out) | exact HB.out)⟩⟩
                            · rw [if_neg c41] at H
                              have c41b0 : decide ((rd t333 x16_3) < ((rd_T66 t329 x16_3).f3)) = false := decide_eq_false c41
                              clear c41
                              (first | rw [c41b0] | (simp only [i64_w, i32_w]; rw [c41b0]) | skip)
                              by_cases c43 : ((rd_T66 t329 x16_3).f4) ≥ ((rd_T66 t329 x16_3).f3)
                              · rw [if_pos c43] at H
                                have c43b0 : decide (((rd_T66 t329 x16_3).f3) ≤ ((rd_T66 t329 x16_3).f4)) = true := decide_eq_true c43
                                clear c43
                                have H' := aMk H
                                clear H
                                have p342 : 0 ≤ (x16_3 : Int) := oDt (by first | (with_reducible assumption) | assumption)
                                have q342 : x16_3 < (t333.length : Int) := oDt (by first | (with_reducible assumption) | assumption)
                                obtain ⟨ad342, e342, hx342_0⟩ := Kd.at_int (Kd.R_reads' HO_13.out).2.2 x16_3 p342 q342
                                cases e342
                                have hn342_0 : ad342.block ≠ gb341 := Kd.own_blk (Kd.R_ne HO_13.out BK341.out (by decide))
                                have hn342_1 : ad342.block ≠ gb341 := Kd.own_blk (Kd.R_ne HO_13.out BK341.out (by decide))
                                have hn342_2 : ad342.block ≠ gb341 := Kd.own_blk (Kd.R_ne HO_13.out BK341.out (by decide))
                                have hn342_3 : ad342.block ≠ gb341 := Kd.own_blk (Kd.R_ne HO_13.out BK341.out (by decide))
                                have hn342_4 : ad342.block ≠ gb341 := Kd.own_blk (Kd.R_ne HO_13.out BK341.out (by decide))
                                replace hx342_0 := (cell_far (p := ⟨gb341, 0, none⟩) (by first | (rw [add_block]; exact hn342_0) | (show (Addr.add _ _).block ≠ _; rw [add_block]; exact hn342_0) | exact hn342_0) (.int .i64 ((rd_T66 t329 x16_3).f0))).trans hx342_0
                                replace hx342_0 := (cell_far (p := ⟨gb341, 1, none⟩) (by first | (rw [add_block]; exact hn342_1) | (show (Addr.add _ _).block ≠ _; rw [add_block]; exact hn342_1) | exact hn342_1) (.int .i64 ((rd_T66 t329 x16_3).f1))).trans hx342_0
                                replace hx342_0 := (cell_far (p := ⟨gb341, 2, none⟩) (by first | (rw [add_block]; exact hn342_2) | (show (Addr.add _ _).block ≠ _; rw [add_block]; exact hn342_2) | exact hn342_2) (.int .i64 ((rd_T66 t329 x16_3).f2))).trans hx342_0
                                replace hx342_0 := (cell_far (p := ⟨gb341, 3, none⟩) (by first | (rw [add_block]; exact hn342_3) | (show (Addr.add _ _).block ≠ _; rw [add_block]; exact hn342_3) | exact hn342_3) (.int .i64 ((rd_T66 t329 x16_3).f3))).trans hx342_0
                                replace hx342_0 := (cell_far (p := ⟨gb341, 4, none⟩) (by first | (rw [add_block]; exact hn342_4) | (show (Addr.add _ _).block ≠ _; rw [add_block]; exact hn342_4) | exact hn342_4) (.int .i64 ((rd_T66 t329 x16_3).f4))).trans hx342_0
                                (try have hy342_0 := fun (n_ : Nat) => (show (((((((w39.drewN n_).setCell ⟨gb341, 0, none⟩ (.int .i64 ((rd_T66 t329 x16_3).f0))).setCell ⟨gb341, 1, none⟩ (.int .i64 ((rd_T66 t329 x16_3).f1))).setCell ⟨gb341, 2, none⟩ (.int .i64 ((rd_T66 t329 x16_3).f2))).setCell ⟨gb341, 3, none⟩ (.int .i64 ((rd_T66 t329 x16_3).f3))).setCell ⟨gb341, 4, none⟩ (.int .i64 ((rd_T66 t329 x16_3).f4)))).cell? _ = some _ from hx342_0))
                                clear hn342_0
                                clear hn342_1
                                clear hn342_2
                                clear hn342_3
                                clear hn342_4
                                replace p342 := eq_true p342
                                replace q342 := eq_true q342
                                have hcz44_0 : w39.cell? ⟨gb341, 0, none⟩ = some (.int .i64 0) := (bCe BK341.out 0).trans rfl
                                have hcz44_1 : w39.cell? ⟨gb341, 1, none⟩ = some (.int .i64 0) := (bCe BK341.out 1).trans rfl
                                have hcz44_2 : w39.cell? ⟨gb341, 2, none⟩ = some (.int .i64 0) := (bCe BK341.out 2).trans rfl
                                have hcz44_3 : w39.cell? ⟨gb341, 3, none⟩ = some (.int .i64 0) := (bCe BK341.out 3).trans rfl
                                have hcz44_4 : w39.cell? ⟨gb341, 4, none⟩ = some (.int .i64 0) := (bCe BK341.out 4).trans rfl
                                have hfz44_0 := bFr BK341.out 0
                                have hfz44_1 := bFr BK341.out 1
                                have hfz44_2 := bFr BK341.out 2
                                have hfz44_3 := bFr BK341.out 3
                                have hfz44_4 := bFr BK341.out 4
                                have p343 : 0 ≤ (x16_3 : Int) := oDt (by first | (with_reducible assumption) | assumption)
                                have q343 : x16_3 < (t333.length : Int) := oDt (by first | (with_reducible assumption) | assumption)
                                obtain ⟨ad343, e343, hx343_0⟩ := Kd.at_int (Kd.R_reads' HO_13.out).2.2 x16_3 p343 q343
                                obtain rfl : ad342 = ad343 := (by injection e343)
                                have hn343_0 : ad342.block ≠ gb341 := Kd.own_blk (Kd.R_ne HO_13.out BK341.out (by decide))
                                have hn343_1 : ad342.block ≠ gb341 := Kd.own_blk (Kd.R_ne HO_13.out BK341.out (by decide))
                                have hn343_2 : ad342.block ≠ gb341 := Kd.own_blk (Kd.R_ne HO_13.out BK341.out (by decide))
                                have hn343_3 : ad342.block ≠ gb341 := Kd.own_blk (Kd.R_ne HO_13.out BK341.out (by decide))
                                have hn343_4 : ad342.block ≠ gb341 := Kd.own_blk (Kd.R_ne HO_13.out BK341.out (by decide))
                                replace hx343_0 := (cell_far (p := ⟨gb341, 0, none⟩) (by first | (rw [add_block]; exact hn343_0) | (show (Addr.add _ _).block ≠ _; rw [add_block]; exact hn343_0) | exact hn343_0) (.int .i64 ((rd_T66 t329 x16_3).f0))).trans hx343_0
                                replace hx343_0 := (cell_far (p := ⟨gb341, 1, none⟩) (by first | (rw [add_block]; exact hn343_1) | (show (Addr.add _ _).block ≠ _; rw [add_block]; exact hn343_1) | exact hn343_1) (.int .i64 ((rd_T66 t329 x16_3).f1))).trans hx343_0
                                replace hx343_0 := (cell_far (p := ⟨gb341, 2, none⟩) (by first | (rw [add_block]; exact hn343_2) | (show (Addr.add _ _).block ≠ _; rw [add_block]; exact hn343_2) | exact hn343_2) (.int .i64 ((rd_T66 t329 x16_3).f2))).trans hx343_0
                                replace hx343_0 := (cell_far (p := ⟨gb341, 3, none⟩) (by first | (rw [add_block]; exact hn343_3) | (show (Addr.add _ _).block ≠ _; rw [add_block]; exact hn343_3) | exact hn343_3) (.int .i64 ((rd_T66 t329 x16_3).f3))).trans hx343_0
                                replace hx343_0 := (cell_far (p := ⟨gb341, 4, none⟩) (by first | (rw [add_block]; exact hn343_4) | (show (Addr.add _ _).block ≠ _; rw [add_block]; exact hn343_4) | exact hn343_4) (.int .i64 ((rd_T66 t329 x16_3).f4))).trans hx343_0
                                (try have hy343_0 := fun (n_ : Nat) => (show (((((((w39.drewN n_).setCell ⟨gb341, 0, none⟩ (.int .i64 ((rd_T66 t329 x16_3).f0))).setCell ⟨gb341, 1, none⟩ (.int .i64 ((rd_T66 t329 x16_3).f1))).setCell ⟨gb341, 2, none⟩ (.int .i64 ((rd_T66 t329 x16_3).f2))).setCell ⟨gb341, 3, none⟩ (.int .i64 ((rd_T66 t329 x16_3).f3))).setCell ⟨gb341, 4, none⟩ (.int .i64 ((rd_T66 t329 x16_3).f4)))).cell? _ = some _ from hx343_0))
                                clear hn343_0
                                clear hn343_1
                                clear hn343_2
                                clear hn343_3
                                clear hn343_4
                                replace p343 := eq_true p343
                                replace q343 := eq_true q343
                                go_wp2
                                repeat (go_quiet (fail); try go_wp2)
                                go_meet
                                case rel => exact ⟨_, (decide ((rd t333 x16_3) > ((rd_T66 t329 x16_3).f4))), (by first | rfl | (simp; done) | (simp [*]; done)), H', ⟨by have := HK1.out; have := HJ20.out; have := HK3.out; first | omega | exact Nat.le_refl _⟩, ⟨by (with_reducible repeat (first | apply Kd.R_alloc | apply Kd.R_drewN | apply Kd.R_drew)); exact Kd.R_mono (Kd.R_far (p := ⟨gb341, 4, none⟩) (Kd.R_far (p := ⟨gb341, 3, none⟩) (Kd.R_far (p := ⟨gb341, 2, none⟩) (Kd.R_far (p := ⟨gb341, 1, none⟩) (Kd.R_far (p := ⟨gb341, 0, none⟩) (Kd.R_mono HO_11.out (fun k_ hk => (⟨hk, hk.2⟩ : _ ∧ k_ ≠ gb341))) (fun _ hk => hk.2) (.int .i64 ((rd_T66 t329 x16_3).f0))) (fun _ hk => hk.2) (.int .i64 ((rd_T66 t329 x16_3).f1))) (fun _ hk => hk.2) (.int .i64 ((rd_T66 t329 x16_3).f2))) (fun _ hk => hk.2) (.int .i64 ((rd_T66 t329 x16_3).f3))) (fun _ hk => hk.2) (.int .i64 ((rd_T66 t329 x16_3).f4))) (fun _ hk => hk.1.2)⟩, ⟨by (with_reducible repeat (first | apply Kd.R_alloc | apply Kd.R_drewN | apply Kd.R_drew)); exact Kd.R_mono (Kd.R_far (p := ⟨gb341, 4, none⟩) (Kd.R_far (p := ⟨gb341, 3, none⟩) (Kd.R_far (p := ⟨gb341, 2, none⟩) (Kd.R_far (p := ⟨gb341, 1, none⟩) (Kd.R_far (p := ⟨gb341, 0, none⟩) (Kd.R_types HO_13.out BK341.out (by decide)) (fun _ hk => hk.2) (.int .i64 ((rd_T66 t329 x16_3).f0))) (fun _ hk => hk.2) (.int .i64 ((rd_T66 t329 x16_3).f1))) (fun _ hk => hk.2) (.int .i64 ((rd_T66 t329 x16_3).f2))) (fun _ hk => hk.2) (.int .i64 ((rd_T66 t329 x16_3).f3))) (fun _ hk => hk.2) (.int .i64 ((rd_T66 t329 x16_3).f4))) (fun _ hk => trivial)⟩, ⟨by (with_reducible repeat (first | refine bkD ?_ _ | refine blk_drew ?_ | refine bkA ?_ _)); refine blk_put (cs := #[.int .i64 ((rd_T66 t329 x16_3).f0), .int .i64 ((rd_T66 t329 x16_3).f1), .int .i64 ((rd_T66 t329 x16_3).f2), .int .i64 ((rd_T66 t329 x16_3).f3), .int .i64 0]) ?_ 4 _ rfl; (with_reducible repeat (first | refine bkD ?_ _ | refine blk_drew ?_ | refine bkA ?_ _)); refine blk_put (cs := #[.int .i64 ((rd_T66 t329 x16_3).f0), .int .i64 ((rd_T66 t329 x16_3).f1), .int .i64 ((rd_T66 t329 x16_3).f2), .int .i64 0, .int .i64 0]) ?_ 3 _ rfl; (with_reducible repeat (first | refine bkD ?_ _ | refine blk_drew ?_ | refine bkA ?_ _)); refine blk_put (cs := #[.int .i64 ((rd_T66 t329 x16_3).f0), .int .i64 ((rd_T66 t329 x16_3).f1), .int .i64 0, .int .i64 0, .int .i64 0]) ?_ 2 _ rfl; (with_reducible repeat (first | refine bkD ?_ _ | refine blk_drew ?_ | refine bkA ?_ _)); refine blk_put (cs := #[.int .i64 ((rd_T66 t329 x16_3).f0), .int .i64 0, .int .i64 0, .int .i64 0, .int .i64 0]) ?_ 1 _ rfl; (with_reducible repeat (first | refine bkD ?_ _ | refine blk_drew ?_ | refine bkA ?_ _)); refine blk_put (cs := #[.int .i64 0, .int .i64 0, .int .i64 0, .int .i64 0, .int .i64 0]) ?_ 0 _ rfl; (with_reducible repeat (first | refine bkD ?_ _ | refine blk_drew ?_ | refine bkA ?_ _)); exact BK341.out⟩, ⟨by repeat (first | (with_reducible first | exact HB.out | apply bAl | apply bDn | apply bD1 | refine bSe ?_ GE341.out) | exact HB.out)⟩⟩
                              · rw [if_neg c43] at H
                                have c43b0 : decide (((rd_T66 t329 x16_3).f3) ≤ ((rd_T66 t329 x16_3).f4)) = false := decide_eq_false c43
                                clear c43
                                have H' := aMk H
                                clear H
                                have p342 : 0 ≤ (x16_3 : Int) := oDt (by first | (with_reducible assumption) | assumption)
                                have q342 : x16_3 < (t333.length : Int) := oDt (by first | (with_reducible assumption) | assumption)
                                obtain ⟨ad342, e342, hx342_0⟩ := Kd.at_int (Kd.R_reads' HO_13.out).2.2 x16_3 p342 q342
                                cases e342
                                have hn342_0 : ad342.block ≠ gb341 := Kd.own_blk (Kd.R_ne HO_13.out BK341.out (by decide))
                                have hn342_1 : ad342.block ≠ gb341 := Kd.own_blk (Kd.R_ne HO_13.out BK341.out (by decide))
                                have hn342_2 : ad342.block ≠ gb341 := Kd.own_blk (Kd.R_ne HO_13.out BK341.out (by decide))
                                have hn342_3 : ad342.block ≠ gb341 := Kd.own_blk (Kd.R_ne HO_13.out BK341.out (by decide))
                                have hn342_4 : ad342.block ≠ gb341 := Kd.own_blk (Kd.R_ne HO_13.out BK341.out (by decide))
                                replace hx342_0 := (cell_far (p := ⟨gb341, 0, none⟩) (by first | (rw [add_block]; exact hn342_0) | (show (Addr.add _ _).block ≠ _; rw [add_block]; exact hn342_0) | exact hn342_0) (.int .i64 ((rd_T66 t329 x16_3).f0))).trans hx342_0
                                replace hx342_0 := (cell_far (p := ⟨gb341, 1, none⟩) (by first | (rw [add_block]; exact hn342_1) | (show (Addr.add _ _).block ≠ _; rw [add_block]; exact hn342_1) | exact hn342_1) (.int .i64 ((rd_T66 t329 x16_3).f1))).trans hx342_0
                                replace hx342_0 := (cell_far (p := ⟨gb341, 2, none⟩) (by first | (rw [add_block]; exact hn342_2) | (show (Addr.add _ _).block ≠ _; rw [add_block]; exact hn342_2) | exact hn342_2) (.int .i64 ((rd_T66 t329 x16_3).f2))).trans hx342_0
                                replace hx342_0 := (cell_far (p := ⟨gb341, 3, none⟩) (by first | (rw [add_block]; exact hn342_3) | (show (Addr.add _ _).block ≠ _; rw [add_block]; exact hn342_3) | exact hn342_3) (.int .i64 ((rd_T66 t329 x16_3).f3))).trans hx342_0
                                replace hx342_0 := (cell_far (p := ⟨gb341, 4, none⟩) (by first | (rw [add_block]; exact hn342_4) | (show (Addr.add _ _).block ≠ _; rw [add_block]; exact hn342_4) | exact hn342_4) (.int .i64 ((rd_T66 t329 x16_3).f4))).trans hx342_0
                                (try have hy342_0 := fun (n_ : Nat) => (show (((((((w39.drewN n_).setCell ⟨gb341, 0, none⟩ (.int .i64 ((rd_T66 t329 x16_3).f0))).setCell ⟨gb341, 1, none⟩ (.int .i64 ((rd_T66 t329 x16_3).f1))).setCell ⟨gb341, 2, none⟩ (.int .i64 ((rd_T66 t329 x16_3).f2))).setCell ⟨gb341, 3, none⟩ (.int .i64 ((rd_T66 t329 x16_3).f3))).setCell ⟨gb341, 4, none⟩ (.int .i64 ((rd_T66 t329 x16_3).f4)))).cell? _ = some _ from hx342_0))
                                clear hn342_0
                                clear hn342_1
                                clear hn342_2
                                clear hn342_3
                                clear hn342_4
                                replace p342 := eq_true p342
                                replace q342 := eq_true q342
                                have hcz45_0 : w39.cell? ⟨gb341, 0, none⟩ = some (.int .i64 0) := (bCe BK341.out 0).trans rfl
                                have hcz45_1 : w39.cell? ⟨gb341, 1, none⟩ = some (.int .i64 0) := (bCe BK341.out 1).trans rfl
                                have hcz45_2 : w39.cell? ⟨gb341, 2, none⟩ = some (.int .i64 0) := (bCe BK341.out 2).trans rfl
                                have hcz45_3 : w39.cell? ⟨gb341, 3, none⟩ = some (.int .i64 0) := (bCe BK341.out 3).trans rfl
                                have hcz45_4 : w39.cell? ⟨gb341, 4, none⟩ = some (.int .i64 0) := (bCe BK341.out 4).trans rfl
                                have hfz45_0 := bFr BK341.out 0
                                have hfz45_1 := bFr BK341.out 1
                                have hfz45_2 := bFr BK341.out 2
                                have hfz45_3 := bFr BK341.out 3
                                have hfz45_4 := bFr BK341.out 4
                                go_wp2
                                repeat (go_quiet (fail); try go_wp2)
                                go_meet
                                case rel => exact ⟨_, (false), (by first | rfl | (simp; done) | (simp [*]; done)), H', ⟨by have := HK1.out; have := HJ20.out; have := HK3.out; first | omega | exact Nat.le_refl _⟩, ⟨by (with_reducible repeat (first | apply Kd.R_alloc | apply Kd.R_drewN | apply Kd.R_drew)); exact Kd.R_mono (Kd.R_far (p := ⟨gb341, 4, none⟩) (Kd.R_far (p := ⟨gb341, 3, none⟩) (Kd.R_far (p := ⟨gb341, 2, none⟩) (Kd.R_far (p := ⟨gb341, 1, none⟩) (Kd.R_far (p := ⟨gb341, 0, none⟩) (Kd.R_mono HO_11.out (fun k_ hk => (⟨hk, hk.2⟩ : _ ∧ k_ ≠ gb341))) (fun _ hk => hk.2) (.int .i64 ((rd_T66 t329 x16_3).f0))) (fun _ hk => hk.2) (.int .i64 ((rd_T66 t329 x16_3).f1))) (fun _ hk => hk.2) (.int .i64 ((rd_T66 t329 x16_3).f2))) (fun _ hk => hk.2) (.int .i64 ((rd_T66 t329 x16_3).f3))) (fun _ hk => hk.2) (.int .i64 ((rd_T66 t329 x16_3).f4))) (fun _ hk => hk.1.2)⟩, ⟨by (with_reducible repeat (first | apply Kd.R_alloc | apply Kd.R_drewN | apply Kd.R_drew)); exact Kd.R_mono (Kd.R_far (p := ⟨gb341, 4, none⟩) (Kd.R_far (p := ⟨gb341, 3, none⟩) (Kd.R_far (p := ⟨gb341, 2, none⟩) (Kd.R_far (p := ⟨gb341, 1, none⟩) (Kd.R_far (p := ⟨gb341, 0, none⟩) (Kd.R_types HO_13.out BK341.out (by decide)) (fun _ hk => hk.2) (.int .i64 ((rd_T66 t329 x16_3).f0))) (fun _ hk => hk.2) (.int .i64 ((rd_T66 t329 x16_3).f1))) (fun _ hk => hk.2) (.int .i64 ((rd_T66 t329 x16_3).f2))) (fun _ hk => hk.2) (.int .i64 ((rd_T66 t329 x16_3).f3))) (fun _ hk => hk.2) (.int .i64 ((rd_T66 t329 x16_3).f4))) (fun _ hk => trivial)⟩, ⟨by (with_reducible repeat (first | refine bkD ?_ _ | refine blk_drew ?_ | refine bkA ?_ _)); refine blk_put (cs := #[.int .i64 ((rd_T66 t329 x16_3).f0), .int .i64 ((rd_T66 t329 x16_3).f1), .int .i64 ((rd_T66 t329 x16_3).f2), .int .i64 ((rd_T66 t329 x16_3).f3), .int .i64 0]) ?_ 4 _ rfl; (with_reducible repeat (first | refine bkD ?_ _ | refine blk_drew ?_ | refine bkA ?_ _)); refine blk_put (cs := #[.int .i64 ((rd_T66 t329 x16_3).f0), .int .i64 ((rd_T66 t329 x16_3).f1), .int .i64 ((rd_T66 t329 x16_3).f2), .int .i64 0, .int .i64 0]) ?_ 3 _ rfl; (with_reducible repeat (first | refine bkD ?_ _ | refine blk_drew ?_ | refine bkA ?_ _)); refine blk_put (cs := #[.int .i64 ((rd_T66 t329 x16_3).f0), .int .i64 ((rd_T66 t329 x16_3).f1), .int .i64 0, .int .i64 0, .int .i64 0]) ?_ 2 _ rfl; (with_reducible repeat (first | refine bkD ?_ _ | refine blk_drew ?_ | refine bkA ?_ _)); refine blk_put (cs := #[.int .i64 ((rd_T66 t329 x16_3).f0), .int .i64 0, .int .i64 0, .int .i64 0, .int .i64 0]) ?_ 1 _ rfl; (with_reducible repeat (first | refine bkD ?_ _ | refine blk_drew ?_ | refine bkA ?_ _)); refine blk_put (cs := #[.int .i64 0, .int .i64 0, .int .i64 0, .int .i64 0, .int .i64 0]) ?_ 0 _ rfl; (with_reducible repeat (first | refine bkD ?_ _ | refine blk_drew ?_ | refine bkA ?_ _)); exact BK341.out⟩, ⟨by repeat (first | (with_reducible first | exact HB.out | apply bAl | apply bDn | apply bD1 | refine bSe ?_ GE341.out) | exact HB.out)⟩⟩
                           case rest =>
                            clear HC38
                            try clear c1
                            try clear c2
                            try clear p2
                            try clear c3
                            try clear p3
                            try clear q3
                            try clear hx3
                            try clear c4
                            try clear c5
                            try clear c5b0
                            try clear c5b1
                            try clear c6
                            try clear c6b0
                            try clear c6b1
                            try clear p6
                            try clear c10
                            try clear c11
                            try clear c18
                            try clear c18b0
                            try clear c19
                            try clear c19b0
                            try clear c20
                            try clear c20b0
                            try clear c22
                            try clear c22b0
                            try clear c22b1
                            try clear c23
                            try clear c28
                            try clear p32
                            try clear q32
                            try clear hx32
                            try clear p34
                            try clear q34
                            try clear hx34
                            try clear c35
                            try clear c35b0
                            try clear c36
                            try clear c36b0
                            try clear c37
                            try clear c37b0
                            try clear c41
                            try clear c41b0
                            try clear c43
                            try clear c43b0
                            try clear hcz40_0
                            try clear hcz40_1
                            try clear hcz40_2
                            try clear hcz40_3
                            try clear hcz40_4
                            try clear hcz42_0
                            try clear hcz42_1
                            try clear hcz42_2
                            try clear hcz42_3
                            try clear hcz42_4
                            try clear hcz44_0
                            try clear hcz44_1
                            try clear hcz44_2
                            try clear hcz44_3
                            try clear hcz44_4
                            try clear hcz45_0
                            try clear hcz45_1
                            try clear hcz45_2
                            try clear hcz45_3
                            try clear hcz45_4
                            try clear hfz40_0
                            try clear hfz40_1
                            try clear hfz40_2
                            try clear hfz40_3
                            try clear hfz40_4
                            try clear hfz42_0
                            try clear hfz42_1
                            try clear hfz42_2
                            try clear hfz42_3
                            try clear hfz42_4
                            try clear hfz44_0
                            try clear hfz44_1
                            try clear hfz44_2
                            try clear hfz44_3
                            try clear hfz44_4
                            try clear hfz45_0
                            try clear hfz45_1
                            try clear hfz45_2
                            try clear hfz45_3
                            try clear hfz45_4
                            try clear hx327_0
                            try clear hx328_0
                            try clear hx340_0
                            try clear hx340_1
                            try clear hx340_2
                            try clear hx340_3
                            try clear hx340_4
                            try clear hx342_0
                            try clear hx343_0
                            try clear p2
                            try clear p3
                            try clear p32
                            try clear p327
                            try clear p328
                            try clear p340
                            try clear p342
                            try clear p343
                            try clear p6
                            try clear q3
                            try clear q32
                            try clear q327
                            try clear q328
                            try clear q340
                            try clear q342
                            try clear q343
                            obtain ⟨kq, x128_37, rfl, HA, HJ37, HO_11, HO_13, BK341, HB⟩ := hcut
                            cases kq with
                            | zero => exact absurd HA.out (by simp [laws_FnShares.j3])
                            | succ kj37 =>
                             have H := HA.out
                             clear HA
                             simp only [laws_FnShares.j3] at H
                             by_cases c46 : x128_37 = true
                             · subst c46
                               have H1 : (some false) = some r := by rw [if_pos rfl] at H; exact H
                               clear H
                               have H := H1
                               clear H1
                               obtain rfl := Option.some.inj H
                               go_wp2
                               repeat (go_quiet (fail); try go_wp2)
                               go_ret
                               exact ⟨by first | rfl | (simp [errW_none, errW_some] <;> rfl) | (simp [*, errW_none, errW_some] <;> rfl), by repeat (first | (with_reducible first | exact HB.out | apply bAl | apply bDn | apply bD1 | refine bSe ?_ GE341.out) | exact HB.out)⟩
                             · replace c46 := Bool.eq_false_iff.mpr c46
                               subst c46
                               have H1 : (if ((rd_T66 t329 x16_3).f4) ≥ 0 then (laws_FnShares.j4 kj37 x9_3 t329 t330 t333 x14_3 x15_3 x16_3 ((rd_T66 t329 x16_3).f0) (decide (((rd_T66 t329 x16_3).f0) > ((rd_T66 t329 x16_3).f4))) ((rd_T66 t329 x16_3).f0) ((rd_T66 t329 x16_3).f1) ((rd_T66 t329 x16_3).f2) ((rd_T66 t329 x16_3).f3) ((rd_T66 t329 x16_3).f4)) else (laws_FnShares.j4 kj37 x9_3 t329 t330 t333 x14_3 x15_3 x16_3 ((rd_T66 t329 x16_3).f0) false ((rd_T66 t329 x16_3).f0) ((rd_T66 t329 x16_3).f1) ((rd_T66 t329 x16_3).f2) ((rd_T66 t329 x16_3).f3) ((rd_T66 t329 x16_3).f4))) = some r := by rw [if_neg (show ¬ (false = true) by decide)] at H; exact H
                               clear H
                               have H := H1
                               clear H1
                               have HC47 := aMk H
                               clear H
                               have hcz48_0 : wc.cell? ⟨gb341, 0, none⟩ = some (.int .i64 ((rd_T66 t329 x16_3).f0)) := (bCe BK341.out 0).trans rfl
                               have hcz48_1 : wc.cell? ⟨gb341, 1, none⟩ = some (.int .i64 ((rd_T66 t329 x16_3).f1)) := (bCe BK341.out 1).trans rfl
                               have hcz48_2 : wc.cell? ⟨gb341, 2, none⟩ = some (.int .i64 ((rd_T66 t329 x16_3).f2)) := (bCe BK341.out 2).trans rfl
                               have hcz48_3 : wc.cell? ⟨gb341, 3, none⟩ = some (.int .i64 ((rd_T66 t329 x16_3).f3)) := (bCe BK341.out 3).trans rfl
                               have hcz48_4 : wc.cell? ⟨gb341, 4, none⟩ = some (.int .i64 ((rd_T66 t329 x16_3).f4)) := (bCe BK341.out 4).trans rfl
                               have hfz48_0 := bFr BK341.out 0
                               have hfz48_1 := bFr BK341.out 1
                               have hfz48_2 := bFr BK341.out 2
                               have hfz48_3 := bFr BK341.out 3
                               have hfz48_4 := bFr BK341.out 4
                               go_upto_region 35 with (fail)
                               repeat (go_quiet (fail); go_upto_region 35 with (fail))
                               go_cut [139] (fun v139 wc => ∃ (kq : Nat) (x139_46 : Bool), v139 = .bool x139_46 ∧ Aside0 (laws_FnShares.j4 kq x9_3 t329 t330 t333 x14_3 x15_3 x16_3 ((rd_T66 t329 x16_3).f0) x139_46 ((rd_T66 t329 x16_3).f0) ((rd_T66 t329 x16_3).f1) ((rd_T66 t329 x16_3).f2) ((rd_T66 t329 x16_3).f3) ((rd_T66 t329 x16_3).f4) = some r) ∧ Aside0 (kq ≤ kj37) ∧ Aside0 (Kd.R k66 66 wc w.heap.size (fun k_ => k_ ≠ gb341) (.slice (some ad340) t329.length co30) t329) ∧ Aside0 (Kd.R (Kd.int .i64) 3 wc w.heap.size (fun _ => True) (.slice Ao33 t333.length co33) t333) ∧ Aside0 (wc.heap[gb341]? = some (.cells #[.int .i64 ((rd_T66 t329 x16_3).f0), .int .i64 ((rd_T66 t329 x16_3).f1), .int .i64 ((rd_T66 t329 x16_3).f2), .int .i64 ((rd_T66 t329 x16_3).f3), .int .i64 ((rd_T66 t329 x16_3).f4)] 66 (0, 0))) ∧ Aside0 (Below w.heap.size w wc))
                               case first =>
                                have H := HC47.out
                                clear HC47
                                by_cases c49 : ((rd_T66 t329 x16_3).f4) ≥ 0
                                · rw [if_pos c49] at H
                                  have c49b0 : decide (0 ≤ ((rd_T66 t329 x16_3).f4)) = true := decide_eq_true c49
                                  clear c49
                                  (first | rw [c49b0] | (simp only [i64_w, i32_w]; rw [c49b0]) | skip)
                                  have H' := aMk H
                                  clear H
                                  have hcz50_0 : wc.cell? ⟨gb341, 0, none⟩ = some (.int .i64 ((rd_T66 t329 x16_3).f0)) := (bCe BK341.out 0).trans rfl
                                  have hcz50_1 : wc.cell? ⟨gb341, 1, none⟩ = some (.int .i64 ((rd_T66 t329 x16_3).f1)) := (bCe BK341.out 1).trans rfl
                                  have hcz50_2 : wc.cell? ⟨gb341, 2, none⟩ = some (.int .i64 ((rd_T66 t329 x16_3).f2)) := (bCe BK341.out 2).trans rfl
                                  have hcz50_3 : wc.cell? ⟨gb341, 3, none⟩ = some (.int .i64 ((rd_T66 t329 x16_3).f3)) := (bCe BK341.out 3).trans rfl
                                  have hcz50_4 : wc.cell? ⟨gb341, 4, none⟩ = some (.int .i64 ((rd_T66 t329 x16_3).f4)) := (bCe BK341.out 4).trans rfl
                                  have hfz50_0 := bFr BK341.out 0
                                  have hfz50_1 := bFr BK341.out 1
                                  have hfz50_2 := bFr BK341.out 2
                                  have hfz50_3 := bFr BK341.out 3
                                  have hfz50_4 := bFr BK341.out 4
                                  go_wp2
                                  repeat (go_quiet (fail); try go_wp2)
                                  go_meet
                                  case rel => exact ⟨_, (decide (((rd_T66 t329 x16_3).f0) > ((rd_T66 t329 x16_3).f4))), (by first | rfl | (simp; done) | (simp [*]; done)), H', ⟨by have := HK1.out; have := HJ20.out; have := HK3.out; have := HJ37.out; first | omega | exact Nat.le_refl _⟩, ⟨by (with_reducible repeat (first | apply Kd.R_alloc | apply Kd.R_drewN | apply Kd.R_drew)); exact HO_11.out⟩, ⟨by (with_reducible repeat (first | apply Kd.R_alloc | apply Kd.R_drewN | apply Kd.R_drew)); exact HO_13.out⟩, ⟨by (with_reducible repeat (first | refine bkD ?_ _ | refine blk_drew ?_ | refine bkA ?_ _)); exact BK341.out⟩, ⟨by repeat (first | (with_reducible first | exact HB.out | apply bAl | apply bDn | apply bD1 | refine bSe ?_ GE341.out) | exact HB.out)⟩⟩
                                · rw [if_neg c49] at H
                                  have c49b0 : decide (0 ≤ ((rd_T66 t329 x16_3).f4)) = false := decide_eq_false c49
                                  clear c49
                                  (first | rw [c49b0] | (simp only [i64_w, i32_w]; rw [c49b0]) | skip)
                                  have H' := aMk H
                                  clear H
                                  have hcz51_0 : wc.cell? ⟨gb341, 0, none⟩ = some (.int .i64 ((rd_T66 t329 x16_3).f0)) := (bCe BK341.out 0).trans rfl
                                  have hcz51_1 : wc.cell? ⟨gb341, 1, none⟩ = some (.int .i64 ((rd_T66 t329 x16_3).f1)) := (bCe BK341.out 1).trans rfl
                                  have hcz51_2 : wc.cell? ⟨gb341, 2, none⟩ = some (.int .i64 ((rd_T66 t329 x16_3).f2)) := (bCe BK341.out 2).trans rfl
                                  have hcz51_3 : wc.cell? ⟨gb341, 3, none⟩ = some (.int .i64 ((rd_T66 t329 x16_3).f3)) := (bCe BK341.out 3).trans rfl
                                  have hcz51_4 : wc.cell? ⟨gb341, 4, none⟩ = some (.int .i64 ((rd_T66 t329 x16_3).f4)) := (bCe BK341.out 4).trans rfl
                                  have hfz51_0 := bFr BK341.out 0
                                  have hfz51_1 := bFr BK341.out 1
                                  have hfz51_2 := bFr BK341.out 2
                                  have hfz51_3 := bFr BK341.out 3
                                  have hfz51_4 := bFr BK341.out 4
                                  go_wp2
                                  repeat (go_quiet (fail); try go_wp2)
                                  go_meet
                                  case rel => exact ⟨_, (false), (by first | rfl | (simp; done) | (simp [*]; done)), H', ⟨by have := HK1.out; have := HJ20.out; have := HK3.out; have := HJ37.out; first | omega | exact Nat.le_refl _⟩, ⟨by (with_reducible repeat (first | apply Kd.R_alloc | apply Kd.R_drewN | apply Kd.R_drew)); exact HO_11.out⟩, ⟨by (with_reducible repeat (first | apply Kd.R_alloc | apply Kd.R_drewN | apply Kd.R_drew)); exact HO_13.out⟩, ⟨by (with_reducible repeat (first | refine bkD ?_ _ | refine blk_drew ?_ | refine bkA ?_ _)); exact BK341.out⟩, ⟨by repeat (first | (with_reducible first | exact HB.out | apply bAl | apply bDn | apply bD1 | refine bSe ?_ GE341.out) | exact HB.out)⟩⟩
                               case rest =>
                                clear HC47
                                try clear c1
                                try clear c2
                                try clear p2
                                try clear c3
                                try clear p3
                                try clear q3
                                try clear hx3
                                try clear c4
                                try clear c5
                                try clear c5b0
                                try clear c5b1
                                try clear c6
                                try clear c6b0
                                try clear c6b1
                                try clear p6
                                try clear c10
                                try clear c11
                                try clear c18
                                try clear c18b0
                                try clear c19
                                try clear c19b0
                                try clear c20
                                try clear c20b0
                                try clear c22
                                try clear c22b0
                                try clear c22b1
                                try clear c23
                                try clear c28
                                try clear p32
                                try clear q32
                                try clear hx32
                                try clear p34
                                try clear q34
                                try clear hx34
                                try clear c35
                                try clear c35b0
                                try clear c36
                                try clear c36b0
                                try clear c37
                                try clear c37b0
                                try clear c41
                                try clear c41b0
                                try clear c43
                                try clear c43b0
                                try clear c46
                                try clear c49
                                try clear c49b0
                                try clear hcz40_0
                                try clear hcz40_1
                                try clear hcz40_2
                                try clear hcz40_3
                                try clear hcz40_4
                                try clear hcz42_0
                                try clear hcz42_1
                                try clear hcz42_2
                                try clear hcz42_3
                                try clear hcz42_4
                                try clear hcz44_0
                                try clear hcz44_1
                                try clear hcz44_2
                                try clear hcz44_3
                                try clear hcz44_4
                                try clear hcz45_0
                                try clear hcz45_1
                                try clear hcz45_2
                                try clear hcz45_3
                                try clear hcz45_4
                                try clear hcz48_0
                                try clear hcz48_1
                                try clear hcz48_2
                                try clear hcz48_3
                                try clear hcz48_4
                                try clear hcz50_0
                                try clear hcz50_1
                                try clear hcz50_2
                                try clear hcz50_3
                                try clear hcz50_4
                                try clear hcz51_0
                                try clear hcz51_1
                                try clear hcz51_2
                                try clear hcz51_3
                                try clear hcz51_4
                                try clear hfz40_0
                                try clear hfz40_1
                                try clear hfz40_2
                                try clear hfz40_3
                                try clear hfz40_4
                                try clear hfz42_0
                                try clear hfz42_1
                                try clear hfz42_2
                                try clear hfz42_3
                                try clear hfz42_4
                                try clear hfz44_0
                                try clear hfz44_1
                                try clear hfz44_2
                                try clear hfz44_3
                                try clear hfz44_4
                                try clear hfz45_0
                                try clear hfz45_1
                                try clear hfz45_2
                                try clear hfz45_3
                                try clear hfz45_4
                                try clear hfz48_0
                                try clear hfz48_1
                                try clear hfz48_2
                                try clear hfz48_3
                                try clear hfz48_4
                                try clear hfz50_0
                                try clear hfz50_1
                                try clear hfz50_2
                                try clear hfz50_3
                                try clear hfz50_4
                                try clear hfz51_0
                                try clear hfz51_1
                                try clear hfz51_2
                                try clear hfz51_3
                                try clear hfz51_4
                                try clear hx327_0
                                try clear hx328_0
                                try clear hx340_0
                                try clear hx340_1
                                try clear hx340_2
                                try clear hx340_3
                                try clear hx340_4
                                try clear hx342_0
                                try clear hx343_0
                                try clear p2
                                try clear p3
                                try clear p32
                                try clear p327
                                try clear p328
                                try clear p34
                                try clear p340
                                try clear p342
                                try clear p343
                                try clear p6
                                try clear q3
                                try clear q32
                                try clear q327
                                try clear q328
                                try clear q34
                                try clear q340
                                try clear q342
                                try clear q343
                                obtain ⟨kq, x139_46, rfl, HA, HJ46, HO_11, HO_13, BK341, HB⟩ := hcut
                                cases kq with
                                | zero => exact absurd HA.out (by simp [laws_FnShares.j4])
                                | succ kj46 =>
                                 have H := HA.out
                                 clear HA
                                 simp only [laws_FnShares.j4] at H
                                 by_cases c52 : x139_46 = true
                                 · subst c52
                                   have H1 : (if ((rd_T66 t329 x16_3).f4) < ((rd_T66 t329 x16_3).f3) then (if 0 ≤ x16_3 then (if x16_3 < (t333.length : Int) then (if x15_3 = true then (laws_FnShares.l1 kj46 (wrap64 (x9_3 + (rd t333 x16_3))) t329 t330 t333 (wrap64 (x14_3 + ((rd_T66 t329 x16_3).f3))) true (wrap64 (x16_3 + 1))) else (if ((rd_T66 t329 x16_3).f4) < 0 then (if ((rd_T66 t329 x16_3).f1) ≥ 1000 then (laws_FnShares.l1 kj46 (wrap64 (x9_3 + (rd t333 x16_3))) t329 t330 t333 (wrap64 (x14_3 + ((rd_T66 t329 x16_3).f3))) (decide (((rd_T66 t329 x16_3).f0) ≥ ((rd_T66 t329 x16_3).f3))) (wrap64 (x16_3 + 1))) else (laws_FnShares.l1 kj46 (wrap64 (x9_3 + (rd t333 x16_3))) t329 t330 t333 (wrap64 (x14_3 + ((rd_T66 t329 x16_3).f3))) false (wrap64 (x16_3 + 1)))) else (laws_FnShares.l1 kj46 (wrap64 (x9_3 + (rd t333 x16_3))) t329 t330 t333 (wrap64 (x14_3 + ((rd_T66 t329 x16_3).f3))) false (wrap64 (x16_3 + 1))))) else (none)) else (none)) else (if 0 ≤ x16_3 then (if x16_3 < (t333.length : Int) then (if x15_3 = true then (laws_FnShares.l1 kj46 (wrap64 (x9_3 + (rd t333 x16_3))) t329 t330 t333 (wrap64 (x14_3 + ((rd_T66 t329 x16_3).f4))) true (wrap64 (x16_3 + 1))) else (if ((rd_T66 t329 x16_3).f4) < 0 then (if ((rd_T66 t329 x16_3).f1) ≥ 1000 then (laws_FnShares.l1 kj46 (wrap64 (x9_3 + (rd t333 x16_3))) t329 t330 t333 (wrap64 (x14_3 + ((rd_T66 t329 x16_3).f4))) (decide (((rd_T66 t329 x16_3).f0) ≥ ((rd_T66 t329 x16_3).f3))) (wrap64 (x16_3 + 1))) else (laws_FnShares.l1 kj46 (wrap64 (x9_3 + (rd t333 x16_3))) t329 t330 t333 (wrap64 (x14_3 + ((rd_T66 t329 x16_3).f4))) false (wrap64 (x16_3 + 1)))) else (laws_FnShares.l1 kj46 (wrap64 (x9_3 + (rd t333 x16_3))) t329 t330 t333 (wrap64 (x14_3 + ((rd_T66 t329 x16_3).f4))) false (wrap64 (x16_3 + 1))))) else (none)) else (none))) = some r := by rw [if_pos rfl] at H; exact H
                                   clear H
                                   have H := H1
                                   clear H1
                                   by_cases c53 : ((rd_T66 t329 x16_3).f4) < ((rd_T66 t329 x16_3).f3)
                                   · rw [if_pos c53] at H
                                     have c53b0 : decide (((rd_T66 t329 x16_3).f4) < ((rd_T66 t329 x16_3).f3)) = true := decide_eq_true c53
                                     clear c53
                                     by_cases c54 : 0 ≤ x16_3
                                     · rw [if_pos c54] at H
                                       have c54b0 : decide (0 ≤ x16_3) = true := decide_eq_true c54
                                       clear c54
                                       by_cases c55 : x16_3 < (t333.length : Int)
                                       · rw [if_pos c55] at H
                                         have c55b0 : decide (x16_3 < (t333.length : Int)) = true := decide_eq_true c55
                                         clear c55
                                         by_cases c56 : x15_3 = true
                                         · subst c56
                                           have H1 : (laws_FnShares.l1 kj46 (wrap64 (x9_3 + (rd t333 x16_3))) t329 t330 t333 (wrap64 (x14_3 + ((rd_T66 t329 x16_3).f3))) true (wrap64 (x16_3 + 1))) = some r := by rw [if_pos rfl] at H; exact H
                                           clear H
                                           have H := H1
                                           clear H1
                                           have H' := aMk H
                                           clear H
                                           have hcz57_0 : wc.cell? ⟨gb341, 0, none⟩ = some (.int .i64 ((rd_T66 t329 x16_3).f0)) := (bCe BK341.out 0).trans rfl
                                           have hcz57_1 : wc.cell? ⟨gb341, 1, none⟩ = some (.int .i64 ((rd_T66 t329 x16_3).f1)) := (bCe BK341.out 1).trans rfl
                                           have hcz57_2 : wc.cell? ⟨gb341, 2, none⟩ = some (.int .i64 ((rd_T66 t329 x16_3).f2)) := (bCe BK341.out 2).trans rfl
                                           have hcz57_3 : wc.cell? ⟨gb341, 3, none⟩ = some (.int .i64 ((rd_T66 t329 x16_3).f3)) := (bCe BK341.out 3).trans rfl
                                           have hcz57_4 : wc.cell? ⟨gb341, 4, none⟩ = some (.int .i64 ((rd_T66 t329 x16_3).f4)) := (bCe BK341.out 4).trans rfl
                                           have hfz57_0 := bFr BK341.out 0
                                           have hfz57_1 := bFr BK341.out 1
                                           have hfz57_2 := bFr BK341.out 2
                                           have hfz57_3 := bFr BK341.out 3
                                           have hfz57_4 := bFr BK341.out 4
                                           have p344 : 0 ≤ (x16_3 : Int) := oDt (by first | (with_reducible assumption) | assumption)
                                           have q344 : x16_3 < (t333.length : Int) := oDt (by first | (with_reducible assumption) | assumption)
                                           obtain ⟨ad344, e344, hx344_0⟩ := Kd.at_int (Kd.R_reads' HO_13.out).2.2 x16_3 p344 q344
                                           cases e344
                                           replace p344 := eq_true p344
                                           replace q344 := eq_true q344
                                           go_wp2
                                           repeat (go_quiet (fail); try go_wp2)
                                           go_roundg kj46
                                           case measure => have := HK1.out; have := HJ20.out; have := HK3.out; have := HJ37.out; have := HJ46.out; omega
                                           case rel => exact ⟨(wrap64 (x9_3 + (rd t333 x16_3))), (wrap64 (x14_3 + ((rd_T66 t329 x16_3).f3))), (true), (wrap64 (x16_3 + 1)), (by first | rfl | (simp; done) | (simp [*]; done)), (by first | rfl | (simp; done) | (simp [*]; done)), (by first | rfl | (simp; done) | (simp [*]; done)), (by first | rfl | (simp; done) | (simp [*]; done)), H', ⟨by have := HK1.out; have := HJ20.out; have := HK3.out; have := HJ37.out; have := HJ46.out; omega⟩, ⟨by (with_reducible repeat (first | apply Kd.R_alloc | apply Kd.R_drewN | apply Kd.R_drew)); exact Kd.R_mono HO_11.out (fun _ hk => trivial)⟩, ⟨by (with_reducible repeat (first | apply Kd.R_alloc | apply Kd.R_drewN | apply Kd.R_drew)); exact HO_13.out⟩, ⟨by repeat (first | (with_reducible first | exact HB.out | apply bAl | apply bDn | apply bD1 | refine bSe ?_ GE341.out) | exact HB.out)⟩⟩
                                         · replace c56 := Bool.eq_false_iff.mpr c56
                                           subst c56
                                           have H1 : (if ((rd_T66 t329 x16_3).f4) < 0 then (if ((rd_T66 t329 x16_3).f1) ≥ 1000 then (laws_FnShares.l1 kj46 (wrap64 (x9_3 + (rd t333 x16_3))) t329 t330 t333 (wrap64 (x14_3 + ((rd_T66 t329 x16_3).f3))) (decide (((rd_T66 t329 x16_3).f0) ≥ ((rd_T66 t329 x16_3).f3))) (wrap64 (x16_3 + 1))) else (laws_FnShares.l1 kj46 (wrap64 (x9_3 + (rd t333 x16_3))) t329 t330 t333 (wrap64 (x14_3 + ((rd_T66 t329 x16_3).f3))) false (wrap64 (x16_3 + 1)))) else (laws_FnShares.l1 kj46 (wrap64 (x9_3 + (rd t333 x16_3))) t329 t330 t333 (wrap64 (x14_3 + ((rd_T66 t329 x16_3).f3))) false (wrap64 (x16_3 + 1)))) = some r := by rw [if_neg (show ¬ (false = true) by decide)] at H; exact H
                                           clear H
                                           have H := H1
                                           clear H1
                                           by_cases c58 : ((rd_T66 t329 x16_3).f4) < 0
                                           · rw [if_pos c58] at H
                                             have c58b0 : decide (((rd_T66 t329 x16_3).f4) < 0) = true := decide_eq_true c58
                                             clear c58
                                             by_cases c59 : ((rd_T66 t329 x16_3).f1) ≥ 1000
                                             · rw [if_pos c59] at H
                                               have c59b0 : decide (1000 ≤ ((rd_T66 t329 x16_3).f1)) = true := decide_eq_true c59
                                               clear c59
                                               have H' := aMk H
                                               clear H
                                               have hcz60_0 : wc.cell? ⟨gb341, 0, none⟩ = some (.int .i64 ((rd_T66 t329 x16_3).f0)) := (bCe BK341.out 0).trans rfl
                                               have hcz60_1 : wc.cell? ⟨gb341, 1, none⟩ = some (.int .i64 ((rd_T66 t329 x16_3).f1)) := (bCe BK341.out 1).trans rfl
                                               have hcz60_2 : wc.cell? ⟨gb341, 2, none⟩ = some (.int .i64 ((rd_T66 t329 x16_3).f2)) := (bCe BK341.out 2).trans rfl
                                               have hcz60_3 : wc.cell? ⟨gb341, 3, none⟩ = some (.int .i64 ((rd_T66 t329 x16_3).f3)) := (bCe BK341.out 3).trans rfl
                                               have hcz60_4 : wc.cell? ⟨gb341, 4, none⟩ = some (.int .i64 ((rd_T66 t329 x16_3).f4)) := (bCe BK341.out 4).trans rfl
                                               have hfz60_0 := bFr BK341.out 0
                                               have hfz60_1 := bFr BK341.out 1
                                               have hfz60_2 := bFr BK341.out 2
                                               have hfz60_3 := bFr BK341.out 3
                                               have hfz60_4 := bFr BK341.out 4
                                               have p344 : 0 ≤ (x16_3 : Int) := oDt (by first | (with_reducible assumption) | assumption)
                                               have q344 : x16_3 < (t333.length : Int) := oDt (by first | (with_reducible assumption) | assumption)
                                               obtain ⟨ad344, e344, hx344_0⟩ := Kd.at_int (Kd.R_reads' HO_13.out).2.2 x16_3 p344 q344
                                               cases e344
                                               replace p344 := eq_true p344
                                               replace q344 := eq_true q344
                                               go_wp2
                                               repeat (go_quiet (fail); try go_wp2)
                                               go_roundg kj46
                                               case measure => have := HK1.out; have := HJ20.out; have := HK3.out; have := HJ37.out; have := HJ46.out; omega
                                               case rel => exact ⟨(wrap64 (x9_3 + (rd t333 x16_3))), (wrap64 (x14_3 + ((rd_T66 t329 x16_3).f3))), (decide (((rd_T66 t329 x16_3).f0) ≥ ((rd_T66 t329 x16_3).f3))), (wrap64 (x16_3 + 1)), (by first | rfl | (simp; done) | (simp [*]; done)), (by first | rfl | (simp; done) | (simp [*]; done)), (by first | rfl | (simp; done) | (simp [*]; done)), (by first | rfl | (simp; done) | (simp [*]; done)), H', ⟨by have := HK1.out; have := HJ20.out; have := HK3.out; have := HJ37.out; have := HJ46.out; omega⟩, ⟨by (with_reducible repeat (first | apply Kd.R_alloc | apply Kd.R_drewN | apply Kd.R_drew)); exact Kd.R_mono HO_11.out (fun _ hk => trivial)⟩, ⟨by (with_reducible repeat (first | apply Kd.R_alloc | apply Kd.R_drewN | apply Kd.R_drew)); exact HO_13.out⟩, ⟨by repeat (first | (with_reducible first | exact HB.out | apply bAl | apply bDn | apply bD1 | refine bSe ?_ GE341.out) | exact HB.out)⟩⟩
                                             · rw [if_neg c59] at H
                                               have c59b0 : decide (1000 ≤ ((rd_T66 t329 x16_3).f1)) = false := decide_eq_false c59
                                               clear c59
                                               have H' := aMk H
                                               clear H
                                               have hcz61_0 : wc.cell? ⟨gb341, 0, none⟩ = some (.int .i64 ((rd_T66 t329 x16_3).f0)) := (bCe BK341.out 0).trans rfl
                                               have hcz61_1 : wc.cell? ⟨gb341, 1, none⟩ = some (.int .i64 ((rd_T66 t329 x16_3).f1)) := (bCe BK341.out 1).trans rfl
                                               have hcz61_2 : wc.cell? ⟨gb341, 2, none⟩ = some (.int .i64 ((rd_T66 t329 x16_3).f2)) := (bCe BK341.out 2).trans rfl
                                               have hcz61_3 : wc.cell? ⟨gb341, 3, none⟩ = some (.int .i64 ((rd_T66 t329 x16_3).f3)) := (bCe BK341.out 3).trans rfl
                                               have hcz61_4 : wc.cell? ⟨gb341, 4, none⟩ = some (.int .i64 ((rd_T66 t329 x16_3).f4)) := (bCe BK341.out 4).trans rfl
                                               have hfz61_0 := bFr BK341.out 0
                                               have hfz61_1 := bFr BK341.out 1
                                               have hfz61_2 := bFr BK341.out 2
                                               have hfz61_3 := bFr BK341.out 3
                                               have hfz61_4 := bFr BK341.out 4
                                               have p344 : 0 ≤ (x16_3 : Int) := oDt (by first | (with_reducible assumption) | assumption)
                                               have q344 : x16_3 < (t333.length : Int) := oDt (by first | (with_reducible assumption) | assumption)
                                               obtain ⟨ad344, e344, hx344_0⟩ := Kd.at_int (Kd.R_reads' HO_13.out).2.2 x16_3 p344 q344
                                               cases e344
                                               replace p344 := eq_true p344
                                               replace q344 := eq_true q344
                                               go_wp2
                                               repeat (go_quiet (fail); try go_wp2)
                                               go_roundg kj46
                                               case measure => have := HK1.out; have := HJ20.out; have := HK3.out; have := HJ37.out; have := HJ46.out; omega
                                               case rel => exact ⟨(wrap64 (x9_3 + (rd t333 x16_3))), (wrap64 (x14_3 + ((rd_T66 t329 x16_3).f3))), (false), (wrap64 (x16_3 + 1)), (by first | rfl | (simp; done) | (simp [*]; done)), (by first | rfl | (simp; done) | (simp [*]; done)), (by first | rfl | (simp; done) | (simp [*]; done)), (by first | rfl | (simp; done) | (simp [*]; done)), H', ⟨by have := HK1.out; have := HJ20.out; have := HK3.out; have := HJ37.out; have := HJ46.out; omega⟩, ⟨by (with_reducible repeat (first | apply Kd.R_alloc | apply Kd.R_drewN | apply Kd.R_drew)); exact Kd.R_mono HO_11.out (fun _ hk => trivial)⟩, ⟨by (with_reducible repeat (first | apply Kd.R_alloc | apply Kd.R_drewN | apply Kd.R_drew)); exact HO_13.out⟩, ⟨by repeat (first | (with_reducible first | exact HB.out | apply bAl | apply bDn | apply bD1 | refine bSe ?_ GE341.out) | exact HB.out)⟩⟩
                                           · rw [if_neg c58] at H
                                             have c58b0 : decide (((rd_T66 t329 x16_3).f4) < 0) = false := decide_eq_false c58
                                             clear c58
                                             have H' := aMk H
                                             clear H
                                             have hcz62_0 : wc.cell? ⟨gb341, 0, none⟩ = some (.int .i64 ((rd_T66 t329 x16_3).f0)) := (bCe BK341.out 0).trans rfl
                                             have hcz62_1 : wc.cell? ⟨gb341, 1, none⟩ = some (.int .i64 ((rd_T66 t329 x16_3).f1)) := (bCe BK341.out 1).trans rfl
                                             have hcz62_2 : wc.cell? ⟨gb341, 2, none⟩ = some (.int .i64 ((rd_T66 t329 x16_3).f2)) := (bCe BK341.out 2).trans rfl
                                             have hcz62_3 : wc.cell? ⟨gb341, 3, none⟩ = some (.int .i64 ((rd_T66 t329 x16_3).f3)) := (bCe BK341.out 3).trans rfl
                                             have hcz62_4 : wc.cell? ⟨gb341, 4, none⟩ = some (.int .i64 ((rd_T66 t329 x16_3).f4)) := (bCe BK341.out 4).trans rfl
                                             have hfz62_0 := bFr BK341.out 0
                                             have hfz62_1 := bFr BK341.out 1
                                             have hfz62_2 := bFr BK341.out 2
                                             have hfz62_3 := bFr BK341.out 3
                                             have hfz62_4 := bFr BK341.out 4
                                             have p344 : 0 ≤ (x16_3 : Int) := oDt (by first | (with_reducible assumption) | assumption)
                                             have q344 : x16_3 < (t333.length : Int) := oDt (by first | (with_reducible assumption) | assumption)
                                             obtain ⟨ad344, e344, hx344_0⟩ := Kd.at_int (Kd.R_reads' HO_13.out).2.2 x16_3 p344 q344
                                             cases e344
                                             replace p344 := eq_true p344
                                             replace q344 := eq_true q344
                                             go_wp2
                                             repeat (go_quiet (fail); try go_wp2)
                                             go_roundg kj46
                                             case measure => have := HK1.out; have := HJ20.out; have := HK3.out; have := HJ37.out; have := HJ46.out; omega
                                             case rel => exact ⟨(wrap64 (x9_3 + (rd t333 x16_3))), (wrap64 (x14_3 + ((rd_T66 t329 x16_3).f3))), (false), (wrap64 (x16_3 + 1)), (by first | rfl | (simp; done) | (simp [*]; done)), (by first | rfl | (simp; done) | (simp [*]; done)), (by first | rfl | (simp; done) | (simp [*]; done)), (by first | rfl | (simp; done) | (simp [*]; done)), H', ⟨by have := HK1.out; have := HJ20.out; have := HK3.out; have := HJ37.out; have := HJ46.out; omega⟩, ⟨by (with_reducible repeat (first | apply Kd.R_alloc | apply Kd.R_drewN | apply Kd.R_drew)); exact Kd.R_mono HO_11.out (fun _ hk => trivial)⟩, ⟨by (with_reducible repeat (first | apply Kd.R_alloc | apply Kd.R_drewN | apply Kd.R_drew)); exact HO_13.out⟩, ⟨by repeat (first | (with_reducible first | exact HB.out | apply bAl | apply bDn | apply bD1 | refine bSe ?_ GE341.out) | exact HB.out)⟩⟩
                                       · rw [if_neg c55] at H
                                         exact absurd H (by simp)
                                     · rw [if_neg c54] at H
                                       exact absurd H (by simp)
                                   · rw [if_neg c53] at H
                                     have c53b0 : decide (((rd_T66 t329 x16_3).f4) < ((rd_T66 t329 x16_3).f3)) = false := decide_eq_false c53
                                     clear c53
                                     by_cases c63 : 0 ≤ x16_3
                                     · rw [if_pos c63] at H
                                       have c63b0 : decide (0 ≤ x16_3) = true := decide_eq_true c63
                                       clear c63
                                       by_cases c64 : x16_3 < (t333.length : Int)
                                       · rw [if_pos c64] at H
                                         have c64b0 : decide (x16_3 < (t333.length : Int)) = true := decide_eq_true c64
                                         clear c64
                                         by_cases c65 : x15_3 = true
                                         · subst c65
                                           have H1 : (laws_FnShares.l1 kj46 (wrap64 (x9_3 + (rd t333 x16_3))) t329 t330 t333 (wrap64 (x14_3 + ((rd_T66 t329 x16_3).f4))) true (wrap64 (x16_3 + 1))) = some r := by rw [if_pos rfl] at H; exact H
                                           clear H
                                           have H := H1
                                           clear H1
                                           have H' := aMk H
                                           clear H
                                           have hcz66_0 : wc.cell? ⟨gb341, 0, none⟩ = some (.int .i64 ((rd_T66 t329 x16_3).f0)) := (bCe BK341.out 0).trans rfl
                                           have hcz66_1 : wc.cell? ⟨gb341, 1, none⟩ = some (.int .i64 ((rd_T66 t329 x16_3).f1)) := (bCe BK341.out 1).trans rfl
                                           have hcz66_2 : wc.cell? ⟨gb341, 2, none⟩ = some (.int .i64 ((rd_T66 t329 x16_3).f2)) := (bCe BK341.out 2).trans rfl
                                           have hcz66_3 : wc.cell? ⟨gb341, 3, none⟩ = some (.int .i64 ((rd_T66 t329 x16_3).f3)) := (bCe BK341.out 3).trans rfl
                                           have hcz66_4 : wc.cell? ⟨gb341, 4, none⟩ = some (.int .i64 ((rd_T66 t329 x16_3).f4)) := (bCe BK341.out 4).trans rfl
                                           have hfz66_0 := bFr BK341.out 0
                                           have hfz66_1 := bFr BK341.out 1
                                           have hfz66_2 := bFr BK341.out 2
                                           have hfz66_3 := bFr BK341.out 3
                                           have hfz66_4 := bFr BK341.out 4
                                           have p345 : 0 ≤ (x16_3 : Int) := oDt (by first | (with_reducible assumption) | assumption)
                                           have q345 : x16_3 < (t333.length : Int) := oDt (by first | (with_reducible assumption) | assumption)
                                           obtain ⟨ad345, e345, hx345_0⟩ := Kd.at_int (Kd.R_reads' HO_13.out).2.2 x16_3 p345 q345
                                           cases e345
                                           replace p345 := eq_true p345
                                           replace q345 := eq_true q345
                                           go_wp2
                                           repeat (go_quiet (fail); try go_wp2)
                                           go_roundg kj46
                                           case measure => have := HK1.out; have := HJ20.out; have := HK3.out; have := HJ37.out; have := HJ46.out; omega
                                           case rel => exact ⟨(wrap64 (x9_3 + (rd t333 x16_3))), (wrap64 (x14_3 + ((rd_T66 t329 x16_3).f4))), (true), (wrap64 (x16_3 + 1)), (by first | rfl | (simp; done) | (simp [*]; done)), (by first | rfl | (simp; done) | (simp [*]; done)), (by first | rfl | (simp; done) | (simp [*]; done)), (by first | rfl | (simp; done) | (simp [*]; done)), H', ⟨by have := HK1.out; have := HJ20.out; have := HK3.out; have := HJ37.out; have := HJ46.out; omega⟩, ⟨by (with_reducible repeat (first | apply Kd.R_alloc | apply Kd.R_drewN | apply Kd.R_drew)); exact Kd.R_mono HO_11.out (fun _ hk => trivial)⟩, ⟨by (with_reducible repeat (first | apply Kd.R_alloc | apply Kd.R_drewN | apply Kd.R_drew)); exact HO_13.out⟩, ⟨by repeat (first | (with_reducible first | exact HB.out | apply bAl | apply bDn | apply bD1 | refine bSe ?_ GE341.out) | exact HB.out)⟩⟩
                                         · replace c65 := Bool.eq_false_iff.mpr c65
                                           subst c65
                                           have H1 : (if ((rd_T66 t329 x16_3).f4) < 0 then (if ((rd_T66 t329 x16_3).f1) ≥ 1000 then (laws_FnShares.l1 kj46 (wrap64 (x9_3 + (rd t333 x16_3))) t329 t330 t333 (wrap64 (x14_3 + ((rd_T66 t329 x16_3).f4))) (decide (((rd_T66 t329 x16_3).f0) ≥ ((rd_T66 t329 x16_3).f3))) (wrap64 (x16_3 + 1))) else (laws_FnShares.l1 kj46 (wrap64 (x9_3 + (rd t333 x16_3))) t329 t330 t333 (wrap64 (x14_3 + ((rd_T66 t329 x16_3).f4))) false (wrap64 (x16_3 + 1)))) else (laws_FnShares.l1 kj46 (wrap64 (x9_3 + (rd t333 x16_3))) t329 t330 t333 (wrap64 (x14_3 + ((rd_T66 t329 x16_3).f4))) false (wrap64 (x16_3 + 1)))) = some r := by rw [if_neg (show ¬ (false = true) by decide)] at H; exact H
                                           clear H
                                           have H := H1
                                           clear H1
                                           by_cases c67 : ((rd_T66 t329 x16_3).f4) < 0
                                           · rw [if_pos c67] at H
                                             have c67b0 : decide (((rd_T66 t329 x16_3).f4) < 0) = true := decide_eq_true c67
                                             clear c67
                                             by_cases c68 : ((rd_T66 t329 x16_3).f1) ≥ 1000
                                             · rw [if_pos c68] at H
                                               have c68b0 : decide (1000 ≤ ((rd_T66 t329 x16_3).f1)) = true := decide_eq_true c68
                                               clear c68
                                               have H' := aMk H
                                               clear H
                                               have hcz69_0 : wc.cell? ⟨gb341, 0, none⟩ = some (.int .i64 ((rd_T66 t329 x16_3).f0)) := (bCe BK341.out 0).trans rfl
                                               have hcz69_1 : wc.cell? ⟨gb341, 1, none⟩ = some (.int .i64 ((rd_T66 t329 x16_3).f1)) := (bCe BK341.out 1).trans rfl
                                               have hcz69_2 : wc.cell? ⟨gb341, 2, none⟩ = some (.int .i64 ((rd_T66 t329 x16_3).f2)) := (bCe BK341.out 2).trans rfl
                                               have hcz69_3 : wc.cell? ⟨gb341, 3, none⟩ = some (.int .i64 ((rd_T66 t329 x16_3).f3)) := (bCe BK341.out 3).trans rfl
                                               have hcz69_4 : wc.cell? ⟨gb341, 4, none⟩ = some (.int .i64 ((rd_T66 t329 x16_3).f4)) := (bCe BK341.out 4).trans rfl
                                               have hfz69_0 := bFr BK341.out 0
                                               have hfz69_1 := bFr BK341.out 1
                                               have hfz69_2 := bFr BK341.out 2
                                               have hfz69_3 := bFr BK341.out 3
                                               have hfz69_4 := bFr BK341.out 4
                                               have p345 : 0 ≤ (x16_3 : Int) := oDt (by first | (with_reducible assumption) | assumption)
                                               have q345 : x16_3 < (t333.length : Int) := oDt (by first | (with_reducible assumption) | assumption)
                                               obtain ⟨ad345, e345, hx345_0⟩ := Kd.at_int (Kd.R_reads' HO_13.out).2.2 x16_3 p345 q345
                                               cases e345
                                               replace p345 := eq_true p345
                                               replace q345 := eq_true q345
                                               go_wp2
                                               repeat (go_quiet (fail); try go_wp2)
                                               go_roundg kj46
                                               case measure => have := HK1.out; have := HJ20.out; have := HK3.out; have := HJ37.out; have := HJ46.out; omega
                                               case rel => exact ⟨(wrap64 (x9_3 + (rd t333 x16_3))), (wrap64 (x14_3 + ((rd_T66 t329 x16_3).f4))), (decide (((rd_T66 t329 x16_3).f0) ≥ ((rd_T66 t329 x16_3).f3))), (wrap64 (x16_3 + 1)), (by first | rfl | (simp; done) | (simp [*]; done)), (by first | rfl | (simp; done) | (simp [*]; done)), (by first | rfl | (simp; done) | (simp [*]; done)), (by first | rfl | (simp; done) | (simp [*]; done)), H', ⟨by have := HK1.out; have := HJ20.out; have := HK3.out; have := HJ37.out; have := HJ46.out; omega⟩, ⟨by (with_reducible repeat (first | apply Kd.R_alloc | apply Kd.R_drewN | apply Kd.R_drew)); exact Kd.R_mono HO_11.out (fun _ hk => trivial)⟩, ⟨by (with_reducible repeat (first | apply Kd.R_alloc | apply Kd.R_drewN | apply Kd.R_drew)); exact HO_13.out⟩, ⟨by repeat (first | (with_reducible first | exact HB.out | apply bAl | apply bDn | apply bD1 | refine bSe ?_ GE341.out) | exact HB.out)⟩⟩
                                             · rw [if_neg c68] at H
                                               have c68b0 : decide (1000 ≤ ((rd_T66 t329 x16_3).f1)) = false := decide_eq_false c68
                                               clear c68
                                               have H' := aMk H
                                               clear H
                                               have hcz70_0 : wc.cell? ⟨gb341, 0, none⟩ = some (.int .i64 ((rd_T66 t329 x16_3).f0)) := (bCe BK341.out 0).trans rfl
                                               have hcz70_1 : wc.cell? ⟨gb341, 1, none⟩ = some (.int .i64 ((rd_T66 t329 x16_3).f1)) := (bCe BK341.out 1).trans rfl
                                               have hcz70_2 : wc.cell? ⟨gb341, 2, none⟩ = some (.int .i64 ((rd_T66 t329 x16_3).f2)) := (bCe BK341.out 2).trans rfl
                                               have hcz70_3 : wc.cell? ⟨gb341, 3, none⟩ = some (.int .i64 ((rd_T66 t329 x16_3).f3)) := (bCe BK341.out 3).trans rfl
                                               have hcz70_4 : wc.cell? ⟨gb341, 4, none⟩ = some (.int .i64 ((rd_T66 t329 x16_3).f4)) := (bCe BK341.out 4).trans rfl
                                               have hfz70_0 := bFr BK341.out 0
                                               have hfz70_1 := bFr BK341.out 1
                                               have hfz70_2 := bFr BK341.out 2
                                               have hfz70_3 := bFr BK341.out 3
                                               have hfz70_4 := bFr BK341.out 4
                                               have p345 : 0 ≤ (x16_3 : Int) := oDt (by first | (with_reducible assumption) | assumption)
                                               have q345 : x16_3 < (t333.length : Int) := oDt (by first | (with_reducible assumption) | assumption)
                                               obtain ⟨ad345, e345, hx345_0⟩ := Kd.at_int (Kd.R_reads' HO_13.out).2.2 x16_3 p345 q345
                                               cases e345
                                               replace p345 := eq_true p345
                                               replace q345 := eq_true q345
                                               go_wp2
                                               repeat (go_quiet (fail); try go_wp2)
                                               go_roundg kj46
                                               case measure => have := HK1.out; have := HJ20.out; have := HK3.out; have := HJ37.out; have := HJ46.out; omega
                                               case rel => exact ⟨(wrap64 (x9_3 + (rd t333 x16_3))), (wrap64 (x14_3 + ((rd_T66 t329 x16_3).f4))), (false), (wrap64 (x16_3 + 1)), (by first | rfl | (simp; done) | (simp [*]; done)), (by first | rfl | (simp; done) | (simp [*]; done)), (by first | rfl | (simp; done) | (simp [*]; done)), (by first | rfl | (simp; done) | (simp [*]; done)), H', ⟨by have := HK1.out; have := HJ20.out; have := HK3.out; have := HJ37.out; have := HJ46.out; omega⟩, ⟨by (with_reducible repeat (first | apply Kd.R_alloc | apply Kd.R_drewN | apply Kd.R_drew)); exact Kd.R_mono HO_11.out (fun _ hk => trivial)⟩, ⟨by (with_reducible repeat (first | apply Kd.R_alloc | apply Kd.R_drewN | apply Kd.R_drew)); exact HO_13.out⟩, ⟨by repeat (first | (with_reducible first | exact HB.out | apply bAl | apply bDn | apply bD1 | refine bSe ?_ GE341.out) | exact HB.out)⟩⟩
                                           · rw [if_neg c67] at H
                                             have c67b0 : decide (((rd_T66 t329 x16_3).f4) < 0) = false := decide_eq_false c67
                                             clear c67
                                             have H' := aMk H
                                             clear H
                                             have hcz71_0 : wc.cell? ⟨gb341, 0, none⟩ = some (.int .i64 ((rd_T66 t329 x16_3).f0)) := (bCe BK341.out 0).trans rfl
                                             have hcz71_1 : wc.cell? ⟨gb341, 1, none⟩ = some (.int .i64 ((rd_T66 t329 x16_3).f1)) := (bCe BK341.out 1).trans rfl
                                             have hcz71_2 : wc.cell? ⟨gb341, 2, none⟩ = some (.int .i64 ((rd_T66 t329 x16_3).f2)) := (bCe BK341.out 2).trans rfl
                                             have hcz71_3 : wc.cell? ⟨gb341, 3, none⟩ = some (.int .i64 ((rd_T66 t329 x16_3).f3)) := (bCe BK341.out 3).trans rfl
                                             have hcz71_4 : wc.cell? ⟨gb341, 4, none⟩ = some (.int .i64 ((rd_T66 t329 x16_3).f4)) := (bCe BK341.out 4).trans rfl
                                             have hfz71_0 := bFr BK341.out 0
                                             have hfz71_1 := bFr BK341.out 1
                                             have hfz71_2 := bFr BK341.out 2
                                             have hfz71_3 := bFr BK341.out 3
                                             have hfz71_4 := bFr BK341.out 4
                                             have p345 : 0 ≤ (x16_3 : Int) := oDt (by first | (with_reducible assumption) | assumption)
                                             have q345 : x16_3 < (t333.length : Int) := oDt (by first | (with_reducible assumption) | assumption)
                                             obtain ⟨ad345, e345, hx345_0⟩ := Kd.at_int (Kd.R_reads' HO_13.out).2.2 x16_3 p345 q345
                                             cases e345
                                             replace p345 := eq_true p345
                                             replace q345 := eq_true q345
                                             go_wp2
                                             repeat (go_quiet (fail); try go_wp2)
                                             go_roundg kj46
                                             case measure => have := HK1.out; have := HJ20.out; have := HK3.out; have := HJ37.out; have := HJ46.out; omega
                                             case rel => exact ⟨(wrap64 (x9_3 + (rd t333 x16_3))), (wrap64 (x14_3 + ((rd_T66 t329 x16_3).f4))), (false), (wrap64 (x16_3 + 1)), (by first | rfl | (simp; done) | (simp [*]; done)), (by first | rfl | (simp; done) | (simp [*]; done)), (by first | rfl | (simp; done) | (simp [*]; done)), (by first | rfl | (simp; done) | (simp [*]; done)), H', ⟨by have := HK1.out; have := HJ20.out; have := HK3.out; have := HJ37.out; have := HJ46.out; omega⟩, ⟨by (with_reducible repeat (first | apply Kd.R_alloc | apply Kd.R_drewN | apply Kd.R_drew)); exact Kd.R_mono HO_11.out (fun _ hk => trivial)⟩, ⟨by (with_reducible repeat (first | apply Kd.R_alloc | apply Kd.R_drewN | apply Kd.R_drew)); exact HO_13.out⟩, ⟨by repeat (first | (with_reducible first | exact HB.out | apply bAl | apply bDn | apply bD1 | refine bSe ?_ GE341.out) | exact HB.out)⟩⟩
                                       · rw [if_neg c64] at H
                                         exact absurd H (by simp)
                                     · rw [if_neg c63] at H
                                       exact absurd H (by simp)
                                 · replace c52 := Bool.eq_false_iff.mpr c52
                                   subst c52
                                   have H1 : (if ((rd_T66 t329 x16_3).f0) < ((rd_T66 t329 x16_3).f3) then (if 0 ≤ x16_3 then (if x16_3 < (t333.length : Int) then (if x15_3 = true then (laws_FnShares.l1 kj46 (wrap64 (x9_3 + (rd t333 x16_3))) t329 t330 t333 (wrap64 (x14_3 + ((rd_T66 t329 x16_3).f3))) true (wrap64 (x16_3 + 1))) else (if ((rd_T66 t329 x16_3).f4) < 0 then (if ((rd_T66 t329 x16_3).f1) ≥ 1000 then (laws_FnShares.l1 kj46 (wrap64 (x9_3 + (rd t333 x16_3))) t329 t330 t333 (wrap64 (x14_3 + ((rd_T66 t329 x16_3).f3))) (decide (((rd_T66 t329 x16_3).f0) ≥ ((rd_T66 t329 x16_3).f3))) (wrap64 (x16_3 + 1))) else (laws_FnShares.l1 kj46 (wrap64 (x9_3 + (rd t333 x16_3))) t329 t330 t333 (wrap64 (x14_3 + ((rd_T66 t329 x16_3).f3))) false (wrap64 (x16_3 + 1)))) else (laws_FnShares.l1 kj46 (wrap64 (x9_3 + (rd t333 x16_3))) t329 t330 t333 (wrap64 (x14_3 + ((rd_T66 t329 x16_3).f3))) false (wrap64 (x16_3 + 1))))) else (none)) else (none)) else (if 0 ≤ x16_3 then (if x16_3 < (t333.length : Int) then (if x15_3 = true then (laws_FnShares.l1 kj46 (wrap64 (x9_3 + (rd t333 x16_3))) t329 t330 t333 (wrap64 (x14_3 + ((rd_T66 t329 x16_3).f0))) true (wrap64 (x16_3 + 1))) else (if ((rd_T66 t329 x16_3).f4) < 0 then (if ((rd_T66 t329 x16_3).f1) ≥ 1000 then (laws_FnShares.l1 kj46 (wrap64 (x9_3 + (rd t333 x16_3))) t329 t330 t333 (wrap64 (x14_3 + ((rd_T66 t329 x16_3).f0))) (decide (((rd_T66 t329 x16_3).f0) ≥ ((rd_T66 t329 x16_3).f3))) (wrap64 (x16_3 + 1))) else (laws_FnShares.l1 kj46 (wrap64 (x9_3 + (rd t333 x16_3))) t329 t330 t333 (wrap64 (x14_3 + ((rd_T66 t329 x16_3).f0))) false (wrap64 (x16_3 + 1)))) else (laws_FnShares.l1 kj46 (wrap64 (x9_3 + (rd t333 x16_3))) t329 t330 t333 (wrap64 (x14_3 + ((rd_T66 t329 x16_3).f0))) false (wrap64 (x16_3 + 1))))) else (none)) else (none))) = some r := by rw [if_neg (show ¬ (false = true) by decide)] at H; exact H
                                   clear H
                                   have H := H1
                                   clear H1
                                   by_cases c72 : ((rd_T66 t329 x16_3).f0) < ((rd_T66 t329 x16_3).f3)
                                   · rw [if_pos c72] at H
                                     have c72b0 : decide (((rd_T66 t329 x16_3).f0) < ((rd_T66 t329 x16_3).f3)) = true := decide_eq_true c72
                                     clear c72
                                     by_cases c73 : 0 ≤ x16_3
                                     · rw [if_pos c73] at H
                                       have c73b0 : decide (0 ≤ x16_3) = true := decide_eq_true c73
                                       clear c73
                                       by_cases c74 : x16_3 < (t333.length : Int)
                                       · rw [if_pos c74] at H
                                         have c74b0 : decide (x16_3 < (t333.length : Int)) = true := decide_eq_true c74
                                         clear c74
                                         by_cases c75 : x15_3 = true
                                         · subst c75
                                           have H1 : (laws_FnShares.l1 kj46 (wrap64 (x9_3 + (rd t333 x16_3))) t329 t330 t333 (wrap64 (x14_3 + ((rd_T66 t329 x16_3).f3))) true (wrap64 (x16_3 + 1))) = some r := by rw [if_pos rfl] at H; exact H
                                           clear H
                                           have H := H1
                                           clear H1
                                           have H' := aMk H
                                           clear H
                                           have hcz76_0 : wc.cell? ⟨gb341, 0, none⟩ = some (.int .i64 ((rd_T66 t329 x16_3).f0)) := (bCe BK341.out 0).trans rfl
                                           have hcz76_1 : wc.cell? ⟨gb341, 1, none⟩ = some (.int .i64 ((rd_T66 t329 x16_3).f1)) := (bCe BK341.out 1).trans rfl
                                           have hcz76_2 : wc.cell? ⟨gb341, 2, none⟩ = some (.int .i64 ((rd_T66 t329 x16_3).f2)) := (bCe BK341.out 2).trans rfl
                                           have hcz76_3 : wc.cell? ⟨gb341, 3, none⟩ = some (.int .i64 ((rd_T66 t329 x16_3).f3)) := (bCe BK341.out 3).trans rfl
                                           have hcz76_4 : wc.cell? ⟨gb341, 4, none⟩ = some (.int .i64 ((rd_T66 t329 x16_3).f4)) := (bCe BK341.out 4).trans rfl
                                           have hfz76_0 := bFr BK341.out 0
                                           have hfz76_1 := bFr BK341.out 1
                                           have hfz76_2 := bFr BK341.out 2
                                           have hfz76_3 := bFr BK341.out 3
                                           have hfz76_4 := bFr BK341.out 4
                                           have p346 : 0 ≤ (x16_3 : Int) := oDt (by first | (with_reducible assumption) | assumption)
                                           have q346 : x16_3 < (t333.length : Int) := oDt (by first | (with_reducible assumption) | assumption)
                                           obtain ⟨ad346, e346, hx346_0⟩ := Kd.at_int (Kd.R_reads' HO_13.out).2.2 x16_3 p346 q346
                                           cases e346
                                           replace p346 := eq_true p346
                                           replace q346 := eq_true q346
                                           go_wp2
                                           repeat (go_quiet (fail); try go_wp2)
                                           go_roundg kj46
                                           case measure => have := HK1.out; have := HJ20.out; have := HK3.out; have := HJ37.out; have := HJ46.out; omega
                                           case rel => exact ⟨(wrap64 (x9_3 + (rd t333 x16_3))), (wrap64 (x14_3 + ((rd_T66 t329 x16_3).f3))), (true), (wrap64 (x16_3 + 1)), (by first | rfl | (simp; done) | (simp [*]; done)), (by first | rfl | (simp; done) | (simp [*]; done)), (by first | rfl | (simp; done) | (simp [*]; done)), (by first | rfl | (simp; done) | (simp [*]; done)), H', ⟨by have := HK1.out; have := HJ20.out; have := HK3.out; have := HJ37.out; have := HJ46.out; omega⟩, ⟨by (with_reducible repeat (first | apply Kd.R_alloc | apply Kd.R_drewN | apply Kd.R_drew)); exact Kd.R_mono HO_11.out (fun _ hk => trivial)⟩, ⟨by (with_reducible repeat (first | apply Kd.R_alloc | apply Kd.R_drewN | apply Kd.R_drew)); exact HO_13.out⟩, ⟨by repeat (first | (with_reducible first | exact HB.out | apply bAl | apply bDn | apply bD1 | refine bSe ?_ GE341.out) | exact HB.out)⟩⟩
                                         · replace c75 := Bool.eq_false_iff.mpr c75
                                           subst c75
                                           have H1 : (if ((rd_T66 t329 x16_3).f4) < 0 then (if ((rd_T66 t329 x16_3).f1) ≥ 1000 then (laws_FnShares.l1 kj46 (wrap64 (x9_3 + (rd t333 x16_3))) t329 t330 t333 (wrap64 (x14_3 + ((rd_T66 t329 x16_3).f3))) (decide (((rd_T66 t329 x16_3).f0) ≥ ((rd_T66 t329 x16_3).f3))) (wrap64 (x16_3 + 1))) else (laws_FnShares.l1 kj46 (wrap64 (x9_3 + (rd t333 x16_3))) t329 t330 t333 (wrap64 (x14_3 + ((rd_T66 t329 x16_3).f3))) false (wrap64 (x16_3 + 1)))) else (laws_FnShares.l1 kj46 (wrap64 (x9_3 + (rd t333 x16_3))) t329 t330 t333 (wrap64 (x14_3 + ((rd_T66 t329 x16_3).f3))) false (wrap64 (x16_3 + 1)))) = some r := by rw [if_neg (show ¬ (false = true) by decide)] at H; exact H
                                           clear H
                                           have H := H1
                                           clear H1
                                           by_cases c77 : ((rd_T66 t329 x16_3).f4) < 0
                                           · rw [if_pos c77] at H
                                             have c77b0 : decide (((rd_T66 t329 x16_3).f4) < 0) = true := decide_eq_true c77
                                             clear c77
                                             by_cases c78 : ((rd_T66 t329 x16_3).f1) ≥ 1000
                                             · rw [if_pos c78] at H
                                               have c78b0 : decide (1000 ≤ ((rd_T66 t329 x16_3).f1)) = true := decide_eq_true c78
                                               clear c78
                                               have H' := aMk H
                                               clear H
                                               have hcz79_0 : wc.cell? ⟨gb341, 0, none⟩ = some (.int .i64 ((rd_T66 t329 x16_3).f0)) := (bCe BK341.out 0).trans rfl
                                               have hcz79_1 : wc.cell? ⟨gb341, 1, none⟩ = some (.int .i64 ((rd_T66 t329 x16_3).f1)) := (bCe BK341.out 1).trans rfl
                                               have hcz79_2 : wc.cell? ⟨gb341, 2, none⟩ = some (.int .i64 ((rd_T66 t329 x16_3).f2)) := (bCe BK341.out 2).trans rfl
                                               have hcz79_3 : wc.cell? ⟨gb341, 3, none⟩ = some (.int .i64 ((rd_T66 t329 x16_3).f3)) := (bCe BK341.out 3).trans rfl
                                               have hcz79_4 : wc.cell? ⟨gb341, 4, none⟩ = some (.int .i64 ((rd_T66 t329 x16_3).f4)) := (bCe BK341.out 4).trans rfl
                                               have hfz79_0 := bFr BK341.out 0
                                               have hfz79_1 := bFr BK341.out 1
                                               have hfz79_2 := bFr BK341.out 2
                                               have hfz79_3 := bFr BK341.out 3
                                               have hfz79_4 := bFr BK341.out 4
                                               have p346 : 0 ≤ (x16_3 : Int) := oDt (by first | (with_reducible assumption) | assumption)
                                               have q346 : x16_3 < (t333.length : Int) := oDt (by first | (with_reducible assumption) | assumption)
                                               obtain ⟨ad346, e346, hx346_0⟩ := Kd.at_int (Kd.R_reads' HO_13.out).2.2 x16_3 p346 q346
                                               cases e346
                                               replace p346 := eq_true p346
                                               replace q346 := eq_true q346
                                               go_wp2
                                               repeat (go_quiet (fail); try go_wp2)
                                               go_roundg kj46
                                               case measure => have := HK1.out; have := HJ20.out; have := HK3.out; have := HJ37.out; have := HJ46.out; omega
                                               case rel => exact ⟨(wrap64 (x9_3 + (rd t333 x16_3))), (wrap64 (x14_3 + ((rd_T66 t329 x16_3).f3))), (decide (((rd_T66 t329 x16_3).f0) ≥ ((rd_T66 t329 x16_3).f3))), (wrap64 (x16_3 + 1)), (by first | rfl | (simp; done) | (simp [*]; done)), (by first | rfl | (simp; done) | (simp [*]; done)), (by first | rfl | (simp; done) | (simp [*]; done)), (by first | rfl | (simp; done) | (simp [*]; done)), H', ⟨by have := HK1.out; have := HJ20.out; have := HK3.out; have := HJ37.out; have := HJ46.out; omega⟩, ⟨by (with_reducible repeat (first | apply Kd.R_alloc | apply Kd.R_drewN | apply Kd.R_drew)); exact Kd.R_mono HO_11.out (fun _ hk => trivial)⟩, ⟨by (with_reducible repeat (first | apply Kd.R_alloc | apply Kd.R_drewN | apply Kd.R_drew)); exact HO_13.out⟩, ⟨by repeat (first | (with_reducible first | exact HB.out | apply bAl | apply bDn | apply bD1 | refine bSe ?_ GE341.out) | exact HB.out)⟩⟩
                                             · rw [if_neg c78] at H
                                               have c78b0 : decide (1000 ≤ ((rd_T66 t329 x16_3).f1)) = false := decide_eq_false c78
                                               clear c78
                                               have H' := aMk H
                                               clear H
                                               have hcz80_0 : wc.cell? ⟨gb341, 0, none⟩ = some (.int .i64 ((rd_T66 t329 x16_3).f0)) := (bCe BK341.out 0).trans rfl
                                               have hcz80_1 : wc.cell? ⟨gb341, 1, none⟩ = some (.int .i64 ((rd_T66 t329 x16_3).f1)) := (bCe BK341.out 1).trans rfl
                                               have hcz80_2 : wc.cell? ⟨gb341, 2, none⟩ = some (.int .i64 ((rd_T66 t329 x16_3).f2)) := (bCe BK341.out 2).trans rfl
                                               have hcz80_3 : wc.cell? ⟨gb341, 3, none⟩ = some (.int .i64 ((rd_T66 t329 x16_3).f3)) := (bCe BK341.out 3).trans rfl
                                               have hcz80_4 : wc.cell? ⟨gb341, 4, none⟩ = some (.int .i64 ((rd_T66 t329 x16_3).f4)) := (bCe BK341.out 4).trans rfl
                                               have hfz80_0 := bFr BK341.out 0
                                               have hfz80_1 := bFr BK341.out 1
                                               have hfz80_2 := bFr BK341.out 2
                                               have hfz80_3 := bFr BK341.out 3
                                               have hfz80_4 := bFr BK341.out 4
                                               have p346 : 0 ≤ (x16_3 : Int) := oDt (by first | (with_reducible assumption) | assumption)
                                               have q346 : x16_3 < (t333.length : Int) := oDt (by first | (with_reducible assumption) | assumption)
                                               obtain ⟨ad346, e346, hx346_0⟩ := Kd.at_int (Kd.R_reads' HO_13.out).2.2 x16_3 p346 q346
                                               cases e346
                                               replace p346 := eq_true p346
                                               replace q346 := eq_true q346
                                               go_wp2
                                               repeat (go_quiet (fail); try go_wp2)
                                               go_roundg kj46
                                               case measure => have := HK1.out; have := HJ20.out; have := HK3.out; have := HJ37.out; have := HJ46.out; omega
                                               case rel => exact ⟨(wrap64 (x9_3 + (rd t333 x16_3))), (wrap64 (x14_3 + ((rd_T66 t329 x16_3).f3))), (false), (wrap64 (x16_3 + 1)), (by first | rfl | (simp; done) | (simp [*]; done)), (by first | rfl | (simp; done) | (simp [*]; done)), (by first | rfl | (simp; done) | (simp [*]; done)), (by first | rfl | (simp; done) | (simp [*]; done)), H', ⟨by have := HK1.out; have := HJ20.out; have := HK3.out; have := HJ37.out; have := HJ46.out; omega⟩, ⟨by (with_reducible repeat (first | apply Kd.R_alloc | apply Kd.R_drewN | apply Kd.R_drew)); exact Kd.R_mono HO_11.out (fun _ hk => trivial)⟩, ⟨by (with_reducible repeat (first | apply Kd.R_alloc | apply Kd.R_drewN | apply Kd.R_drew)); exact HO_13.out⟩, ⟨by repeat (first | (with_reducible first | exact HB.out | apply bAl | apply bDn | apply bD1 | refine bSe ?_ GE341.out) | exact HB.out)⟩⟩
                                           · rw [if_neg c77] at H
                                             have c77b0 : decide (((rd_T66 t329 x16_3).f4) < 0) = false := decide_eq_false c77
                                             clear c77
                                             have H' := aMk H
                                             clear H
                                             have hcz81_0 : wc.cell? ⟨gb341, 0, none⟩ = some (.int .i64 ((rd_T66 t329 x16_3).f0)) := (bCe BK341.out 0).trans rfl
                                             have hcz81_1 : wc.cell? ⟨gb341, 1, none⟩ = some (.int .i64 ((rd_T66 t329 x16_3).f1)) := (bCe BK341.out 1).trans rfl
                                             have hcz81_2 : wc.cell? ⟨gb341, 2, none⟩ = some (.int .i64 ((rd_T66 t329 x16_3).f2)) := (bCe BK341.out 2).trans rfl
                                             have hcz81_3 : wc.cell? ⟨gb341, 3, none⟩ = some (.int .i64 ((rd_T66 t329 x16_3).f3)) := (bCe BK341.out 3).trans rfl
                                             have hcz81_4 : wc.cell? ⟨gb341, 4, none⟩ = some (.int .i64 ((rd_T66 t329 x16_3).f4)) := (bCe BK341.out 4).trans rfl
                                             have hfz81_0 := bFr BK341.out 0
                                             have hfz81_1 := bFr BK341.out 1
                                             have hfz81_2 := bFr BK341.out 2
                                             have hfz81_3 := bFr BK341.out 3
                                             have hfz81_4 := bFr BK341.out 4
                                             have p346 : 0 ≤ (x16_3 : Int) := oDt (by first | (with_reducible assumption) | assumption)
                                             have q346 : x16_3 < (t333.length : Int) := oDt (by first | (with_reducible assumption) | assumption)
                                             obtain ⟨ad346, e346, hx346_0⟩ := Kd.at_int (Kd.R_reads' HO_13.out).2.2 x16_3 p346 q346
                                             cases e346
                                             replace p346 := eq_true p346
                                             replace q346 := eq_true q346
                                             go_wp2
                                             repeat (go_quiet (fail); try go_wp2)
                                             go_roundg kj46
                                             case measure => have := HK1.out; have := HJ20.out; have := HK3.out; have := HJ37.out; have := HJ46.out; omega
                                             case rel => exact ⟨(wrap64 (x9_3 + (rd t333 x16_3))), (wrap64 (x14_3 + ((rd_T66 t329 x16_3).f3))), (false), (wrap64 (x16_3 + 1)), (by first | rfl | (simp; done) | (simp [*]; done)), (by first | rfl | (simp; done) | (simp [*]; done)), (by first | rfl | (simp; done) | (simp [*]; done)), (by first | rfl | (simp; done) | (simp [*]; done)), H', ⟨by have := HK1.out; have := HJ20.out; have := HK3.out; have := HJ37.out; have := HJ46.out; omega⟩, ⟨by (with_reducible repeat (first | apply Kd.R_alloc | apply Kd.R_drewN | apply Kd.R_drew)); exact Kd.R_mono HO_11.out (fun _ hk => trivial)⟩, ⟨by (with_reducible repeat (first | apply Kd.R_alloc | apply Kd.R_drewN | apply Kd.R_drew)); exact HO_13.out⟩, ⟨by repeat (first | (with_reducible first | exact HB.out | apply bAl | apply bDn | apply bD1 | refine bSe ?_ GE341.out) | exact HB.out)⟩⟩
                                       · rw [if_neg c74] at H
                                         exact absurd H (by simp)
                                     · rw [if_neg c73] at H
                                       exact absurd H (by simp)
                                   · rw [if_neg c72] at H
                                     have c72b0 : decide (((rd_T66 t329 x16_3).f0) < ((rd_T66 t329 x16_3).f3)) = false := decide_eq_false c72
                                     clear c72
                                     by_cases c82 : 0 ≤ x16_3
                                     · rw [if_pos c82] at H
                                       have c82b0 : decide (0 ≤ x16_3) = true := decide_eq_true c82
                                       clear c82
                                       by_cases c83 : x16_3 < (t333.length : Int)
                                       · rw [if_pos c83] at H
                                         have c83b0 : decide (x16_3 < (t333.length : Int)) = true := decide_eq_true c83
                                         clear c83
                                         by_cases c84 : x15_3 = true
                                         · subst c84
                                           have H1 : (laws_FnShares.l1 kj46 (wrap64 (x9_3 + (rd t333 x16_3))) t329 t330 t333 (wrap64 (x14_3 + ((rd_T66 t329 x16_3).f0))) true (wrap64 (x16_3 + 1))) = some r := by rw [if_pos rfl] at H; exact H
                                           clear H
                                           have H := H1
                                           clear H1
                                           have H' := aMk H
                                           clear H
                                           have hcz85_0 : wc.cell? ⟨gb341, 0, none⟩ = some (.int .i64 ((rd_T66 t329 x16_3).f0)) := (bCe BK341.out 0).trans rfl
                                           have hcz85_1 : wc.cell? ⟨gb341, 1, none⟩ = some (.int .i64 ((rd_T66 t329 x16_3).f1)) := (bCe BK341.out 1).trans rfl
                                           have hcz85_2 : wc.cell? ⟨gb341, 2, none⟩ = some (.int .i64 ((rd_T66 t329 x16_3).f2)) := (bCe BK341.out 2).trans rfl
                                           have hcz85_3 : wc.cell? ⟨gb341, 3, none⟩ = some (.int .i64 ((rd_T66 t329 x16_3).f3)) := (bCe BK341.out 3).trans rfl
                                           have hcz85_4 : wc.cell? ⟨gb341, 4, none⟩ = some (.int .i64 ((rd_T66 t329 x16_3).f4)) := (bCe BK341.out 4).trans rfl
                                           have hfz85_0 := bFr BK341.out 0
                                           have hfz85_1 := bFr BK341.out 1
                                           have hfz85_2 := bFr BK341.out 2
                                           have hfz85_3 := bFr BK341.out 3
                                           have hfz85_4 := bFr BK341.out 4
                                           have p347 : 0 ≤ (x16_3 : Int) := oDt (by first | (with_reducible assumption) | assumption)
                                           have q347 : x16_3 < (t333.length : Int) := oDt (by first | (with_reducible assumption) | assumption)
                                           obtain ⟨ad347, e347, hx347_0⟩ := Kd.at_int (Kd.R_reads' HO_13.out).2.2 x16_3 p347 q347
                                           cases e347
                                           replace p347 := eq_true p347
                                           replace q347 := eq_true q347
                                           go_wp2
                                           repeat (go_quiet (fail); try go_wp2)
                                           go_roundg kj46
                                           case measure => have := HK1.out; have := HJ20.out; have := HK3.out; have := HJ37.out; have := HJ46.out; omega
                                           case rel => exact ⟨(wrap64 (x9_3 + (rd t333 x16_3))), (wrap64 (x14_3 + ((rd_T66 t329 x16_3).f0))), (true), (wrap64 (x16_3 + 1)), (by first | rfl | (simp; done) | (simp [*]; done)), (by first | rfl | (simp; done) | (simp [*]; done)), (by first | rfl | (simp; done) | (simp [*]; done)), (by first | rfl | (simp; done) | (simp [*]; done)), H', ⟨by have := HK1.out; have := HJ20.out; have := HK3.out; have := HJ37.out; have := HJ46.out; omega⟩, ⟨by (with_reducible repeat (first | apply Kd.R_alloc | apply Kd.R_drewN | apply Kd.R_drew)); exact Kd.R_mono HO_11.out (fun _ hk => trivial)⟩, ⟨by (with_reducible repeat (first | apply Kd.R_alloc | apply Kd.R_drewN | apply Kd.R_drew)); exact HO_13.out⟩, ⟨by repeat (first | (with_reducible first | exact HB.out | apply bAl | apply bDn | apply bD1 | refine bSe ?_ GE341.out) | exact HB.out)⟩⟩
                                         · replace c84 := Bool.eq_false_iff.mpr c84
                                           subst c84
                                           have H1 : (if ((rd_T66 t329 x16_3).f4) < 0 then (if ((rd_T66 t329 x16_3).f1) ≥ 1000 then (laws_FnShares.l1 kj46 (wrap64 (x9_3 + (rd t333 x16_3))) t329 t330 t333 (wrap64 (x14_3 + ((rd_T66 t329 x16_3).f0))) (decide (((rd_T66 t329 x16_3).f0) ≥ ((rd_T66 t329 x16_3).f3))) (wrap64 (x16_3 + 1))) else (laws_FnShares.l1 kj46 (wrap64 (x9_3 + (rd t333 x16_3))) t329 t330 t333 (wrap64 (x14_3 + ((rd_T66 t329 x16_3).f0))) false (wrap64 (x16_3 + 1)))) else (laws_FnShares.l1 kj46 (wrap64 (x9_3 + (rd t333 x16_3))) t329 t330 t333 (wrap64 (x14_3 + ((rd_T66 t329 x16_3).f0))) false (wrap64 (x16_3 + 1)))) = some r := by rw [if_neg (show ¬ (false = true) by decide)] at H; exact H
                                           clear H
                                           have H := H1
                                           clear H1
                                           by_cases c86 : ((rd_T66 t329 x16_3).f4) < 0
                                           · rw [if_pos c86] at H
                                             have c86b0 : decide (((rd_T66 t329 x16_3).f4) < 0) = true := decide_eq_true c86
                                             clear c86
                                             by_cases c87 : ((rd_T66 t329 x16_3).f1) ≥ 1000
                                             · rw [if_pos c87] at H
                                               have c87b0 : decide (1000 ≤ ((rd_T66 t329 x16_3).f1)) = true := decide_eq_true c87
                                               clear c87
                                               have H' := aMk H
                                               clear H
                                               have hcz88_0 : wc.cell? ⟨gb341, 0, none⟩ = some (.int .i64 ((rd_T66 t329 x16_3).f0)) := (bCe BK341.out 0).trans rfl
                                               have hcz88_1 : wc.cell? ⟨gb341, 1, none⟩ = some (.int .i64 ((rd_T66 t329 x16_3).f1)) := (bCe BK341.out 1).trans rfl
                                               have hcz88_2 : wc.cell? ⟨gb341, 2, none⟩ = some (.int .i64 ((rd_T66 t329 x16_3).f2)) := (bCe BK341.out 2).trans rfl
                                               have hcz88_3 : wc.cell? ⟨gb341, 3, none⟩ = some (.int .i64 ((rd_T66 t329 x16_3).f3)) := (bCe BK341.out 3).trans rfl
                                               have hcz88_4 : wc.cell? ⟨gb341, 4, none⟩ = some (.int .i64 ((rd_T66 t329 x16_3).f4)) := (bCe BK341.out 4).trans rfl
                                               have hfz88_0 := bFr BK341.out 0
                                               have hfz88_1 := bFr BK341.out 1
                                               have hfz88_2 := bFr BK341.out 2
                                               have hfz88_3 := bFr BK341.out 3
                                               have hfz88_4 := bFr BK341.out 4
                                               have p347 : 0 ≤ (x16_3 : Int) := oDt (by first | (with_reducible assumption) | assumption)
                                               have q347 : x16_3 < (t333.length : Int) := oDt (by first | (with_reducible assumption) | assumption)
                                               obtain ⟨ad347, e347, hx347_0⟩ := Kd.at_int (Kd.R_reads' HO_13.out).2.2 x16_3 p347 q347
                                               cases e347
                                               replace p347 := eq_true p347
                                               replace q347 := eq_true q347
                                               go_wp2
                                               repeat (go_quiet (fail); try go_wp2)
                                               go_roundg kj46
                                               case measure => have := HK1.out; have := HJ20.out; have := HK3.out; have := HJ37.out; have := HJ46.out; omega
                                               case rel => exact ⟨(wrap64 (x9_3 + (rd t333 x16_3))), (wrap64 (x14_3 + ((rd_T66 t329 x16_3).f0))), (decide (((rd_T66 t329 x16_3).f0) ≥ ((rd_T66 t329 x16_3).f3))), (wrap64 (x16_3 + 1)), (by first | rfl | (simp; done) | (simp [*]; done)), (by first | rfl | (simp; done) | (simp [*]; done)), (by first | rfl | (simp; done) | (simp [*]; done)), (by first | rfl | (simp; done) | (simp [*]; done)), H', ⟨by have := HK1.out; have := HJ20.out; have := HK3.out; have := HJ37.out; have := HJ46.out; omega⟩, ⟨by (with_reducible repeat (first | apply Kd.R_alloc | apply Kd.R_drewN | apply Kd.R_drew)); exact Kd.R_mono HO_11.out (fun _ hk => trivial)⟩, ⟨by (with_reducible repeat (first | apply Kd.R_alloc | apply Kd.R_drewN | apply Kd.R_drew)); exact HO_13.out⟩, ⟨by repeat (first | (with_reducible first | exact HB.out | apply bAl | apply bDn | apply bD1 | refine bSe ?_ GE341.out) | exact HB.out)⟩⟩
                                             · rw [if_neg c87] at H
                                               have c87b0 : decide (1000 ≤ ((rd_T66 t329 x16_3).f1)) = false := decide_eq_false c87
                                               clear c87
                                               have H' := aMk H
                                               clear H
                                               have hcz89_0 : wc.cell? ⟨gb341, 0, none⟩ = some (.int .i64 ((rd_T66 t329 x16_3).f0)) := (bCe BK341.out 0).trans rfl
                                               have hcz89_1 : wc.cell? ⟨gb341, 1, none⟩ = some (.int .i64 ((rd_T66 t329 x16_3).f1)) := (bCe BK341.out 1).trans rfl
                                               have hcz89_2 : wc.cell? ⟨gb341, 2, none⟩ = some (.int .i64 ((rd_T66 t329 x16_3).f2)) := (bCe BK341.out 2).trans rfl
                                               have hcz89_3 : wc.cell? ⟨gb341, 3, none⟩ = some (.int .i64 ((rd_T66 t329 x16_3).f3)) := (bCe BK341.out 3).trans rfl
                                               have hcz89_4 : wc.cell? ⟨gb341, 4, none⟩ = some (.int .i64 ((rd_T66 t329 x16_3).f4)) := (bCe BK341.out 4).trans rfl
                                               have hfz89_0 := bFr BK341.out 0
                                               have hfz89_1 := bFr BK341.out 1
                                               have hfz89_2 := bFr BK341.out 2
                                               have hfz89_3 := bFr BK341.out 3
                                               have hfz89_4 := bFr BK341.out 4
                                               have p347 : 0 ≤ (x16_3 : Int) := oDt (by first | (with_reducible assumption) | assumption)
                                               have q347 : x16_3 < (t333.length : Int) := oDt (by first | (with_reducible assumption) | assumption)
                                               obtain ⟨ad347, e347, hx347_0⟩ := Kd.at_int (Kd.R_reads' HO_13.out).2.2 x16_3 p347 q347
                                               cases e347
                                               replace p347 := eq_true p347
                                               replace q347 := eq_true q347
                                               go_wp2
                                               repeat (go_quiet (fail); try go_wp2)
                                               go_roundg kj46
                                               case measure => have := HK1.out; have := HJ20.out; have := HK3.out; have := HJ37.out; have := HJ46.out; omega
                                               case rel => exact ⟨(wrap64 (x9_3 + (rd t333 x16_3))), (wrap64 (x14_3 + ((rd_T66 t329 x16_3).f0))), (false), (wrap64 (x16_3 + 1)), (by first | rfl | (simp; done) | (simp [*]; done)), (by first | rfl | (simp; done) | (simp [*]; done)), (by first | rfl | (simp; done) | (simp [*]; done)), (by first | rfl | (simp; done) | (simp [*]; done)), H', ⟨by have := HK1.out; have := HJ20.out; have := HK3.out; have := HJ37.out; have := HJ46.out; omega⟩, ⟨by (with_reducible repeat (first | apply Kd.R_alloc | apply Kd.R_drewN | apply Kd.R_drew)); exact Kd.R_mono HO_11.out (fun _ hk => trivial)⟩, ⟨by (with_reducible repeat (first | apply Kd.R_alloc | apply Kd.R_drewN | apply Kd.R_drew)); exact HO_13.out⟩, ⟨by repeat (first | (with_reducible first | exact HB.out | apply bAl | apply bDn | apply bD1 | refine bSe ?_ GE341.out) | exact HB.out)⟩⟩
                                           · rw [if_neg c86] at H
                                             have c86b0 : decide (((rd_T66 t329 x16_3).f4) < 0) = false := decide_eq_false c86
                                             clear c86
                                             have H' := aMk H
                                             clear H
                                             have hcz90_0 : wc.cell? ⟨gb341, 0, none⟩ = some (.int .i64 ((rd_T66 t329 x16_3).f0)) := (bCe BK341.out 0).trans rfl
                                             have hcz90_1 : wc.cell? ⟨gb341, 1, none⟩ = some (.int .i64 ((rd_T66 t329 x16_3).f1)) := (bCe BK341.out 1).trans rfl
                                             have hcz90_2 : wc.cell? ⟨gb341, 2, none⟩ = some (.int .i64 ((rd_T66 t329 x16_3).f2)) := (bCe BK341.out 2).trans rfl
                                             have hcz90_3 : wc.cell? ⟨gb341, 3, none⟩ = some (.int .i64 ((rd_T66 t329 x16_3).f3)) := (bCe BK341.out 3).trans rfl
                                             have hcz90_4 : wc.cell? ⟨gb341, 4, none⟩ = some (.int .i64 ((rd_T66 t329 x16_3).f4)) := (bCe BK341.out 4).trans rfl
                                             have hfz90_0 := bFr BK341.out 0
                                             have hfz90_1 := bFr BK341.out 1
                                             have hfz90_2 := bFr BK341.out 2
                                             have hfz90_3 := bFr BK341.out 3
                                             have hfz90_4 := bFr BK341.out 4
                                             have p347 : 0 ≤ (x16_3 : Int) := oDt (by first | (with_reducible assumption) | assumption)
                                             have q347 : x16_3 < (t333.length : Int) := oDt (by first | (with_reducible assumption) | assumption)
                                             obtain ⟨ad347, e347, hx347_0⟩ := Kd.at_int (Kd.R_reads' HO_13.out).2.2 x16_3 p347 q347
                                             cases e347
                                             replace p347 := eq_true p347
                                             replace q347 := eq_true q347
                                             go_wp2
                                             repeat (go_quiet (fail); try go_wp2)
                                             go_roundg kj46
                                             case measure => have := HK1.out; have := HJ20.out; have := HK3.out; have := HJ37.out; have := HJ46.out; omega
                                             case rel => exact ⟨(wrap64 (x9_3 + (rd t333 x16_3))), (wrap64 (x14_3 + ((rd_T66 t329 x16_3).f0))), (false), (wrap64 (x16_3 + 1)), (by first | rfl | (simp; done) | (simp [*]; done)), (by first | rfl | (simp; done) | (simp [*]; done)), (by first | rfl | (simp; done) | (simp [*]; done)), (by first | rfl | (simp; done) | (simp [*]; done)), H', ⟨by have := HK1.out; have := HJ20.out; have := HK3.out; have := HJ37.out; have := HJ46.out; omega⟩, ⟨by (with_reducible repeat (first | apply Kd.R_alloc | apply Kd.R_drewN | apply Kd.R_drew)); exact Kd.R_mono HO_11.out (fun _ hk => trivial)⟩, ⟨by (with_reducible repeat (first | apply Kd.R_alloc | apply Kd.R_drewN | apply Kd.R_drew)); exact HO_13.out⟩, ⟨by repeat (first | (with_reducible first | exact HB.out | apply bAl | apply bDn | apply bD1 | refine bSe ?_ GE341.out) | exact HB.out)⟩⟩
                                       · rw [if_neg c83] at H
                                         exact absurd H (by simp)
                                     · rw [if_neg c82] at H
                                       exact absurd H (by simp)
                         · rw [if_neg c37] at H
                           exact absurd H (by simp)
                       · rw [if_neg c36] at H
                         exact absurd H (by simp)
                     · rw [if_neg c35] at H
                       have c35b0 : decide (x16_3 < (t333.length : Int)) = false := decide_eq_false c35
                       clear c35
                       by_cases c91 : x15_3 = true
                       · subst c91
                         have H1 : (if x14_3 ≥ t330 then (some true) else (some (x9_3 == t330))) = some r := by rw [if_pos rfl] at H; exact H
                         clear H
                         have H := H1
                         clear H1
                         by_cases c92 : x14_3 ≥ t330
                         · rw [if_pos c92] at H
                           have c92b0 : decide (t330 ≤ x14_3) = true := decide_eq_true c92
                           clear c92
                           obtain rfl := Option.some.inj H
                           go_wp2
                           repeat (go_quiet (fail); try go_wp2)
                           go_ret
                           exact ⟨by first | rfl | (simp [errW_none, errW_some] <;> rfl) | (simp [*, errW_none, errW_some] <;> rfl), by repeat (first | (with_reducible first | exact HB.out | apply bAl | apply bDn | apply bD1) | exact HB.out)⟩
                         · rw [if_neg c92] at H
                           have c92b0 : decide (t330 ≤ x14_3) = false := decide_eq_false c92
                           clear c92
                           obtain rfl := Option.some.inj H
                           go_wp2
                           repeat (go_quiet (fail); try go_wp2)
                           go_ret
                           exact ⟨by first | rfl | (simp [errW_none, errW_some] <;> rfl) | (simp [*, errW_none, errW_some] <;> rfl), by repeat (first | (with_reducible first | exact HB.out | apply bAl | apply bDn | apply bD1) | exact HB.out)⟩
                       · replace c91 := Bool.eq_false_iff.mpr c91
                         subst c91
                         have H1 : (some true) = some r := by rw [if_neg (show ¬ (false = true) by decide)] at H; exact H
                         clear H
                         have H := H1
                         clear H1
                         obtain rfl := Option.some.inj H
                         go_wp2
                         repeat (go_quiet (fail); try go_wp2)
                         go_ret
                         exact ⟨by first | rfl | (simp [errW_none, errW_some] <;> rfl) | (simp [*, errW_none, errW_some] <;> rfl), by repeat (first | (with_reducible first | exact HB.out | apply bAl | apply bDn | apply bD1) | exact HB.out)⟩
                 · replace c28 := Bool.eq_false_iff.mpr c28
                   subst c28
                   have H1 : (some false) = some r := by rw [if_neg (show ¬ (false = true) by decide)] at H; exact H
                   clear H
                   have H := H1
                   clear H1
                   obtain rfl := Option.some.inj H
                   go_wp2_with (first | (go_at_call 49; (with_reducible refine (spec_DrawFlexShares.calls kj20 _ _ l0 t329 t330 _ ?side1 ?side2 A24.out).mono ?_); (case side1 => repeat (first | exact (Kd.C_below HR0.out HB.out) | (with_reducible refine Kd.C_alloc ?_ _) | (with_reducible refine Kd.C_drewN ?_ _) | (with_reducible refine Kd.C_drew ?_))); (case side2 => exact HC0.out); rintro e w93 ⟨v331, rfl, ho0, hb⟩; have n0_ := aMk (Kd.R_lower ho0 (below_size (by repeat (first | (with_reducible first | exact HB.out | apply bAl | apply bDn | apply bD1) | exact HB.out)))); have n1_ := aMk (below_step (by repeat (first | (with_reducible first | exact HB.out | apply bAl | apply bDn | apply bD1) | exact HB.out)) hb); clear HB; have HO332 := n0_; have HB := n1_; clear n0_ n1_; (try clear hb); (try clear hb2); (try clear hk); (try clear hi); (try clear ho0); obtain ⟨Ao94, co94, eo94⟩ := Kd.R_slice HO332.out; subst eo94) | (go_at_call 34; (with_reducible refine (impl_FlexShares.calls kj20 _ _ t329 t330 t333 _ ?side1 ?side2 A25.out).mono ?_); (case side1 => repeat (first | exact (Kd.R_reads' HO332.out).2.2 | (with_reducible refine Kd.C_alloc ?_ _) | (with_reducible refine Kd.C_drewN ?_ _) | (with_reducible refine Kd.C_drew ?_))); (case side2 => exact (Kd.R_reads' HO332.out).2.1); rintro e w95 ⟨v334, rfl, ho0, hb⟩; have n0_ := aMk (Kd.R_below (by (with_reducible repeat (first | apply Kd.R_alloc | apply Kd.R_drewN | apply Kd.R_drew)); exact HO332.out) hb); have n1_ := aMk (Kd.R_lower ho0 (below_size (by repeat (first | (with_reducible first | exact HB.out | apply bAl | apply bDn | apply bD1) | exact HB.out)))); have n2_ := aMk (below_step (by repeat (first | (with_reducible first | exact HB.out | apply bAl | apply bDn | apply bD1) | exact HB.out)) hb); clear HO332; clear HB; have HO332 := n0_; have HO335 := n1_; have HB := n2_; clear n0_ n1_ n2_; (try clear hb); (try clear hb2); (try clear hk); (try clear hi); (try clear ho0)) | (go_at_call 32; (with_reducible refine (spec_FlexShares.calls kj20 _ _ t329 t330 t336 _ ?side1 ?side2 A26.out).mono ?_); (case side1 => repeat (first | exact (Kd.R_reads' HO332.out).2.2 | (with_reducible refine Kd.C_alloc ?_ _) | (with_reducible refine Kd.C_drewN ?_ _) | (with_reducible refine Kd.C_drew ?_))); (case side2 => exact (Kd.R_reads' HO332.out).2.1); rintro e w96 ⟨v337, rfl, ho0, hb⟩; have n0_ := aMk (Kd.R_below (by (with_reducible repeat (first | apply Kd.R_alloc | apply Kd.R_drewN | apply Kd.R_drew)); exact HO332.out) hb); have n1_ := aMk (Kd.R_elder' (by (with_reducible repeat (first | apply Kd.R_alloc | apply Kd.R_drewN | apply Kd.R_drew)); exact HO335.out) (Kd.R_base ho0) hb); have n2_ := aMk (Kd.R_lower (Kd.R_new' ho0 (Kd.R_lt (by (with_reducible repeat (first | apply Kd.R_alloc | apply Kd.R_drewN | apply Kd.R_drew)); exact HO335.out))) (below_size (by repeat (first | (with_reducible first | exact HB.out | apply bAl | apply bDn | apply bD1) | exact HB.out)))); have n3_ := aMk (below_step (by repeat (first | (with_reducible first | exact HB.out | apply bAl | apply bDn | apply bD1) | exact HB.out)) hb); clear HO332; clear HO335; clear HB; have HO332 := n0_; have HO335 := n1_; have HO338 := n2_; have HB := n3_; clear n0_ n1_ n2_ n3_; (try clear hb); (try clear hb2); (try clear hk); (try clear hi); (try clear ho0); obtain ⟨Ao97, co97, eo97⟩ := Kd.R_slice HO335.out; subst eo97; obtain ⟨Ao98, co98, eo98⟩ := Kd.R_slice HO338.out; subst eo98) | (go_at_call 23; (with_reducible refine (laws_sameInts.calls kj20 _ _ t333 _ _ t336 false _ ?side1 ?side2 ?side3 ?side4 A27.out).mono ?_); (case side1 => repeat (first | exact (Kd.R_reads' HO335.out).2.2 | (with_reducible refine Kd.C_alloc ?_ _) | (with_reducible refine Kd.C_drewN ?_ _) | (with_reducible refine Kd.C_drew ?_))); (case side2 => exact (Kd.R_reads' HO335.out).2.1); (case side3 => repeat (first | exact (Kd.R_reads' HO338.out).2.2 | (with_reducible refine Kd.C_alloc ?_ _) | (with_reducible refine Kd.C_drewN ?_ _) | (with_reducible refine Kd.C_drew ?_))); (case side4 => exact (Kd.R_reads' HO338.out).2.1); rintro e w' ⟨rfl, ⟨nd, rfl⟩⟩; (try first | exact ⟨rfl, _, World.drewN_drewN _ _ _⟩ | exact ⟨rfl, _, Eq.trans (World.drewN_drewN _ _ _) (congrArg (World.drewN _) (Nat.add_assoc _ _ _))⟩)))
                   repeat (go_quiet (first | (go_at_call 49; (with_reducible refine (spec_DrawFlexShares.calls kj20 _ _ l0 t329 t330 _ ?side1 ?side2 A24.out).mono ?_); (case side1 => repeat (first | exact (Kd.C_below HR0.out HB.out) | (with_reducible refine Kd.C_alloc ?_ _) | (with_reducible refine Kd.C_drewN ?_ _) | (with_reducible refine Kd.C_drew ?_))); (case side2 => exact HC0.out); rintro e w93 ⟨v331, rfl, ho0, hb⟩; have n0_ := aMk (Kd.R_lower ho0 (below_size (by repeat (first | (with_reducible first | exact HB.out | apply bAl | apply bDn | apply bD1) | exact HB.out)))); have n1_ := aMk (below_step (by repeat (first | (with_reducible first | exact HB.out | apply bAl | apply bDn | apply bD1) | exact HB.out)) hb); clear HB; have HO332 := n0_; have HB := n1_; clear n0_ n1_; (try clear hb); (try clear hb2); (try clear hk); (try clear hi); (try clear ho0); obtain ⟨Ao94, co94, eo94⟩ := Kd.R_slice HO332.out; subst eo94) | (go_at_call 34; (with_reducible refine (impl_FlexShares.calls kj20 _ _ t329 t330 t333 _ ?side1 ?side2 A25.out).mono ?_); (case side1 => repeat (first | exact (Kd.R_reads' HO332.out).2.2 | (with_reducible refine Kd.C_alloc ?_ _) | (with_reducible refine Kd.C_drewN ?_ _) | (with_reducible refine Kd.C_drew ?_))); (case side2 => exact (Kd.R_reads' HO332.out).2.1); rintro e w95 ⟨v334, rfl, ho0, hb⟩; have n0_ := aMk (Kd.R_below (by (with_reducible repeat (first | apply Kd.R_alloc | apply Kd.R_drewN | apply Kd.R_drew)); exact HO332.out) hb); have n1_ := aMk (Kd.R_lower ho0 (below_size (by repeat (first | (with_reducible first | exact HB.out | apply bAl | apply bDn | apply bD1) | exact HB.out)))); have n2_ := aMk (below_step (by repeat (first | (with_reducible first | exact HB.out | apply bAl | apply bDn | apply bD1) | exact HB.out)) hb); clear HO332; clear HB; have HO332 := n0_; have HO335 := n1_; have HB := n2_; clear n0_ n1_ n2_; (try clear hb); (try clear hb2); (try clear hk); (try clear hi); (try clear ho0)) | (go_at_call 32; (with_reducible refine (spec_FlexShares.calls kj20 _ _ t329 t330 t336 _ ?side1 ?side2 A26.out).mono ?_); (case side1 => repeat (first | exact (Kd.R_reads' HO332.out).2.2 | (with_reducible refine Kd.C_alloc ?_ _) | (with_reducible refine Kd.C_drewN ?_ _) | (with_reducible refine Kd.C_drew ?_))); (case side2 => exact (Kd.R_reads' HO332.out).2.1); rintro e w96 ⟨v337, rfl, ho0, hb⟩; have n0_ := aMk (Kd.R_below (by (with_reducible repeat (first | apply Kd.R_alloc | apply Kd.R_drewN | apply Kd.R_drew)); exact HO332.out) hb); have n1_ := aMk (Kd.R_elder' (by (with_reducible repeat (first | apply Kd.R_alloc | apply Kd.R_drewN | apply Kd.R_drew)); exact HO335.out) (Kd.R_base ho0) hb); have n2_ := aMk (Kd.R_lower (Kd.R_new' ho0 (Kd.R_lt (by (with_reducible repeat (first | apply Kd.R_alloc | apply Kd.R_drewN | apply Kd.R_drew)); exact HO335.out))) (below_size (by repeat (first | (with_reducible first | exact HB.out | apply bAl | apply bDn | apply bD1) | exact HB.out)))); have n3_ := aMk (below_step (by repeat (first | (with_reducible first | exact HB.out | apply bAl | apply bDn | apply bD1) | exact HB.out)) hb); clear HO332; clear HO335; clear HB; have HO332 := n0_; have HO335 := n1_; have HO338 := n2_; have HB := n3_; clear n0_ n1_ n2_ n3_; (try clear hb); (try clear hb2); (try clear hk); (try clear hi); (try clear ho0); obtain ⟨Ao97, co97, eo97⟩ := Kd.R_slice HO335.out; subst eo97; obtain ⟨Ao98, co98, eo98⟩ := Kd.R_slice HO338.out; subst eo98) | (go_at_call 23; (with_reducible refine (laws_sameInts.calls kj20 _ _ t333 _ _ t336 false _ ?side1 ?side2 ?side3 ?side4 A27.out).mono ?_); (case side1 => repeat (first | exact (Kd.R_reads' HO335.out).2.2 | (with_reducible refine Kd.C_alloc ?_ _) | (with_reducible refine Kd.C_drewN ?_ _) | (with_reducible refine Kd.C_drew ?_))); (case side2 => exact (Kd.R_reads' HO335.out).2.1); (case side3 => repeat (first | exact (Kd.R_reads' HO338.out).2.2 | (with_reducible refine Kd.C_alloc ?_ _) | (with_reducible refine Kd.C_drewN ?_ _) | (with_reducible refine Kd.C_drew ?_))); (case side4 => exact (Kd.R_reads' HO338.out).2.1); rintro e w' ⟨rfl, ⟨nd, rfl⟩⟩; (try first | exact ⟨rfl, _, World.drewN_drewN _ _ _⟩ | exact ⟨rfl, _, Eq.trans (World.drewN_drewN _ _ _) (congrArg (World.drewN _) (Nat.add_assoc _ _ _))⟩))); try go_wp2_with (first | (go_at_call 49; (with_reducible refine (spec_DrawFlexShares.calls kj20 _ _ l0 t329 t330 _ ?side1 ?side2 A24.out).mono ?_); (case side1 => repeat (first | exact (Kd.C_below HR0.out HB.out) | (with_reducible refine Kd.C_alloc ?_ _) | (with_reducible refine Kd.C_drewN ?_ _) | (with_reducible refine Kd.C_drew ?_))); (case side2 => exact HC0.out); rintro e w93 ⟨v331, rfl, ho0, hb⟩; have n0_ := aMk (Kd.R_lower ho0 (below_size (by repeat (first | (with_reducible first | exact HB.out | apply bAl | apply bDn | apply bD1) | exact HB.out)))); have n1_ := aMk (below_step (by repeat (first | (with_reducible first | exact HB.out | apply bAl | apply bDn | apply bD1) | exact HB.out)) hb); clear HB; have HO332 := n0_; have HB := n1_; clear n0_ n1_; (try clear hb); (try clear hb2); (try clear hk); (try clear hi); (try clear ho0); obtain ⟨Ao94, co94, eo94⟩ := Kd.R_slice HO332.out; subst eo94) | (go_at_call 34; (with_reducible refine (impl_FlexShares.calls kj20 _ _ t329 t330 t333 _ ?side1 ?side2 A25.out).mono ?_); (case side1 => repeat (first | exact (Kd.R_reads' HO332.out).2.2 | (with_reducible refine Kd.C_alloc ?_ _) | (with_reducible refine Kd.C_drewN ?_ _) | (with_reducible refine Kd.C_drew ?_))); (case side2 => exact (Kd.R_reads' HO332.out).2.1); rintro e w95 ⟨v334, rfl, ho0, hb⟩; have n0_ := aMk (Kd.R_below (by (with_reducible repeat (first | apply Kd.R_alloc | apply Kd.R_drewN | apply Kd.R_drew)); exact HO332.out) hb); have n1_ := aMk (Kd.R_lower ho0 (below_size (by repeat (first | (with_reducible first | exact HB.out | apply bAl | apply bDn | apply bD1) | exact HB.out)))); have n2_ := aMk (below_step (by repeat (first | (with_reducible first | exact HB.out | apply bAl | apply bDn | apply bD1) | exact HB.out)) hb); clear HO332; clear HB; have HO332 := n0_; have HO335 := n1_; have HB := n2_; clear n0_ n1_ n2_; (try clear hb); (try clear hb2); (try clear hk); (try clear hi); (try clear ho0)) | (go_at_call 32; (with_reducible refine (spec_FlexShares.calls kj20 _ _ t329 t330 t336 _ ?side1 ?side2 A26.out).mono ?_); (case side1 => repeat (first | exact (Kd.R_reads' HO332.out).2.2 | (with_reducible refine Kd.C_alloc ?_ _) | (with_reducible refine Kd.C_drewN ?_ _) | (with_reducible refine Kd.C_drew ?_))); (case side2 => exact (Kd.R_reads' HO332.out).2.1); rintro e w96 ⟨v337, rfl, ho0, hb⟩; have n0_ := aMk (Kd.R_below (by (with_reducible repeat (first | apply Kd.R_alloc | apply Kd.R_drewN | apply Kd.R_drew)); exact HO332.out) hb); have n1_ := aMk (Kd.R_elder' (by (with_reducible repeat (first | apply Kd.R_alloc | apply Kd.R_drewN | apply Kd.R_drew)); exact HO335.out) (Kd.R_base ho0) hb); have n2_ := aMk (Kd.R_lower (Kd.R_new' ho0 (Kd.R_lt (by (with_reducible repeat (first | apply Kd.R_alloc | apply Kd.R_drewN | apply Kd.R_drew)); exact HO335.out))) (below_size (by repeat (first | (with_reducible first | exact HB.out | apply bAl | apply bDn | apply bD1) | exact HB.out)))); have n3_ := aMk (below_step (by repeat (first | (with_reducible first | exact HB.out | apply bAl | apply bDn | apply bD1) | exact HB.out)) hb); clear HO332; clear HO335; clear HB; have HO332 := n0_; have HO335 := n1_; have HO338 := n2_; have HB := n3_; clear n0_ n1_ n2_ n3_; (try clear hb); (try clear hb2); (try clear hk); (try clear hi); (try clear ho0); obtain ⟨Ao97, co97, eo97⟩ := Kd.R_slice HO335.out; subst eo97; obtain ⟨Ao98, co98, eo98⟩ := Kd.R_slice HO338.out; subst eo98) | (go_at_call 23; (with_reducible refine (laws_sameInts.calls kj20 _ _ t333 _ _ t336 false _ ?side1 ?side2 ?side3 ?side4 A27.out).mono ?_); (case side1 => repeat (first | exact (Kd.R_reads' HO335.out).2.2 | (with_reducible refine Kd.C_alloc ?_ _) | (with_reducible refine Kd.C_drewN ?_ _) | (with_reducible refine Kd.C_drew ?_))); (case side2 => exact (Kd.R_reads' HO335.out).2.1); (case side3 => repeat (first | exact (Kd.R_reads' HO338.out).2.2 | (with_reducible refine Kd.C_alloc ?_ _) | (with_reducible refine Kd.C_drewN ?_ _) | (with_reducible refine Kd.C_drew ?_))); (case side4 => exact (Kd.R_reads' HO338.out).2.1); rintro e w' ⟨rfl, ⟨nd, rfl⟩⟩; (try first | exact ⟨rfl, _, World.drewN_drewN _ _ _⟩ | exact ⟨rfl, _, Eq.trans (World.drewN_drewN _ _ _) (congrArg (World.drewN _) (Nat.add_assoc _ _ _))⟩))))
                   go_ret
                   exact ⟨by first | rfl | (simp [errW_none, errW_some] <;> rfl) | (simp [*, errW_none, errW_some] <;> rfl), by repeat (first | (with_reducible first | exact HB.out | apply bAl | apply bDn | apply bD1) | exact HB.out)⟩
       · replace c11 := Bool.eq_false_iff.mpr c11
         subst c11
         have H1 : (some false) = some r := by rw [if_neg (show ¬ (false = true) by decide)] at H; exact H
         clear H
         have H := H1
         clear H1
         obtain rfl := Option.some.inj H
         go_enter Try.func10, Try.ntmps10
         go_wp2_with (first | (go_at_call 20; (with_reducible refine (laws_big.calls _ _ l0 false _ ?side1 ?side2 A2.out).mono ?_); (case side1 => repeat (first | exact HR0.out | (with_reducible refine Kd.C_alloc ?_ _) | (with_reducible refine Kd.C_drewN ?_ _) | (with_reducible refine Kd.C_drew ?_))); (case side2 => exact HC0.out); rintro e w' ⟨rfl, ⟨nd, rfl⟩⟩; (try first | exact ⟨rfl, _, World.drewN_drewN _ _ _⟩ | exact ⟨rfl, _, Eq.trans (World.drewN_drewN _ _ _) (congrArg (World.drewN _) (Nat.add_assoc _ _ _))⟩)) | (go_at_call 45; (with_reducible refine (impl_MulDiv.calls k (wrap64 ((l0.length : Int) * 977)) (wrap64 (1 + (Int.tmod (wrap64 ((l0.length : Int) * 131)) 4099))) (1 + ((l0.length : Int) % 89)) t315 _ A4.out).mono ?_); rintro e w' ⟨rfl, ⟨nd, rfl⟩⟩; (try first | exact ⟨rfl, _, World.drewN_drewN _ _ _⟩ | exact ⟨rfl, _, Eq.trans (World.drewN_drewN _ _ _) (congrArg (World.drewN _) (Nat.add_assoc _ _ _))⟩)) | (go_at_call 46; (with_reducible refine (spec_DrawSpread.calls k _ _ l0 t316 t317 _ ?side1 ?side2 A7.out).mono ?_); (case side1 => repeat (first | exact HR0.out | (with_reducible refine Kd.C_alloc ?_ _) | (with_reducible refine Kd.C_drewN ?_ _) | (with_reducible refine Kd.C_drew ?_))); (case side2 => exact HC0.out); rintro e w99 ⟨v318, rfl, ho0, hb⟩; have n0_ := aMk (Kd.R_lower ho0 (below_size (by repeat (first | (with_reducible first | exact HB.out | apply bAl | apply bDn | apply bD1) | exact HB.out)))); have n1_ := aMk (below_step (by repeat (first | (with_reducible first | exact HB.out | apply bAl | apply bDn | apply bD1) | exact HB.out)) hb); clear HB; have HO319 := n0_; have HB := n1_; clear n0_ n1_; (try clear hb); (try clear hb2); (try clear hk); (try clear hi); (try clear ho0); obtain ⟨Ao100, co100, eo100⟩ := Kd.R_slice HO319.out; subst eo100) | (go_at_call 47; (with_reducible refine (impl_Spread.calls k t316 _ _ t317 t320 _ ?side1 ?side2 A8.out).mono ?_); (case side1 => repeat (first | exact (Kd.R_reads' HO319.out).2.2 | (with_reducible refine Kd.C_alloc ?_ _) | (with_reducible refine Kd.C_drewN ?_ _) | (with_reducible refine Kd.C_drew ?_))); (case side2 => exact (Kd.R_reads' HO319.out).2.1); rintro e w101 ⟨v321, rfl, ho0, hb⟩; have n0_ := aMk (Kd.R_elder' (by (with_reducible repeat (first | apply Kd.R_alloc | apply Kd.R_drewN | apply Kd.R_drew)); exact HO319.out) (Kd.R_base ho0) hb); have n1_ := aMk (Kd.R_lower (Kd.R_new' ho0 (Kd.R_lt (by (with_reducible repeat (first | apply Kd.R_alloc | apply Kd.R_drewN | apply Kd.R_drew)); exact HO319.out))) (below_size (by repeat (first | (with_reducible first | exact HB.out | apply bAl | apply bDn | apply bD1) | exact HB.out)))); have n2_ := aMk (below_step (by repeat (first | (with_reducible first | exact HB.out | apply bAl | apply bDn | apply bD1) | exact HB.out)) hb); clear HO319; clear HB; have HO319 := n0_; have HO322 := n1_; have HB := n2_; clear n0_ n1_ n2_; (try clear hb); (try clear hb2); (try clear hk); (try clear hi); (try clear ho0)) | (go_at_call 48; (with_reducible refine (spec_Spread.calls k t316 _ _ t317 t323 _ ?side1 ?side2 A9.out).mono ?_); (case side1 => repeat (first | exact (Kd.R_reads' HO319.out).2.2 | (with_reducible refine Kd.C_alloc ?_ _) | (with_reducible refine Kd.C_drewN ?_ _) | (with_reducible refine Kd.C_drew ?_))); (case side2 => exact (Kd.R_reads' HO319.out).2.1); rintro e w102 ⟨v324, rfl, ho0, hb⟩; have n0_ := aMk (Kd.R_elder' (by (with_reducible repeat (first | apply Kd.R_alloc | apply Kd.R_drewN | apply Kd.R_drew)); exact HO319.out) (Kd.R_base ho0) hb); have n1_ := aMk (Kd.R_elder' (by (with_reducible repeat (first | apply Kd.R_alloc | apply Kd.R_drewN | apply Kd.R_drew)); exact HO322.out) (Kd.R_base ho0) hb); have n2_ := aMk (Kd.R_lower (Kd.R_new' (Kd.R_new' ho0 (Kd.R_lt (by (with_reducible repeat (first | apply Kd.R_alloc | apply Kd.R_drewN | apply Kd.R_drew)); exact HO319.out))) (Kd.R_lt (by (with_reducible repeat (first | apply Kd.R_alloc | apply Kd.R_drewN | apply Kd.R_drew)); exact HO322.out))) (below_size (by repeat (first | (with_reducible first | exact HB.out | apply bAl | apply bDn | apply bD1) | exact HB.out)))); have n3_ := aMk (below_step (by repeat (first | (with_reducible first | exact HB.out | apply bAl | apply bDn | apply bD1) | exact HB.out)) hb); clear HO319; clear HO322; clear HB; have HO319 := n0_; have HO322 := n1_; have HO325 := n2_; have HB := n3_; clear n0_ n1_ n2_ n3_; (try clear hb); (try clear hb2); (try clear hk); (try clear hi); (try clear ho0); obtain ⟨Ao103, co103, eo103⟩ := Kd.R_slice HO322.out; subst eo103; obtain ⟨Ao104, co104, eo104⟩ := Kd.R_slice HO325.out; subst eo104) | (go_at_call 23; (with_reducible refine (laws_sameInts.calls k _ _ t320 _ _ t323 false _ ?side1 ?side2 ?side3 ?side4 A10.out).mono ?_); (case side1 => repeat (first | exact (Kd.R_reads' HO322.out).2.2 | (with_reducible refine Kd.C_alloc ?_ _) | (with_reducible refine Kd.C_drewN ?_ _) | (with_reducible refine Kd.C_drew ?_))); (case side2 => exact (Kd.R_reads' HO322.out).2.1); (case side3 => repeat (first | exact (Kd.R_reads' HO325.out).2.2 | (with_reducible refine Kd.C_alloc ?_ _) | (with_reducible refine Kd.C_drewN ?_ _) | (with_reducible refine Kd.C_drew ?_))); (case side4 => exact (Kd.R_reads' HO325.out).2.1); rintro e w' ⟨rfl, ⟨nd, rfl⟩⟩; (try first | exact ⟨rfl, _, World.drewN_drewN _ _ _⟩ | exact ⟨rfl, _, Eq.trans (World.drewN_drewN _ _ _) (congrArg (World.drewN _) (Nat.add_assoc _ _ _))⟩)))
         repeat (go_quiet (first | (go_at_call 20; (with_reducible refine (laws_big.calls _ _ l0 false _ ?side1 ?side2 A2.out).mono ?_); (case side1 => repeat (first | exact HR0.out | (with_reducible refine Kd.C_alloc ?_ _) | (with_reducible refine Kd.C_drewN ?_ _) | (with_reducible refine Kd.C_drew ?_))); (case side2 => exact HC0.out); rintro e w' ⟨rfl, ⟨nd, rfl⟩⟩; (try first | exact ⟨rfl, _, World.drewN_drewN _ _ _⟩ | exact ⟨rfl, _, Eq.trans (World.drewN_drewN _ _ _) (congrArg (World.drewN _) (Nat.add_assoc _ _ _))⟩)) | (go_at_call 45; (with_reducible refine (impl_MulDiv.calls k (wrap64 ((l0.length : Int) * 977)) (wrap64 (1 + (Int.tmod (wrap64 ((l0.length : Int) * 131)) 4099))) (1 + ((l0.length : Int) % 89)) t315 _ A4.out).mono ?_); rintro e w' ⟨rfl, ⟨nd, rfl⟩⟩; (try first | exact ⟨rfl, _, World.drewN_drewN _ _ _⟩ | exact ⟨rfl, _, Eq.trans (World.drewN_drewN _ _ _) (congrArg (World.drewN _) (Nat.add_assoc _ _ _))⟩)) | (go_at_call 46; (with_reducible refine (spec_DrawSpread.calls k _ _ l0 t316 t317 _ ?side1 ?side2 A7.out).mono ?_); (case side1 => repeat (first | exact HR0.out | (with_reducible refine Kd.C_alloc ?_ _) | (with_reducible refine Kd.C_drewN ?_ _) | (with_reducible refine Kd.C_drew ?_))); (case side2 => exact HC0.out); rintro e w99 ⟨v318, rfl, ho0, hb⟩; have n0_ := aMk (Kd.R_lower ho0 (below_size (by repeat (first | (with_reducible first | exact HB.out | apply bAl | apply bDn | apply bD1) | exact HB.out)))); have n1_ := aMk (below_step (by repeat (first | (with_reducible first | exact HB.out | apply bAl | apply bDn | apply bD1) | exact HB.out)) hb); clear HB; have HO319 := n0_; have HB := n1_; clear n0_ n1_; (try clear hb); (try clear hb2); (try clear hk); (try clear hi); (try clear ho0); obtain ⟨Ao100, co100, eo100⟩ := Kd.R_slice HO319.out; subst eo100) | (go_at_call 47; (with_reducible refine (impl_Spread.calls k t316 _ _ t317 t320 _ ?side1 ?side2 A8.out).mono ?_); (case side1 => repeat (first | exact (Kd.R_reads' HO319.out).2.2 | (with_reducible refine Kd.C_alloc ?_ _) | (with_reducible refine Kd.C_drewN ?_ _) | (with_reducible refine Kd.C_drew ?_))); (case side2 => exact (Kd.R_reads' HO319.out).2.1); rintro e w101 ⟨v321, rfl, ho0, hb⟩; have n0_ := aMk (Kd.R_elder' (by (with_reducible repeat (first | apply Kd.R_alloc | apply Kd.R_drewN | apply Kd.R_drew)); exact HO319.out) (Kd.R_base ho0) hb); have n1_ := aMk (Kd.R_lower (Kd.R_new' ho0 (Kd.R_lt (by (with_reducible repeat (first | apply Kd.R_alloc | apply Kd.R_drewN | apply Kd.R_drew)); exact HO319.out))) (below_size (by repeat (first | (with_reducible first | exact HB.out | apply bAl | apply bDn | apply bD1) | exact HB.out)))); have n2_ := aMk (below_step (by repeat (first | (with_reducible first | exact HB.out | apply bAl | apply bDn | apply bD1) | exact HB.out)) hb); clear HO319; clear HB; have HO319 := n0_; have HO322 := n1_; have HB := n2_; clear n0_ n1_ n2_; (try clear hb); (try clear hb2); (try clear hk); (try clear hi); (try clear ho0)) | (go_at_call 48; (with_reducible refine (spec_Spread.calls k t316 _ _ t317 t323 _ ?side1 ?side2 A9.out).mono ?_); (case side1 => repeat (first | exact (Kd.R_reads' HO319.out).2.2 | (with_reducible refine Kd.C_alloc ?_ _) | (with_reducible refine Kd.C_drewN ?_ _) | (with_reducible refine Kd.C_drew ?_))); (case side2 => exact (Kd.R_reads' HO319.out).2.1); rintro e w102 ⟨v324, rfl, ho0, hb⟩; have n0_ := aMk (Kd.R_elder' (by (with_reducible repeat (first | apply Kd.R_alloc | apply Kd.R_drewN | apply Kd.R_drew)); exact HO319.out) (Kd.R_base ho0) hb); have n1_ := aMk (Kd.R_elder' (by (with_reducible repeat (first | apply Kd.R_alloc | apply Kd.R_drewN | apply Kd.R_drew)); exact HO322.out) (Kd.R_base ho0) hb); have n2_ := aMk (Kd.R_lower (Kd.R_new' (Kd.R_new' ho0 (Kd.R_lt (by (with_reducible repeat (first | apply Kd.R_alloc | apply Kd.R_drewN | apply Kd.R_drew)); exact HO319.out))) (Kd.R_lt (by (with_reducible repeat (first | apply Kd.R_alloc | apply Kd.R_drewN | apply Kd.R_drew)); exact HO322.out))) (below_size (by repeat (first | (with_reducible first | exact HB.out | apply bAl | apply bDn | apply bD1) | exact HB.out)))); have n3_ := aMk (below_step (by repeat (first | (with_reducible first | exact HB.out | apply bAl | apply bDn | apply bD1) | exact HB.out)) hb); clear HO319; clear HO322; clear HB; have HO319 := n0_; have HO322 := n1_; have HO325 := n2_; have HB := n3_; clear n0_ n1_ n2_ n3_; (try clear hb); (try clear hb2); (try clear hk); (try clear hi); (try clear ho0); obtain ⟨Ao103, co103, eo103⟩ := Kd.R_slice HO322.out; subst eo103; obtain ⟨Ao104, co104, eo104⟩ := Kd.R_slice HO325.out; subst eo104) | (go_at_call 23; (with_reducible refine (laws_sameInts.calls k _ _ t320 _ _ t323 false _ ?side1 ?side2 ?side3 ?side4 A10.out).mono ?_); (case side1 => repeat (first | exact (Kd.R_reads' HO322.out).2.2 | (with_reducible refine Kd.C_alloc ?_ _) | (with_reducible refine Kd.C_drewN ?_ _) | (with_reducible refine Kd.C_drew ?_))); (case side2 => exact (Kd.R_reads' HO322.out).2.1); (case side3 => repeat (first | exact (Kd.R_reads' HO325.out).2.2 | (with_reducible refine Kd.C_alloc ?_ _) | (with_reducible refine Kd.C_drewN ?_ _) | (with_reducible refine Kd.C_drew ?_))); (case side4 => exact (Kd.R_reads' HO325.out).2.1); rintro e w' ⟨rfl, ⟨nd, rfl⟩⟩; (try first | exact ⟨rfl, _, World.drewN_drewN _ _ _⟩ | exact ⟨rfl, _, Eq.trans (World.drewN_drewN _ _ _) (congrArg (World.drewN _) (Nat.add_assoc _ _ _))⟩))); try go_wp2_with (first | (go_at_call 20; (with_reducible refine (laws_big.calls _ _ l0 false _ ?side1 ?side2 A2.out).mono ?_); (case side1 => repeat (first | exact HR0.out | (with_reducible refine Kd.C_alloc ?_ _) | (with_reducible refine Kd.C_drewN ?_ _) | (with_reducible refine Kd.C_drew ?_))); (case side2 => exact HC0.out); rintro e w' ⟨rfl, ⟨nd, rfl⟩⟩; (try first | exact ⟨rfl, _, World.drewN_drewN _ _ _⟩ | exact ⟨rfl, _, Eq.trans (World.drewN_drewN _ _ _) (congrArg (World.drewN _) (Nat.add_assoc _ _ _))⟩)) | (go_at_call 45; (with_reducible refine (impl_MulDiv.calls k (wrap64 ((l0.length : Int) * 977)) (wrap64 (1 + (Int.tmod (wrap64 ((l0.length : Int) * 131)) 4099))) (1 + ((l0.length : Int) % 89)) t315 _ A4.out).mono ?_); rintro e w' ⟨rfl, ⟨nd, rfl⟩⟩; (try first | exact ⟨rfl, _, World.drewN_drewN _ _ _⟩ | exact ⟨rfl, _, Eq.trans (World.drewN_drewN _ _ _) (congrArg (World.drewN _) (Nat.add_assoc _ _ _))⟩)) | (go_at_call 46; (with_reducible refine (spec_DrawSpread.calls k _ _ l0 t316 t317 _ ?side1 ?side2 A7.out).mono ?_); (case side1 => repeat (first | exact HR0.out | (with_reducible refine Kd.C_alloc ?_ _) | (with_reducible refine Kd.C_drewN ?_ _) | (with_reducible refine Kd.C_drew ?_))); (case side2 => exact HC0.out); rintro e w99 ⟨v318, rfl, ho0, hb⟩; have n0_ := aMk (Kd.R_lower ho0 (below_size (by repeat (first | (with_reducible first | exact HB.out | apply bAl | apply bDn | apply bD1) | exact HB.out)))); have n1_ := aMk (below_step (by repeat (first | (with_reducible first | exact HB.out | apply bAl | apply bDn | apply bD1) | exact HB.out)) hb); clear HB; have HO319 := n0_; have HB := n1_; clear n0_ n1_; (try clear hb); (try clear hb2); (try clear hk); (try clear hi); (try clear ho0); obtain ⟨Ao100, co100, eo100⟩ := Kd.R_slice HO319.out; subst eo100) | (go_at_call 47; (with_reducible refine (impl_Spread.calls k t316 _ _ t317 t320 _ ?side1 ?side2 A8.out).mono ?_); (case side1 => repeat (first | exact (Kd.R_reads' HO319.out).2.2 | (with_reducible refine Kd.C_alloc ?_ _) | (with_reducible refine Kd.C_drewN ?_ _) | (with_reducible refine Kd.C_drew ?_))); (case side2 => exact (Kd.R_reads' HO319.out).2.1); rintro e w101 ⟨v321, rfl, ho0, hb⟩; have n0_ := aMk (Kd.R_elder' (by (with_reducible repeat (first | apply Kd.R_alloc | apply Kd.R_drewN | apply Kd.R_drew)); exact HO319.out) (Kd.R_base ho0) hb); have n1_ := aMk (Kd.R_lower (Kd.R_new' ho0 (Kd.R_lt (by (with_reducible repeat (first | apply Kd.R_alloc | apply Kd.R_drewN | apply Kd.R_drew)); exact HO319.out))) (below_size (by repeat (first | (with_reducible first | exact HB.out | apply bAl | apply bDn | apply bD1) | exact HB.out)))); have n2_ := aMk (below_step (by repeat (first | (with_reducible first | exact HB.out | apply bAl | apply bDn | apply bD1) | exact HB.out)) hb); clear HO319; clear HB; have HO319 := n0_; have HO322 := n1_; have HB := n2_; clear n0_ n1_ n2_; (try clear hb); (try clear hb2); (try clear hk); (try clear hi); (try clear ho0)) | (go_at_call 48; (with_reducible refine (spec_Spread.calls k t316 _ _ t317 t323 _ ?side1 ?side2 A9.out).mono ?_); (case side1 => repeat (first | exact (Kd.R_reads' HO319.out).2.2 | (with_reducible refine Kd.C_alloc ?_ _) | (with_reducible refine Kd.C_drewN ?_ _) | (with_reducible refine Kd.C_drew ?_))); (case side2 => exact (Kd.R_reads' HO319.out).2.1); rintro e w102 ⟨v324, rfl, ho0, hb⟩; have n0_ := aMk (Kd.R_elder' (by (with_reducible repeat (first | apply Kd.R_alloc | apply Kd.R_drewN | apply Kd.R_drew)); exact HO319.out) (Kd.R_base ho0) hb); have n1_ := aMk (Kd.R_elder' (by (with_reducible repeat (first | apply Kd.R_alloc | apply Kd.R_drewN | apply Kd.R_drew)); exact HO322.out) (Kd.R_base ho0) hb); have n2_ := aMk (Kd.R_lower (Kd.R_new' (Kd.R_new' ho0 (Kd.R_lt (by (with_reducible repeat (first | apply Kd.R_alloc | apply Kd.R_drewN | apply Kd.R_drew)); exact HO319.out))) (Kd.R_lt (by (with_reducible repeat (first | apply Kd.R_alloc | apply Kd.R_drewN | apply Kd.R_drew)); exact HO322.out))) (below_size (by repeat (first | (with_reducible first | exact HB.out | apply bAl | apply bDn | apply bD1) | exact HB.out)))); have n3_ := aMk (below_step (by repeat (first | (with_reducible first | exact HB.out | apply bAl | apply bDn | apply bD1) | exact HB.out)) hb); clear HO319; clear HO322; clear HB; have HO319 := n0_; have HO322 := n1_; have HO325 := n2_; have HB := n3_; clear n0_ n1_ n2_ n3_; (try clear hb); (try clear hb2); (try clear hk); (try clear hi); (try clear ho0); obtain ⟨Ao103, co103, eo103⟩ := Kd.R_slice HO322.out; subst eo103; obtain ⟨Ao104, co104, eo104⟩ := Kd.R_slice HO325.out; subst eo104) | (go_at_call 23; (with_reducible refine (laws_sameInts.calls k _ _ t320 _ _ t323 false _ ?side1 ?side2 ?side3 ?side4 A10.out).mono ?_); (case side1 => repeat (first | exact (Kd.R_reads' HO322.out).2.2 | (with_reducible refine Kd.C_alloc ?_ _) | (with_reducible refine Kd.C_drewN ?_ _) | (with_reducible refine Kd.C_drew ?_))); (case side2 => exact (Kd.R_reads' HO322.out).2.1); (case side3 => repeat (first | exact (Kd.R_reads' HO325.out).2.2 | (with_reducible refine Kd.C_alloc ?_ _) | (with_reducible refine Kd.C_drewN ?_ _) | (with_reducible refine Kd.C_drew ?_))); (case side4 => exact (Kd.R_reads' HO325.out).2.1); rintro e w' ⟨rfl, ⟨nd, rfl⟩⟩; (try first | exact ⟨rfl, _, World.drewN_drewN _ _ _⟩ | exact ⟨rfl, _, Eq.trans (World.drewN_drewN _ _ _) (congrArg (World.drewN _) (Nat.add_assoc _ _ _))⟩))))
         go_ret
         exact ⟨by first | rfl | (simp [errW_none, errW_some] <;> rfl) | (simp [*, errW_none, errW_some] <;> rfl), by repeat (first | (with_reducible first | exact HB.out | apply bAl | apply bDn | apply bD1) | exact HB.out)⟩
     · rw [if_neg c6] at H
       have c6b0 : (t315 == (wrap64 (Int.tdiv (wrap64 ((wrap64 ((l0.length : Int) * 977)) * (wrap64 (1 + (Int.tmod (wrap64 ((l0.length : Int) * 131)) 4099))))) (1 + ((l0.length : Int) % 89))))) = false := beq_eq_false_iff_ne.mpr c6
       have c6b1 : (t315 != (wrap64 (Int.tdiv (wrap64 ((wrap64 ((l0.length : Int) * 977)) * (wrap64 (1 + (Int.tmod (wrap64 ((l0.length : Int) * 131)) 4099))))) (1 + ((l0.length : Int) % 89))))) = true := bne_iff_ne.mpr c6
       obtain rfl := Option.some.inj H
       go_enter Try.func10, Try.ntmps10
       go_wp2_with (first | (go_at_call 20; (with_reducible refine (laws_big.calls _ _ l0 false _ ?side1 ?side2 A2.out).mono ?_); (case side1 => repeat (first | exact HR0.out | (with_reducible refine Kd.C_alloc ?_ _) | (with_reducible refine Kd.C_drewN ?_ _) | (with_reducible refine Kd.C_drew ?_))); (case side2 => exact HC0.out); rintro e w' ⟨rfl, ⟨nd, rfl⟩⟩; (try first | exact ⟨rfl, _, World.drewN_drewN _ _ _⟩ | exact ⟨rfl, _, Eq.trans (World.drewN_drewN _ _ _) (congrArg (World.drewN _) (Nat.add_assoc _ _ _))⟩)) | (go_at_call 45; (with_reducible refine (impl_MulDiv.calls k (wrap64 ((l0.length : Int) * 977)) (wrap64 (1 + (Int.tmod (wrap64 ((l0.length : Int) * 131)) 4099))) (1 + ((l0.length : Int) % 89)) t315 _ A4.out).mono ?_); rintro e w' ⟨rfl, ⟨nd, rfl⟩⟩; (try first | exact ⟨rfl, _, World.drewN_drewN _ _ _⟩ | exact ⟨rfl, _, Eq.trans (World.drewN_drewN _ _ _) (congrArg (World.drewN _) (Nat.add_assoc _ _ _))⟩)))
       repeat (go_quiet (first | (go_at_call 20; (with_reducible refine (laws_big.calls _ _ l0 false _ ?side1 ?side2 A2.out).mono ?_); (case side1 => repeat (first | exact HR0.out | (with_reducible refine Kd.C_alloc ?_ _) | (with_reducible refine Kd.C_drewN ?_ _) | (with_reducible refine Kd.C_drew ?_))); (case side2 => exact HC0.out); rintro e w' ⟨rfl, ⟨nd, rfl⟩⟩; (try first | exact ⟨rfl, _, World.drewN_drewN _ _ _⟩ | exact ⟨rfl, _, Eq.trans (World.drewN_drewN _ _ _) (congrArg (World.drewN _) (Nat.add_assoc _ _ _))⟩)) | (go_at_call 45; (with_reducible refine (impl_MulDiv.calls k (wrap64 ((l0.length : Int) * 977)) (wrap64 (1 + (Int.tmod (wrap64 ((l0.length : Int) * 131)) 4099))) (1 + ((l0.length : Int) % 89)) t315 _ A4.out).mono ?_); rintro e w' ⟨rfl, ⟨nd, rfl⟩⟩; (try first | exact ⟨rfl, _, World.drewN_drewN _ _ _⟩ | exact ⟨rfl, _, Eq.trans (World.drewN_drewN _ _ _) (congrArg (World.drewN _) (Nat.add_assoc _ _ _))⟩))); try go_wp2_with (first | (go_at_call 20; (with_reducible refine (laws_big.calls _ _ l0 false _ ?side1 ?side2 A2.out).mono ?_); (case side1 => repeat (first | exact HR0.out | (with_reducible refine Kd.C_alloc ?_ _) | (with_reducible refine Kd.C_drewN ?_ _) | (with_reducible refine Kd.C_drew ?_))); (case side2 => exact HC0.out); rintro e w' ⟨rfl, ⟨nd, rfl⟩⟩; (try first | exact ⟨rfl, _, World.drewN_drewN _ _ _⟩ | exact ⟨rfl, _, Eq.trans (World.drewN_drewN _ _ _) (congrArg (World.drewN _) (Nat.add_assoc _ _ _))⟩)) | (go_at_call 45; (with_reducible refine (impl_MulDiv.calls k (wrap64 ((l0.length : Int) * 977)) (wrap64 (1 + (Int.tmod (wrap64 ((l0.length : Int) * 131)) 4099))) (1 + ((l0.length : Int) % 89)) t315 _ A4.out).mono ?_); rintro e w' ⟨rfl, ⟨nd, rfl⟩⟩; (try first | exact ⟨rfl, _, World.drewN_drewN _ _ _⟩ | exact ⟨rfl, _, Eq.trans (World.drewN_drewN _ _ _) (congrArg (World.drewN _) (Nat.add_assoc _ _ _))⟩))))
       go_ret
       exact ⟨by first | rfl | (simp [errW_none, errW_some] <;> rfl) | (simp [*, errW_none, errW_some] <;> rfl), by repeat (first | (with_reducible first | exact HB.out | apply bAl | apply bDn | apply bD1) | exact HB.out)⟩
/-- THE ONE PURE STATEMENT of laws_FnShares: yours. -/
def laws_FnShares.Pure : Prop := ∀ (l0 : List Int), l0.length ≤ maxLen → l0.length * 1 ≤ 140737488351232 → (∀ x ∈ l0, (Lit.int .u8 x).wf = true) → ∃ k, laws_FnShares.f k l0 = some true
theorem laws_FnShares.walk (P : laws_FnShares.Pure) (a0 : Option Addr) (len0 cap0 : Nat) (z0 : List Int) (w : World) (w0 : (a0 = none ∧ len0 = 0 ∧ cap0 = 0 ∧ z0 = []) ∨ ∃ x, a0 = some x ∧ len0 ≤ cap0 ∧ cap0 ≤ maxLen ∧ z0.length = cap0 ∧ (∀ i, i < z0.length → w.cell? (x.add i) = some (.int .u8 (z0.getD i 0))) ∧ ∀ n ∈ z0, (Lit.int .u8 n).wf = true) (y0 : len0 * 1 ≤ 140737488351232) :
 Calls Try.prog 10 #[.slice a0 len0 cap0] w fun e w' => e = .returned (.bool true) ∧ Below w.heap.size w w' := by
 obtain ⟨l0, rfl, hr0, hm0, hw0, hc0⟩ := ReadsInt.ofRowC w0
 obtain ⟨k, h⟩ := P l0 hm0 y0 hw0
 refine (laws_FnShares.calls k _ _ l0 true w (Kd.C_of_reads (d := (0 : Int)) (h1 := fun _ => rfl) hr0) hc0 h).mono ?_
 rintro e w' ⟨rfl, hd⟩
 exact ⟨rfl, hd⟩
end Go.Proofs.Ytpknhndanbgkmaa.MFnShares
