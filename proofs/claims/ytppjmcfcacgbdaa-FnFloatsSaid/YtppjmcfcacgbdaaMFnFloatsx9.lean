-- Written by this session's own program (wip/gen/myprint.py).
import Derived.Test.YtppjmcfcacgbdaaMFnFloatsx0
import Derived.Test.YtppjmcfcacgbdaaMFnFloatsx1
import Derived.Test.YtppjmcfcacgbdaaMFnFloatsx2
import Derived.Test.YtppjmcfcacgbdaaMFnFloatsx4
import Derived.Test.YtppjmcfcacgbdaaMFnFloatsx5
import Derived.Test.YtppjmcfcacgbdaaMFnFloatsx7
import Derived.Test.YtppjmcfcacgbdaaMFnFloatsx8
namespace Go.Proofs.Ytppjmcfcacgbdaa.MFnFloats
open Go.RowKit Go.Proofs.YtppjmcfcacgbdaaW.PrintWords Go.Proofs.YtppjmcfcacgbdaaW.PrintLast Go.Proofs.YtppjmcfcacgbdaaW.PrintMore
attribute [local go_sem] max2_int min2_int max_two min_two max_three min_three max_four min_four   -- for this text's walks alone
set_option linter.unusedVariables false
set_option linter.unusedSimpArgs false

attribute [local go_sem high] eqA34
/-! ### laws_FnFloats: function 4 -/
mutual
def laws_FnFloats.j0 : Nat → List Int → List (S38) → Int → Bool → Int → Int → Int → Int → Option (Bool)
 | 0, _, _, _, _, _, _, _, _ => none
 | k + 1, x0, x3, x6, x57, x369000, x369001, x369002, x369003 => if x57 = true then (if x369001 < x6 then (some false) else (laws_FnFloats.l0 k x0 x3 0 x369000 x369001 x369002 x369003)) else (laws_FnFloats.j2 k x0)
def laws_FnFloats.j2 : Nat → List Int → Option (Bool)
 | 0, _ => none
 | k + 1, x0 => (spec_DrawMargin.f k x0).bind fun t381 => (laws_FnFloats.l1 k t381 (([] : List Int)) (wrap64 ((t381.length : Int) - 1)))
def laws_FnFloats.l1 : Nat → List Int → List Int → Int → Option (Bool)
 | 0, _, _, _ => none
 | k + 1, x13, x14, x15 => if x15 ≥ 0 then (if 0 ≤ x15 then (if x15 < (x13.length : Int) then (if x14.length < 17592186044416 then ((impl_Margin.f k (([rd x13 x15] : List Int))).bind fun t395 => (if t395 = (rd x13 x15) then (laws_FnFloats.l1 k x13 (x14 ++ [rd x13 x15]) (wrap64 (x15 - 1))) else (some false))) else (none)) else (none)) else (none)) else ((impl_Margin.f k x13).bind fun t397 => ((impl_Margin.f k x14).bind fun t398 => (if t397 = t398 then ((impl_Margin.f k x13).bind fun t399 => ((spec_Margin.f k x13).bind fun t400 => (some (t399 == t400)))) else (some false))))
def laws_FnFloats.l0 : Nat → List Int → List (S38) → Int → Int → Int → Int → Int → Option (Bool)
 | 0, _, _, _, _, _, _, _ => none
 | k + 1, x0, x3, x11, x369000, x369001, x369002, x369003 => if x11 < (x3.length : Int) then (if 0 ≤ x11 then (if ((rd_T38 x3 x11).f0.f2) > 0 then (if ((rd_T38 x3 x11).f0.f3) > 0 then ((laws_over.f x369000 x369001 x369002 x369003 ((rd_T38 x3 x11).f0.f0) ((rd_T38 x3 x11).f0.f1) ((rd_T38 x3 x11).f0.f2) ((rd_T38 x3 x11).f0.f3)).bind fun t377 => (if t377 = true then (some false) else (if x369001 < ((rd_T38 x3 x11).f0.f1) then (some false) else (laws_FnFloats.l0 k x0 x3 (wrap64 (x11 + 1)) x369000 x369001 x369002 x369003)))) else (if x369001 < ((rd_T38 x3 x11).f0.f1) then (some false) else (laws_FnFloats.l0 k x0 x3 (wrap64 (x11 + 1)) x369000 x369001 x369002 x369003))) else (if x369001 < ((rd_T38 x3 x11).f0.f1) then (some false) else (laws_FnFloats.l0 k x0 x3 (wrap64 (x11 + 1)) x369000 x369001 x369002 x369003))) else (none)) else (laws_FnFloats.j2 k x0)
end
def laws_FnFloats.f (k : Nat) (l0 : List Int) : Option (Bool) := (laws_big.f l0).bind fun t354 => (if t354 = true then (some true) else ((spec_DrawPlaceFloat.f k l0).bind fun bt355 => ((impl_PlaceFloat.f k bt355.1 bt355.2.1 bt355.2.2.1 bt355.2.2.2.1 bt355.2.2.2.2.1 bt355.2.2.2.2.2.1 bt355.2.2.2.2.2.2).bind fun bt364 => ((spec_PlaceFloat.f k bt355.1 bt355.2.1 bt355.2.2.1 bt355.2.2.2.1 bt355.2.2.2.2.1 bt355.2.2.2.2.2.1 bt355.2.2.2.2.2.2).bind fun bt369 => (if (!(bt364.1 == bt369.1) || (!(bt364.2.1 == bt369.2.1) || (!(bt364.2.2.1 == bt369.2.2.1) || (!(bt364.2.2.2 == bt369.2.2.2))))) = true then (some false) else ((spec_FloatsOk.f k bt355.1).bind fun t373 => (if t373 = true then (if bt364.2.2.1 > 0 then (laws_FnFloats.j0 k l0 bt355.1 bt355.2.2.2.1 (decide (bt364.2.2.2 > 0)) bt364.1 bt364.2.1 bt364.2.2.1 bt364.2.2.2) else (laws_FnFloats.j0 k l0 bt355.1 bt355.2.2.2.1 false bt364.1 bt364.2.1 bt364.2.2.1 bt364.2.2.2)) else (laws_FnFloats.j0 k l0 bt355.1 bt355.2.2.2.1 false bt364.1 bt364.2.1 bt364.2.2.1 bt364.2.2.2))))))))
theorem laws_FnFloats.mono_l : ∀ k, (∀ y0 y1 y2 y3 y4 y5 y6 y7, LeO (laws_FnFloats.j0 k y0 y1 y2 y3 y4 y5 y6 y7) (laws_FnFloats.j0 (k + 1) y0 y1 y2 y3 y4 y5 y6 y7)) ∧ (∀ y0, LeO (laws_FnFloats.j2 k y0) (laws_FnFloats.j2 (k + 1) y0)) ∧ (∀ y0 y1 y2, LeO (laws_FnFloats.l1 k y0 y1 y2) (laws_FnFloats.l1 (k + 1) y0 y1 y2)) ∧ (∀ y0 y1 y2 y3 y4 y5 y6, LeO (laws_FnFloats.l0 k y0 y1 y2 y3 y4 y5 y6) (laws_FnFloats.l0 (k + 1) y0 y1 y2 y3 y4 y5 y6))
 | 0 => ⟨fun _ _ _ _ _ _ _ _ r h => by simp [laws_FnFloats.j0] at h, fun _ r h => by simp [laws_FnFloats.j2] at h, fun _ _ _ r h => by simp [laws_FnFloats.l1] at h, fun _ _ _ _ _ _ _ r h => by simp [laws_FnFloats.l0] at h⟩
 | k + 1 => by
  obtain ⟨ih0, ih1, ih2, ih3⟩ := laws_FnFloats.mono_l k
  refine ⟨?_, ?_, ?_, ?_⟩
  · intro y0 y1 y2 y3 y4 y5 y6 y7
    unfold laws_FnFloats.j0
    repeat' first
    | (with_reducible exact ih0 _ _ _ _ _ _ _ _)
    | (with_reducible exact ih1 _)
    | (with_reducible exact ih2 _ _ _)
    | (with_reducible exact ih3 _ _ _ _ _ _ _)
    | (with_reducible exact impl_Margin.mono _ _)
    | (with_reducible exact impl_PlaceFloat.mono _ _ _ _ _ _ _ _)
    | (with_reducible exact spec_DrawMargin.mono _ _)
    | (with_reducible exact spec_DrawPlaceFloat.mono _ _)
    | (with_reducible exact spec_FloatsOk.mono _ _)
    | (with_reducible exact spec_Margin.mono _ _)
    | (with_reducible exact spec_PlaceFloat.mono _ _ _ _ _ _ _ _)
    | (with_reducible exact LeO.refl _)
    | (with_reducible exact LeO.none _)
    | (with_reducible refine LeO.ite ?_ ?_)
    | (with_reducible refine LeO.bind ?_ (fun _ => ?_))
    | exact ih0 _ _ _ _ _ _ _ _
    | exact ih1 _
    | exact ih2 _ _ _
    | exact ih3 _ _ _ _ _ _ _
    | exact impl_Margin.mono _ _
    | exact impl_PlaceFloat.mono _ _ _ _ _ _ _ _
    | exact spec_DrawMargin.mono _ _
    | exact spec_DrawPlaceFloat.mono _ _
    | exact spec_FloatsOk.mono _ _
    | exact spec_Margin.mono _ _
    | exact spec_PlaceFloat.mono _ _ _ _ _ _ _ _
    | exact LeO.none _
    | refine LeO.ite ?_ ?_
    | refine LeO.bind ?_ (fun _ => ?_)
  · intro y0
    unfold laws_FnFloats.j2
    repeat' first
    | (with_reducible exact ih0 _ _ _ _ _ _ _ _)
    | (with_reducible exact ih1 _)
    | (with_reducible exact ih2 _ _ _)
    | (with_reducible exact ih3 _ _ _ _ _ _ _)
    | (with_reducible exact impl_Margin.mono _ _)
    | (with_reducible exact impl_PlaceFloat.mono _ _ _ _ _ _ _ _)
    | (with_reducible exact spec_DrawMargin.mono _ _)
    | (with_reducible exact spec_DrawPlaceFloat.mono _ _)
    | (with_reducible exact spec_FloatsOk.mono _ _)
    | (with_reducible exact spec_Margin.mono _ _)
    | (with_reducible exact spec_PlaceFloat.mono _ _ _ _ _ _ _ _)
    | (with_reducible exact LeO.refl _)
    | (with_reducible exact LeO.none _)
    | (with_reducible refine LeO.ite ?_ ?_)
    | (with_reducible refine LeO.bind ?_ (fun _ => ?_))
    | exact ih0 _ _ _ _ _ _ _ _
    | exact ih1 _
    | exact ih2 _ _ _
    | exact ih3 _ _ _ _ _ _ _
    | exact impl_Margin.mono _ _
    | exact impl_PlaceFloat.mono _ _ _ _ _ _ _ _
    | exact spec_DrawMargin.mono _ _
    | exact spec_DrawPlaceFloat.mono _ _
    | exact spec_FloatsOk.mono _ _
    | exact spec_Margin.mono _ _
    | exact spec_PlaceFloat.mono _ _ _ _ _ _ _ _
    | exact LeO.none _
    | refine LeO.ite ?_ ?_
    | refine LeO.bind ?_ (fun _ => ?_)
  · intro y0 y1 y2
    unfold laws_FnFloats.l1
    repeat' first
    | (with_reducible exact ih0 _ _ _ _ _ _ _ _)
    | (with_reducible exact ih1 _)
    | (with_reducible exact ih2 _ _ _)
    | (with_reducible exact ih3 _ _ _ _ _ _ _)
    | (with_reducible exact impl_Margin.mono _ _)
    | (with_reducible exact impl_PlaceFloat.mono _ _ _ _ _ _ _ _)
    | (with_reducible exact spec_DrawMargin.mono _ _)
    | (with_reducible exact spec_DrawPlaceFloat.mono _ _)
    | (with_reducible exact spec_FloatsOk.mono _ _)
    | (with_reducible exact spec_Margin.mono _ _)
    | (with_reducible exact spec_PlaceFloat.mono _ _ _ _ _ _ _ _)
    | (with_reducible exact LeO.refl _)
    | (with_reducible exact LeO.none _)
    | (with_reducible refine LeO.ite ?_ ?_)
    | (with_reducible refine LeO.bind ?_ (fun _ => ?_))
    | exact ih0 _ _ _ _ _ _ _ _
    | exact ih1 _
    | exact ih2 _ _ _
    | exact ih3 _ _ _ _ _ _ _
    | exact impl_Margin.mono _ _
    | exact impl_PlaceFloat.mono _ _ _ _ _ _ _ _
    | exact spec_DrawMargin.mono _ _
    | exact spec_DrawPlaceFloat.mono _ _
    | exact spec_FloatsOk.mono _ _
    | exact spec_Margin.mono _ _
    | exact spec_PlaceFloat.mono _ _ _ _ _ _ _ _
    | exact LeO.none _
    | refine LeO.ite ?_ ?_
    | refine LeO.bind ?_ (fun _ => ?_)
  · intro y0 y1 y2 y3 y4 y5 y6
    unfold laws_FnFloats.l0
    repeat' first
    | (with_reducible exact ih0 _ _ _ _ _ _ _ _)
    | (with_reducible exact ih1 _)
    | (with_reducible exact ih2 _ _ _)
    | (with_reducible exact ih3 _ _ _ _ _ _ _)
    | (with_reducible exact impl_Margin.mono _ _)
    | (with_reducible exact impl_PlaceFloat.mono _ _ _ _ _ _ _ _)
    | (with_reducible exact spec_DrawMargin.mono _ _)
    | (with_reducible exact spec_DrawPlaceFloat.mono _ _)
    | (with_reducible exact spec_FloatsOk.mono _ _)
    | (with_reducible exact spec_Margin.mono _ _)
    | (with_reducible exact spec_PlaceFloat.mono _ _ _ _ _ _ _ _)
    | (with_reducible exact LeO.refl _)
    | (with_reducible exact LeO.none _)
    | (with_reducible refine LeO.ite ?_ ?_)
    | (with_reducible refine LeO.bind ?_ (fun _ => ?_))
    | exact ih0 _ _ _ _ _ _ _ _
    | exact ih1 _
    | exact ih2 _ _ _
    | exact ih3 _ _ _ _ _ _ _
    | exact impl_Margin.mono _ _
    | exact impl_PlaceFloat.mono _ _ _ _ _ _ _ _
    | exact spec_DrawMargin.mono _ _
    | exact spec_DrawPlaceFloat.mono _ _
    | exact spec_FloatsOk.mono _ _
    | exact spec_Margin.mono _ _
    | exact spec_PlaceFloat.mono _ _ _ _ _ _ _ _
    | exact LeO.none _
    | refine LeO.ite ?_ ?_
    | refine LeO.bind ?_ (fun _ => ?_)
theorem laws_FnFloats.mono : ∀ a0 k, LeO (laws_FnFloats.f k a0) (laws_FnFloats.f (k + 1) a0) := by
 intro a0 k
 obtain ⟨ih0, ih1, ih2, ih3⟩ := laws_FnFloats.mono_l k
 unfold laws_FnFloats.f
 repeat' first
  | (with_reducible exact ih0 _ _ _ _ _ _ _ _)
  | (with_reducible exact ih1 _)
  | (with_reducible exact ih2 _ _ _)
  | (with_reducible exact ih3 _ _ _ _ _ _ _)
  | (with_reducible exact impl_Margin.mono _ _)
  | (with_reducible exact impl_PlaceFloat.mono _ _ _ _ _ _ _ _)
  | (with_reducible exact spec_DrawMargin.mono _ _)
  | (with_reducible exact spec_DrawPlaceFloat.mono _ _)
  | (with_reducible exact spec_FloatsOk.mono _ _)
  | (with_reducible exact spec_Margin.mono _ _)
  | (with_reducible exact spec_PlaceFloat.mono _ _ _ _ _ _ _ _)
  | (with_reducible exact LeO.refl _)
  | (with_reducible exact LeO.none _)
  | (with_reducible refine LeO.ite ?_ ?_)
  | (with_reducible refine LeO.bind ?_ (fun _ => ?_))
  | exact ih0 _ _ _ _ _ _ _ _
  | exact ih1 _
  | exact ih2 _ _ _
  | exact ih3 _ _ _ _ _ _ _
  | exact impl_Margin.mono _ _
  | exact impl_PlaceFloat.mono _ _ _ _ _ _ _ _
  | exact spec_DrawMargin.mono _ _
  | exact spec_DrawPlaceFloat.mono _ _
  | exact spec_FloatsOk.mono _ _
  | exact spec_Margin.mono _ _
  | exact spec_PlaceFloat.mono _ _ _ _ _ _ _ _
  | exact LeO.none _
  | refine LeO.ite ?_ ?_
  | refine LeO.bind ?_ (fun _ => ?_)
def laws_FnFloats.T5 : Bool × List (List Nat × List Nat) := (true, [([], []), ([], []), ([], []), ([], []), ([], []), ([], []), ([], []), ([], []), ([1, 2, 3, 4, 5, 6, 7], [1, 2, 3, 4, 5, 6, 7]), ([0, 8], [0, 8])])
def laws_FnFloats.B5 : List Nat := [0, 0, 0, 0, 0, 0, 0, 0, 254, 511]
theorem laws_FnFloats.tab5 : rtab .any (opsOf Try.f4 5) = laws_FnFloats.T5 := by kernel_rfl
theorem laws_FnFloats.bits5 : waitsOk laws_FnFloats.T5.2 laws_FnFloats.B5 = true := by kernel_rfl
def laws_FnFloats.T14 : Bool × List (List Nat × List Nat) := (true, [([], []), ([0], [0]), ([1], [1]), ([1], [1]), ([1], [1]), ([3, 4, 1], [1, 3, 4]), ([5, 1], [1, 5]), ([6, 1], [1, 6]), ([2, 7, 1, 1], [1, 2, 7]), ([1, 8], [1, 8]), ([9, 8], [9]), ([10], [10]), ([11, 10], [10, 11]), ([10], [10]), ([10], [10]), ([13, 14, 10], [10, 13, 14]), ([15, 10], [10, 15]), ([16, 10], [10, 16]), ([17, 10], [10, 17]), ([12, 18, 10], [10, 12, 18]), ([10, 19], [10, 19])])
def laws_FnFloats.B14 : List Nat := [0, 1, 3, 3, 3, 27, 59, 123, 255, 511, 1023, 2047, 4095, 2047, 2047, 26623, 59391, 124927, 255999, 524287, 1048575]
theorem laws_FnFloats.tab14 : rtab .any (opsOf Try.f4 14) = laws_FnFloats.T14 := by kernel_rfl
theorem laws_FnFloats.bits14 : waitsOk laws_FnFloats.T14.2 laws_FnFloats.B14 = true := by kernel_rfl
def laws_FnFloats.T22 : Bool × List (List Nat × List Nat) := (true, [([], []), ([], []), ([0, 1], [0, 1]), ([2], [2]), ([3], [3]), ([4], [4]), ([], []), ([], []), ([6, 7], [6, 7]), ([8], [8]), ([5, 9], [5, 9])])
def laws_FnFloats.B22 : List Nat := [0, 0, 3, 7, 15, 31, 0, 0, 192, 448, 1023]
theorem laws_FnFloats.tab22 : rtab .any (opsOf Try.f4 22) = laws_FnFloats.T22 := by kernel_rfl
theorem laws_FnFloats.bits22 : waitsOk laws_FnFloats.T22.2 laws_FnFloats.B22 = true := by kernel_rfl
set_option maxHeartbeats 8000000 in
set_option maxRecDepth 100000 in
theorem laws_FnFloats.calls (k : Nat) (A0 : Option Addr) (c0 : Nat) (l0 : List Int) (r : Bool) (w : World) (hr0 : Kd.C (Kd.int .u8) w A0 l0.length l0) (hc0 : l0.length ≤ c0) (h : laws_FnFloats.f k l0 = some r) :
 Calls Try.prog 4 #[.slice A0 l0.length c0] w fun e w' => e = .returned (.bool r) ∧ Below w.heap.size w w' := by
 have hu34 := Try.underlying34
 have HR0 := aMk hr0
 have HC0 := aMk hc0
 clear hr0 hc0
 have HB := aMk (Below.refl w.heap.size w)
 have H : ((laws_big.f l0).bind fun t354 => (if t354 = true then (some true) else ((spec_DrawPlaceFloat.f k l0).bind fun bt355 => ((impl_PlaceFloat.f k bt355.1 bt355.2.1 bt355.2.2.1 bt355.2.2.2.1 bt355.2.2.2.2.1 bt355.2.2.2.2.2.1 bt355.2.2.2.2.2.2).bind fun bt364 => ((spec_PlaceFloat.f k bt355.1 bt355.2.1 bt355.2.2.1 bt355.2.2.2.1 bt355.2.2.2.2.1 bt355.2.2.2.2.2.1 bt355.2.2.2.2.2.2).bind fun bt369 => (if (!(bt364.1 == bt369.1) || (!(bt364.2.1 == bt369.2.1) || (!(bt364.2.2.1 == bt369.2.2.1) || (!(bt364.2.2.2 == bt369.2.2.2))))) = true then (some false) else ((spec_FloatsOk.f k bt355.1).bind fun t373 => (if t373 = true then (if bt364.2.2.1 > 0 then (laws_FnFloats.j0 k l0 bt355.1 bt355.2.2.2.1 (decide (bt364.2.2.2 > 0)) bt364.1 bt364.2.1 bt364.2.2.1 bt364.2.2.2) else (laws_FnFloats.j0 k l0 bt355.1 bt355.2.2.2.1 false bt364.1 bt364.2.1 bt364.2.2.1 bt364.2.2.2)) else (laws_FnFloats.j0 k l0 bt355.1 bt355.2.2.2.1 false bt364.1 bt364.2.1 bt364.2.2.1 bt364.2.2.2))))))))) = some r := h
 clear h
 replace H := oBm H
 obtain ⟨t354, A20, H⟩ := H
 replace H : (if t354 = true then (some true) else ((spec_DrawPlaceFloat.f k l0).bind fun bt355 => ((impl_PlaceFloat.f k bt355.1 bt355.2.1 bt355.2.2.1 bt355.2.2.2.1 bt355.2.2.2.2.1 bt355.2.2.2.2.2.1 bt355.2.2.2.2.2.2).bind fun bt364 => ((spec_PlaceFloat.f k bt355.1 bt355.2.1 bt355.2.2.1 bt355.2.2.2.1 bt355.2.2.2.2.1 bt355.2.2.2.2.2.1 bt355.2.2.2.2.2.2).bind fun bt369 => (if (!(bt364.1 == bt369.1) || (!(bt364.2.1 == bt369.2.1) || (!(bt364.2.2.1 == bt369.2.2.1) || (!(bt364.2.2.2 == bt369.2.2.2))))) = true then (some false) else ((spec_FloatsOk.f k bt355.1).bind fun t373 => (if t373 = true then (if bt364.2.2.1 > 0 then (laws_FnFloats.j0 k l0 bt355.1 bt355.2.2.2.1 (decide (bt364.2.2.2 > 0)) bt364.1 bt364.2.1 bt364.2.2.1 bt364.2.2.2) else (laws_FnFloats.j0 k l0 bt355.1 bt355.2.2.2.1 false bt364.1 bt364.2.1 bt364.2.2.1 bt364.2.2.2)) else (laws_FnFloats.j0 k l0 bt355.1 bt355.2.2.2.1 false bt364.1 bt364.2.1 bt364.2.2.1 bt364.2.2.2)))))))) = some r := H
 have A2 := aMk A20
 clear A20
 by_cases c3 : t354 = true
 · subst c3
   have H1 : (some true) = some r := by rw [if_pos rfl] at H; exact H
   clear H
   have H := H1
   clear H1
   obtain rfl := Option.some.inj H
   go_enter Try.func4, Try.ntmps4
   go_wp2_with (first | ((with_reducible refine gate_callee (f := 20) rfl ?_); refine goesL_ (some 17) rfl rfl Try.func20 (by kernel_rfl) rfl #[.slice A0 l0.length c0] rfl (by (try simp only [List.map_toArray, List.map_cons, List.map_nil]); first | done | rfl | (simp only [List.length_drop, List.length_take]; rfl)) ?_; (with_reducible refine (laws_big.calls _ _ l0 true _ ?side1 ?side2 A2.out).mono ?_); (case side1 => repeat (first | exact HR0.out | (with_reducible refine Kd.C_alloc ?_ _) | (with_reducible refine Kd.C_drewN ?_ _) | (with_reducible refine Kd.C_drew ?_))); (case side2 => exact HC0.out); rintro e w' ⟨rfl, ⟨nd, rfl⟩⟩; refine ⟨_, rfl, ?_⟩))
   go_ret
   exact ⟨by first | rfl | (simp [errW_none, errW_some] <;> rfl) | (simp [*, errW_none, errW_some] <;> rfl), by repeat (first | (with_reducible first | exact HB.out | apply bAl | apply bDn | apply bD1) | exact HB.out)⟩
 · replace c3 := Bool.eq_false_iff.mpr c3
   subst c3
   have H1 : ((spec_DrawPlaceFloat.f k l0).bind fun bt355 => ((impl_PlaceFloat.f k bt355.1 bt355.2.1 bt355.2.2.1 bt355.2.2.2.1 bt355.2.2.2.2.1 bt355.2.2.2.2.2.1 bt355.2.2.2.2.2.2).bind fun bt364 => ((spec_PlaceFloat.f k bt355.1 bt355.2.1 bt355.2.2.1 bt355.2.2.2.1 bt355.2.2.2.2.1 bt355.2.2.2.2.2.1 bt355.2.2.2.2.2.2).bind fun bt369 => (if (!(bt364.1 == bt369.1) || (!(bt364.2.1 == bt369.2.1) || (!(bt364.2.2.1 == bt369.2.2.1) || (!(bt364.2.2.2 == bt369.2.2.2))))) = true then (some false) else ((spec_FloatsOk.f k bt355.1).bind fun t373 => (if t373 = true then (if bt364.2.2.1 > 0 then (laws_FnFloats.j0 k l0 bt355.1 bt355.2.2.2.1 (decide (bt364.2.2.2 > 0)) bt364.1 bt364.2.1 bt364.2.2.1 bt364.2.2.2) else (laws_FnFloats.j0 k l0 bt355.1 bt355.2.2.2.1 false bt364.1 bt364.2.1 bt364.2.2.1 bt364.2.2.2)) else (laws_FnFloats.j0 k l0 bt355.1 bt355.2.2.2.1 false bt364.1 bt364.2.1 bt364.2.2.1 bt364.2.2.2))))))) = some r := by rw [if_neg (show ¬ (false = true) by decide)] at H; exact H
   clear H
   have H := H1
   clear H1
   replace H := oBm H
   obtain ⟨⟨t355, t356, t357, t358, t359, t360, t361⟩, A40, H⟩ := H
   replace H : ((impl_PlaceFloat.f k t355 t356 t357 t358 t359 t360 t361).bind fun bt364 => ((spec_PlaceFloat.f k t355 t356 t357 t358 t359 t360 t361).bind fun bt369 => (if (!(bt364.1 == bt369.1) || (!(bt364.2.1 == bt369.2.1) || (!(bt364.2.2.1 == bt369.2.2.1) || (!(bt364.2.2.2 == bt369.2.2.2))))) = true then (some false) else ((spec_FloatsOk.f k t355).bind fun t373 => (if t373 = true then (if bt364.2.2.1 > 0 then (laws_FnFloats.j0 k l0 t355 t358 (decide (bt364.2.2.2 > 0)) bt364.1 bt364.2.1 bt364.2.2.1 bt364.2.2.2) else (laws_FnFloats.j0 k l0 t355 t358 false bt364.1 bt364.2.1 bt364.2.2.1 bt364.2.2.2)) else (laws_FnFloats.j0 k l0 t355 t358 false bt364.1 bt364.2.1 bt364.2.2.1 bt364.2.2.2)))))) = some r := H
   have A4 := aMk A40
   clear A40
   replace H := oBm H
   obtain ⟨⟨t364, t365, t366, t367⟩, A50, H⟩ := H
   replace H : ((spec_PlaceFloat.f k t355 t356 t357 t358 t359 t360 t361).bind fun bt369 => (if (!(t364 == bt369.1) || (!(t365 == bt369.2.1) || (!(t366 == bt369.2.2.1) || (!(t367 == bt369.2.2.2))))) = true then (some false) else ((spec_FloatsOk.f k t355).bind fun t373 => (if t373 = true then (if t366 > 0 then (laws_FnFloats.j0 k l0 t355 t358 (decide (t367 > 0)) t364 t365 t366 t367) else (laws_FnFloats.j0 k l0 t355 t358 false t364 t365 t366 t367)) else (laws_FnFloats.j0 k l0 t355 t358 false t364 t365 t366 t367))))) = some r := H
   have A5 := aMk A50
   clear A50
   replace H := oBm H
   obtain ⟨⟨t369, t370, t371, t372⟩, A60, H⟩ := H
   replace H : (if (!(t364 == t369) || (!(t365 == t370) || (!(t366 == t371) || (!(t367 == t372))))) = true then (some false) else ((spec_FloatsOk.f k t355).bind fun t373 => (if t373 = true then (if t366 > 0 then (laws_FnFloats.j0 k l0 t355 t358 (decide (t367 > 0)) t364 t365 t366 t367) else (laws_FnFloats.j0 k l0 t355 t358 false t364 t365 t366 t367)) else (laws_FnFloats.j0 k l0 t355 t358 false t364 t365 t366 t367)))) = some r := H
   have A6 := aMk A60
   clear A60
   by_cases c7 : (!(t364 == t369) || (!(t365 == t370) || (!(t366 == t371) || (!(t367 == t372))))) = true
   · rw [if_pos c7] at H
     have c7b0 : (!(t364 == t369) || (!(t365 == t370) || (!(t366 == t371) || (!(t367 == t372))))) = true := c7
     clear c7
     obtain rfl := Option.some.inj H
     go_enter Try.func4, Try.ntmps4
     try go_wp2_with (first | ((with_reducible refine gate_callee (f := 20) rfl ?_); refine goesL_ (some 17) rfl rfl Try.func20 (by kernel_rfl) rfl #[.slice A0 l0.length c0] rfl (by (try simp only [List.map_toArray, List.map_cons, List.map_nil]); first | done | rfl | (simp only [List.length_drop, List.length_take]; rfl)) ?_; (with_reducible refine (laws_big.calls _ _ l0 false _ ?side1 ?side2 A2.out).mono ?_); (case side1 => repeat (first | exact HR0.out | (with_reducible refine Kd.C_alloc ?_ _) | (with_reducible refine Kd.C_drewN ?_ _) | (with_reducible refine Kd.C_drew ?_))); (case side2 => exact HC0.out); rintro e w' ⟨rfl, ⟨nd, rfl⟩⟩; refine ⟨_, rfl, ?_⟩) | ((with_reducible refine gate_callee (f := 21) rfl ?_); refine goesL_ (some 20) rfl rfl Try.func21 (by kernel_rfl) rfl #[.slice A0 l0.length c0] rfl (by (try simp only [List.map_toArray, List.map_cons, List.map_nil]); first | done | rfl | (simp only [List.length_drop, List.length_take]; rfl)) ?_; (with_reducible refine (spec_DrawPlaceFloat.calls k _ _ l0 t355 t356 t357 t358 t359 t360 t361 _ ?side1 ?side2 A4.out).mono ?_); (case side1 => repeat (first | exact HR0.out | (with_reducible refine Kd.C_alloc ?_ _) | (with_reducible refine Kd.C_drewN ?_ _) | (with_reducible refine Kd.C_drew ?_))); (case side2 => exact HC0.out); rintro e w8 ⟨v362, rfl, ho0, hb⟩; refine ⟨_, rfl, ?_⟩; have n0_ := aMk (Kd.R_lower ho0 (below_size (by repeat (first | (with_reducible first | exact HB.out | apply bAl | apply bDn | apply bD1) | exact HB.out)))); have n1_ := aMk (below_step (by repeat (first | (with_reducible first | exact HB.out | apply bAl | apply bDn | apply bD1) | exact HB.out)) hb); clear HB; have HO363 := n0_; have HB := n1_; clear n0_ n1_; (try clear hb); (try clear hb2); (try clear hk); (try clear hi); (try clear ho0); obtain ⟨Ao9, co9, eo9⟩ := Kd.R_slice HO363.out; subst eo9) | ((with_reducible refine gate_callee (f := 22) rfl ?_); refine goesL_ (some 35) rfl rfl Try.func22 (by kernel_rfl) rfl #[.slice Ao9 t355.length co9, .int .i64 t356, .int .i64 t357, .int .i64 t358, .int .i64 t359, .int .i64 t360, .bool t361] rfl (by (try simp only [List.map_toArray, List.map_cons, List.map_nil]); first | done | rfl | (simp only [List.length_drop, List.length_take]; rfl)) ?_; (with_reducible refine (impl_PlaceFloat.calls k _ _ t355 t356 t357 t358 t359 t360 t361 t364 t365 t366 t367 _ ?side1 ?side2 A5.out).mono ?_); (case side1 => repeat (first | exact (Kd.R_reads' HO363.out).2.2 | (with_reducible refine Kd.C_alloc ?_ _) | (with_reducible refine Kd.C_drewN ?_ _) | (with_reducible refine Kd.C_drew ?_))); (case side2 => exact (Kd.R_reads' HO363.out).2.1); rintro e w10 ⟨rfl, hb⟩; refine ⟨_, rfl, ?_⟩; have n0_ := aMk (Kd.R_below (by (with_reducible repeat (first | apply Kd.R_alloc | apply Kd.R_drewN | apply Kd.R_drew)); exact HO363.out) hb); have n1_ := aMk (below_step (by repeat (first | (with_reducible first | exact HB.out | apply bAl | apply bDn | apply bD1) | exact HB.out)) hb); clear HO363; clear HB; have HO363 := n0_; have HB := n1_; clear n0_ n1_; (try clear hb); (try clear hb2); (try clear hk); (try clear hi)) | ((with_reducible refine gate_dst (N := 10) rfl ?_); refine box_event ?hg (N := 10) ?hd (cs := #[.int .i64 0, .int .i64 0, .int .i64 0, .int .i64 0]) (t := 34) ?hr ?_; (case hd => rfl); (case hg => rfl); (case hr => first | (go_simp; done) | (go_simp; rfl)); intro gb368 hg w11 hbox hb; have n0_ := aMk (Kd.R_below (by (with_reducible repeat (first | apply Kd.R_alloc | apply Kd.R_drewN | apply Kd.R_drew)); exact HO363.out) hb); have n1_ := aMk (below_step (by repeat (first | (with_reducible first | exact HB.out | apply bAl | apply bDn | apply bD1) | exact HB.out)) hb); have n2_ := aMk (hbox); have n3_ := aMk ((by rw [hg]; exact (below_size (by repeat (first | (with_reducible first | exact HB.out | apply bAl | apply bDn | apply bD1) | exact HB.out))) : w.heap.size ≤ gb368)); have n4_ := aMk ((by rw [hg]; exact (below_size (by repeat (first | (with_reducible first | exact HB.out | apply bAl | apply bDn | apply bD1) | exact HB.out))) : w.heap.size ≤ gb368)); clear HO363; clear HB; have HO363 := n0_; have HB := n1_; have BK368 := n2_; have GW368 := n3_; have GE368 := n4_; clear n0_ n1_ n2_ n3_ n4_; clear hb hbox hg; have hcz12_0 : w11.cell? ⟨gb368, 0, none⟩ = some (.int .i64 0) := (bCe BK368.out 0).trans rfl; have hcz12_1 : w11.cell? ⟨gb368, 1, none⟩ = some (.int .i64 0) := (bCe BK368.out 1).trans rfl; have hcz12_2 : w11.cell? ⟨gb368, 2, none⟩ = some (.int .i64 0) := (bCe BK368.out 2).trans rfl; have hcz12_3 : w11.cell? ⟨gb368, 3, none⟩ = some (.int .i64 0) := (bCe BK368.out 3).trans rfl; have hfz12_0 := bFr BK368.out 0; have hfz12_1 := bFr BK368.out 1; have hfz12_2 := bFr BK368.out 2; have hfz12_3 := bFr BK368.out 3))
     have n0_ : Aside0 (Kd.R k38 38 ((((w11.setCell ⟨gb368, 0, none⟩ (.int .i64 t364)).setCell ⟨gb368, 1, none⟩ (.int .i64 t365)).setCell ⟨gb368, 2, none⟩ (.int .i64 t366)).setCell ⟨gb368, 3, none⟩ (.int .i64 t367)) w.heap.size (fun _ => True) (.slice Ao9 t355.length co9) t355) := ⟨by (with_reducible repeat (first | apply Kd.R_alloc | apply Kd.R_drewN | apply Kd.R_drew)); exact Kd.R_mono (Kd.R_far (p := ⟨gb368, 3, none⟩) (Kd.R_far (p := ⟨gb368, 2, none⟩) (Kd.R_far (p := ⟨gb368, 1, none⟩) (Kd.R_far (p := ⟨gb368, 0, none⟩) (Kd.R_types HO363.out BK368.out (by decide)) (fun _ hk => hk.2) (.int .i64 t364)) (fun _ hk => hk.2) (.int .i64 t365)) (fun _ hk => hk.2) (.int .i64 t366)) (fun _ hk => hk.2) (.int .i64 t367)) (fun _ hk => trivial)⟩
     have n1_ : Aside0 (((((w11.setCell ⟨gb368, 0, none⟩ (.int .i64 t364)).setCell ⟨gb368, 1, none⟩ (.int .i64 t365)).setCell ⟨gb368, 2, none⟩ (.int .i64 t366)).setCell ⟨gb368, 3, none⟩ (.int .i64 t367)).heap[gb368]? = some (.cells #[.int .i64 t364, .int .i64 t365, .int .i64 t366, .int .i64 t367] 34 (0, 0))) := ⟨by (with_reducible repeat (first | refine bkD ?_ _ | refine blk_drew ?_ | refine bkA ?_ _)); refine blk_put (cs := #[.int .i64 t364, .int .i64 t365, .int .i64 t366, .int .i64 0]) ?_ 3 _ rfl; (with_reducible repeat (first | refine bkD ?_ _ | refine blk_drew ?_ | refine bkA ?_ _)); refine blk_put (cs := #[.int .i64 t364, .int .i64 t365, .int .i64 0, .int .i64 0]) ?_ 2 _ rfl; (with_reducible repeat (first | refine bkD ?_ _ | refine blk_drew ?_ | refine bkA ?_ _)); refine blk_put (cs := #[.int .i64 t364, .int .i64 0, .int .i64 0, .int .i64 0]) ?_ 1 _ rfl; (with_reducible repeat (first | refine bkD ?_ _ | refine blk_drew ?_ | refine bkA ?_ _)); refine blk_put (cs := #[.int .i64 0, .int .i64 0, .int .i64 0, .int .i64 0]) ?_ 0 _ rfl; (with_reducible repeat (first | refine bkD ?_ _ | refine blk_drew ?_ | refine bkA ?_ _)); exact BK368.out⟩
     have n2_ : Aside0 (Below w.heap.size w ((((w11.setCell ⟨gb368, 0, none⟩ (.int .i64 t364)).setCell ⟨gb368, 1, none⟩ (.int .i64 t365)).setCell ⟨gb368, 2, none⟩ (.int .i64 t366)).setCell ⟨gb368, 3, none⟩ (.int .i64 t367))) := ⟨by repeat (first | (with_reducible first | exact HB.out | apply bAl | apply bDn | apply bD1 | refine bSe ?_ GE368.out) | exact HB.out)⟩
     (try clear HO363)
     (try clear BK368)
     (try clear HB)
     generalize ((((w11.setCell ⟨gb368, 0, none⟩ (.int .i64 t364)).setCell ⟨gb368, 1, none⟩ (.int .i64 t365)).setCell ⟨gb368, 2, none⟩ (.int .i64 t366)).setCell ⟨gb368, 3, none⟩ (.int .i64 t367)) = w13 at n0_ n1_ n2_ ⊢
     have HO363 := n0_
     have BK368 := n1_
     have HB := n2_
     clear n0_ n1_ n2_
     have n0_ := aMk (Kd.R_drew HO363.out)
     have n1_ := aMk (blk_drew BK368.out)
     have n2_ := aMk (bD1 HB.out)
     clear HO363
     clear BK368
     clear HB
     have HO363 := n0_
     have BK368 := n1_
     have HB := n2_
     clear n0_ n1_ n2_
     refine start_ (n := 10) (S := fun w' => w'.cell? ⟨gb368, 0, none⟩ = some (.int .i64 t364) ∧ w'.cell? ⟨gb368, 1, none⟩ = some (.int .i64 t365) ∧ w'.cell? ⟨gb368, 2, none⟩ = some (.int .i64 t366) ∧ w'.cell? ⟨gb368, 3, none⟩ = some (.int .i64 t367)) (ds := []) #[false, false, false, false, false, false, false, false, false, false] (by kernel_rfl) rfl rfl ⟨(bCe BK368.out 0).trans rfl, (bCe BK368.out 1).trans rfl, (bCe BK368.out 2).trans rfl, (bCe BK368.out 3).trans rfl⟩ (fun hHeld => ?_); refine with_tabW laws_FnFloats.tab5 laws_FnFloats.bits5 (fun HT_ HW_ => ?_)
     generalize w13.drew = w14 at HO363 BK368 HB hHeld ⊢
     refine pure_ (i := 1) (N := some 37) (v := ?_) (a' := ?_) #[false, true, false, false, false, false, false, false, false, false] rfl rfl (any_of HT_.out (by kernel_rfl)) (fun _ _ _ h => h) (Or.inl ⟨by rfl, ?_⟩) ?_ ?_
     rotate_left
     · intro w'
       go_simp
       with_reducible rfl
     rotate_left
     · simp only [Act.put, lSa, lSz, lSs, i64_w, i32_w]
       rfl
     refine pure_ (i := 2) (N := some 38) (v := ?_) (a' := ?_) #[false, true, true, false, false, false, false, false, false, false] rfl rfl (any_of HT_.out (by kernel_rfl)) (fun _ _ _ h => h) (Or.inl ⟨by rfl, ?_⟩) ?_ ?_
     rotate_left
     · intro w'
       go_simp
       with_reducible rfl
     rotate_left
     · simp only [Act.put, lSa, lSz, lSs, i64_w, i32_w]
       rfl
     refine pure_ (i := 3) (N := some 39) (v := ?_) (a' := ?_) #[false, true, true, true, false, false, false, false, false, false] rfl rfl (any_of HT_.out (by kernel_rfl)) (fun _ _ _ h => h) (Or.inl ⟨by rfl, ?_⟩) ?_ ?_
     rotate_left
     · intro w'
       go_simp
       with_reducible rfl
     rotate_left
     · simp only [Act.put, lSa, lSz, lSs, i64_w, i32_w]
       rfl
     refine pure_ (i := 4) (N := some 40) (v := ?_) (a' := ?_) #[false, true, true, true, true, false, false, false, false, false] rfl rfl (any_of HT_.out (by kernel_rfl)) (fun _ _ _ h => h) (Or.inl ⟨by rfl, ?_⟩) ?_ ?_
     rotate_left
     · intro w'
       go_simp
       with_reducible rfl
     rotate_left
     · simp only [Act.put, lSa, lSz, lSs, i64_w, i32_w]
       rfl
     refine pure_ (i := 5) (N := some 41) (v := ?_) (a' := ?_) #[false, true, true, true, true, true, false, false, false, false] rfl rfl (any_of HT_.out (by kernel_rfl)) (fun _ _ _ h => h) (Or.inl ⟨by rfl, ?_⟩) ?_ ?_
     rotate_left
     · intro w'
       go_simp
       with_reducible rfl
     rotate_left
     · simp only [Act.put, lSa, lSz, lSs, i64_w, i32_w]
       rfl
     refine pure_ (i := 6) (N := some 42) (v := ?_) (a' := ?_) #[false, true, true, true, true, true, true, false, false, false] rfl rfl (any_of HT_.out (by kernel_rfl)) (fun _ _ _ h => h) (Or.inl ⟨by rfl, ?_⟩) ?_ ?_
     rotate_left
     · intro w'
       go_simp
       with_reducible rfl
     rotate_left
     · simp only [Act.put, lSa, lSz, lSs, i64_w, i32_w]
       rfl
     refine pure_ (i := 7) (N := some 43) (v := ?_) (a' := ?_) #[false, true, true, true, true, true, true, true, false, false] rfl rfl (any_of HT_.out (by kernel_rfl)) (fun _ _ _ h => h) (Or.inl ⟨by rfl, ?_⟩) ?_ ?_
     rotate_left
     · intro w'
       go_simp
       with_reducible rfl
     rotate_left
     · simp only [Act.put, lSa, lSz, lSs, i64_w, i32_w]
       rfl
     refine take_ (i := 0) (N := some 36) (v := ?_) (a' := ?_) #[true, true, true, true, true, true, true, true, false, false] rfl rfl (take_ofW HT_.out HW_.out (by kernel_rfl)) (fun _ _ _ h => h) (Or.inl ⟨by rfl, ?_⟩) hHeld ?_ ?_
     rotate_left
     · rintro w' ⟨s0, s1, s2, s3⟩
       go_simp
       with_reducible rfl
     rotate_left
     · simp only [Act.put, lSa, lSz, lSs, i64_w, i32_w]
       rfl
     refine one_ (i := 8) (N := some 44) #[true, true, true, true, true, true, true, true, true, false] rfl rfl (one_of HT_.out (by kernel_rfl)) (by decide) (fun K hK => ?_)
     refine goes_ Try.func23 (by kernel_rfl) rfl #[.slice Ao9 t355.length co9, .int .i64 t356, .int .i64 t357, .int .i64 t358, .int .i64 t359, .int .i64 t360, .bool t361] (by rfl) rfl rfl (by (try simp only [List.map_toArray, List.map_cons, List.map_nil]); first | done | rfl | (simp only [List.length_drop, List.length_take]; rfl)) ?_
     with_reducible refine (spec_PlaceFloat.calls k _ _ t355 t356 t357 t358 t359 t360 t361 t369 t370 t371 t372 _ ?side1 ?side2 A6.out).mono ?_
     (case side1 => repeat (first | exact (Kd.R_reads' HO363.out).2.2 | (with_reducible refine Kd.C_alloc ?_ _) | (with_reducible refine Kd.C_drewN ?_ _) | (with_reducible refine Kd.C_drew ?_)))
     (case side2 => exact (Kd.R_reads' HO363.out).2.1)
     rintro e w15 ⟨rfl, hb⟩
     refine ⟨_, rfl, ?_⟩
     have n0_ := aMk (Kd.R_below (by (with_reducible repeat (first | apply Kd.R_alloc | apply Kd.R_drewN | apply Kd.R_drew)); exact HO363.out) hb)
     have n1_ := aMk (blk_below (g := gb368) (o := .cells #[.int .i64 t364, .int .i64 t365, .int .i64 t366, .int .i64 t367] 34 (0, 0)) (by (with_reducible repeat (first | refine bkD ?_ _ | refine blk_drew ?_ | refine bkA ?_ _)); exact BK368.out) hb)
     have n2_ := aMk (below_step (by repeat (first | (with_reducible first | exact HB.out | apply bAl | apply bDn | apply bD1 | refine bSe ?_ GE368.out) | exact HB.out)) hb)
     clear HO363
     clear BK368
     clear HB
     have HO363 := n0_
     have BK368 := n1_
     have HB := n2_
     clear n0_ n1_ n2_
     (try clear hb)
     (try clear hb2)
     (try clear hk)
     (try clear hi)
     refine hK.out _ _ ⟨(bCe BK368.out 0).trans rfl, (bCe BK368.out 1).trans rfl, (bCe BK368.out 2).trans rfl, (bCe BK368.out 3).trans rfl⟩ (fun hHeld => ?_)
     clear hK K
     refine norm_ (a' := ?_) ?_ ?_
     rotate_left
     · show Act.put _ (some 44) _ = _
       simp only [Act.put, lSa, lSz, lSs, i64_w, i32_w]
       rfl
     refine pure_ (i := 9) (N := some 45) (v := ?_) (a' := ?_) #[true, true, true, true, true, true, true, true, true, true] rfl rfl (any_of HT_.out (by kernel_rfl)) (fun _ _ _ h => h) (Or.inl ⟨by rfl, ?_⟩) ?_ ?_
     rotate_left
     · intro w'
       go_simp
       with_reducible rfl
     rotate_left
     · simp only [Act.put, lSa, lSz, lSs, i64_w, i32_w]
       rfl
     refine done_ (done_of HT_.out (by kernel_rfl)) ?_
     try go_wp2
     go_ret
     exact ⟨by first | rfl | (simp [errW_none, errW_some] <;> rfl) | (simp [*, errW_none, errW_some] <;> rfl), by repeat (first | (with_reducible first | exact HB.out | apply bAl | apply bDn | apply bD1 | refine bSe ?_ GE368.out) | exact HB.out)⟩
   · rw [if_neg c7] at H
     have c7b0 : (!(t364 == t369) || (!(t365 == t370) || (!(t366 == t371) || (!(t367 == t372))))) = false := by simpa using c7
     clear c7
     have HC16 := aMk H
     clear H
     go_enter Try.func4, Try.ntmps4
     try go_wp2_with (first | ((with_reducible refine gate_callee (f := 20) rfl ?_); refine goesL_ (some 17) rfl rfl Try.func20 (by kernel_rfl) rfl #[.slice A0 l0.length c0] rfl (by (try simp only [List.map_toArray, List.map_cons, List.map_nil]); first | done | rfl | (simp only [List.length_drop, List.length_take]; rfl)) ?_; (with_reducible refine (laws_big.calls _ _ l0 false _ ?side1 ?side2 A2.out).mono ?_); (case side1 => repeat (first | exact HR0.out | (with_reducible refine Kd.C_alloc ?_ _) | (with_reducible refine Kd.C_drewN ?_ _) | (with_reducible refine Kd.C_drew ?_))); (case side2 => exact HC0.out); rintro e w' ⟨rfl, ⟨nd, rfl⟩⟩; refine ⟨_, rfl, ?_⟩) | ((with_reducible refine gate_callee (f := 21) rfl ?_); refine goesL_ (some 20) rfl rfl Try.func21 (by kernel_rfl) rfl #[.slice A0 l0.length c0] rfl (by (try simp only [List.map_toArray, List.map_cons, List.map_nil]); first | done | rfl | (simp only [List.length_drop, List.length_take]; rfl)) ?_; (with_reducible refine (spec_DrawPlaceFloat.calls k _ _ l0 t355 t356 t357 t358 t359 t360 t361 _ ?side1 ?side2 A4.out).mono ?_); (case side1 => repeat (first | exact HR0.out | (with_reducible refine Kd.C_alloc ?_ _) | (with_reducible refine Kd.C_drewN ?_ _) | (with_reducible refine Kd.C_drew ?_))); (case side2 => exact HC0.out); rintro e w17 ⟨v362, rfl, ho0, hb⟩; refine ⟨_, rfl, ?_⟩; have n0_ := aMk (Kd.R_lower ho0 (below_size (by repeat (first | (with_reducible first | exact HB.out | apply bAl | apply bDn | apply bD1) | exact HB.out)))); have n1_ := aMk (below_step (by repeat (first | (with_reducible first | exact HB.out | apply bAl | apply bDn | apply bD1) | exact HB.out)) hb); clear HB; have HO363 := n0_; have HB := n1_; clear n0_ n1_; (try clear hb); (try clear hb2); (try clear hk); (try clear hi); (try clear ho0); obtain ⟨Ao18, co18, eo18⟩ := Kd.R_slice HO363.out; subst eo18) | ((with_reducible refine gate_callee (f := 22) rfl ?_); refine goesL_ (some 35) rfl rfl Try.func22 (by kernel_rfl) rfl #[.slice Ao18 t355.length co18, .int .i64 t356, .int .i64 t357, .int .i64 t358, .int .i64 t359, .int .i64 t360, .bool t361] rfl (by (try simp only [List.map_toArray, List.map_cons, List.map_nil]); first | done | rfl | (simp only [List.length_drop, List.length_take]; rfl)) ?_; (with_reducible refine (impl_PlaceFloat.calls k _ _ t355 t356 t357 t358 t359 t360 t361 t364 t365 t366 t367 _ ?side1 ?side2 A5.out).mono ?_); (case side1 => repeat (first | exact (Kd.R_reads' HO363.out).2.2 | (with_reducible refine Kd.C_alloc ?_ _) | (with_reducible refine Kd.C_drewN ?_ _) | (with_reducible refine Kd.C_drew ?_))); (case side2 => exact (Kd.R_reads' HO363.out).2.1); rintro e w19 ⟨rfl, hb⟩; refine ⟨_, rfl, ?_⟩; have n0_ := aMk (Kd.R_below (by (with_reducible repeat (first | apply Kd.R_alloc | apply Kd.R_drewN | apply Kd.R_drew)); exact HO363.out) hb); have n1_ := aMk (below_step (by repeat (first | (with_reducible first | exact HB.out | apply bAl | apply bDn | apply bD1) | exact HB.out)) hb); clear HO363; clear HB; have HO363 := n0_; have HB := n1_; clear n0_ n1_; (try clear hb); (try clear hb2); (try clear hk); (try clear hi)) | ((with_reducible refine gate_dst (N := 10) rfl ?_); refine box_event ?hg (N := 10) ?hd (cs := #[.int .i64 0, .int .i64 0, .int .i64 0, .int .i64 0]) (t := 34) ?hr ?_; (case hd => rfl); (case hg => rfl); (case hr => first | (go_simp; done) | (go_simp; rfl)); intro gb368 hg w20 hbox hb; have n0_ := aMk (Kd.R_below (by (with_reducible repeat (first | apply Kd.R_alloc | apply Kd.R_drewN | apply Kd.R_drew)); exact HO363.out) hb); have n1_ := aMk (below_step (by repeat (first | (with_reducible first | exact HB.out | apply bAl | apply bDn | apply bD1) | exact HB.out)) hb); have n2_ := aMk (hbox); have n3_ := aMk ((by rw [hg]; exact (below_size (by repeat (first | (with_reducible first | exact HB.out | apply bAl | apply bDn | apply bD1) | exact HB.out))) : w.heap.size ≤ gb368)); have n4_ := aMk ((by rw [hg]; exact (below_size (by repeat (first | (with_reducible first | exact HB.out | apply bAl | apply bDn | apply bD1) | exact HB.out))) : w.heap.size ≤ gb368)); clear HO363; clear HB; have HO363 := n0_; have HB := n1_; have BK368 := n2_; have GW368 := n3_; have GE368 := n4_; clear n0_ n1_ n2_ n3_ n4_; clear hb hbox hg; have hcz21_0 : w20.cell? ⟨gb368, 0, none⟩ = some (.int .i64 0) := (bCe BK368.out 0).trans rfl; have hcz21_1 : w20.cell? ⟨gb368, 1, none⟩ = some (.int .i64 0) := (bCe BK368.out 1).trans rfl; have hcz21_2 : w20.cell? ⟨gb368, 2, none⟩ = some (.int .i64 0) := (bCe BK368.out 2).trans rfl; have hcz21_3 : w20.cell? ⟨gb368, 3, none⟩ = some (.int .i64 0) := (bCe BK368.out 3).trans rfl; have hfz21_0 := bFr BK368.out 0; have hfz21_1 := bFr BK368.out 1; have hfz21_2 := bFr BK368.out 2; have hfz21_3 := bFr BK368.out 3))
     have n0_ : Aside0 (Kd.R k38 38 ((((w20.setCell ⟨gb368, 0, none⟩ (.int .i64 t364)).setCell ⟨gb368, 1, none⟩ (.int .i64 t365)).setCell ⟨gb368, 2, none⟩ (.int .i64 t366)).setCell ⟨gb368, 3, none⟩ (.int .i64 t367)) w.heap.size (fun _ => True) (.slice Ao18 t355.length co18) t355) := ⟨by (with_reducible repeat (first | apply Kd.R_alloc | apply Kd.R_drewN | apply Kd.R_drew)); exact Kd.R_mono (Kd.R_far (p := ⟨gb368, 3, none⟩) (Kd.R_far (p := ⟨gb368, 2, none⟩) (Kd.R_far (p := ⟨gb368, 1, none⟩) (Kd.R_far (p := ⟨gb368, 0, none⟩) (Kd.R_types HO363.out BK368.out (by decide)) (fun _ hk => hk.2) (.int .i64 t364)) (fun _ hk => hk.2) (.int .i64 t365)) (fun _ hk => hk.2) (.int .i64 t366)) (fun _ hk => hk.2) (.int .i64 t367)) (fun _ hk => trivial)⟩
     have n1_ : Aside0 (((((w20.setCell ⟨gb368, 0, none⟩ (.int .i64 t364)).setCell ⟨gb368, 1, none⟩ (.int .i64 t365)).setCell ⟨gb368, 2, none⟩ (.int .i64 t366)).setCell ⟨gb368, 3, none⟩ (.int .i64 t367)).heap[gb368]? = some (.cells #[.int .i64 t364, .int .i64 t365, .int .i64 t366, .int .i64 t367] 34 (0, 0))) := ⟨by (with_reducible repeat (first | refine bkD ?_ _ | refine blk_drew ?_ | refine bkA ?_ _)); refine blk_put (cs := #[.int .i64 t364, .int .i64 t365, .int .i64 t366, .int .i64 0]) ?_ 3 _ rfl; (with_reducible repeat (first | refine bkD ?_ _ | refine blk_drew ?_ | refine bkA ?_ _)); refine blk_put (cs := #[.int .i64 t364, .int .i64 t365, .int .i64 0, .int .i64 0]) ?_ 2 _ rfl; (with_reducible repeat (first | refine bkD ?_ _ | refine blk_drew ?_ | refine bkA ?_ _)); refine blk_put (cs := #[.int .i64 t364, .int .i64 0, .int .i64 0, .int .i64 0]) ?_ 1 _ rfl; (with_reducible repeat (first | refine bkD ?_ _ | refine blk_drew ?_ | refine bkA ?_ _)); refine blk_put (cs := #[.int .i64 0, .int .i64 0, .int .i64 0, .int .i64 0]) ?_ 0 _ rfl; (with_reducible repeat (first | refine bkD ?_ _ | refine blk_drew ?_ | refine bkA ?_ _)); exact BK368.out⟩
     have n2_ : Aside0 (Below w.heap.size w ((((w20.setCell ⟨gb368, 0, none⟩ (.int .i64 t364)).setCell ⟨gb368, 1, none⟩ (.int .i64 t365)).setCell ⟨gb368, 2, none⟩ (.int .i64 t366)).setCell ⟨gb368, 3, none⟩ (.int .i64 t367))) := ⟨by repeat (first | (with_reducible first | exact HB.out | apply bAl | apply bDn | apply bD1 | refine bSe ?_ GE368.out) | exact HB.out)⟩
     (try clear HO363)
     (try clear BK368)
     (try clear HB)
     generalize ((((w20.setCell ⟨gb368, 0, none⟩ (.int .i64 t364)).setCell ⟨gb368, 1, none⟩ (.int .i64 t365)).setCell ⟨gb368, 2, none⟩ (.int .i64 t366)).setCell ⟨gb368, 3, none⟩ (.int .i64 t367)) = w22 at n0_ n1_ n2_ ⊢
     have HO363 := n0_
     have BK368 := n1_
     have HB := n2_
     clear n0_ n1_ n2_
     have n0_ := aMk (Kd.R_drew HO363.out)
     have n1_ := aMk (blk_drew BK368.out)
     have n2_ := aMk (bD1 HB.out)
     clear HO363
     clear BK368
     clear HB
     have HO363 := n0_
     have BK368 := n1_
     have HB := n2_
     clear n0_ n1_ n2_
     refine start_ (n := 10) (S := fun w' => w'.cell? ⟨gb368, 0, none⟩ = some (.int .i64 t364) ∧ w'.cell? ⟨gb368, 1, none⟩ = some (.int .i64 t365) ∧ w'.cell? ⟨gb368, 2, none⟩ = some (.int .i64 t366) ∧ w'.cell? ⟨gb368, 3, none⟩ = some (.int .i64 t367)) (ds := []) #[false, false, false, false, false, false, false, false, false, false] (by kernel_rfl) rfl rfl ⟨(bCe BK368.out 0).trans rfl, (bCe BK368.out 1).trans rfl, (bCe BK368.out 2).trans rfl, (bCe BK368.out 3).trans rfl⟩ (fun hHeld => ?_); refine with_tabW laws_FnFloats.tab5 laws_FnFloats.bits5 (fun HT_ HW_ => ?_)
     generalize w22.drew = w23 at HO363 BK368 HB hHeld ⊢
     refine pure_ (i := 1) (N := some 37) (v := ?_) (a' := ?_) #[false, true, false, false, false, false, false, false, false, false] rfl rfl (any_of HT_.out (by kernel_rfl)) (fun _ _ _ h => h) (Or.inl ⟨by rfl, ?_⟩) ?_ ?_
     rotate_left
     · intro w'
       go_simp
       with_reducible rfl
     rotate_left
     · simp only [Act.put, lSa, lSz, lSs, i64_w, i32_w]
       rfl
     refine pure_ (i := 2) (N := some 38) (v := ?_) (a' := ?_) #[false, true, true, false, false, false, false, false, false, false] rfl rfl (any_of HT_.out (by kernel_rfl)) (fun _ _ _ h => h) (Or.inl ⟨by rfl, ?_⟩) ?_ ?_
     rotate_left
     · intro w'
       go_simp
       with_reducible rfl
     rotate_left
     · simp only [Act.put, lSa, lSz, lSs, i64_w, i32_w]
       rfl
     refine pure_ (i := 3) (N := some 39) (v := ?_) (a' := ?_) #[false, true, true, true, false, false, false, false, false, false] rfl rfl (any_of HT_.out (by kernel_rfl)) (fun _ _ _ h => h) (Or.inl ⟨by rfl, ?_⟩) ?_ ?_
     rotate_left
     · intro w'
       go_simp
       with_reducible rfl
     rotate_left
     · simp only [Act.put, lSa, lSz, lSs, i64_w, i32_w]
       rfl
     refine pure_ (i := 4) (N := some 40) (v := ?_) (a' := ?_) #[false, true, true, true, true, false, false, false, false, false] rfl rfl (any_of HT_.out (by kernel_rfl)) (fun _ _ _ h => h) (Or.inl ⟨by rfl, ?_⟩) ?_ ?_
     rotate_left
     · intro w'
       go_simp
       with_reducible rfl
     rotate_left
     · simp only [Act.put, lSa, lSz, lSs, i64_w, i32_w]
       rfl
     refine pure_ (i := 5) (N := some 41) (v := ?_) (a' := ?_) #[false, true, true, true, true, true, false, false, false, false] rfl rfl (any_of HT_.out (by kernel_rfl)) (fun _ _ _ h => h) (Or.inl ⟨by rfl, ?_⟩) ?_ ?_
     rotate_left
     · intro w'
       go_simp
       with_reducible rfl
     rotate_left
     · simp only [Act.put, lSa, lSz, lSs, i64_w, i32_w]
       rfl
     refine pure_ (i := 6) (N := some 42) (v := ?_) (a' := ?_) #[false, true, true, true, true, true, true, false, false, false] rfl rfl (any_of HT_.out (by kernel_rfl)) (fun _ _ _ h => h) (Or.inl ⟨by rfl, ?_⟩) ?_ ?_
     rotate_left
     · intro w'
       go_simp
       with_reducible rfl
     rotate_left
     · simp only [Act.put, lSa, lSz, lSs, i64_w, i32_w]
       rfl
     refine pure_ (i := 7) (N := some 43) (v := ?_) (a' := ?_) #[false, true, true, true, true, true, true, true, false, false] rfl rfl (any_of HT_.out (by kernel_rfl)) (fun _ _ _ h => h) (Or.inl ⟨by rfl, ?_⟩) ?_ ?_
     rotate_left
     · intro w'
       go_simp
       with_reducible rfl
     rotate_left
     · simp only [Act.put, lSa, lSz, lSs, i64_w, i32_w]
       rfl
     refine take_ (i := 0) (N := some 36) (v := ?_) (a' := ?_) #[true, true, true, true, true, true, true, true, false, false] rfl rfl (take_ofW HT_.out HW_.out (by kernel_rfl)) (fun _ _ _ h => h) (Or.inl ⟨by rfl, ?_⟩) hHeld ?_ ?_
     rotate_left
     · rintro w' ⟨s0, s1, s2, s3⟩
       go_simp
       with_reducible rfl
     rotate_left
     · simp only [Act.put, lSa, lSz, lSs, i64_w, i32_w]
       rfl
     refine one_ (i := 8) (N := some 44) #[true, true, true, true, true, true, true, true, true, false] rfl rfl (one_of HT_.out (by kernel_rfl)) (by decide) (fun K hK => ?_)
     refine goes_ Try.func23 (by kernel_rfl) rfl #[.slice Ao18 t355.length co18, .int .i64 t356, .int .i64 t357, .int .i64 t358, .int .i64 t359, .int .i64 t360, .bool t361] (by rfl) rfl rfl (by (try simp only [List.map_toArray, List.map_cons, List.map_nil]); first | done | rfl | (simp only [List.length_drop, List.length_take]; rfl)) ?_
     with_reducible refine (spec_PlaceFloat.calls k _ _ t355 t356 t357 t358 t359 t360 t361 t369 t370 t371 t372 _ ?side1 ?side2 A6.out).mono ?_
     (case side1 => repeat (first | exact (Kd.R_reads' HO363.out).2.2 | (with_reducible refine Kd.C_alloc ?_ _) | (with_reducible refine Kd.C_drewN ?_ _) | (with_reducible refine Kd.C_drew ?_)))
     (case side2 => exact (Kd.R_reads' HO363.out).2.1)
     rintro e w24 ⟨rfl, hb⟩
     refine ⟨_, rfl, ?_⟩
     have n0_ := aMk (Kd.R_below (by (with_reducible repeat (first | apply Kd.R_alloc | apply Kd.R_drewN | apply Kd.R_drew)); exact HO363.out) hb)
     have n1_ := aMk (blk_below (g := gb368) (o := .cells #[.int .i64 t364, .int .i64 t365, .int .i64 t366, .int .i64 t367] 34 (0, 0)) (by (with_reducible repeat (first | refine bkD ?_ _ | refine blk_drew ?_ | refine bkA ?_ _)); exact BK368.out) hb)
     have n2_ := aMk (below_step (by repeat (first | (with_reducible first | exact HB.out | apply bAl | apply bDn | apply bD1 | refine bSe ?_ GE368.out) | exact HB.out)) hb)
     clear HO363
     clear BK368
     clear HB
     have HO363 := n0_
     have BK368 := n1_
     have HB := n2_
     clear n0_ n1_ n2_
     (try clear hb)
     (try clear hb2)
     (try clear hk)
     (try clear hi)
     refine hK.out _ _ ⟨(bCe BK368.out 0).trans rfl, (bCe BK368.out 1).trans rfl, (bCe BK368.out 2).trans rfl, (bCe BK368.out 3).trans rfl⟩ (fun hHeld => ?_)
     clear hK K
     refine norm_ (a' := ?_) ?_ ?_
     rotate_left
     · show Act.put _ (some 44) _ = _
       simp only [Act.put, lSa, lSz, lSs, i64_w, i32_w]
       rfl
     refine pure_ (i := 9) (N := some 45) (v := ?_) (a' := ?_) #[true, true, true, true, true, true, true, true, true, true] rfl rfl (any_of HT_.out (by kernel_rfl)) (fun _ _ _ h => h) (Or.inl ⟨by rfl, ?_⟩) ?_ ?_
     rotate_left
     · intro w'
       go_simp
       with_reducible rfl
     rotate_left
     · simp only [Act.put, lSa, lSz, lSs, i64_w, i32_w]
       rfl
     refine done_ (done_of HT_.out (by kernel_rfl)) ?_
     go_upto_region 7 with (fail)
     go_cut [57] (fun v57 wc => ∃ (kq : Nat) (x57_15 : Bool), v57 = .bool x57_15 ∧ Aside0 (laws_FnFloats.j0 kq l0 t355 t358 x57_15 t364 t365 t366 t367 = some r) ∧ Aside0 (kq ≤ k) ∧ Aside0 (Kd.R k38 38 wc w.heap.size (fun _ => True) (.slice Ao18 t355.length co18) t355) ∧ Aside0 (wc.heap[gb368]? = some (.cells #[.int .i64 t364, .int .i64 t365, .int .i64 t366, .int .i64 t367] 34 (0, 0))) ∧ Aside0 (Below w.heap.size w wc))
     case first =>
      have H := HC16.out
      clear HC16
      replace H := oBm H
      obtain ⟨t373, A250, H⟩ := H
      replace H : (if t373 = true then (if t366 > 0 then (laws_FnFloats.j0 k l0 t355 t358 (decide (t367 > 0)) t364 t365 t366 t367) else (laws_FnFloats.j0 k l0 t355 t358 false t364 t365 t366 t367)) else (laws_FnFloats.j0 k l0 t355 t358 false t364 t365 t366 t367)) = some r := H
      have A25 := aMk A250
      clear A250
      by_cases c26 : t373 = true
      · subst c26
        have H1 : (if t366 > 0 then (laws_FnFloats.j0 k l0 t355 t358 (decide (t367 > 0)) t364 t365 t366 t367) else (laws_FnFloats.j0 k l0 t355 t358 false t364 t365 t366 t367)) = some r := by rw [if_pos rfl] at H; exact H
        clear H
        have H := H1
        clear H1
        by_cases c27 : t366 > 0
        · rw [if_pos c27] at H
          have c27b0 : decide (0 < t366) = true := decide_eq_true c27
          clear c27
          (first | rw [c27b0] | (simp only [i64_w, i32_w]; rw [c27b0]) | skip)
          have H' := aMk H
          clear H
          go_wp2_with (first | ((with_reducible refine gate_callee (f := 24) rfl ?_); refine goesL_ (some 47) rfl rfl Try.func24 (by kernel_rfl) rfl #[.slice Ao18 t355.length co18] rfl (by (try simp only [List.map_toArray, List.map_cons, List.map_nil]); first | done | rfl | (simp only [List.length_drop, List.length_take]; rfl)) ?_; (with_reducible refine (spec_FloatsOk.calls k _ _ t355 true _ ?side1 ?side2 A25.out).mono ?_); (case side1 => repeat (first | exact (Kd.R_reads' HO363.out).2.2 | (with_reducible refine Kd.C_alloc ?_ _) | (with_reducible refine Kd.C_drewN ?_ _) | (with_reducible refine Kd.C_drew ?_))); (case side2 => exact (Kd.R_reads' HO363.out).2.1); rintro e w28 ⟨rfl, hb⟩; refine ⟨_, rfl, ?_⟩; have n0_ := aMk (Kd.R_below (by (with_reducible repeat (first | apply Kd.R_alloc | apply Kd.R_drewN | apply Kd.R_drew)); exact HO363.out) hb); have n1_ := aMk (blk_below (g := gb368) (o := .cells #[.int .i64 t364, .int .i64 t365, .int .i64 t366, .int .i64 t367] 34 (0, 0)) (by (with_reducible repeat (first | refine bkD ?_ _ | refine blk_drew ?_ | refine bkA ?_ _)); exact BK368.out) hb); have n2_ := aMk (below_step (by repeat (first | (with_reducible first | exact HB.out | apply bAl | apply bDn | apply bD1 | refine bSe ?_ GE368.out) | exact HB.out)) hb); clear HO363; clear BK368; clear HB; have HO363 := n0_; have BK368 := n1_; have HB := n2_; clear n0_ n1_ n2_; (try clear hb); (try clear hb2); (try clear hk); (try clear hi); have hcz29_0 : w28.cell? ⟨gb368, 0, none⟩ = some (.int .i64 t364) := (bCe BK368.out 0).trans rfl; have hcz29_1 : w28.cell? ⟨gb368, 1, none⟩ = some (.int .i64 t365) := (bCe BK368.out 1).trans rfl; have hcz29_2 : w28.cell? ⟨gb368, 2, none⟩ = some (.int .i64 t366) := (bCe BK368.out 2).trans rfl; have hcz29_3 : w28.cell? ⟨gb368, 3, none⟩ = some (.int .i64 t367) := (bCe BK368.out 3).trans rfl; have hfz29_0 := bFr BK368.out 0; have hfz29_1 := bFr BK368.out 1; have hfz29_2 := bFr BK368.out 2; have hfz29_3 := bFr BK368.out 3))
          go_meet
          case rel => exact ⟨_, (decide (t367 > 0)), (by first | rfl | (simp; done) | (simp [*]; done)), H', ⟨by first | omega | exact Nat.le_refl _⟩, ⟨by (with_reducible repeat (first | apply Kd.R_alloc | apply Kd.R_drewN | apply Kd.R_drew)); exact HO363.out⟩, ⟨by (with_reducible repeat (first | refine bkD ?_ _ | refine blk_drew ?_ | refine bkA ?_ _)); exact BK368.out⟩, ⟨by repeat (first | (with_reducible first | exact HB.out | apply bAl | apply bDn | apply bD1 | refine bSe ?_ GE368.out) | exact HB.out)⟩⟩
        · rw [if_neg c27] at H
          have c27b0 : decide (0 < t366) = false := decide_eq_false c27
          clear c27
          (first | rw [c27b0] | (simp only [i64_w, i32_w]; rw [c27b0]) | skip)
          have H' := aMk H
          clear H
          go_wp2_with (first | ((with_reducible refine gate_callee (f := 24) rfl ?_); refine goesL_ (some 47) rfl rfl Try.func24 (by kernel_rfl) rfl #[.slice Ao18 t355.length co18] rfl (by (try simp only [List.map_toArray, List.map_cons, List.map_nil]); first | done | rfl | (simp only [List.length_drop, List.length_take]; rfl)) ?_; (with_reducible refine (spec_FloatsOk.calls k _ _ t355 true _ ?side1 ?side2 A25.out).mono ?_); (case side1 => repeat (first | exact (Kd.R_reads' HO363.out).2.2 | (with_reducible refine Kd.C_alloc ?_ _) | (with_reducible refine Kd.C_drewN ?_ _) | (with_reducible refine Kd.C_drew ?_))); (case side2 => exact (Kd.R_reads' HO363.out).2.1); rintro e w30 ⟨rfl, hb⟩; refine ⟨_, rfl, ?_⟩; have n0_ := aMk (Kd.R_below (by (with_reducible repeat (first | apply Kd.R_alloc | apply Kd.R_drewN | apply Kd.R_drew)); exact HO363.out) hb); have n1_ := aMk (blk_below (g := gb368) (o := .cells #[.int .i64 t364, .int .i64 t365, .int .i64 t366, .int .i64 t367] 34 (0, 0)) (by (with_reducible repeat (first | refine bkD ?_ _ | refine blk_drew ?_ | refine bkA ?_ _)); exact BK368.out) hb); have n2_ := aMk (below_step (by repeat (first | (with_reducible first | exact HB.out | apply bAl | apply bDn | apply bD1 | refine bSe ?_ GE368.out) | exact HB.out)) hb); clear HO363; clear BK368; clear HB; have HO363 := n0_; have BK368 := n1_; have HB := n2_; clear n0_ n1_ n2_; (try clear hb); (try clear hb2); (try clear hk); (try clear hi); have hcz31_0 : w30.cell? ⟨gb368, 0, none⟩ = some (.int .i64 t364) := (bCe BK368.out 0).trans rfl; have hcz31_1 : w30.cell? ⟨gb368, 1, none⟩ = some (.int .i64 t365) := (bCe BK368.out 1).trans rfl; have hcz31_2 : w30.cell? ⟨gb368, 2, none⟩ = some (.int .i64 t366) := (bCe BK368.out 2).trans rfl; have hcz31_3 : w30.cell? ⟨gb368, 3, none⟩ = some (.int .i64 t367) := (bCe BK368.out 3).trans rfl; have hfz31_0 := bFr BK368.out 0; have hfz31_1 := bFr BK368.out 1; have hfz31_2 := bFr BK368.out 2; have hfz31_3 := bFr BK368.out 3))
          go_meet
          case rel => exact ⟨_, (false), (by first | rfl | (simp; done) | (simp [*]; done)), H', ⟨by first | omega | exact Nat.le_refl _⟩, ⟨by (with_reducible repeat (first | apply Kd.R_alloc | apply Kd.R_drewN | apply Kd.R_drew)); exact HO363.out⟩, ⟨by (with_reducible repeat (first | refine bkD ?_ _ | refine blk_drew ?_ | refine bkA ?_ _)); exact BK368.out⟩, ⟨by repeat (first | (with_reducible first | exact HB.out | apply bAl | apply bDn | apply bD1 | refine bSe ?_ GE368.out) | exact HB.out)⟩⟩
      · replace c26 := Bool.eq_false_iff.mpr c26
        subst c26
        have H1 : (laws_FnFloats.j0 k l0 t355 t358 false t364 t365 t366 t367) = some r := by rw [if_neg (show ¬ (false = true) by decide)] at H; exact H
        clear H
        have H := H1
        clear H1
        have H' := aMk H
        clear H
        go_wp2_with (first | ((with_reducible refine gate_callee (f := 24) rfl ?_); refine goesL_ (some 47) rfl rfl Try.func24 (by kernel_rfl) rfl #[.slice Ao18 t355.length co18] rfl (by (try simp only [List.map_toArray, List.map_cons, List.map_nil]); first | done | rfl | (simp only [List.length_drop, List.length_take]; rfl)) ?_; (with_reducible refine (spec_FloatsOk.calls k _ _ t355 false _ ?side1 ?side2 A25.out).mono ?_); (case side1 => repeat (first | exact (Kd.R_reads' HO363.out).2.2 | (with_reducible refine Kd.C_alloc ?_ _) | (with_reducible refine Kd.C_drewN ?_ _) | (with_reducible refine Kd.C_drew ?_))); (case side2 => exact (Kd.R_reads' HO363.out).2.1); rintro e w32 ⟨rfl, hb⟩; refine ⟨_, rfl, ?_⟩; have n0_ := aMk (Kd.R_below (by (with_reducible repeat (first | apply Kd.R_alloc | apply Kd.R_drewN | apply Kd.R_drew)); exact HO363.out) hb); have n1_ := aMk (blk_below (g := gb368) (o := .cells #[.int .i64 t364, .int .i64 t365, .int .i64 t366, .int .i64 t367] 34 (0, 0)) (by (with_reducible repeat (first | refine bkD ?_ _ | refine blk_drew ?_ | refine bkA ?_ _)); exact BK368.out) hb); have n2_ := aMk (below_step (by repeat (first | (with_reducible first | exact HB.out | apply bAl | apply bDn | apply bD1 | refine bSe ?_ GE368.out) | exact HB.out)) hb); clear HO363; clear BK368; clear HB; have HO363 := n0_; have BK368 := n1_; have HB := n2_; clear n0_ n1_ n2_; (try clear hb); (try clear hb2); (try clear hk); (try clear hi)))
        go_meet
        case rel => exact ⟨_, (false), (by first | rfl | (simp; done) | (simp [*]; done)), H', ⟨by first | omega | exact Nat.le_refl _⟩, ⟨by (with_reducible repeat (first | apply Kd.R_alloc | apply Kd.R_drewN | apply Kd.R_drew)); exact HO363.out⟩, ⟨by (with_reducible repeat (first | refine bkD ?_ _ | refine blk_drew ?_ | refine bkA ?_ _)); exact BK368.out⟩, ⟨by repeat (first | (with_reducible first | exact HB.out | apply bAl | apply bDn | apply bD1 | refine bSe ?_ GE368.out) | exact HB.out)⟩⟩
     case rest =>
      clear HC16
      try clear c2
      try clear p2
      try clear c3
      try clear c4
      try clear c7
      try clear c7b0
      try clear c20
      try clear c21
      try clear c22
      try clear c23
      try clear c24
      try clear c26
      try clear c27
      try clear c27b0
      try clear hcz12_0
      try clear hcz12_1
      try clear hcz12_2
      try clear hcz12_3
      try clear hcz21_0
      try clear hcz21_1
      try clear hcz21_2
      try clear hcz21_3
      try clear hcz29_0
      try clear hcz29_1
      try clear hcz29_2
      try clear hcz29_3
      try clear hcz31_0
      try clear hcz31_1
      try clear hcz31_2
      try clear hcz31_3
      try clear hfz12_0
      try clear hfz12_1
      try clear hfz12_2
      try clear hfz12_3
      try clear hfz21_0
      try clear hfz21_1
      try clear hfz21_2
      try clear hfz21_3
      try clear hfz29_0
      try clear hfz29_1
      try clear hfz29_2
      try clear hfz29_3
      try clear hfz31_0
      try clear hfz31_1
      try clear hfz31_2
      try clear hfz31_3
      obtain ⟨kq, x57_15, rfl, HA, HJ15, HO_3, BK368, HB⟩ := hcut
      cases kq with
      | zero => exact absurd HA.out (by simp [laws_FnFloats.j0])
      | succ kj15 =>
       have H := HA.out
       clear HA
       simp only [laws_FnFloats.j0] at H
       have HC33 := aMk H
       clear H
       go_upto_if 57 with (fail)
       go_cut [] (fun wc => ∃ (kq : Nat), Aside0 (laws_FnFloats.j2 kq l0 = some r) ∧ Aside0 (kq ≤ kj15) ∧ Aside0 (wc.heap[gb368]? = some (.cells #[.int .i64 t364, .int .i64 t365, .int .i64 t366, .int .i64 t367] 34 (0, 0))) ∧ Aside0 (Below w.heap.size w wc))
       case first =>
        have H := HC33.out
        clear HC33
        by_cases c34 : x57_15 = true
        · subst c34
          have H1 : (if t365 < t358 then (some false) else (laws_FnFloats.l0 kj15 l0 t355 0 t364 t365 t366 t367)) = some r := by rw [if_pos rfl] at H; exact H
          clear H
          have H := H1
          clear H1
          by_cases c35 : t365 < t358
          · rw [if_pos c35] at H
            have c35b0 : decide (t365 < t358) = true := decide_eq_true c35
            clear c35
            (first | rw [c35b0] | (simp only [i64_w, i32_w]; rw [c35b0]) | skip)
            obtain rfl := Option.some.inj H
            have hcz36_0 : wc.cell? ⟨gb368, 0, none⟩ = some (.int .i64 t364) := (bCe BK368.out 0).trans rfl
            have hcz36_1 : wc.cell? ⟨gb368, 1, none⟩ = some (.int .i64 t365) := (bCe BK368.out 1).trans rfl
            have hcz36_2 : wc.cell? ⟨gb368, 2, none⟩ = some (.int .i64 t366) := (bCe BK368.out 2).trans rfl
            have hcz36_3 : wc.cell? ⟨gb368, 3, none⟩ = some (.int .i64 t367) := (bCe BK368.out 3).trans rfl
            have hfz36_0 := bFr BK368.out 0
            have hfz36_1 := bFr BK368.out 1
            have hfz36_2 := bFr BK368.out 2
            have hfz36_3 := bFr BK368.out 3
            go_wp2
            go_ret
            exact ⟨by first | rfl | (simp [errW_none, errW_some] <;> rfl) | (simp [*, errW_none, errW_some] <;> rfl), by repeat (first | (with_reducible first | exact HB.out | apply bAl | apply bDn | apply bD1 | refine bSe ?_ GE368.out) | exact HB.out)⟩
          · rw [if_neg c35] at H
            have c35b0 : decide (t365 < t358) = false := decide_eq_false c35
            clear c35
            (first | rw [c35b0] | (simp only [i64_w, i32_w]; rw [c35b0]) | skip)
            have H' := aMk H
            clear H
            have hcz37_0 : wc.cell? ⟨gb368, 0, none⟩ = some (.int .i64 t364) := (bCe BK368.out 0).trans rfl
            have hcz37_1 : wc.cell? ⟨gb368, 1, none⟩ = some (.int .i64 t365) := (bCe BK368.out 1).trans rfl
            have hcz37_2 : wc.cell? ⟨gb368, 2, none⟩ = some (.int .i64 t366) := (bCe BK368.out 2).trans rfl
            have hcz37_3 : wc.cell? ⟨gb368, 3, none⟩ = some (.int .i64 t367) := (bCe BK368.out 3).trans rfl
            have hfz37_0 := bFr BK368.out 0
            have hfz37_1 := bFr BK368.out 1
            have hfz37_2 := bFr BK368.out 2
            have hfz37_3 := bFr BK368.out 3
            go_wp2
            go_loopg [11] kj15 (fun kq v11 w' => ∃ (x11_2 : Int), v11 = .int .i64 x11_2 ∧ Aside0 (laws_FnFloats.l0 kq l0 t355 x11_2 t364 t365 t366 t367 = some r) ∧ Aside0 (kq ≤ kj15) ∧ Aside0 (Kd.R k38 38 w' w.heap.size (fun _ => True) (.slice Ao18 t355.length co18) t355) ∧ Aside0 (w'.heap[gb368]? = some (.cells #[.int .i64 t364, .int .i64 t365, .int .i64 t366, .int .i64 t367] 34 (0, 0))) ∧ Aside0 (Below w.heap.size w w'))
            case atStart => exact ⟨(0), (by first | rfl | (simp; done) | (simp [*]; done)), H', ⟨Nat.le_refl _⟩, ⟨by (with_reducible repeat (first | apply Kd.R_alloc | apply Kd.R_drewN | apply Kd.R_drew)); exact HO_3.out⟩, ⟨by (with_reducible repeat (first | refine bkD ?_ _ | refine blk_drew ?_ | refine bkA ?_ _)); exact BK368.out⟩, ⟨by repeat (first | (with_reducible first | exact HB.out | apply bAl | apply bDn | apply bD1 | refine bSe ?_ GE368.out) | exact HB.out)⟩⟩
            case round =>
             clear H'
             try clear c2
             try clear p2
             try clear c3
             try clear c4
             try clear c7
             try clear c7b0
             try clear c20
             try clear c21
             try clear c22
             try clear c23
             try clear c24
             try clear c26
             try clear c27
             try clear c27b0
             try clear c34
             try clear c35
             try clear c35b0
             try clear hcz12_0
             try clear hcz12_1
             try clear hcz12_2
             try clear hcz12_3
             try clear hcz21_0
             try clear hcz21_1
             try clear hcz21_2
             try clear hcz21_3
             try clear hcz29_0
             try clear hcz29_1
             try clear hcz29_2
             try clear hcz29_3
             try clear hcz31_0
             try clear hcz31_1
             try clear hcz31_2
             try clear hcz31_3
             try clear hcz36_0
             try clear hcz36_1
             try clear hcz36_2
             try clear hcz36_3
             try clear hcz37_0
             try clear hcz37_1
             try clear hcz37_2
             try clear hcz37_3
             try clear hfz12_0
             try clear hfz12_1
             try clear hfz12_2
             try clear hfz12_3
             try clear hfz21_0
             try clear hfz21_1
             try clear hfz21_2
             try clear hfz21_3
             try clear hfz29_0
             try clear hfz29_1
             try clear hfz29_2
             try clear hfz29_3
             try clear hfz31_0
             try clear hfz31_1
             try clear hfz31_2
             try clear hfz31_3
             try clear hfz36_0
             try clear hfz36_1
             try clear hfz36_2
             try clear hfz36_3
             try clear hfz37_0
             try clear hfz37_1
             try clear hfz37_2
             try clear hfz37_3
             try clear p2
             obtain ⟨x11_2, rfl, HA, HK2, HO_3, BK368, HB⟩ := hrel
             cases gk with
             | zero => exact absurd HA.out (by simp [laws_FnFloats.l0])
             | succ k2 =>
              have H := HA.out
              clear HA
              simp only [laws_FnFloats.l0] at H
              by_cases c38 : x11_2 < (t355.length : Int)
              · rw [if_pos c38] at H
                have c38b0 : decide (x11_2 < (t355.length : Int)) = true := decide_eq_true c38
                clear c38
                by_cases c39 : 0 ≤ x11_2
                · rw [if_pos c39] at H
                  have c39b0 : decide (0 ≤ x11_2) = true := decide_eq_true c39
                  clear c39
                  by_cases c40 : ((rd_T38 t355 x11_2).f0.f2) > 0
                  · rw [if_pos c40] at H
                    have c40b0 : decide (0 < ((rd_T38 t355 x11_2).f0.f2)) = true := decide_eq_true c40
                    clear c40
                    by_cases c41 : ((rd_T38 t355 x11_2).f0.f3) > 0
                    · rw [if_pos c41] at H
                      have c41b0 : decide (0 < ((rd_T38 t355 x11_2).f0.f3)) = true := decide_eq_true c41
                      clear c41
                      replace H := oBm H
                      obtain ⟨t377, A420, H⟩ := H
                      replace H : (if t377 = true then (some false) else (if t365 < ((rd_T38 t355 x11_2).f0.f1) then (some false) else (laws_FnFloats.l0 k2 l0 t355 (wrap64 (x11_2 + 1)) t364 t365 t366 t367))) = some r := H
                      have A42 := aMk A420
                      clear A420
                      by_cases c43 : t377 = true
                      · subst c43
                        have H1 : (some false) = some r := by rw [if_pos rfl] at H; exact H
                        clear H
                        have H := H1
                        clear H1
                        obtain rfl := Option.some.inj H
                        have p374 : 0 ≤ (x11_2 : Int) := oDt (by first | (with_reducible assumption) | assumption)
                        have q374 : x11_2 < (t355.length : Int) := oDt (by first | (with_reducible assumption) | assumption)
                        obtain ⟨ad374, e374, hx374_0, hx374_1, hx374_2, hx374_3, hx374_4⟩ := at_T38 (Kd.R_reads' HO_3.out).2.2 x11_2 p374 q374
                        cases e374
                        replace p374 := eq_true p374
                        replace q374 := eq_true q374
                        have p375 : 0 ≤ (x11_2 : Int) := oDt (by first | (with_reducible assumption) | assumption)
                        have q375 : x11_2 < (t355.length : Int) := oDt (by first | (with_reducible assumption) | assumption)
                        obtain ⟨ad375, e375, hx375_0, hx375_1, hx375_2, hx375_3, hx375_4⟩ := at_T38 (Kd.R_reads' HO_3.out).2.2 x11_2 p375 q375
                        obtain rfl : ad374 = ad375 := (by injection e375)
                        replace p375 := eq_true p375
                        replace q375 := eq_true q375
                        try go_wp2
                        have n0_ := aMk (Kd.R_drew HO_3.out)
                        have n1_ := aMk (blk_drew BK368.out)
                        have n2_ := aMk (bD1 HB.out)
                        clear HO_3
                        clear BK368
                        clear HB
                        have HO_3 := n0_
                        have BK368 := n1_
                        have HB := n2_
                        clear n0_ n1_ n2_
                        have p376 : 0 ≤ (x11_2 : Int) := oDt (by first | (with_reducible assumption) | assumption)
                        have q376 : x11_2 < (t355.length : Int) := oDt (by first | (with_reducible assumption) | assumption)
                        obtain ⟨ad376, e376, hx376_0, hx376_1, hx376_2, hx376_3, hx376_4⟩ := at_T38 (Kd.R_reads' HO_3.out).2.2 x11_2 p376 q376
                        obtain rfl : ad374 = ad376 := (by injection e376)
                        replace p376 := eq_true p376
                        replace q376 := eq_true q376
                        refine start_ (n := 21) (S := fun w' => w'.cell? ⟨gb368, 0, none⟩ = some (.int .i64 t364) ∧ w'.cell? ⟨gb368, 1, none⟩ = some (.int .i64 t365) ∧ w'.cell? ⟨gb368, 2, none⟩ = some (.int .i64 t366) ∧ w'.cell? ⟨gb368, 3, none⟩ = some (.int .i64 t367) ∧ w'.cell? (ad374.add ((x11_2).toNat * 5)) = some (.int .i64 ((rd_T38 t355 x11_2).f0.f0)) ∧ w'.cell? ⟨(ad374.add ((x11_2).toNat * 5)).block, (ad374.add ((x11_2).toNat * 5)).off + 1, none⟩ = some (.int .i64 ((rd_T38 t355 x11_2).f0.f1)) ∧ w'.cell? ⟨(ad374.add ((x11_2).toNat * 5)).block, (ad374.add ((x11_2).toNat * 5)).off + 2, none⟩ = some (.int .i64 ((rd_T38 t355 x11_2).f0.f2)) ∧ w'.cell? ⟨(ad374.add ((x11_2).toNat * 5)).block, (ad374.add ((x11_2).toNat * 5)).off + 3, none⟩ = some (.int .i64 ((rd_T38 t355 x11_2).f0.f3)) ∧ w'.cell? ⟨(ad374.add ((x11_2).toNat * 5)).block, (ad374.add ((x11_2).toNat * 5)).off + 4, none⟩ = some (.bool ((rd_T38 t355 x11_2).f1))) (ds := []) #[false, false, false, false, false, false, false, false, false, false, false, false, false, false, false, false, false, false, false, false, false] (by kernel_rfl) rfl rfl ⟨(bCe BK368.out 0).trans rfl, (bCe BK368.out 1).trans rfl, (bCe BK368.out 2).trans rfl, (bCe BK368.out 3).trans rfl, hx376_0, hx376_1, hx376_2, hx376_3, hx376_4⟩ (fun hHeld => ?_); refine with_tabW laws_FnFloats.tab14 laws_FnFloats.bits14 (fun HT_ HW_ => ?_)
                        generalize wr.drew = w44 at HO_3 BK368 HB hx376_0 hx376_1 hx376_2 hx376_3 hx376_4 hHeld ⊢
                        refine pure_ (i := 0) (N := some 84) (v := ?_) (a' := ?_) #[true, false, false, false, false, false, false, false, false, false, false, false, false, false, false, false, false, false, false, false, false] rfl rfl (any_of HT_.out (by kernel_rfl)) (fun _ _ _ h => h) (Or.inl ⟨by rfl, ?_⟩) ?_ ?_
                        rotate_left
                        · intro w'
                          go_simp
                          with_reducible rfl
                        rotate_left
                        · simp only [Act.put, lSa, lSz, lSs, i64_w, i32_w]
                          rfl
                        refine pure_ (i := 1) (N := some 85) (v := ?_) (a' := ?_) #[true, true, false, false, false, false, false, false, false, false, false, false, false, false, false, false, false, false, false, false, false] rfl rfl (any_of HT_.out (by kernel_rfl)) (fun _ _ _ h => h) (Or.inl ⟨by rfl, ?_⟩) ?_ ?_
                        rotate_left
                        · intro w'
                          go_simp
                          with_reducible rfl
                        rotate_left
                        · simp only [Act.put, lSa, lSz, lSs, i64_w, i32_w]
                          rfl
                        refine pure_ (i := 3) (N := some 87) (v := ?_) (a' := ?_) #[true, true, false, true, false, false, false, false, false, false, false, false, false, false, false, false, false, false, false, false, false] rfl rfl (any_of HT_.out (by kernel_rfl)) (fun _ _ _ h => h) (Or.inl ⟨by rfl, ?_⟩) ?_ ?_
                        rotate_left
                        · intro w'
                          go_simp
                          with_reducible rfl
                        rotate_left
                        · simp only [Act.put, lSa, lSz, lSs, i64_w, i32_w]
                          rfl
                        refine pure_ (i := 4) (N := some 88) (v := ?_) (a' := ?_) #[true, true, false, true, true, false, false, false, false, false, false, false, false, false, false, false, false, false, false, false, false] rfl rfl (any_of HT_.out (by kernel_rfl)) (fun _ _ _ h => h) (Or.inl ⟨by rfl, ?_⟩) ?_ ?_
                        rotate_left
                        · intro w'
                          go_simp
                          with_reducible rfl
                        rotate_left
                        · simp only [Act.put, lSa, lSz, lSs, i64_w, i32_w]
                          rfl
                        refine pure_ (i := 5) (N := some 89) (v := ?_) (a' := ?_) #[true, true, false, true, true, true, false, false, false, false, false, false, false, false, false, false, false, false, false, false, false] rfl rfl (any_of HT_.out (by kernel_rfl)) (fun _ _ _ h => h) (Or.inl ⟨by rfl, ?_⟩) ?_ ?_
                        rotate_left
                        · intro w'
                          go_simp
                          with_reducible rfl
                        rotate_left
                        · simp only [Act.put, lSa, lSz, lSs, i64_w, i32_w]
                          rfl
                        refine pure_ (i := 6) (N := some 90) (v := ?_) (a' := ?_) #[true, true, false, true, true, true, true, false, false, false, false, false, false, false, false, false, false, false, false, false, false] rfl rfl (any_of HT_.out (by kernel_rfl)) (fun _ _ _ h => h) (Or.inl ⟨by rfl, ?_⟩) ?_ ?_
                        rotate_left
                        · intro w'
                          go_simp
                          with_reducible rfl
                        rotate_left
                        · simp only [Act.put, lSa, lSz, lSs, i64_w, i32_w]
                          rfl
                        refine take_ (i := 2) (N := some 86) (v := ?_) (a' := ?_) #[true, true, true, true, true, true, true, false, false, false, false, false, false, false, false, false, false, false, false, false, false] rfl rfl (take_ofW HT_.out HW_.out (by kernel_rfl)) (fun _ _ _ h => h) (Or.inl ⟨by rfl, ?_⟩) hHeld ?_ ?_
                        rotate_left
                        · rintro w' ⟨s0, s1, s2, s3, s4, s5, s6, s7, s8⟩
                          go_simp
                          with_reducible rfl
                        rotate_left
                        · simp only [Act.put, lSa, lSz, lSs, i64_w, i32_w]
                          rfl
                        refine take_ (i := 7) (N := some 91) (v := ?_) (a' := ?_) #[true, true, true, true, true, true, true, true, false, false, false, false, false, false, false, false, false, false, false, false, false] rfl rfl (take_ofW HT_.out HW_.out (by kernel_rfl)) (fun _ _ _ h => h) (Or.inl ⟨by rfl, ?_⟩) hHeld ?_ ?_
                        rotate_left
                        · rintro w' ⟨s0, s1, s2, s3, s4, s5, s6, s7, s8⟩
                          go_simp
                          with_reducible rfl
                        rotate_left
                        · simp only [Act.put, lSa, lSz, lSs, i64_w, i32_w]
                          rfl
                        refine one_ (i := 8) (N := some 92) #[true, true, true, true, true, true, true, true, true, false, false, false, false, false, false, false, false, false, false, false, false] rfl rfl (one_of HT_.out (by kernel_rfl)) (by decide) (fun K hK => ?_)
                        refine goes_ Try.func25 (by kernel_rfl) rfl #[.agg #[.int .i64 t364, .int .i64 t365, .int .i64 t366, .int .i64 t367], .agg #[.int .i64 ((rd_T38 t355 x11_2).f0.f0), .int .i64 ((rd_T38 t355 x11_2).f0.f1), .int .i64 ((rd_T38 t355 x11_2).f0.f2), .int .i64 ((rd_T38 t355 x11_2).f0.f3)]] (by rfl) rfl rfl (by (try simp only [List.map_toArray, List.map_cons, List.map_nil]); first | done | rfl | (simp only [List.length_drop, List.length_take]; rfl)) ?_
                        with_reducible refine (laws_over.calls t364 t365 t366 t367 ((rd_T38 t355 x11_2).f0.f0) ((rd_T38 t355 x11_2).f0.f1) ((rd_T38 t355 x11_2).f0.f2) ((rd_T38 t355 x11_2).f0.f3) true _ A42.out).mono ?_
                        rintro e w45 ⟨rfl, hb⟩
                        have HS4_ := (hb.cell (wBl _ _ (hHeld.2.2.2.2.1))).trans (hHeld.2.2.2.2.1)
                        have HS5_ := (hb.cell (wBl _ _ (hHeld.2.2.2.2.2.1))).trans (hHeld.2.2.2.2.2.1)
                        have HS6_ := (hb.cell (wBl _ _ (hHeld.2.2.2.2.2.2.1))).trans (hHeld.2.2.2.2.2.2.1)
                        have HS7_ := (hb.cell (wBl _ _ (hHeld.2.2.2.2.2.2.2.1))).trans (hHeld.2.2.2.2.2.2.2.1)
                        have HS8_ := (hb.cell (wBl _ _ (hHeld.2.2.2.2.2.2.2.2))).trans (hHeld.2.2.2.2.2.2.2.2)
                        refine ⟨_, rfl, ?_⟩
                        have n0_ := aMk (Kd.R_below (by (with_reducible repeat (first | apply Kd.R_alloc | apply Kd.R_drewN | apply Kd.R_drew)); exact HO_3.out) hb)
                        have n1_ := aMk (blk_below (g := gb368) (o := .cells #[.int .i64 t364, .int .i64 t365, .int .i64 t366, .int .i64 t367] 34 (0, 0)) (by (with_reducible repeat (first | refine bkD ?_ _ | refine blk_drew ?_ | refine bkA ?_ _)); exact BK368.out) hb)
                        have n2_ := aMk (below_step (by repeat (first | (with_reducible first | exact HB.out | apply bAl | apply bDn | apply bD1 | refine bSe ?_ GE368.out) | exact HB.out)) hb)
                        clear HO_3
                        clear BK368
                        clear HB
                        have HO_3 := n0_
                        have BK368 := n1_
                        have HB := n2_
                        clear n0_ n1_ n2_
                        (try clear hb)
                        (try clear hb2)
                        (try clear hk)
                        (try clear hi)
                        refine hK.out _ _ ⟨(bCe BK368.out 0).trans rfl, (bCe BK368.out 1).trans rfl, (bCe BK368.out 2).trans rfl, (bCe BK368.out 3).trans rfl, HS4_, HS5_, HS6_, HS7_, HS8_⟩ (fun hHeld => ?_)
                        clear hK K
                        refine norm_ (a' := ?_) ?_ ?_
                        rotate_left
                        · show Act.put _ (some 92) _ = _
                          simp only [Act.put, lSa, lSz, lSs, i64_w, i32_w]
                          rfl
                        refine pure_ (i := 9) (N := some 93) (v := ?_) (a' := ?_) #[true, true, true, true, true, true, true, true, true, true, false, false, false, false, false, false, false, false, false, false, false] rfl rfl (any_of HT_.out (by kernel_rfl)) (fun _ _ _ h => h) (Or.inl ⟨by rfl, ?_⟩) ?_ ?_
                        rotate_left
                        · intro w'
                          go_simp
                          with_reducible rfl
                        rotate_left
                        · simp only [Act.put, lSa, lSz, lSs, i64_w, i32_w]
                          rfl
                        refine pure_ (i := 10) (N := some 94) (v := ?_) (a' := ?_) #[true, true, true, true, true, true, true, true, true, true, true, false, false, false, false, false, false, false, false, false, false] rfl rfl (any_of HT_.out (by kernel_rfl)) (fun _ _ _ h => h) (Or.inl ⟨by rfl, ?_⟩) ?_ ?_
                        rotate_left
                        · intro w'
                          go_simp
                          with_reducible rfl
                        rotate_left
                        · simp only [Act.put, lSa, lSz, lSs, i64_w, i32_w]
                          rfl
                        refine pure_ (i := 11) (N := some 95) (v := undef) (a' := ?_) #[true, true, true, true, true, true, true, true, true, true, true, true, false, false, false, false, false, false, false, false, false] rfl rfl (any_of HT_.out (by kernel_rfl)) (fun _ _ _ h => h) (Or.inr ⟨by rfl, rfl⟩) ?_ ?_
                        rotate_left
                        · simp only [Act.put, lSa, lSz, lSs, i64_w, i32_w]
                          rfl
                        refine pure_ (i := 12) (N := some 96) (v := undef) (a' := ?_) #[true, true, true, true, true, true, true, true, true, true, true, true, true, false, false, false, false, false, false, false, false] rfl rfl (any_of HT_.out (by kernel_rfl)) (fun _ _ _ h => h) (Or.inr ⟨by rfl, rfl⟩) ?_ ?_
                        rotate_left
                        · simp only [Act.put, lSa, lSz, lSs, i64_w, i32_w]
                          rfl
                        refine pure_ (i := 13) (N := some 97) (v := undef) (a' := ?_) #[true, true, true, true, true, true, true, true, true, true, true, true, true, true, false, false, false, false, false, false, false] rfl rfl (any_of HT_.out (by kernel_rfl)) (fun _ _ _ h => h) (Or.inr ⟨by rfl, rfl⟩) ?_ ?_
                        rotate_left
                        · simp only [Act.put, lSa, lSz, lSs, i64_w, i32_w]
                          rfl
                        refine pure_ (i := 14) (N := some 98) (v := undef) (a' := ?_) #[true, true, true, true, true, true, true, true, true, true, true, true, true, true, true, false, false, false, false, false, false] rfl rfl (any_of HT_.out (by kernel_rfl)) (fun _ _ _ h => h) (Or.inr ⟨by rfl, rfl⟩) ?_ ?_
                        rotate_left
                        · simp only [Act.put, lSa, lSz, lSs, i64_w, i32_w]
                          rfl
                        refine pure_ (i := 15) (N := some 99) (v := undef) (a' := ?_) #[true, true, true, true, true, true, true, true, true, true, true, true, true, true, true, true, false, false, false, false, false] rfl rfl (any_of HT_.out (by kernel_rfl)) (fun _ _ _ h => h) (Or.inr ⟨by rfl, rfl⟩) ?_ ?_
                        rotate_left
                        · simp only [Act.put, lSa, lSz, lSs, i64_w, i32_w]
                          rfl
                        refine pure_ (i := 16) (N := some 100) (v := undef) (a' := ?_) #[true, true, true, true, true, true, true, true, true, true, true, true, true, true, true, true, true, false, false, false, false] rfl rfl (any_of HT_.out (by kernel_rfl)) (fun _ _ _ h => h) (Or.inr ⟨by rfl, rfl⟩) ?_ ?_
                        rotate_left
                        · simp only [Act.put, lSa, lSz, lSs, i64_w, i32_w]
                          rfl
                        refine pure_ (i := 17) (N := some 101) (v := undef) (a' := ?_) #[true, true, true, true, true, true, true, true, true, true, true, true, true, true, true, true, true, true, false, false, false] rfl rfl (any_of HT_.out (by kernel_rfl)) (fun _ _ _ h => h) (Or.inr ⟨by rfl, rfl⟩) ?_ ?_
                        rotate_left
                        · simp only [Act.put, lSa, lSz, lSs, i64_w, i32_w]
                          rfl
                        refine pure_ (i := 18) (N := some 102) (v := undef) (a' := ?_) #[true, true, true, true, true, true, true, true, true, true, true, true, true, true, true, true, true, true, true, false, false] rfl rfl (any_of HT_.out (by kernel_rfl)) (fun _ _ _ h => h) (Or.inr ⟨by rfl, rfl⟩) ?_ ?_
                        rotate_left
                        · simp only [Act.put, lSa, lSz, lSs, i64_w, i32_w]
                          rfl
                        refine pure_ (i := 19) (N := some 103) (v := undef) (a' := ?_) #[true, true, true, true, true, true, true, true, true, true, true, true, true, true, true, true, true, true, true, true, false] rfl rfl (any_of HT_.out (by kernel_rfl)) (fun _ _ _ h => h) (Or.inr ⟨by rfl, rfl⟩) ?_ ?_
                        rotate_left
                        · simp only [Act.put, lSa, lSz, lSs, i64_w, i32_w]
                          rfl
                        refine pure_ (i := 20) (N := some 104) (v := ?_) (a' := ?_) #[true, true, true, true, true, true, true, true, true, true, true, true, true, true, true, true, true, true, true, true, true] rfl rfl (any_of HT_.out (by kernel_rfl)) (fun _ _ _ h => h) (Or.inl ⟨by rfl, ?_⟩) ?_ ?_
                        rotate_left
                        · intro w'
                          go_simp
                          with_reducible rfl
                        rotate_left
                        · simp only [Act.put, lSa, lSz, lSs, i64_w, i32_w]
                          rfl
                        refine done_ (done_of HT_.out (by kernel_rfl)) ?_
                        try go_wp2
                        go_ret
                        exact ⟨by first | rfl | (simp [errW_none, errW_some] <;> rfl) | (simp [*, errW_none, errW_some] <;> rfl), by repeat (first | (with_reducible first | exact HB.out | apply bAl | apply bDn | apply bD1 | refine bSe ?_ GE368.out) | exact HB.out)⟩
                      · replace c43 := Bool.eq_false_iff.mpr c43
                        subst c43
                        have H1 : (if t365 < ((rd_T38 t355 x11_2).f0.f1) then (some false) else (laws_FnFloats.l0 k2 l0 t355 (wrap64 (x11_2 + 1)) t364 t365 t366 t367)) = some r := by rw [if_neg (show ¬ (false = true) by decide)] at H; exact H
                        clear H
                        have H := H1
                        clear H1
                        by_cases c46 : t365 < ((rd_T38 t355 x11_2).f0.f1)
                        · rw [if_pos c46] at H
                          have c46b0 : decide (t365 < ((rd_T38 t355 x11_2).f0.f1)) = true := decide_eq_true c46
                          clear c46
                          obtain rfl := Option.some.inj H
                          have p374 : 0 ≤ (x11_2 : Int) := oDt (by first | (with_reducible assumption) | assumption)
                          have q374 : x11_2 < (t355.length : Int) := oDt (by first | (with_reducible assumption) | assumption)
                          obtain ⟨ad374, e374, hx374_0, hx374_1, hx374_2, hx374_3, hx374_4⟩ := at_T38 (Kd.R_reads' HO_3.out).2.2 x11_2 p374 q374
                          cases e374
                          replace p374 := eq_true p374
                          replace q374 := eq_true q374
                          have p375 : 0 ≤ (x11_2 : Int) := oDt (by first | (with_reducible assumption) | assumption)
                          have q375 : x11_2 < (t355.length : Int) := oDt (by first | (with_reducible assumption) | assumption)
                          obtain ⟨ad375, e375, hx375_0, hx375_1, hx375_2, hx375_3, hx375_4⟩ := at_T38 (Kd.R_reads' HO_3.out).2.2 x11_2 p375 q375
                          obtain rfl : ad374 = ad375 := (by injection e375)
                          replace p375 := eq_true p375
                          replace q375 := eq_true q375
                          try go_wp2
                          have n0_ := aMk (Kd.R_drew HO_3.out)
                          have n1_ := aMk (blk_drew BK368.out)
                          have n2_ := aMk (bD1 HB.out)
                          clear HO_3
                          clear BK368
                          clear HB
                          have HO_3 := n0_
                          have BK368 := n1_
                          have HB := n2_
                          clear n0_ n1_ n2_
                          have p376 : 0 ≤ (x11_2 : Int) := oDt (by first | (with_reducible assumption) | assumption)
                          have q376 : x11_2 < (t355.length : Int) := oDt (by first | (with_reducible assumption) | assumption)
                          obtain ⟨ad376, e376, hx376_0, hx376_1, hx376_2, hx376_3, hx376_4⟩ := at_T38 (Kd.R_reads' HO_3.out).2.2 x11_2 p376 q376
                          obtain rfl : ad374 = ad376 := (by injection e376)
                          replace p376 := eq_true p376
                          replace q376 := eq_true q376
                          have p378 : 0 ≤ (x11_2 : Int) := oDt (by first | (with_reducible assumption) | assumption)
                          have q378 : x11_2 < (t355.length : Int) := oDt (by first | (with_reducible assumption) | assumption)
                          obtain ⟨ad378, e378, hx378_0, hx378_1, hx378_2, hx378_3, hx378_4⟩ := at_T38 (Kd.R_reads' HO_3.out).2.2 x11_2 p378 q378
                          obtain rfl : ad374 = ad378 := (by injection e378)
                          replace p378 := eq_true p378
                          replace q378 := eq_true q378
                          refine start_ (n := 21) (S := fun w' => w'.cell? ⟨gb368, 0, none⟩ = some (.int .i64 t364) ∧ w'.cell? ⟨gb368, 1, none⟩ = some (.int .i64 t365) ∧ w'.cell? ⟨gb368, 2, none⟩ = some (.int .i64 t366) ∧ w'.cell? ⟨gb368, 3, none⟩ = some (.int .i64 t367) ∧ w'.cell? (ad374.add ((x11_2).toNat * 5)) = some (.int .i64 ((rd_T38 t355 x11_2).f0.f0)) ∧ w'.cell? ⟨(ad374.add ((x11_2).toNat * 5)).block, (ad374.add ((x11_2).toNat * 5)).off + 1, none⟩ = some (.int .i64 ((rd_T38 t355 x11_2).f0.f1)) ∧ w'.cell? ⟨(ad374.add ((x11_2).toNat * 5)).block, (ad374.add ((x11_2).toNat * 5)).off + 2, none⟩ = some (.int .i64 ((rd_T38 t355 x11_2).f0.f2)) ∧ w'.cell? ⟨(ad374.add ((x11_2).toNat * 5)).block, (ad374.add ((x11_2).toNat * 5)).off + 3, none⟩ = some (.int .i64 ((rd_T38 t355 x11_2).f0.f3)) ∧ w'.cell? ⟨(ad374.add ((x11_2).toNat * 5)).block, (ad374.add ((x11_2).toNat * 5)).off + 4, none⟩ = some (.bool ((rd_T38 t355 x11_2).f1)) ∧ w'.cell? (ad374.add ((x11_2).toNat * 5)) = some (.int .i64 ((rd_T38 t355 x11_2).f0.f0)) ∧ w'.cell? ⟨(ad374.add ((x11_2).toNat * 5)).block, (ad374.add ((x11_2).toNat * 5)).off + 1, none⟩ = some (.int .i64 ((rd_T38 t355 x11_2).f0.f1)) ∧ w'.cell? ⟨(ad374.add ((x11_2).toNat * 5)).block, (ad374.add ((x11_2).toNat * 5)).off + 2, none⟩ = some (.int .i64 ((rd_T38 t355 x11_2).f0.f2)) ∧ w'.cell? ⟨(ad374.add ((x11_2).toNat * 5)).block, (ad374.add ((x11_2).toNat * 5)).off + 3, none⟩ = some (.int .i64 ((rd_T38 t355 x11_2).f0.f3)) ∧ w'.cell? ⟨(ad374.add ((x11_2).toNat * 5)).block, (ad374.add ((x11_2).toNat * 5)).off + 4, none⟩ = some (.bool ((rd_T38 t355 x11_2).f1))) (ds := []) #[false, false, false, false, false, false, false, false, false, false, false, false, false, false, false, false, false, false, false, false, false] (by kernel_rfl) rfl rfl ⟨(bCe BK368.out 0).trans rfl, (bCe BK368.out 1).trans rfl, (bCe BK368.out 2).trans rfl, (bCe BK368.out 3).trans rfl, hx376_0, hx376_1, hx376_2, hx376_3, hx376_4, hx378_0, hx378_1, hx378_2, hx378_3, hx378_4⟩ (fun hHeld => ?_); refine with_tabW laws_FnFloats.tab14 laws_FnFloats.bits14 (fun HT_ HW_ => ?_)
                          generalize wr.drew = w47 at HO_3 BK368 HB hx376_0 hx376_1 hx376_2 hx376_3 hx376_4 hx378_0 hx378_1 hx378_2 hx378_3 hx378_4 hHeld ⊢
                          refine pure_ (i := 0) (N := some 84) (v := ?_) (a' := ?_) #[true, false, false, false, false, false, false, false, false, false, false, false, false, false, false, false, false, false, false, false, false] rfl rfl (any_of HT_.out (by kernel_rfl)) (fun _ _ _ h => h) (Or.inl ⟨by rfl, ?_⟩) ?_ ?_
                          rotate_left
                          · intro w'
                            go_simp
                            with_reducible rfl
                          rotate_left
                          · simp only [Act.put, lSa, lSz, lSs, i64_w, i32_w]
                            rfl
                          refine pure_ (i := 1) (N := some 85) (v := ?_) (a' := ?_) #[true, true, false, false, false, false, false, false, false, false, false, false, false, false, false, false, false, false, false, false, false] rfl rfl (any_of HT_.out (by kernel_rfl)) (fun _ _ _ h => h) (Or.inl ⟨by rfl, ?_⟩) ?_ ?_
                          rotate_left
                          · intro w'
                            go_simp
                            with_reducible rfl
                          rotate_left
                          · simp only [Act.put, lSa, lSz, lSs, i64_w, i32_w]
                            rfl
                          refine pure_ (i := 3) (N := some 87) (v := ?_) (a' := ?_) #[true, true, false, true, false, false, false, false, false, false, false, false, false, false, false, false, false, false, false, false, false] rfl rfl (any_of HT_.out (by kernel_rfl)) (fun _ _ _ h => h) (Or.inl ⟨by rfl, ?_⟩) ?_ ?_
                          rotate_left
                          · intro w'
                            go_simp
                            with_reducible rfl
                          rotate_left
                          · simp only [Act.put, lSa, lSz, lSs, i64_w, i32_w]
                            rfl
                          refine pure_ (i := 4) (N := some 88) (v := ?_) (a' := ?_) #[true, true, false, true, true, false, false, false, false, false, false, false, false, false, false, false, false, false, false, false, false] rfl rfl (any_of HT_.out (by kernel_rfl)) (fun _ _ _ h => h) (Or.inl ⟨by rfl, ?_⟩) ?_ ?_
                          rotate_left
                          · intro w'
                            go_simp
                            with_reducible rfl
                          rotate_left
                          · simp only [Act.put, lSa, lSz, lSs, i64_w, i32_w]
                            rfl
                          refine pure_ (i := 5) (N := some 89) (v := ?_) (a' := ?_) #[true, true, false, true, true, true, false, false, false, false, false, false, false, false, false, false, false, false, false, false, false] rfl rfl (any_of HT_.out (by kernel_rfl)) (fun _ _ _ h => h) (Or.inl ⟨by rfl, ?_⟩) ?_ ?_
                          rotate_left
                          · intro w'
                            go_simp
                            with_reducible rfl
                          rotate_left
                          · simp only [Act.put, lSa, lSz, lSs, i64_w, i32_w]
                            rfl
                          refine pure_ (i := 6) (N := some 90) (v := ?_) (a' := ?_) #[true, true, false, true, true, true, true, false, false, false, false, false, false, false, false, false, false, false, false, false, false] rfl rfl (any_of HT_.out (by kernel_rfl)) (fun _ _ _ h => h) (Or.inl ⟨by rfl, ?_⟩) ?_ ?_
                          rotate_left
                          · intro w'
                            go_simp
                            with_reducible rfl
                          rotate_left
                          · simp only [Act.put, lSa, lSz, lSs, i64_w, i32_w]
                            rfl
                          refine take_ (i := 2) (N := some 86) (v := ?_) (a' := ?_) #[true, true, true, true, true, true, true, false, false, false, false, false, false, false, false, false, false, false, false, false, false] rfl rfl (take_ofW HT_.out HW_.out (by kernel_rfl)) (fun _ _ _ h => h) (Or.inl ⟨by rfl, ?_⟩) hHeld ?_ ?_
                          rotate_left
                          · rintro w' ⟨s0, s1, s2, s3, s4, s5, s6, s7, s8, s9, s10, s11, s12, s13⟩
                            go_simp
                            with_reducible rfl
                          rotate_left
                          · simp only [Act.put, lSa, lSz, lSs, i64_w, i32_w]
                            rfl
                          refine take_ (i := 7) (N := some 91) (v := ?_) (a' := ?_) #[true, true, true, true, true, true, true, true, false, false, false, false, false, false, false, false, false, false, false, false, false] rfl rfl (take_ofW HT_.out HW_.out (by kernel_rfl)) (fun _ _ _ h => h) (Or.inl ⟨by rfl, ?_⟩) hHeld ?_ ?_
                          rotate_left
                          · rintro w' ⟨s0, s1, s2, s3, s4, s5, s6, s7, s8, s9, s10, s11, s12, s13⟩
                            go_simp
                            with_reducible rfl
                          rotate_left
                          · simp only [Act.put, lSa, lSz, lSs, i64_w, i32_w]
                            rfl
                          refine one_ (i := 8) (N := some 92) #[true, true, true, true, true, true, true, true, true, false, false, false, false, false, false, false, false, false, false, false, false] rfl rfl (one_of HT_.out (by kernel_rfl)) (by decide) (fun K hK => ?_)
                          refine goes_ Try.func25 (by kernel_rfl) rfl #[.agg #[.int .i64 t364, .int .i64 t365, .int .i64 t366, .int .i64 t367], .agg #[.int .i64 ((rd_T38 t355 x11_2).f0.f0), .int .i64 ((rd_T38 t355 x11_2).f0.f1), .int .i64 ((rd_T38 t355 x11_2).f0.f2), .int .i64 ((rd_T38 t355 x11_2).f0.f3)]] (by rfl) rfl rfl (by (try simp only [List.map_toArray, List.map_cons, List.map_nil]); first | done | rfl | (simp only [List.length_drop, List.length_take]; rfl)) ?_
                          with_reducible refine (laws_over.calls t364 t365 t366 t367 ((rd_T38 t355 x11_2).f0.f0) ((rd_T38 t355 x11_2).f0.f1) ((rd_T38 t355 x11_2).f0.f2) ((rd_T38 t355 x11_2).f0.f3) false _ A42.out).mono ?_
                          rintro e w48 ⟨rfl, hb⟩
                          have HS4_ := (hb.cell (wBl _ _ (hHeld.2.2.2.2.1))).trans (hHeld.2.2.2.2.1)
                          have HS5_ := (hb.cell (wBl _ _ (hHeld.2.2.2.2.2.1))).trans (hHeld.2.2.2.2.2.1)
                          have HS6_ := (hb.cell (wBl _ _ (hHeld.2.2.2.2.2.2.1))).trans (hHeld.2.2.2.2.2.2.1)
                          have HS7_ := (hb.cell (wBl _ _ (hHeld.2.2.2.2.2.2.2.1))).trans (hHeld.2.2.2.2.2.2.2.1)
                          have HS8_ := (hb.cell (wBl _ _ (hHeld.2.2.2.2.2.2.2.2.1))).trans (hHeld.2.2.2.2.2.2.2.2.1)
                          have HS9_ := (hb.cell (wBl _ _ (hHeld.2.2.2.2.2.2.2.2.2.1))).trans (hHeld.2.2.2.2.2.2.2.2.2.1)
                          have HS10_ := (hb.cell (wBl _ _ (hHeld.2.2.2.2.2.2.2.2.2.2.1))).trans (hHeld.2.2.2.2.2.2.2.2.2.2.1)
                          have HS11_ := (hb.cell (wBl _ _ (hHeld.2.2.2.2.2.2.2.2.2.2.2.1))).trans (hHeld.2.2.2.2.2.2.2.2.2.2.2.1)
                          have HS12_ := (hb.cell (wBl _ _ (hHeld.2.2.2.2.2.2.2.2.2.2.2.2.1))).trans (hHeld.2.2.2.2.2.2.2.2.2.2.2.2.1)
                          have HS13_ := (hb.cell (wBl _ _ (hHeld.2.2.2.2.2.2.2.2.2.2.2.2.2))).trans (hHeld.2.2.2.2.2.2.2.2.2.2.2.2.2)
                          refine ⟨_, rfl, ?_⟩
                          have n0_ := aMk (Kd.R_below (by (with_reducible repeat (first | apply Kd.R_alloc | apply Kd.R_drewN | apply Kd.R_drew)); exact HO_3.out) hb)
                          have n1_ := aMk (blk_below (g := gb368) (o := .cells #[.int .i64 t364, .int .i64 t365, .int .i64 t366, .int .i64 t367] 34 (0, 0)) (by (with_reducible repeat (first | refine bkD ?_ _ | refine blk_drew ?_ | refine bkA ?_ _)); exact BK368.out) hb)
                          have n2_ := aMk (below_step (by repeat (first | (with_reducible first | exact HB.out | apply bAl | apply bDn | apply bD1 | refine bSe ?_ GE368.out) | exact HB.out)) hb)
                          clear HO_3
                          clear BK368
                          clear HB
                          have HO_3 := n0_
                          have BK368 := n1_
                          have HB := n2_
                          clear n0_ n1_ n2_
                          (try clear hb)
                          (try clear hb2)
                          (try clear hk)
                          (try clear hi)
                          refine hK.out _ _ ⟨(bCe BK368.out 0).trans rfl, (bCe BK368.out 1).trans rfl, (bCe BK368.out 2).trans rfl, (bCe BK368.out 3).trans rfl, HS4_, HS5_, HS6_, HS7_, HS8_, HS9_, HS10_, HS11_, HS12_, HS13_⟩ (fun hHeld => ?_)
                          clear hK K
                          refine norm_ (a' := ?_) ?_ ?_
                          rotate_left
                          · show Act.put _ (some 92) _ = _
                            simp only [Act.put, lSa, lSz, lSs, i64_w, i32_w]
                            rfl
                          refine pure_ (i := 9) (N := some 93) (v := ?_) (a' := ?_) #[true, true, true, true, true, true, true, true, true, true, false, false, false, false, false, false, false, false, false, false, false] rfl rfl (any_of HT_.out (by kernel_rfl)) (fun _ _ _ h => h) (Or.inl ⟨by rfl, ?_⟩) ?_ ?_
                          rotate_left
                          · intro w'
                            go_simp
                            with_reducible rfl
                          rotate_left
                          · simp only [Act.put, lSa, lSz, lSs, i64_w, i32_w]
                            rfl
                          refine pure_ (i := 10) (N := some 94) (v := ?_) (a' := ?_) #[true, true, true, true, true, true, true, true, true, true, true, false, false, false, false, false, false, false, false, false, false] rfl rfl (any_of HT_.out (by kernel_rfl)) (fun _ _ _ h => h) (Or.inl ⟨by rfl, ?_⟩) ?_ ?_
                          rotate_left
                          · intro w'
                            go_simp
                            with_reducible rfl
                          rotate_left
                          · simp only [Act.put, lSa, lSz, lSs, i64_w, i32_w]
                            rfl
                          refine pure_ (i := 11) (N := some 95) (v := ?_) (a' := ?_) #[true, true, true, true, true, true, true, true, true, true, true, true, false, false, false, false, false, false, false, false, false] rfl rfl (any_of HT_.out (by kernel_rfl)) (fun _ _ _ h => h) (Or.inl ⟨by rfl, ?_⟩) ?_ ?_
                          rotate_left
                          · intro w'
                            go_simp
                            with_reducible rfl
                          rotate_left
                          · simp only [Act.put, lSa, lSz, lSs, i64_w, i32_w]
                            rfl
                          refine pure_ (i := 13) (N := some 97) (v := ?_) (a' := ?_) #[true, true, true, true, true, true, true, true, true, true, true, true, false, true, false, false, false, false, false, false, false] rfl rfl (any_of HT_.out (by kernel_rfl)) (fun _ _ _ h => h) (Or.inl ⟨by rfl, ?_⟩) ?_ ?_
                          rotate_left
                          · intro w'
                            go_simp
                            with_reducible rfl
                          rotate_left
                          · simp only [Act.put, lSa, lSz, lSs, i64_w, i32_w]
                            rfl
                          refine pure_ (i := 14) (N := some 98) (v := ?_) (a' := ?_) #[true, true, true, true, true, true, true, true, true, true, true, true, false, true, true, false, false, false, false, false, false] rfl rfl (any_of HT_.out (by kernel_rfl)) (fun _ _ _ h => h) (Or.inl ⟨by rfl, ?_⟩) ?_ ?_
                          rotate_left
                          · intro w'
                            go_simp
                            with_reducible rfl
                          rotate_left
                          · simp only [Act.put, lSa, lSz, lSs, i64_w, i32_w]
                            rfl
                          refine pure_ (i := 15) (N := some 99) (v := ?_) (a' := ?_) #[true, true, true, true, true, true, true, true, true, true, true, true, false, true, true, true, false, false, false, false, false] rfl rfl (any_of HT_.out (by kernel_rfl)) (fun _ _ _ h => h) (Or.inl ⟨by rfl, ?_⟩) ?_ ?_
                          rotate_left
                          · intro w'
                            go_simp
                            with_reducible rfl
                          rotate_left
                          · simp only [Act.put, lSa, lSz, lSs, i64_w, i32_w]
                            rfl
                          refine pure_ (i := 16) (N := some 100) (v := ?_) (a' := ?_) #[true, true, true, true, true, true, true, true, true, true, true, true, false, true, true, true, true, false, false, false, false] rfl rfl (any_of HT_.out (by kernel_rfl)) (fun _ _ _ h => h) (Or.inl ⟨by rfl, ?_⟩) ?_ ?_
                          rotate_left
                          · intro w'
                            go_simp
                            with_reducible rfl
                          rotate_left
                          · simp only [Act.put, lSa, lSz, lSs, i64_w, i32_w]
                            rfl
                          refine pure_ (i := 17) (N := some 101) (v := ?_) (a' := ?_) #[true, true, true, true, true, true, true, true, true, true, true, true, false, true, true, true, true, true, false, false, false] rfl rfl (any_of HT_.out (by kernel_rfl)) (fun _ _ _ h => h) (Or.inl ⟨by rfl, ?_⟩) ?_ ?_
                          rotate_left
                          · intro w'
                            go_simp
                            with_reducible rfl
                          rotate_left
                          · simp only [Act.put, lSa, lSz, lSs, i64_w, i32_w]
                            rfl
                          refine take_ (i := 12) (N := some 96) (v := ?_) (a' := ?_) #[true, true, true, true, true, true, true, true, true, true, true, true, true, true, true, true, true, true, false, false, false] rfl rfl (take_ofW HT_.out HW_.out (by kernel_rfl)) (fun _ _ _ h => h) (Or.inl ⟨by rfl, ?_⟩) hHeld ?_ ?_
                          rotate_left
                          · rintro w' ⟨s0, s1, s2, s3, s4, s5, s6, s7, s8, s9, s10, s11, s12, s13⟩
                            go_simp
                            with_reducible rfl
                          rotate_left
                          · simp only [Act.put, lSa, lSz, lSs, i64_w, i32_w]
                            rfl
                          refine take_ (i := 18) (N := some 102) (v := ?_) (a' := ?_) #[true, true, true, true, true, true, true, true, true, true, true, true, true, true, true, true, true, true, true, false, false] rfl rfl (take_ofW HT_.out HW_.out (by kernel_rfl)) (fun _ _ _ h => h) (Or.inl ⟨by rfl, ?_⟩) hHeld ?_ ?_
                          rotate_left
                          · rintro w' ⟨s0, s1, s2, s3, s4, s5, s6, s7, s8, s9, s10, s11, s12, s13⟩
                            go_simp
                            with_reducible rfl
                          rotate_left
                          · simp only [Act.put, lSa, lSz, lSs, i64_w, i32_w]
                            rfl
                          refine pure_ (i := 19) (N := some 103) (v := ?_) (a' := ?_) #[true, true, true, true, true, true, true, true, true, true, true, true, true, true, true, true, true, true, true, true, false] rfl rfl (any_of HT_.out (by kernel_rfl)) (fun _ _ _ h => h) (Or.inl ⟨by rfl, ?_⟩) ?_ ?_
                          rotate_left
                          · intro w'
                            go_simp
                            with_reducible rfl
                          rotate_left
                          · simp only [Act.put, lSa, lSz, lSs, i64_w, i32_w]
                            rfl
                          refine pure_ (i := 20) (N := some 104) (v := ?_) (a' := ?_) #[true, true, true, true, true, true, true, true, true, true, true, true, true, true, true, true, true, true, true, true, true] rfl rfl (any_of HT_.out (by kernel_rfl)) (fun _ _ _ h => h) (Or.inl ⟨by rfl, ?_⟩) ?_ ?_
                          rotate_left
                          · intro w'
                            go_simp
                            with_reducible rfl
                          rotate_left
                          · simp only [Act.put, lSa, lSz, lSs, i64_w, i32_w]
                            rfl
                          refine done_ (done_of HT_.out (by kernel_rfl)) ?_
                          try go_wp2
                          go_ret
                          exact ⟨by first | rfl | (simp [errW_none, errW_some] <;> rfl) | (simp [*, errW_none, errW_some] <;> rfl), by repeat (first | (with_reducible first | exact HB.out | apply bAl | apply bDn | apply bD1 | refine bSe ?_ GE368.out) | exact HB.out)⟩
                        · rw [if_neg c46] at H
                          have c46b0 : decide (t365 < ((rd_T38 t355 x11_2).f0.f1)) = false := decide_eq_false c46
                          clear c46
                          have H' := aMk H
                          clear H
                          have p374 : 0 ≤ (x11_2 : Int) := oDt (by first | (with_reducible assumption) | assumption)
                          have q374 : x11_2 < (t355.length : Int) := oDt (by first | (with_reducible assumption) | assumption)
                          obtain ⟨ad374, e374, hx374_0, hx374_1, hx374_2, hx374_3, hx374_4⟩ := at_T38 (Kd.R_reads' HO_3.out).2.2 x11_2 p374 q374
                          cases e374
                          replace p374 := eq_true p374
                          replace q374 := eq_true q374
                          have p375 : 0 ≤ (x11_2 : Int) := oDt (by first | (with_reducible assumption) | assumption)
                          have q375 : x11_2 < (t355.length : Int) := oDt (by first | (with_reducible assumption) | assumption)
                          obtain ⟨ad375, e375, hx375_0, hx375_1, hx375_2, hx375_3, hx375_4⟩ := at_T38 (Kd.R_reads' HO_3.out).2.2 x11_2 p375 q375
                          obtain rfl : ad374 = ad375 := (by injection e375)
                          replace p375 := eq_true p375
                          replace q375 := eq_true q375
                          try go_wp2
                          have n0_ := aMk (Kd.R_drew HO_3.out)
                          have n1_ := aMk (blk_drew BK368.out)
                          have n2_ := aMk (bD1 HB.out)
                          clear HO_3
                          clear BK368
                          clear HB
                          have HO_3 := n0_
                          have BK368 := n1_
                          have HB := n2_
                          clear n0_ n1_ n2_
                          have p376 : 0 ≤ (x11_2 : Int) := oDt (by first | (with_reducible assumption) | assumption)
                          have q376 : x11_2 < (t355.length : Int) := oDt (by first | (with_reducible assumption) | assumption)
                          obtain ⟨ad376, e376, hx376_0, hx376_1, hx376_2, hx376_3, hx376_4⟩ := at_T38 (Kd.R_reads' HO_3.out).2.2 x11_2 p376 q376
                          obtain rfl : ad374 = ad376 := (by injection e376)
                          replace p376 := eq_true p376
                          replace q376 := eq_true q376
                          have p378 : 0 ≤ (x11_2 : Int) := oDt (by first | (with_reducible assumption) | assumption)
                          have q378 : x11_2 < (t355.length : Int) := oDt (by first | (with_reducible assumption) | assumption)
                          obtain ⟨ad378, e378, hx378_0, hx378_1, hx378_2, hx378_3, hx378_4⟩ := at_T38 (Kd.R_reads' HO_3.out).2.2 x11_2 p378 q378
                          obtain rfl : ad374 = ad378 := (by injection e378)
                          replace p378 := eq_true p378
                          replace q378 := eq_true q378
                          refine start_ (n := 21) (S := fun w' => w'.cell? ⟨gb368, 0, none⟩ = some (.int .i64 t364) ∧ w'.cell? ⟨gb368, 1, none⟩ = some (.int .i64 t365) ∧ w'.cell? ⟨gb368, 2, none⟩ = some (.int .i64 t366) ∧ w'.cell? ⟨gb368, 3, none⟩ = some (.int .i64 t367) ∧ w'.cell? (ad374.add ((x11_2).toNat * 5)) = some (.int .i64 ((rd_T38 t355 x11_2).f0.f0)) ∧ w'.cell? ⟨(ad374.add ((x11_2).toNat * 5)).block, (ad374.add ((x11_2).toNat * 5)).off + 1, none⟩ = some (.int .i64 ((rd_T38 t355 x11_2).f0.f1)) ∧ w'.cell? ⟨(ad374.add ((x11_2).toNat * 5)).block, (ad374.add ((x11_2).toNat * 5)).off + 2, none⟩ = some (.int .i64 ((rd_T38 t355 x11_2).f0.f2)) ∧ w'.cell? ⟨(ad374.add ((x11_2).toNat * 5)).block, (ad374.add ((x11_2).toNat * 5)).off + 3, none⟩ = some (.int .i64 ((rd_T38 t355 x11_2).f0.f3)) ∧ w'.cell? ⟨(ad374.add ((x11_2).toNat * 5)).block, (ad374.add ((x11_2).toNat * 5)).off + 4, none⟩ = some (.bool ((rd_T38 t355 x11_2).f1)) ∧ w'.cell? (ad374.add ((x11_2).toNat * 5)) = some (.int .i64 ((rd_T38 t355 x11_2).f0.f0)) ∧ w'.cell? ⟨(ad374.add ((x11_2).toNat * 5)).block, (ad374.add ((x11_2).toNat * 5)).off + 1, none⟩ = some (.int .i64 ((rd_T38 t355 x11_2).f0.f1)) ∧ w'.cell? ⟨(ad374.add ((x11_2).toNat * 5)).block, (ad374.add ((x11_2).toNat * 5)).off + 2, none⟩ = some (.int .i64 ((rd_T38 t355 x11_2).f0.f2)) ∧ w'.cell? ⟨(ad374.add ((x11_2).toNat * 5)).block, (ad374.add ((x11_2).toNat * 5)).off + 3, none⟩ = some (.int .i64 ((rd_T38 t355 x11_2).f0.f3)) ∧ w'.cell? ⟨(ad374.add ((x11_2).toNat * 5)).block, (ad374.add ((x11_2).toNat * 5)).off + 4, none⟩ = some (.bool ((rd_T38 t355 x11_2).f1))) (ds := []) #[false, false, false, false, false, false, false, false, false, false, false, false, false, false, false, false, false, false, false, false, false] (by kernel_rfl) rfl rfl ⟨(bCe BK368.out 0).trans rfl, (bCe BK368.out 1).trans rfl, (bCe BK368.out 2).trans rfl, (bCe BK368.out 3).trans rfl, hx376_0, hx376_1, hx376_2, hx376_3, hx376_4, hx378_0, hx378_1, hx378_2, hx378_3, hx378_4⟩ (fun hHeld => ?_); refine with_tabW laws_FnFloats.tab14 laws_FnFloats.bits14 (fun HT_ HW_ => ?_)
                          generalize wr.drew = w49 at HO_3 BK368 HB hx376_0 hx376_1 hx376_2 hx376_3 hx376_4 hx378_0 hx378_1 hx378_2 hx378_3 hx378_4 hHeld ⊢
                          refine pure_ (i := 0) (N := some 84) (v := ?_) (a' := ?_) #[true, false, false, false, false, false, false, false, false, false, false, false, false, false, false, false, false, false, false, false, false] rfl rfl (any_of HT_.out (by kernel_rfl)) (fun _ _ _ h => h) (Or.inl ⟨by rfl, ?_⟩) ?_ ?_
                          rotate_left
                          · intro w'
                            go_simp
                            with_reducible rfl
                          rotate_left
                          · simp only [Act.put, lSa, lSz, lSs, i64_w, i32_w]
                            rfl
                          refine pure_ (i := 1) (N := some 85) (v := ?_) (a' := ?_) #[true, true, false, false, false, false, false, false, false, false, false, false, false, false, false, false, false, false, false, false, false] rfl rfl (any_of HT_.out (by kernel_rfl)) (fun _ _ _ h => h) (Or.inl ⟨by rfl, ?_⟩) ?_ ?_
                          rotate_left
                          · intro w'
                            go_simp
                            with_reducible rfl
                          rotate_left
                          · simp only [Act.put, lSa, lSz, lSs, i64_w, i32_w]
                            rfl
                          refine pure_ (i := 3) (N := some 87) (v := ?_) (a' := ?_) #[true, true, false, true, false, false, false, false, false, false, false, false, false, false, false, false, false, false, false, false, false] rfl rfl (any_of HT_.out (by kernel_rfl)) (fun _ _ _ h => h) (Or.inl ⟨by rfl, ?_⟩) ?_ ?_
                          rotate_left
                          · intro w'
                            go_simp
                            with_reducible rfl
                          rotate_left
                          · simp only [Act.put, lSa, lSz, lSs, i64_w, i32_w]
                            rfl
                          refine pure_ (i := 4) (N := some 88) (v := ?_) (a' := ?_) #[true, true, false, true, true, false, false, false, false, false, false, false, false, false, false, false, false, false, false, false, false] rfl rfl (any_of HT_.out (by kernel_rfl)) (fun _ _ _ h => h) (Or.inl ⟨by rfl, ?_⟩) ?_ ?_
                          rotate_left
                          · intro w'
                            go_simp
                            with_reducible rfl
                          rotate_left
                          · simp only [Act.put, lSa, lSz, lSs, i64_w, i32_w]
                            rfl
                          refine pure_ (i := 5) (N := some 89) (v := ?_) (a' := ?_) #[true, true, false, true, true, true, false, false, false, false, false, false, false, false, false, false, false, false, false, false, false] rfl rfl (any_of HT_.out (by kernel_rfl)) (fun _ _ _ h => h) (Or.inl ⟨by rfl, ?_⟩) ?_ ?_
                          rotate_left
                          · intro w'
                            go_simp
                            with_reducible rfl
                          rotate_left
                          · simp only [Act.put, lSa, lSz, lSs, i64_w, i32_w]
                            rfl
                          refine pure_ (i := 6) (N := some 90) (v := ?_) (a' := ?_) #[true, true, false, true, true, true, true, false, false, false, false, false, false, false, false, false, false, false, false, false, false] rfl rfl (any_of HT_.out (by kernel_rfl)) (fun _ _ _ h => h) (Or.inl ⟨by rfl, ?_⟩) ?_ ?_
                          rotate_left
                          · intro w'
                            go_simp
                            with_reducible rfl
                          rotate_left
                          · simp only [Act.put, lSa, lSz, lSs, i64_w, i32_w]
                            rfl
                          refine take_ (i := 2) (N := some 86) (v := ?_) (a' := ?_) #[true, true, true, true, true, true, true, false, false, false, false, false, false, false, false, false, false, false, false, false, false] rfl rfl (take_ofW HT_.out HW_.out (by kernel_rfl)) (fun _ _ _ h => h) (Or.inl ⟨by rfl, ?_⟩) hHeld ?_ ?_
                          rotate_left
                          · rintro w' ⟨s0, s1, s2, s3, s4, s5, s6, s7, s8, s9, s10, s11, s12, s13⟩
                            go_simp
                            with_reducible rfl
                          rotate_left
                          · simp only [Act.put, lSa, lSz, lSs, i64_w, i32_w]
                            rfl
                          refine take_ (i := 7) (N := some 91) (v := ?_) (a' := ?_) #[true, true, true, true, true, true, true, true, false, false, false, false, false, false, false, false, false, false, false, false, false] rfl rfl (take_ofW HT_.out HW_.out (by kernel_rfl)) (fun _ _ _ h => h) (Or.inl ⟨by rfl, ?_⟩) hHeld ?_ ?_
                          rotate_left
                          · rintro w' ⟨s0, s1, s2, s3, s4, s5, s6, s7, s8, s9, s10, s11, s12, s13⟩
                            go_simp
                            with_reducible rfl
                          rotate_left
                          · simp only [Act.put, lSa, lSz, lSs, i64_w, i32_w]
                            rfl
                          refine one_ (i := 8) (N := some 92) #[true, true, true, true, true, true, true, true, true, false, false, false, false, false, false, false, false, false, false, false, false] rfl rfl (one_of HT_.out (by kernel_rfl)) (by decide) (fun K hK => ?_)
                          refine goes_ Try.func25 (by kernel_rfl) rfl #[.agg #[.int .i64 t364, .int .i64 t365, .int .i64 t366, .int .i64 t367], .agg #[.int .i64 ((rd_T38 t355 x11_2).f0.f0), .int .i64 ((rd_T38 t355 x11_2).f0.f1), .int .i64 ((rd_T38 t355 x11_2).f0.f2), .int .i64 ((rd_T38 t355 x11_2).f0.f3)]] (by rfl) rfl rfl (by (try simp only [List.map_toArray, List.map_cons, List.map_nil]); first | done | rfl | (simp only [List.length_drop, List.length_take]; rfl)) ?_
                          with_reducible refine (laws_over.calls t364 t365 t366 t367 ((rd_T38 t355 x11_2).f0.f0) ((rd_T38 t355 x11_2).f0.f1) ((rd_T38 t355 x11_2).f0.f2) ((rd_T38 t355 x11_2).f0.f3) false _ A42.out).mono ?_
                          rintro e w50 ⟨rfl, hb⟩
                          have HS4_ := (hb.cell (wBl _ _ (hHeld.2.2.2.2.1))).trans (hHeld.2.2.2.2.1)
                          have HS5_ := (hb.cell (wBl _ _ (hHeld.2.2.2.2.2.1))).trans (hHeld.2.2.2.2.2.1)
                          have HS6_ := (hb.cell (wBl _ _ (hHeld.2.2.2.2.2.2.1))).trans (hHeld.2.2.2.2.2.2.1)
                          have HS7_ := (hb.cell (wBl _ _ (hHeld.2.2.2.2.2.2.2.1))).trans (hHeld.2.2.2.2.2.2.2.1)
                          have HS8_ := (hb.cell (wBl _ _ (hHeld.2.2.2.2.2.2.2.2.1))).trans (hHeld.2.2.2.2.2.2.2.2.1)
                          have HS9_ := (hb.cell (wBl _ _ (hHeld.2.2.2.2.2.2.2.2.2.1))).trans (hHeld.2.2.2.2.2.2.2.2.2.1)
                          have HS10_ := (hb.cell (wBl _ _ (hHeld.2.2.2.2.2.2.2.2.2.2.1))).trans (hHeld.2.2.2.2.2.2.2.2.2.2.1)
                          have HS11_ := (hb.cell (wBl _ _ (hHeld.2.2.2.2.2.2.2.2.2.2.2.1))).trans (hHeld.2.2.2.2.2.2.2.2.2.2.2.1)
                          have HS12_ := (hb.cell (wBl _ _ (hHeld.2.2.2.2.2.2.2.2.2.2.2.2.1))).trans (hHeld.2.2.2.2.2.2.2.2.2.2.2.2.1)
                          have HS13_ := (hb.cell (wBl _ _ (hHeld.2.2.2.2.2.2.2.2.2.2.2.2.2))).trans (hHeld.2.2.2.2.2.2.2.2.2.2.2.2.2)
                          refine ⟨_, rfl, ?_⟩
                          have n0_ := aMk (Kd.R_below (by (with_reducible repeat (first | apply Kd.R_alloc | apply Kd.R_drewN | apply Kd.R_drew)); exact HO_3.out) hb)
                          have n1_ := aMk (blk_below (g := gb368) (o := .cells #[.int .i64 t364, .int .i64 t365, .int .i64 t366, .int .i64 t367] 34 (0, 0)) (by (with_reducible repeat (first | refine bkD ?_ _ | refine blk_drew ?_ | refine bkA ?_ _)); exact BK368.out) hb)
                          have n2_ := aMk (below_step (by repeat (first | (with_reducible first | exact HB.out | apply bAl | apply bDn | apply bD1 | refine bSe ?_ GE368.out) | exact HB.out)) hb)
                          clear HO_3
                          clear BK368
                          clear HB
                          have HO_3 := n0_
                          have BK368 := n1_
                          have HB := n2_
                          clear n0_ n1_ n2_
                          (try clear hb)
                          (try clear hb2)
                          (try clear hk)
                          (try clear hi)
                          refine hK.out _ _ ⟨(bCe BK368.out 0).trans rfl, (bCe BK368.out 1).trans rfl, (bCe BK368.out 2).trans rfl, (bCe BK368.out 3).trans rfl, HS4_, HS5_, HS6_, HS7_, HS8_, HS9_, HS10_, HS11_, HS12_, HS13_⟩ (fun hHeld => ?_)
                          clear hK K
                          refine norm_ (a' := ?_) ?_ ?_
                          rotate_left
                          · show Act.put _ (some 92) _ = _
                            simp only [Act.put, lSa, lSz, lSs, i64_w, i32_w]
                            rfl
                          refine pure_ (i := 9) (N := some 93) (v := ?_) (a' := ?_) #[true, true, true, true, true, true, true, true, true, true, false, false, false, false, false, false, false, false, false, false, false] rfl rfl (any_of HT_.out (by kernel_rfl)) (fun _ _ _ h => h) (Or.inl ⟨by rfl, ?_⟩) ?_ ?_
                          rotate_left
                          · intro w'
                            go_simp
                            with_reducible rfl
                          rotate_left
                          · simp only [Act.put, lSa, lSz, lSs, i64_w, i32_w]
                            rfl
                          refine pure_ (i := 10) (N := some 94) (v := ?_) (a' := ?_) #[true, true, true, true, true, true, true, true, true, true, true, false, false, false, false, false, false, false, false, false, false] rfl rfl (any_of HT_.out (by kernel_rfl)) (fun _ _ _ h => h) (Or.inl ⟨by rfl, ?_⟩) ?_ ?_
                          rotate_left
                          · intro w'
                            go_simp
                            with_reducible rfl
                          rotate_left
                          · simp only [Act.put, lSa, lSz, lSs, i64_w, i32_w]
                            rfl
                          refine pure_ (i := 11) (N := some 95) (v := ?_) (a' := ?_) #[true, true, true, true, true, true, true, true, true, true, true, true, false, false, false, false, false, false, false, false, false] rfl rfl (any_of HT_.out (by kernel_rfl)) (fun _ _ _ h => h) (Or.inl ⟨by rfl, ?_⟩) ?_ ?_
                          rotate_left
                          · intro w'
                            go_simp
                            with_reducible rfl
                          rotate_left
                          · simp only [Act.put, lSa, lSz, lSs, i64_w, i32_w]
                            rfl
                          refine pure_ (i := 13) (N := some 97) (v := ?_) (a' := ?_) #[true, true, true, true, true, true, true, true, true, true, true, true, false, true, false, false, false, false, false, false, false] rfl rfl (any_of HT_.out (by kernel_rfl)) (fun _ _ _ h => h) (Or.inl ⟨by rfl, ?_⟩) ?_ ?_
                          rotate_left
                          · intro w'
                            go_simp
                            with_reducible rfl
                          rotate_left
                          · simp only [Act.put, lSa, lSz, lSs, i64_w, i32_w]
                            rfl
                          refine pure_ (i := 14) (N := some 98) (v := ?_) (a' := ?_) #[true, true, true, true, true, true, true, true, true, true, true, true, false, true, true, false, false, false, false, false, false] rfl rfl (any_of HT_.out (by kernel_rfl)) (fun _ _ _ h => h) (Or.inl ⟨by rfl, ?_⟩) ?_ ?_
                          rotate_left
                          · intro w'
                            go_simp
                            with_reducible rfl
                          rotate_left
                          · simp only [Act.put, lSa, lSz, lSs, i64_w, i32_w]
                            rfl
                          refine pure_ (i := 15) (N := some 99) (v := ?_) (a' := ?_) #[true, true, true, true, true, true, true, true, true, true, true, true, false, true, true, true, false, false, false, false, false] rfl rfl (any_of HT_.out (by kernel_rfl)) (fun _ _ _ h => h) (Or.inl ⟨by rfl, ?_⟩) ?_ ?_
                          rotate_left
                          · intro w'
                            go_simp
                            with_reducible rfl
                          rotate_left
                          · simp only [Act.put, lSa, lSz, lSs, i64_w, i32_w]
                            rfl
                          refine pure_ (i := 16) (N := some 100) (v := ?_) (a' := ?_) #[true, true, true, true, true, true, true, true, true, true, true, true, false, true, true, true, true, false, false, false, false] rfl rfl (any_of HT_.out (by kernel_rfl)) (fun _ _ _ h => h) (Or.inl ⟨by rfl, ?_⟩) ?_ ?_
                          rotate_left
                          · intro w'
                            go_simp
                            with_reducible rfl
                          rotate_left
                          · simp only [Act.put, lSa, lSz, lSs, i64_w, i32_w]
                            rfl
                          refine pure_ (i := 17) (N := some 101) (v := ?_) (a' := ?_) #[true, true, true, true, true, true, true, true, true, true, true, true, false, true, true, true, true, true, false, false, false] rfl rfl (any_of HT_.out (by kernel_rfl)) (fun _ _ _ h => h) (Or.inl ⟨by rfl, ?_⟩) ?_ ?_
                          rotate_left
                          · intro w'
                            go_simp
                            with_reducible rfl
                          rotate_left
                          · simp only [Act.put, lSa, lSz, lSs, i64_w, i32_w]
                            rfl
                          refine take_ (i := 12) (N := some 96) (v := ?_) (a' := ?_) #[true, true, true, true, true, true, true, true, true, true, true, true, true, true, true, true, true, true, false, false, false] rfl rfl (take_ofW HT_.out HW_.out (by kernel_rfl)) (fun _ _ _ h => h) (Or.inl ⟨by rfl, ?_⟩) hHeld ?_ ?_
                          rotate_left
                          · rintro w' ⟨s0, s1, s2, s3, s4, s5, s6, s7, s8, s9, s10, s11, s12, s13⟩
                            go_simp
                            with_reducible rfl
                          rotate_left
                          · simp only [Act.put, lSa, lSz, lSs, i64_w, i32_w]
                            rfl
                          refine take_ (i := 18) (N := some 102) (v := ?_) (a' := ?_) #[true, true, true, true, true, true, true, true, true, true, true, true, true, true, true, true, true, true, true, false, false] rfl rfl (take_ofW HT_.out HW_.out (by kernel_rfl)) (fun _ _ _ h => h) (Or.inl ⟨by rfl, ?_⟩) hHeld ?_ ?_
                          rotate_left
                          · rintro w' ⟨s0, s1, s2, s3, s4, s5, s6, s7, s8, s9, s10, s11, s12, s13⟩
                            go_simp
                            with_reducible rfl
                          rotate_left
                          · simp only [Act.put, lSa, lSz, lSs, i64_w, i32_w]
                            rfl
                          refine pure_ (i := 19) (N := some 103) (v := ?_) (a' := ?_) #[true, true, true, true, true, true, true, true, true, true, true, true, true, true, true, true, true, true, true, true, false] rfl rfl (any_of HT_.out (by kernel_rfl)) (fun _ _ _ h => h) (Or.inl ⟨by rfl, ?_⟩) ?_ ?_
                          rotate_left
                          · intro w'
                            go_simp
                            with_reducible rfl
                          rotate_left
                          · simp only [Act.put, lSa, lSz, lSs, i64_w, i32_w]
                            rfl
                          refine pure_ (i := 20) (N := some 104) (v := ?_) (a' := ?_) #[true, true, true, true, true, true, true, true, true, true, true, true, true, true, true, true, true, true, true, true, true] rfl rfl (any_of HT_.out (by kernel_rfl)) (fun _ _ _ h => h) (Or.inl ⟨by rfl, ?_⟩) ?_ ?_
                          rotate_left
                          · intro w'
                            go_simp
                            with_reducible rfl
                          rotate_left
                          · simp only [Act.put, lSa, lSz, lSs, i64_w, i32_w]
                            rfl
                          refine done_ (done_of HT_.out (by kernel_rfl)) ?_
                          try go_wp2
                          go_roundg k2
                          case measure => have := HJ15.out; have := HK2.out; omega
                          case rel => exact ⟨(wrap64 (x11_2 + 1)), (by first | rfl | (simp; done) | (simp [*]; done)), H', ⟨by have := HJ15.out; have := HK2.out; omega⟩, ⟨by (with_reducible repeat (first | apply Kd.R_alloc | apply Kd.R_drewN | apply Kd.R_drew)); exact HO_3.out⟩, ⟨by (with_reducible repeat (first | refine bkD ?_ _ | refine blk_drew ?_ | refine bkA ?_ _)); exact BK368.out⟩, ⟨by repeat (first | (with_reducible first | exact HB.out | apply bAl | apply bDn | apply bD1 | refine bSe ?_ GE368.out) | exact HB.out)⟩⟩
                    · rw [if_neg c41] at H
                      have c41b0 : decide (0 < ((rd_T38 t355 x11_2).f0.f3)) = false := decide_eq_false c41
                      clear c41
                      by_cases c51 : t365 < ((rd_T38 t355 x11_2).f0.f1)
                      · rw [if_pos c51] at H
                        have c51b0 : decide (t365 < ((rd_T38 t355 x11_2).f0.f1)) = true := decide_eq_true c51
                        clear c51
                        obtain rfl := Option.some.inj H
                        have p374 : 0 ≤ (x11_2 : Int) := oDt (by first | (with_reducible assumption) | assumption)
                        have q374 : x11_2 < (t355.length : Int) := oDt (by first | (with_reducible assumption) | assumption)
                        obtain ⟨ad374, e374, hx374_0, hx374_1, hx374_2, hx374_3, hx374_4⟩ := at_T38 (Kd.R_reads' HO_3.out).2.2 x11_2 p374 q374
                        cases e374
                        replace p374 := eq_true p374
                        replace q374 := eq_true q374
                        have p375 : 0 ≤ (x11_2 : Int) := oDt (by first | (with_reducible assumption) | assumption)
                        have q375 : x11_2 < (t355.length : Int) := oDt (by first | (with_reducible assumption) | assumption)
                        obtain ⟨ad375, e375, hx375_0, hx375_1, hx375_2, hx375_3, hx375_4⟩ := at_T38 (Kd.R_reads' HO_3.out).2.2 x11_2 p375 q375
                        obtain rfl : ad374 = ad375 := (by injection e375)
                        replace p375 := eq_true p375
                        replace q375 := eq_true q375
                        try go_wp2
                        have n0_ := aMk (Kd.R_drew HO_3.out)
                        have n1_ := aMk (blk_drew BK368.out)
                        have n2_ := aMk (bD1 HB.out)
                        clear HO_3
                        clear BK368
                        clear HB
                        have HO_3 := n0_
                        have BK368 := n1_
                        have HB := n2_
                        clear n0_ n1_ n2_
                        have p379 : 0 ≤ (x11_2 : Int) := oDt (by first | (with_reducible assumption) | assumption)
                        have q379 : x11_2 < (t355.length : Int) := oDt (by first | (with_reducible assumption) | assumption)
                        obtain ⟨ad379, e379, hx379_0, hx379_1, hx379_2, hx379_3, hx379_4⟩ := at_T38 (Kd.R_reads' HO_3.out).2.2 x11_2 p379 q379
                        obtain rfl : ad374 = ad379 := (by injection e379)
                        replace p379 := eq_true p379
                        replace q379 := eq_true q379
                        refine start_ (n := 21) (S := fun w' => w'.cell? ⟨gb368, 0, none⟩ = some (.int .i64 t364) ∧ w'.cell? ⟨gb368, 1, none⟩ = some (.int .i64 t365) ∧ w'.cell? ⟨gb368, 2, none⟩ = some (.int .i64 t366) ∧ w'.cell? ⟨gb368, 3, none⟩ = some (.int .i64 t367) ∧ w'.cell? (ad374.add ((x11_2).toNat * 5)) = some (.int .i64 ((rd_T38 t355 x11_2).f0.f0)) ∧ w'.cell? ⟨(ad374.add ((x11_2).toNat * 5)).block, (ad374.add ((x11_2).toNat * 5)).off + 1, none⟩ = some (.int .i64 ((rd_T38 t355 x11_2).f0.f1)) ∧ w'.cell? ⟨(ad374.add ((x11_2).toNat * 5)).block, (ad374.add ((x11_2).toNat * 5)).off + 2, none⟩ = some (.int .i64 ((rd_T38 t355 x11_2).f0.f2)) ∧ w'.cell? ⟨(ad374.add ((x11_2).toNat * 5)).block, (ad374.add ((x11_2).toNat * 5)).off + 3, none⟩ = some (.int .i64 ((rd_T38 t355 x11_2).f0.f3)) ∧ w'.cell? ⟨(ad374.add ((x11_2).toNat * 5)).block, (ad374.add ((x11_2).toNat * 5)).off + 4, none⟩ = some (.bool ((rd_T38 t355 x11_2).f1))) (ds := []) #[false, false, false, false, false, false, false, false, false, false, false, false, false, false, false, false, false, false, false, false, false] (by kernel_rfl) rfl rfl ⟨(bCe BK368.out 0).trans rfl, (bCe BK368.out 1).trans rfl, (bCe BK368.out 2).trans rfl, (bCe BK368.out 3).trans rfl, hx379_0, hx379_1, hx379_2, hx379_3, hx379_4⟩ (fun hHeld => ?_); refine with_tabW laws_FnFloats.tab14 laws_FnFloats.bits14 (fun HT_ HW_ => ?_)
                        generalize wr.drew = w52 at HO_3 BK368 HB hx379_0 hx379_1 hx379_2 hx379_3 hx379_4 hHeld ⊢
                        refine pure_ (i := 0) (N := some 84) (v := ?_) (a' := ?_) #[true, false, false, false, false, false, false, false, false, false, false, false, false, false, false, false, false, false, false, false, false] rfl rfl (any_of HT_.out (by kernel_rfl)) (fun _ _ _ h => h) (Or.inl ⟨by rfl, ?_⟩) ?_ ?_
                        rotate_left
                        · intro w'
                          go_simp
                          with_reducible rfl
                        rotate_left
                        · simp only [Act.put, lSa, lSz, lSs, i64_w, i32_w]
                          rfl
                        refine pure_ (i := 1) (N := some 85) (v := ?_) (a' := ?_) #[true, true, false, false, false, false, false, false, false, false, false, false, false, false, false, false, false, false, false, false, false] rfl rfl (any_of HT_.out (by kernel_rfl)) (fun _ _ _ h => h) (Or.inl ⟨by rfl, ?_⟩) ?_ ?_
                        rotate_left
                        · intro w'
                          go_simp
                          with_reducible rfl
                        rotate_left
                        · simp only [Act.put, lSa, lSz, lSs, i64_w, i32_w]
                          rfl
                        refine pure_ (i := 2) (N := some 86) (v := undef) (a' := ?_) #[true, true, true, false, false, false, false, false, false, false, false, false, false, false, false, false, false, false, false, false, false] rfl rfl (any_of HT_.out (by kernel_rfl)) (fun _ _ _ h => h) (Or.inr ⟨by rfl, rfl⟩) ?_ ?_
                        rotate_left
                        · simp only [Act.put, lSa, lSz, lSs, i64_w, i32_w]
                          rfl
                        refine pure_ (i := 3) (N := some 87) (v := undef) (a' := ?_) #[true, true, true, true, false, false, false, false, false, false, false, false, false, false, false, false, false, false, false, false, false] rfl rfl (any_of HT_.out (by kernel_rfl)) (fun _ _ _ h => h) (Or.inr ⟨by rfl, rfl⟩) ?_ ?_
                        rotate_left
                        · simp only [Act.put, lSa, lSz, lSs, i64_w, i32_w]
                          rfl
                        refine pure_ (i := 4) (N := some 88) (v := undef) (a' := ?_) #[true, true, true, true, true, false, false, false, false, false, false, false, false, false, false, false, false, false, false, false, false] rfl rfl (any_of HT_.out (by kernel_rfl)) (fun _ _ _ h => h) (Or.inr ⟨by rfl, rfl⟩) ?_ ?_
                        rotate_left
                        · simp only [Act.put, lSa, lSz, lSs, i64_w, i32_w]
                          rfl
                        refine pure_ (i := 5) (N := some 89) (v := undef) (a' := ?_) #[true, true, true, true, true, true, false, false, false, false, false, false, false, false, false, false, false, false, false, false, false] rfl rfl (any_of HT_.out (by kernel_rfl)) (fun _ _ _ h => h) (Or.inr ⟨by rfl, rfl⟩) ?_ ?_
                        rotate_left
                        · simp only [Act.put, lSa, lSz, lSs, i64_w, i32_w]
                          rfl
                        refine pure_ (i := 6) (N := some 90) (v := undef) (a' := ?_) #[true, true, true, true, true, true, true, false, false, false, false, false, false, false, false, false, false, false, false, false, false] rfl rfl (any_of HT_.out (by kernel_rfl)) (fun _ _ _ h => h) (Or.inr ⟨by rfl, rfl⟩) ?_ ?_
                        rotate_left
                        · simp only [Act.put, lSa, lSz, lSs, i64_w, i32_w]
                          rfl
                        refine pure_ (i := 7) (N := some 91) (v := undef) (a' := ?_) #[true, true, true, true, true, true, true, true, false, false, false, false, false, false, false, false, false, false, false, false, false] rfl rfl (any_of HT_.out (by kernel_rfl)) (fun _ _ _ h => h) (Or.inr ⟨by rfl, rfl⟩) ?_ ?_
                        rotate_left
                        · simp only [Act.put, lSa, lSz, lSs, i64_w, i32_w]
                          rfl
                        refine pure_ (i := 8) (N := some 92) (v := undef) (a' := ?_) #[true, true, true, true, true, true, true, true, true, false, false, false, false, false, false, false, false, false, false, false, false] rfl rfl (any_of HT_.out (by kernel_rfl)) (fun _ _ _ h => h) (Or.inr ⟨by rfl, rfl⟩) ?_ ?_
                        rotate_left
                        · simp only [Act.put, lSa, lSz, lSs, i64_w, i32_w]
                          rfl
                        refine pure_ (i := 9) (N := some 93) (v := ?_) (a' := ?_) #[true, true, true, true, true, true, true, true, true, true, false, false, false, false, false, false, false, false, false, false, false] rfl rfl (any_of HT_.out (by kernel_rfl)) (fun _ _ _ h => h) (Or.inl ⟨by rfl, ?_⟩) ?_ ?_
                        rotate_left
                        · intro w'
                          go_simp
                          with_reducible rfl
                        rotate_left
                        · simp only [Act.put, lSa, lSz, lSs, i64_w, i32_w]
                          rfl
                        refine pure_ (i := 10) (N := some 94) (v := ?_) (a' := ?_) #[true, true, true, true, true, true, true, true, true, true, true, false, false, false, false, false, false, false, false, false, false] rfl rfl (any_of HT_.out (by kernel_rfl)) (fun _ _ _ h => h) (Or.inl ⟨by rfl, ?_⟩) ?_ ?_
                        rotate_left
                        · intro w'
                          go_simp
                          with_reducible rfl
                        rotate_left
                        · simp only [Act.put, lSa, lSz, lSs, i64_w, i32_w]
                          rfl
                        refine pure_ (i := 11) (N := some 95) (v := ?_) (a' := ?_) #[true, true, true, true, true, true, true, true, true, true, true, true, false, false, false, false, false, false, false, false, false] rfl rfl (any_of HT_.out (by kernel_rfl)) (fun _ _ _ h => h) (Or.inl ⟨by rfl, ?_⟩) ?_ ?_
                        rotate_left
                        · intro w'
                          go_simp
                          with_reducible rfl
                        rotate_left
                        · simp only [Act.put, lSa, lSz, lSs, i64_w, i32_w]
                          rfl
                        refine pure_ (i := 13) (N := some 97) (v := ?_) (a' := ?_) #[true, true, true, true, true, true, true, true, true, true, true, true, false, true, false, false, false, false, false, false, false] rfl rfl (any_of HT_.out (by kernel_rfl)) (fun _ _ _ h => h) (Or.inl ⟨by rfl, ?_⟩) ?_ ?_
                        rotate_left
                        · intro w'
                          go_simp
                          with_reducible rfl
                        rotate_left
                        · simp only [Act.put, lSa, lSz, lSs, i64_w, i32_w]
                          rfl
                        refine pure_ (i := 14) (N := some 98) (v := ?_) (a' := ?_) #[true, true, true, true, true, true, true, true, true, true, true, true, false, true, true, false, false, false, false, false, false] rfl rfl (any_of HT_.out (by kernel_rfl)) (fun _ _ _ h => h) (Or.inl ⟨by rfl, ?_⟩) ?_ ?_
                        rotate_left
                        · intro w'
                          go_simp
                          with_reducible rfl
                        rotate_left
                        · simp only [Act.put, lSa, lSz, lSs, i64_w, i32_w]
                          rfl
                        refine pure_ (i := 15) (N := some 99) (v := ?_) (a' := ?_) #[true, true, true, true, true, true, true, true, true, true, true, true, false, true, true, true, false, false, false, false, false] rfl rfl (any_of HT_.out (by kernel_rfl)) (fun _ _ _ h => h) (Or.inl ⟨by rfl, ?_⟩) ?_ ?_
                        rotate_left
                        · intro w'
                          go_simp
                          with_reducible rfl
                        rotate_left
                        · simp only [Act.put, lSa, lSz, lSs, i64_w, i32_w]
                          rfl
                        refine pure_ (i := 16) (N := some 100) (v := ?_) (a' := ?_) #[true, true, true, true, true, true, true, true, true, true, true, true, false, true, true, true, true, false, false, false, false] rfl rfl (any_of HT_.out (by kernel_rfl)) (fun _ _ _ h => h) (Or.inl ⟨by rfl, ?_⟩) ?_ ?_
                        rotate_left
                        · intro w'
                          go_simp
                          with_reducible rfl
                        rotate_left
                        · simp only [Act.put, lSa, lSz, lSs, i64_w, i32_w]
                          rfl
                        refine pure_ (i := 17) (N := some 101) (v := ?_) (a' := ?_) #[true, true, true, true, true, true, true, true, true, true, true, true, false, true, true, true, true, true, false, false, false] rfl rfl (any_of HT_.out (by kernel_rfl)) (fun _ _ _ h => h) (Or.inl ⟨by rfl, ?_⟩) ?_ ?_
                        rotate_left
                        · intro w'
                          go_simp
                          with_reducible rfl
                        rotate_left
                        · simp only [Act.put, lSa, lSz, lSs, i64_w, i32_w]
                          rfl
                        refine take_ (i := 12) (N := some 96) (v := ?_) (a' := ?_) #[true, true, true, true, true, true, true, true, true, true, true, true, true, true, true, true, true, true, false, false, false] rfl rfl (take_ofW HT_.out HW_.out (by kernel_rfl)) (fun _ _ _ h => h) (Or.inl ⟨by rfl, ?_⟩) hHeld ?_ ?_
                        rotate_left
                        · rintro w' ⟨s0, s1, s2, s3, s4, s5, s6, s7, s8⟩
                          go_simp
                          with_reducible rfl
                        rotate_left
                        · simp only [Act.put, lSa, lSz, lSs, i64_w, i32_w]
                          rfl
                        refine take_ (i := 18) (N := some 102) (v := ?_) (a' := ?_) #[true, true, true, true, true, true, true, true, true, true, true, true, true, true, true, true, true, true, true, false, false] rfl rfl (take_ofW HT_.out HW_.out (by kernel_rfl)) (fun _ _ _ h => h) (Or.inl ⟨by rfl, ?_⟩) hHeld ?_ ?_
                        rotate_left
                        · rintro w' ⟨s0, s1, s2, s3, s4, s5, s6, s7, s8⟩
                          go_simp
                          with_reducible rfl
                        rotate_left
                        · simp only [Act.put, lSa, lSz, lSs, i64_w, i32_w]
                          rfl
                        refine pure_ (i := 19) (N := some 103) (v := ?_) (a' := ?_) #[true, true, true, true, true, true, true, true, true, true, true, true, true, true, true, true, true, true, true, true, false] rfl rfl (any_of HT_.out (by kernel_rfl)) (fun _ _ _ h => h) (Or.inl ⟨by rfl, ?_⟩) ?_ ?_
                        rotate_left
                        · intro w'
                          go_simp
                          with_reducible rfl
                        rotate_left
                        · simp only [Act.put, lSa, lSz, lSs, i64_w, i32_w]
                          rfl
                        refine pure_ (i := 20) (N := some 104) (v := ?_) (a' := ?_) #[true, true, true, true, true, true, true, true, true, true, true, true, true, true, true, true, true, true, true, true, true] rfl rfl (any_of HT_.out (by kernel_rfl)) (fun _ _ _ h => h) (Or.inl ⟨by rfl, ?_⟩) ?_ ?_
                        rotate_left
                        · intro w'
                          go_simp
                          with_reducible rfl
                        rotate_left
                        · simp only [Act.put, lSa, lSz, lSs, i64_w, i32_w]
                          rfl
                        refine done_ (done_of HT_.out (by kernel_rfl)) ?_
                        try go_wp2
                        go_ret
                        exact ⟨by first | rfl | (simp [errW_none, errW_some] <;> rfl) | (simp [*, errW_none, errW_some] <;> rfl), by repeat (first | (with_reducible first | exact HB.out | apply bAl | apply bDn | apply bD1 | refine bSe ?_ GE368.out) | exact HB.out)⟩
                      · rw [if_neg c51] at H
                        have c51b0 : decide (t365 < ((rd_T38 t355 x11_2).f0.f1)) = false := decide_eq_false c51
                        clear c51
                        have H' := aMk H
                        clear H
                        have p374 : 0 ≤ (x11_2 : Int) := oDt (by first | (with_reducible assumption) | assumption)
                        have q374 : x11_2 < (t355.length : Int) := oDt (by first | (with_reducible assumption) | assumption)
                        obtain ⟨ad374, e374, hx374_0, hx374_1, hx374_2, hx374_3, hx374_4⟩ := at_T38 (Kd.R_reads' HO_3.out).2.2 x11_2 p374 q374
                        cases e374
                        replace p374 := eq_true p374
                        replace q374 := eq_true q374
                        have p375 : 0 ≤ (x11_2 : Int) := oDt (by first | (with_reducible assumption) | assumption)
                        have q375 : x11_2 < (t355.length : Int) := oDt (by first | (with_reducible assumption) | assumption)
                        obtain ⟨ad375, e375, hx375_0, hx375_1, hx375_2, hx375_3, hx375_4⟩ := at_T38 (Kd.R_reads' HO_3.out).2.2 x11_2 p375 q375
                        obtain rfl : ad374 = ad375 := (by injection e375)
                        replace p375 := eq_true p375
                        replace q375 := eq_true q375
                        try go_wp2
                        have n0_ := aMk (Kd.R_drew HO_3.out)
                        have n1_ := aMk (blk_drew BK368.out)
                        have n2_ := aMk (bD1 HB.out)
                        clear HO_3
                        clear BK368
                        clear HB
                        have HO_3 := n0_
                        have BK368 := n1_
                        have HB := n2_
                        clear n0_ n1_ n2_
                        have p379 : 0 ≤ (x11_2 : Int) := oDt (by first | (with_reducible assumption) | assumption)
                        have q379 : x11_2 < (t355.length : Int) := oDt (by first | (with_reducible assumption) | assumption)
                        obtain ⟨ad379, e379, hx379_0, hx379_1, hx379_2, hx379_3, hx379_4⟩ := at_T38 (Kd.R_reads' HO_3.out).2.2 x11_2 p379 q379
                        obtain rfl : ad374 = ad379 := (by injection e379)
                        replace p379 := eq_true p379
                        replace q379 := eq_true q379
                        refine start_ (n := 21) (S := fun w' => w'.cell? ⟨gb368, 0, none⟩ = some (.int .i64 t364) ∧ w'.cell? ⟨gb368, 1, none⟩ = some (.int .i64 t365) ∧ w'.cell? ⟨gb368, 2, none⟩ = some (.int .i64 t366) ∧ w'.cell? ⟨gb368, 3, none⟩ = some (.int .i64 t367) ∧ w'.cell? (ad374.add ((x11_2).toNat * 5)) = some (.int .i64 ((rd_T38 t355 x11_2).f0.f0)) ∧ w'.cell? ⟨(ad374.add ((x11_2).toNat * 5)).block, (ad374.add ((x11_2).toNat * 5)).off + 1, none⟩ = some (.int .i64 ((rd_T38 t355 x11_2).f0.f1)) ∧ w'.cell? ⟨(ad374.add ((x11_2).toNat * 5)).block, (ad374.add ((x11_2).toNat * 5)).off + 2, none⟩ = some (.int .i64 ((rd_T38 t355 x11_2).f0.f2)) ∧ w'.cell? ⟨(ad374.add ((x11_2).toNat * 5)).block, (ad374.add ((x11_2).toNat * 5)).off + 3, none⟩ = some (.int .i64 ((rd_T38 t355 x11_2).f0.f3)) ∧ w'.cell? ⟨(ad374.add ((x11_2).toNat * 5)).block, (ad374.add ((x11_2).toNat * 5)).off + 4, none⟩ = some (.bool ((rd_T38 t355 x11_2).f1))) (ds := []) #[false, false, false, false, false, false, false, false, false, false, false, false, false, false, false, false, false, false, false, false, false] (by kernel_rfl) rfl rfl ⟨(bCe BK368.out 0).trans rfl, (bCe BK368.out 1).trans rfl, (bCe BK368.out 2).trans rfl, (bCe BK368.out 3).trans rfl, hx379_0, hx379_1, hx379_2, hx379_3, hx379_4⟩ (fun hHeld => ?_); refine with_tabW laws_FnFloats.tab14 laws_FnFloats.bits14 (fun HT_ HW_ => ?_)
                        generalize wr.drew = w53 at HO_3 BK368 HB hx379_0 hx379_1 hx379_2 hx379_3 hx379_4 hHeld ⊢
                        refine pure_ (i := 0) (N := some 84) (v := ?_) (a' := ?_) #[true, false, false, false, false, false, false, false, false, false, false, false, false, false, false, false, false, false, false, false, false] rfl rfl (any_of HT_.out (by kernel_rfl)) (fun _ _ _ h => h) (Or.inl ⟨by rfl, ?_⟩) ?_ ?_
                        rotate_left
                        · intro w'
                          go_simp
                          with_reducible rfl
                        rotate_left
                        · simp only [Act.put, lSa, lSz, lSs, i64_w, i32_w]
                          rfl
                        refine pure_ (i := 1) (N := some 85) (v := ?_) (a' := ?_) #[true, true, false, false, false, false, false, false, false, false, false, false, false, false, false, false, false, false, false, false, false] rfl rfl (any_of HT_.out (by kernel_rfl)) (fun _ _ _ h => h) (Or.inl ⟨by rfl, ?_⟩) ?_ ?_
                        rotate_left
                        · intro w'
                          go_simp
                          with_reducible rfl
                        rotate_left
                        · simp only [Act.put, lSa, lSz, lSs, i64_w, i32_w]
                          rfl
                        refine pure_ (i := 2) (N := some 86) (v := undef) (a' := ?_) #[true, true, true, false, false, false, false, false, false, false, false, false, false, false, false, false, false, false, false, false, false] rfl rfl (any_of HT_.out (by kernel_rfl)) (fun _ _ _ h => h) (Or.inr ⟨by rfl, rfl⟩) ?_ ?_
                        rotate_left
                        · simp only [Act.put, lSa, lSz, lSs, i64_w, i32_w]
                          rfl
                        refine pure_ (i := 3) (N := some 87) (v := undef) (a' := ?_) #[true, true, true, true, false, false, false, false, false, false, false, false, false, false, false, false, false, false, false, false, false] rfl rfl (any_of HT_.out (by kernel_rfl)) (fun _ _ _ h => h) (Or.inr ⟨by rfl, rfl⟩) ?_ ?_
                        rotate_left
                        · simp only [Act.put, lSa, lSz, lSs, i64_w, i32_w]
                          rfl
                        refine pure_ (i := 4) (N := some 88) (v := undef) (a' := ?_) #[true, true, true, true, true, false, false, false, false, false, false, false, false, false, false, false, false, false, false, false, false] rfl rfl (any_of HT_.out (by kernel_rfl)) (fun _ _ _ h => h) (Or.inr ⟨by rfl, rfl⟩) ?_ ?_
                        rotate_left
                        · simp only [Act.put, lSa, lSz, lSs, i64_w, i32_w]
                          rfl
                        refine pure_ (i := 5) (N := some 89) (v := undef) (a' := ?_) #[true, true, true, true, true, true, false, false, false, false, false, false, false, false, false, false, false, false, false, false, false] rfl rfl (any_of HT_.out (by kernel_rfl)) (fun _ _ _ h => h) (Or.inr ⟨by rfl, rfl⟩) ?_ ?_
                        rotate_left
                        · simp only [Act.put, lSa, lSz, lSs, i64_w, i32_w]
                          rfl
                        refine pure_ (i := 6) (N := some 90) (v := undef) (a' := ?_) #[true, true, true, true, true, true, true, false, false, false, false, false, false, false, false, false, false, false, false, false, false] rfl rfl (any_of HT_.out (by kernel_rfl)) (fun _ _ _ h => h) (Or.inr ⟨by rfl, rfl⟩) ?_ ?_
                        rotate_left
                        · simp only [Act.put, lSa, lSz, lSs, i64_w, i32_w]
                          rfl
                        refine pure_ (i := 7) (N := some 91) (v := undef) (a' := ?_) #[true, true, true, true, true, true, true, true, false, false, false, false, false, false, false, false, false, false, false, false, false] rfl rfl (any_of HT_.out (by kernel_rfl)) (fun _ _ _ h => h) (Or.inr ⟨by rfl, rfl⟩) ?_ ?_
                        rotate_left
                        · simp only [Act.put, lSa, lSz, lSs, i64_w, i32_w]
                          rfl
                        refine pure_ (i := 8) (N := some 92) (v := undef) (a' := ?_) #[true, true, true, true, true, true, true, true, true, false, false, false, false, false, false, false, false, false, false, false, false] rfl rfl (any_of HT_.out (by kernel_rfl)) (fun _ _ _ h => h) (Or.inr ⟨by rfl, rfl⟩) ?_ ?_
                        rotate_left
                        · simp only [Act.put, lSa, lSz, lSs, i64_w, i32_w]
                          rfl
                        refine pure_ (i := 9) (N := some 93) (v := ?_) (a' := ?_) #[true, true, true, true, true, true, true, true, true, true, false, false, false, false, false, false, false, false, false, false, false] rfl rfl (any_of HT_.out (by kernel_rfl)) (fun _ _ _ h => h) (Or.inl ⟨by rfl, ?_⟩) ?_ ?_
                        rotate_left
                        · intro w'
                          go_simp
                          with_reducible rfl
                        rotate_left
                        · simp only [Act.put, lSa, lSz, lSs, i64_w, i32_w]
                          rfl
                        refine pure_ (i := 10) (N := some 94) (v := ?_) (a' := ?_) #[true, true, true, true, true, true, true, true, true, true, true, false, false, false, false, false, false, false, false, false, false] rfl rfl (any_of HT_.out (by kernel_rfl)) (fun _ _ _ h => h) (Or.inl ⟨by rfl, ?_⟩) ?_ ?_
                        rotate_left
                        · intro w'
                          go_simp
                          with_reducible rfl
                        rotate_left
                        · simp only [Act.put, lSa, lSz, lSs, i64_w, i32_w]
                          rfl
                        refine pure_ (i := 11) (N := some 95) (v := ?_) (a' := ?_) #[true, true, true, true, true, true, true, true, true, true, true, true, false, false, false, false, false, false, false, false, false] rfl rfl (any_of HT_.out (by kernel_rfl)) (fun _ _ _ h => h) (Or.inl ⟨by rfl, ?_⟩) ?_ ?_
                        rotate_left
                        · intro w'
                          go_simp
                          with_reducible rfl
                        rotate_left
                        · simp only [Act.put, lSa, lSz, lSs, i64_w, i32_w]
                          rfl
                        refine pure_ (i := 13) (N := some 97) (v := ?_) (a' := ?_) #[true, true, true, true, true, true, true, true, true, true, true, true, false, true, false, false, false, false, false, false, false] rfl rfl (any_of HT_.out (by kernel_rfl)) (fun _ _ _ h => h) (Or.inl ⟨by rfl, ?_⟩) ?_ ?_
                        rotate_left
                        · intro w'
                          go_simp
                          with_reducible rfl
                        rotate_left
                        · simp only [Act.put, lSa, lSz, lSs, i64_w, i32_w]
                          rfl
                        refine pure_ (i := 14) (N := some 98) (v := ?_) (a' := ?_) #[true, true, true, true, true, true, true, true, true, true, true, true, false, true, true, false, false, false, false, false, false] rfl rfl (any_of HT_.out (by kernel_rfl)) (fun _ _ _ h => h) (Or.inl ⟨by rfl, ?_⟩) ?_ ?_
                        rotate_left
                        · intro w'
                          go_simp
                          with_reducible rfl
                        rotate_left
                        · simp only [Act.put, lSa, lSz, lSs, i64_w, i32_w]
                          rfl
                        refine pure_ (i := 15) (N := some 99) (v := ?_) (a' := ?_) #[true, true, true, true, true, true, true, true, true, true, true, true, false, true, true, true, false, false, false, false, false] rfl rfl (any_of HT_.out (by kernel_rfl)) (fun _ _ _ h => h) (Or.inl ⟨by rfl, ?_⟩) ?_ ?_
                        rotate_left
                        · intro w'
                          go_simp
                          with_reducible rfl
                        rotate_left
                        · simp only [Act.put, lSa, lSz, lSs, i64_w, i32_w]
                          rfl
                        refine pure_ (i := 16) (N := some 100) (v := ?_) (a' := ?_) #[true, true, true, true, true, true, true, true, true, true, true, true, false, true, true, true, true, false, false, false, false] rfl rfl (any_of HT_.out (by kernel_rfl)) (fun _ _ _ h => h) (Or.inl ⟨by rfl, ?_⟩) ?_ ?_
                        rotate_left
                        · intro w'
                          go_simp
                          with_reducible rfl
                        rotate_left
                        · simp only [Act.put, lSa, lSz, lSs, i64_w, i32_w]
                          rfl
                        refine pure_ (i := 17) (N := some 101) (v := ?_) (a' := ?_) #[true, true, true, true, true, true, true, true, true, true, true, true, false, true, true, true, true, true, false, false, false] rfl rfl (any_of HT_.out (by kernel_rfl)) (fun _ _ _ h => h) (Or.inl ⟨by rfl, ?_⟩) ?_ ?_
                        rotate_left
                        · intro w'
                          go_simp
                          with_reducible rfl
                        rotate_left
                        · simp only [Act.put, lSa, lSz, lSs, i64_w, i32_w]
                          rfl
                        refine take_ (i := 12) (N := some 96) (v := ?_) (a' := ?_) #[true, true, true, true, true, true, true, true, true, true, true, true, true, true, true, true, true, true, false, false, false] rfl rfl (take_ofW HT_.out HW_.out (by kernel_rfl)) (fun _ _ _ h => h) (Or.inl ⟨by rfl, ?_⟩) hHeld ?_ ?_
                        rotate_left
                        · rintro w' ⟨s0, s1, s2, s3, s4, s5, s6, s7, s8⟩
                          go_simp
                          with_reducible rfl
                        rotate_left
                        · simp only [Act.put, lSa, lSz, lSs, i64_w, i32_w]
                          rfl
                        refine take_ (i := 18) (N := some 102) (v := ?_) (a' := ?_) #[true, true, true, true, true, true, true, true, true, true, true, true, true, true, true, true, true, true, true, false, false] rfl rfl (take_ofW HT_.out HW_.out (by kernel_rfl)) (fun _ _ _ h => h) (Or.inl ⟨by rfl, ?_⟩) hHeld ?_ ?_
                        rotate_left
                        · rintro w' ⟨s0, s1, s2, s3, s4, s5, s6, s7, s8⟩
                          go_simp
                          with_reducible rfl
                        rotate_left
                        · simp only [Act.put, lSa, lSz, lSs, i64_w, i32_w]
                          rfl
                        refine pure_ (i := 19) (N := some 103) (v := ?_) (a' := ?_) #[true, true, true, true, true, true, true, true, true, true, true, true, true, true, true, true, true, true, true, true, false] rfl rfl (any_of HT_.out (by kernel_rfl)) (fun _ _ _ h => h) (Or.inl ⟨by rfl, ?_⟩) ?_ ?_
                        rotate_left
                        · intro w'
                          go_simp
                          with_reducible rfl
                        rotate_left
                        · simp only [Act.put, lSa, lSz, lSs, i64_w, i32_w]
                          rfl
                        refine pure_ (i := 20) (N := some 104) (v := ?_) (a' := ?_) #[true, true, true, true, true, true, true, true, true, true, true, true, true, true, true, true, true, true, true, true, true] rfl rfl (any_of HT_.out (by kernel_rfl)) (fun _ _ _ h => h) (Or.inl ⟨by rfl, ?_⟩) ?_ ?_
                        rotate_left
                        · intro w'
                          go_simp
                          with_reducible rfl
                        rotate_left
                        · simp only [Act.put, lSa, lSz, lSs, i64_w, i32_w]
                          rfl
                        refine done_ (done_of HT_.out (by kernel_rfl)) ?_
                        try go_wp2
                        go_roundg k2
                        case measure => have := HJ15.out; have := HK2.out; omega
                        case rel => exact ⟨(wrap64 (x11_2 + 1)), (by first | rfl | (simp; done) | (simp [*]; done)), H', ⟨by have := HJ15.out; have := HK2.out; omega⟩, ⟨by (with_reducible repeat (first | apply Kd.R_alloc | apply Kd.R_drewN | apply Kd.R_drew)); exact HO_3.out⟩, ⟨by (with_reducible repeat (first | refine bkD ?_ _ | refine blk_drew ?_ | refine bkA ?_ _)); exact BK368.out⟩, ⟨by repeat (first | (with_reducible first | exact HB.out | apply bAl | apply bDn | apply bD1 | refine bSe ?_ GE368.out) | exact HB.out)⟩⟩
                  · rw [if_neg c40] at H
                    have c40b0 : decide (0 < ((rd_T38 t355 x11_2).f0.f2)) = false := decide_eq_false c40
                    clear c40
                    by_cases c54 : t365 < ((rd_T38 t355 x11_2).f0.f1)
                    · rw [if_pos c54] at H
                      have c54b0 : decide (t365 < ((rd_T38 t355 x11_2).f0.f1)) = true := decide_eq_true c54
                      clear c54
                      obtain rfl := Option.some.inj H
                      have p374 : 0 ≤ (x11_2 : Int) := oDt (by first | (with_reducible assumption) | assumption)
                      have q374 : x11_2 < (t355.length : Int) := oDt (by first | (with_reducible assumption) | assumption)
                      obtain ⟨ad374, e374, hx374_0, hx374_1, hx374_2, hx374_3, hx374_4⟩ := at_T38 (Kd.R_reads' HO_3.out).2.2 x11_2 p374 q374
                      cases e374
                      replace p374 := eq_true p374
                      replace q374 := eq_true q374
                      try go_wp2
                      have n0_ := aMk (Kd.R_drew HO_3.out)
                      have n1_ := aMk (blk_drew BK368.out)
                      have n2_ := aMk (bD1 HB.out)
                      clear HO_3
                      clear BK368
                      clear HB
                      have HO_3 := n0_
                      have BK368 := n1_
                      have HB := n2_
                      clear n0_ n1_ n2_
                      have p380 : 0 ≤ (x11_2 : Int) := oDt (by first | (with_reducible assumption) | assumption)
                      have q380 : x11_2 < (t355.length : Int) := oDt (by first | (with_reducible assumption) | assumption)
                      obtain ⟨ad380, e380, hx380_0, hx380_1, hx380_2, hx380_3, hx380_4⟩ := at_T38 (Kd.R_reads' HO_3.out).2.2 x11_2 p380 q380
                      obtain rfl : ad374 = ad380 := (by injection e380)
                      replace p380 := eq_true p380
                      replace q380 := eq_true q380
                      refine start_ (n := 21) (S := fun w' => w'.cell? ⟨gb368, 0, none⟩ = some (.int .i64 t364) ∧ w'.cell? ⟨gb368, 1, none⟩ = some (.int .i64 t365) ∧ w'.cell? ⟨gb368, 2, none⟩ = some (.int .i64 t366) ∧ w'.cell? ⟨gb368, 3, none⟩ = some (.int .i64 t367) ∧ w'.cell? (ad374.add ((x11_2).toNat * 5)) = some (.int .i64 ((rd_T38 t355 x11_2).f0.f0)) ∧ w'.cell? ⟨(ad374.add ((x11_2).toNat * 5)).block, (ad374.add ((x11_2).toNat * 5)).off + 1, none⟩ = some (.int .i64 ((rd_T38 t355 x11_2).f0.f1)) ∧ w'.cell? ⟨(ad374.add ((x11_2).toNat * 5)).block, (ad374.add ((x11_2).toNat * 5)).off + 2, none⟩ = some (.int .i64 ((rd_T38 t355 x11_2).f0.f2)) ∧ w'.cell? ⟨(ad374.add ((x11_2).toNat * 5)).block, (ad374.add ((x11_2).toNat * 5)).off + 3, none⟩ = some (.int .i64 ((rd_T38 t355 x11_2).f0.f3)) ∧ w'.cell? ⟨(ad374.add ((x11_2).toNat * 5)).block, (ad374.add ((x11_2).toNat * 5)).off + 4, none⟩ = some (.bool ((rd_T38 t355 x11_2).f1))) (ds := []) #[false, false, false, false, false, false, false, false, false, false, false, false, false, false, false, false, false, false, false, false, false] (by kernel_rfl) rfl rfl ⟨(bCe BK368.out 0).trans rfl, (bCe BK368.out 1).trans rfl, (bCe BK368.out 2).trans rfl, (bCe BK368.out 3).trans rfl, hx380_0, hx380_1, hx380_2, hx380_3, hx380_4⟩ (fun hHeld => ?_); refine with_tabW laws_FnFloats.tab14 laws_FnFloats.bits14 (fun HT_ HW_ => ?_)
                      generalize wr.drew = w55 at HO_3 BK368 HB hx380_0 hx380_1 hx380_2 hx380_3 hx380_4 hHeld ⊢
                      refine pure_ (i := 0) (N := some 84) (v := ?_) (a' := ?_) #[true, false, false, false, false, false, false, false, false, false, false, false, false, false, false, false, false, false, false, false, false] rfl rfl (any_of HT_.out (by kernel_rfl)) (fun _ _ _ h => h) (Or.inl ⟨by rfl, ?_⟩) ?_ ?_
                      rotate_left
                      · intro w'
                        go_simp
                        with_reducible rfl
                      rotate_left
                      · simp only [Act.put, lSa, lSz, lSs, i64_w, i32_w]
                        rfl
                      refine pure_ (i := 1) (N := some 85) (v := ?_) (a' := ?_) #[true, true, false, false, false, false, false, false, false, false, false, false, false, false, false, false, false, false, false, false, false] rfl rfl (any_of HT_.out (by kernel_rfl)) (fun _ _ _ h => h) (Or.inl ⟨by rfl, ?_⟩) ?_ ?_
                      rotate_left
                      · intro w'
                        go_simp
                        with_reducible rfl
                      rotate_left
                      · simp only [Act.put, lSa, lSz, lSs, i64_w, i32_w]
                        rfl
                      refine pure_ (i := 2) (N := some 86) (v := undef) (a' := ?_) #[true, true, true, false, false, false, false, false, false, false, false, false, false, false, false, false, false, false, false, false, false] rfl rfl (any_of HT_.out (by kernel_rfl)) (fun _ _ _ h => h) (Or.inr ⟨by rfl, rfl⟩) ?_ ?_
                      rotate_left
                      · simp only [Act.put, lSa, lSz, lSs, i64_w, i32_w]
                        rfl
                      refine pure_ (i := 3) (N := some 87) (v := undef) (a' := ?_) #[true, true, true, true, false, false, false, false, false, false, false, false, false, false, false, false, false, false, false, false, false] rfl rfl (any_of HT_.out (by kernel_rfl)) (fun _ _ _ h => h) (Or.inr ⟨by rfl, rfl⟩) ?_ ?_
                      rotate_left
                      · simp only [Act.put, lSa, lSz, lSs, i64_w, i32_w]
                        rfl
                      refine pure_ (i := 4) (N := some 88) (v := undef) (a' := ?_) #[true, true, true, true, true, false, false, false, false, false, false, false, false, false, false, false, false, false, false, false, false] rfl rfl (any_of HT_.out (by kernel_rfl)) (fun _ _ _ h => h) (Or.inr ⟨by rfl, rfl⟩) ?_ ?_
                      rotate_left
                      · simp only [Act.put, lSa, lSz, lSs, i64_w, i32_w]
                        rfl
                      refine pure_ (i := 5) (N := some 89) (v := undef) (a' := ?_) #[true, true, true, true, true, true, false, false, false, false, false, false, false, false, false, false, false, false, false, false, false] rfl rfl (any_of HT_.out (by kernel_rfl)) (fun _ _ _ h => h) (Or.inr ⟨by rfl, rfl⟩) ?_ ?_
                      rotate_left
                      · simp only [Act.put, lSa, lSz, lSs, i64_w, i32_w]
                        rfl
                      refine pure_ (i := 6) (N := some 90) (v := undef) (a' := ?_) #[true, true, true, true, true, true, true, false, false, false, false, false, false, false, false, false, false, false, false, false, false] rfl rfl (any_of HT_.out (by kernel_rfl)) (fun _ _ _ h => h) (Or.inr ⟨by rfl, rfl⟩) ?_ ?_
                      rotate_left
                      · simp only [Act.put, lSa, lSz, lSs, i64_w, i32_w]
                        rfl
                      refine pure_ (i := 7) (N := some 91) (v := undef) (a' := ?_) #[true, true, true, true, true, true, true, true, false, false, false, false, false, false, false, false, false, false, false, false, false] rfl rfl (any_of HT_.out (by kernel_rfl)) (fun _ _ _ h => h) (Or.inr ⟨by rfl, rfl⟩) ?_ ?_
                      rotate_left
                      · simp only [Act.put, lSa, lSz, lSs, i64_w, i32_w]
                        rfl
                      refine pure_ (i := 8) (N := some 92) (v := undef) (a' := ?_) #[true, true, true, true, true, true, true, true, true, false, false, false, false, false, false, false, false, false, false, false, false] rfl rfl (any_of HT_.out (by kernel_rfl)) (fun _ _ _ h => h) (Or.inr ⟨by rfl, rfl⟩) ?_ ?_
                      rotate_left
                      · simp only [Act.put, lSa, lSz, lSs, i64_w, i32_w]
                        rfl
                      refine pure_ (i := 9) (N := some 93) (v := ?_) (a' := ?_) #[true, true, true, true, true, true, true, true, true, true, false, false, false, false, false, false, false, false, false, false, false] rfl rfl (any_of HT_.out (by kernel_rfl)) (fun _ _ _ h => h) (Or.inl ⟨by rfl, ?_⟩) ?_ ?_
                      rotate_left
                      · intro w'
                        go_simp
                        with_reducible rfl
                      rotate_left
                      · simp only [Act.put, lSa, lSz, lSs, i64_w, i32_w]
                        rfl
                      refine pure_ (i := 10) (N := some 94) (v := ?_) (a' := ?_) #[true, true, true, true, true, true, true, true, true, true, true, false, false, false, false, false, false, false, false, false, false] rfl rfl (any_of HT_.out (by kernel_rfl)) (fun _ _ _ h => h) (Or.inl ⟨by rfl, ?_⟩) ?_ ?_
                      rotate_left
                      · intro w'
                        go_simp
                        with_reducible rfl
                      rotate_left
                      · simp only [Act.put, lSa, lSz, lSs, i64_w, i32_w]
                        rfl
                      refine pure_ (i := 11) (N := some 95) (v := ?_) (a' := ?_) #[true, true, true, true, true, true, true, true, true, true, true, true, false, false, false, false, false, false, false, false, false] rfl rfl (any_of HT_.out (by kernel_rfl)) (fun _ _ _ h => h) (Or.inl ⟨by rfl, ?_⟩) ?_ ?_
                      rotate_left
                      · intro w'
                        go_simp
                        with_reducible rfl
                      rotate_left
                      · simp only [Act.put, lSa, lSz, lSs, i64_w, i32_w]
                        rfl
                      refine pure_ (i := 13) (N := some 97) (v := ?_) (a' := ?_) #[true, true, true, true, true, true, true, true, true, true, true, true, false, true, false, false, false, false, false, false, false] rfl rfl (any_of HT_.out (by kernel_rfl)) (fun _ _ _ h => h) (Or.inl ⟨by rfl, ?_⟩) ?_ ?_
                      rotate_left
                      · intro w'
                        go_simp
                        with_reducible rfl
                      rotate_left
                      · simp only [Act.put, lSa, lSz, lSs, i64_w, i32_w]
                        rfl
                      refine pure_ (i := 14) (N := some 98) (v := ?_) (a' := ?_) #[true, true, true, true, true, true, true, true, true, true, true, true, false, true, true, false, false, false, false, false, false] rfl rfl (any_of HT_.out (by kernel_rfl)) (fun _ _ _ h => h) (Or.inl ⟨by rfl, ?_⟩) ?_ ?_
                      rotate_left
                      · intro w'
                        go_simp
                        with_reducible rfl
                      rotate_left
                      · simp only [Act.put, lSa, lSz, lSs, i64_w, i32_w]
                        rfl
                      refine pure_ (i := 15) (N := some 99) (v := ?_) (a' := ?_) #[true, true, true, true, true, true, true, true, true, true, true, true, false, true, true, true, false, false, false, false, false] rfl rfl (any_of HT_.out (by kernel_rfl)) (fun _ _ _ h => h) (Or.inl ⟨by rfl, ?_⟩) ?_ ?_
                      rotate_left
                      · intro w'
                        go_simp
                        with_reducible rfl
                      rotate_left
                      · simp only [Act.put, lSa, lSz, lSs, i64_w, i32_w]
                        rfl
                      refine pure_ (i := 16) (N := some 100) (v := ?_) (a' := ?_) #[true, true, true, true, true, true, true, true, true, true, true, true, false, true, true, true, true, false, false, false, false] rfl rfl (any_of HT_.out (by kernel_rfl)) (fun _ _ _ h => h) (Or.inl ⟨by rfl, ?_⟩) ?_ ?_
                      rotate_left
                      · intro w'
                        go_simp
                        with_reducible rfl
                      rotate_left
                      · simp only [Act.put, lSa, lSz, lSs, i64_w, i32_w]
                        rfl
                      refine pure_ (i := 17) (N := some 101) (v := ?_) (a' := ?_) #[true, true, true, true, true, true, true, true, true, true, true, true, false, true, true, true, true, true, false, false, false] rfl rfl (any_of HT_.out (by kernel_rfl)) (fun _ _ _ h => h) (Or.inl ⟨by rfl, ?_⟩) ?_ ?_
                      rotate_left
                      · intro w'
                        go_simp
                        with_reducible rfl
                      rotate_left
                      · simp only [Act.put, lSa, lSz, lSs, i64_w, i32_w]
                        rfl
                      refine take_ (i := 12) (N := some 96) (v := ?_) (a' := ?_) #[true, true, true, true, true, true, true, true, true, true, true, true, true, true, true, true, true, true, false, false, false] rfl rfl (take_ofW HT_.out HW_.out (by kernel_rfl)) (fun _ _ _ h => h) (Or.inl ⟨by rfl, ?_⟩) hHeld ?_ ?_
                      rotate_left
                      · rintro w' ⟨s0, s1, s2, s3, s4, s5, s6, s7, s8⟩
                        go_simp
                        with_reducible rfl
                      rotate_left
                      · simp only [Act.put, lSa, lSz, lSs, i64_w, i32_w]
                        rfl
                      refine take_ (i := 18) (N := some 102) (v := ?_) (a' := ?_) #[true, true, true, true, true, true, true, true, true, true, true, true, true, true, true, true, true, true, true, false, false] rfl rfl (take_ofW HT_.out HW_.out (by kernel_rfl)) (fun _ _ _ h => h) (Or.inl ⟨by rfl, ?_⟩) hHeld ?_ ?_
                      rotate_left
                      · rintro w' ⟨s0, s1, s2, s3, s4, s5, s6, s7, s8⟩
                        go_simp
                        with_reducible rfl
                      rotate_left
                      · simp only [Act.put, lSa, lSz, lSs, i64_w, i32_w]
                        rfl
                      refine pure_ (i := 19) (N := some 103) (v := ?_) (a' := ?_) #[true, true, true, true, true, true, true, true, true, true, true, true, true, true, true, true, true, true, true, true, false] rfl rfl (any_of HT_.out (by kernel_rfl)) (fun _ _ _ h => h) (Or.inl ⟨by rfl, ?_⟩) ?_ ?_
                      rotate_left
                      · intro w'
                        go_simp
                        with_reducible rfl
                      rotate_left
                      · simp only [Act.put, lSa, lSz, lSs, i64_w, i32_w]
                        rfl
                      refine pure_ (i := 20) (N := some 104) (v := ?_) (a' := ?_) #[true, true, true, true, true, true, true, true, true, true, true, true, true, true, true, true, true, true, true, true, true] rfl rfl (any_of HT_.out (by kernel_rfl)) (fun _ _ _ h => h) (Or.inl ⟨by rfl, ?_⟩) ?_ ?_
                      rotate_left
                      · intro w'
                        go_simp
                        with_reducible rfl
                      rotate_left
                      · simp only [Act.put, lSa, lSz, lSs, i64_w, i32_w]
                        rfl
                      refine done_ (done_of HT_.out (by kernel_rfl)) ?_
                      try go_wp2
                      go_ret
                      exact ⟨by first | rfl | (simp [errW_none, errW_some] <;> rfl) | (simp [*, errW_none, errW_some] <;> rfl), by repeat (first | (with_reducible first | exact HB.out | apply bAl | apply bDn | apply bD1 | refine bSe ?_ GE368.out) | exact HB.out)⟩
                    · rw [if_neg c54] at H
                      have c54b0 : decide (t365 < ((rd_T38 t355 x11_2).f0.f1)) = false := decide_eq_false c54
                      clear c54
                      have H' := aMk H
                      clear H
                      have p374 : 0 ≤ (x11_2 : Int) := oDt (by first | (with_reducible assumption) | assumption)
                      have q374 : x11_2 < (t355.length : Int) := oDt (by first | (with_reducible assumption) | assumption)
                      obtain ⟨ad374, e374, hx374_0, hx374_1, hx374_2, hx374_3, hx374_4⟩ := at_T38 (Kd.R_reads' HO_3.out).2.2 x11_2 p374 q374
                      cases e374
                      replace p374 := eq_true p374
                      replace q374 := eq_true q374
                      try go_wp2
                      have n0_ := aMk (Kd.R_drew HO_3.out)
                      have n1_ := aMk (blk_drew BK368.out)
                      have n2_ := aMk (bD1 HB.out)
                      clear HO_3
                      clear BK368
                      clear HB
                      have HO_3 := n0_
                      have BK368 := n1_
                      have HB := n2_
                      clear n0_ n1_ n2_
                      have p380 : 0 ≤ (x11_2 : Int) := oDt (by first | (with_reducible assumption) | assumption)
                      have q380 : x11_2 < (t355.length : Int) := oDt (by first | (with_reducible assumption) | assumption)
                      obtain ⟨ad380, e380, hx380_0, hx380_1, hx380_2, hx380_3, hx380_4⟩ := at_T38 (Kd.R_reads' HO_3.out).2.2 x11_2 p380 q380
                      obtain rfl : ad374 = ad380 := (by injection e380)
                      replace p380 := eq_true p380
                      replace q380 := eq_true q380
                      refine start_ (n := 21) (S := fun w' => w'.cell? ⟨gb368, 0, none⟩ = some (.int .i64 t364) ∧ w'.cell? ⟨gb368, 1, none⟩ = some (.int .i64 t365) ∧ w'.cell? ⟨gb368, 2, none⟩ = some (.int .i64 t366) ∧ w'.cell? ⟨gb368, 3, none⟩ = some (.int .i64 t367) ∧ w'.cell? (ad374.add ((x11_2).toNat * 5)) = some (.int .i64 ((rd_T38 t355 x11_2).f0.f0)) ∧ w'.cell? ⟨(ad374.add ((x11_2).toNat * 5)).block, (ad374.add ((x11_2).toNat * 5)).off + 1, none⟩ = some (.int .i64 ((rd_T38 t355 x11_2).f0.f1)) ∧ w'.cell? ⟨(ad374.add ((x11_2).toNat * 5)).block, (ad374.add ((x11_2).toNat * 5)).off + 2, none⟩ = some (.int .i64 ((rd_T38 t355 x11_2).f0.f2)) ∧ w'.cell? ⟨(ad374.add ((x11_2).toNat * 5)).block, (ad374.add ((x11_2).toNat * 5)).off + 3, none⟩ = some (.int .i64 ((rd_T38 t355 x11_2).f0.f3)) ∧ w'.cell? ⟨(ad374.add ((x11_2).toNat * 5)).block, (ad374.add ((x11_2).toNat * 5)).off + 4, none⟩ = some (.bool ((rd_T38 t355 x11_2).f1))) (ds := []) #[false, false, false, false, false, false, false, false, false, false, false, false, false, false, false, false, false, false, false, false, false] (by kernel_rfl) rfl rfl ⟨(bCe BK368.out 0).trans rfl, (bCe BK368.out 1).trans rfl, (bCe BK368.out 2).trans rfl, (bCe BK368.out 3).trans rfl, hx380_0, hx380_1, hx380_2, hx380_3, hx380_4⟩ (fun hHeld => ?_); refine with_tabW laws_FnFloats.tab14 laws_FnFloats.bits14 (fun HT_ HW_ => ?_)
                      generalize wr.drew = w56 at HO_3 BK368 HB hx380_0 hx380_1 hx380_2 hx380_3 hx380_4 hHeld ⊢
                      refine pure_ (i := 0) (N := some 84) (v := ?_) (a' := ?_) #[true, false, false, false, false, false, false, false, false, false, false, false, false, false, false, false, false, false, false, false, false] rfl rfl (any_of HT_.out (by kernel_rfl)) (fun _ _ _ h => h) (Or.inl ⟨by rfl, ?_⟩) ?_ ?_
                      rotate_left
                      · intro w'
                        go_simp
                        with_reducible rfl
                      rotate_left
                      · simp only [Act.put, lSa, lSz, lSs, i64_w, i32_w]
                        rfl
                      refine pure_ (i := 1) (N := some 85) (v := ?_) (a' := ?_) #[true, true, false, false, false, false, false, false, false, false, false, false, false, false, false, false, false, false, false, false, false] rfl rfl (any_of HT_.out (by kernel_rfl)) (fun _ _ _ h => h) (Or.inl ⟨by rfl, ?_⟩) ?_ ?_
                      rotate_left
                      · intro w'
                        go_simp
                        with_reducible rfl
                      rotate_left
                      · simp only [Act.put, lSa, lSz, lSs, i64_w, i32_w]
                        rfl
                      refine pure_ (i := 2) (N := some 86) (v := undef) (a' := ?_) #[true, true, true, false, false, false, false, false, false, false, false, false, false, false, false, false, false, false, false, false, false] rfl rfl (any_of HT_.out (by kernel_rfl)) (fun _ _ _ h => h) (Or.inr ⟨by rfl, rfl⟩) ?_ ?_
                      rotate_left
                      · simp only [Act.put, lSa, lSz, lSs, i64_w, i32_w]
                        rfl
                      refine pure_ (i := 3) (N := some 87) (v := undef) (a' := ?_) #[true, true, true, true, false, false, false, false, false, false, false, false, false, false, false, false, false, false, false, false, false] rfl rfl (any_of HT_.out (by kernel_rfl)) (fun _ _ _ h => h) (Or.inr ⟨by rfl, rfl⟩) ?_ ?_
                      rotate_left
                      · simp only [Act.put, lSa, lSz, lSs, i64_w, i32_w]
                        rfl
                      refine pure_ (i := 4) (N := some 88) (v := undef) (a' := ?_) #[true, true, true, true, true, false, false, false, false, false, false, false, false, false, false, false, false, false, false, false, false] rfl rfl (any_of HT_.out (by kernel_rfl)) (fun _ _ _ h => h) (Or.inr ⟨by rfl, rfl⟩) ?_ ?_
                      rotate_left
                      · simp only [Act.put, lSa, lSz, lSs, i64_w, i32_w]
                        rfl
                      refine pure_ (i := 5) (N := some 89) (v := undef) (a' := ?_) #[true, true, true, true, true, true, false, false, false, false, false, false, false, false, false, false, false, false, false, false, false] rfl rfl (any_of HT_.out (by kernel_rfl)) (fun _ _ _ h => h) (Or.inr ⟨by rfl, rfl⟩) ?_ ?_
                      rotate_left
                      · simp only [Act.put, lSa, lSz, lSs, i64_w, i32_w]
                        rfl
                      refine pure_ (i := 6) (N := some 90) (v := undef) (a' := ?_) #[true, true, true, true, true, true, true, false, false, false, false, false, false, false, false, false, false, false, false, false, false] rfl rfl (any_of HT_.out (by kernel_rfl)) (fun _ _ _ h => h) (Or.inr ⟨by rfl, rfl⟩) ?_ ?_
                      rotate_left
                      · simp only [Act.put, lSa, lSz, lSs, i64_w, i32_w]
                        rfl
                      refine pure_ (i := 7) (N := some 91) (v := undef) (a' := ?_) #[true, true, true, true, true, true, true, true, false, false, false, false, false, false, false, false, false, false, false, false, false] rfl rfl (any_of HT_.out (by kernel_rfl)) (fun _ _ _ h => h) (Or.inr ⟨by rfl, rfl⟩) ?_ ?_
                      rotate_left
                      · simp only [Act.put, lSa, lSz, lSs, i64_w, i32_w]
                        rfl
                      refine pure_ (i := 8) (N := some 92) (v := undef) (a' := ?_) #[true, true, true, true, true, true, true, true, true, false, false, false, false, false, false, false, false, false, false, false, false] rfl rfl (any_of HT_.out (by kernel_rfl)) (fun _ _ _ h => h) (Or.inr ⟨by rfl, rfl⟩) ?_ ?_
                      rotate_left
                      · simp only [Act.put, lSa, lSz, lSs, i64_w, i32_w]
                        rfl
                      refine pure_ (i := 9) (N := some 93) (v := ?_) (a' := ?_) #[true, true, true, true, true, true, true, true, true, true, false, false, false, false, false, false, false, false, false, false, false] rfl rfl (any_of HT_.out (by kernel_rfl)) (fun _ _ _ h => h) (Or.inl ⟨by rfl, ?_⟩) ?_ ?_
                      rotate_left
                      · intro w'
                        go_simp
                        with_reducible rfl
                      rotate_left
                      · simp only [Act.put, lSa, lSz, lSs, i64_w, i32_w]
                        rfl
                      refine pure_ (i := 10) (N := some 94) (v := ?_) (a' := ?_) #[true, true, true, true, true, true, true, true, true, true, true, false, false, false, false, false, false, false, false, false, false] rfl rfl (any_of HT_.out (by kernel_rfl)) (fun _ _ _ h => h) (Or.inl ⟨by rfl, ?_⟩) ?_ ?_
                      rotate_left
                      · intro w'
                        go_simp
                        with_reducible rfl
                      rotate_left
                      · simp only [Act.put, lSa, lSz, lSs, i64_w, i32_w]
                        rfl
                      refine pure_ (i := 11) (N := some 95) (v := ?_) (a' := ?_) #[true, true, true, true, true, true, true, true, true, true, true, true, false, false, false, false, false, false, false, false, false] rfl rfl (any_of HT_.out (by kernel_rfl)) (fun _ _ _ h => h) (Or.inl ⟨by rfl, ?_⟩) ?_ ?_
                      rotate_left
                      · intro w'
                        go_simp
                        with_reducible rfl
                      rotate_left
                      · simp only [Act.put, lSa, lSz, lSs, i64_w, i32_w]
                        rfl
                      refine pure_ (i := 13) (N := some 97) (v := ?_) (a' := ?_) #[true, true, true, true, true, true, true, true, true, true, true, true, false, true, false, false, false, false, false, false, false] rfl rfl (any_of HT_.out (by kernel_rfl)) (fun _ _ _ h => h) (Or.inl ⟨by rfl, ?_⟩) ?_ ?_
                      rotate_left
                      · intro w'
                        go_simp
                        with_reducible rfl
                      rotate_left
                      · simp only [Act.put, lSa, lSz, lSs, i64_w, i32_w]
                        rfl
                      refine pure_ (i := 14) (N := some 98) (v := ?_) (a' := ?_) #[true, true, true, true, true, true, true, true, true, true, true, true, false, true, true, false, false, false, false, false, false] rfl rfl (any_of HT_.out (by kernel_rfl)) (fun _ _ _ h => h) (Or.inl ⟨by rfl, ?_⟩) ?_ ?_
                      rotate_left
                      · intro w'
                        go_simp
                        with_reducible rfl
                      rotate_left
                      · simp only [Act.put, lSa, lSz, lSs, i64_w, i32_w]
                        rfl
                      refine pure_ (i := 15) (N := some 99) (v := ?_) (a' := ?_) #[true, true, true, true, true, true, true, true, true, true, true, true, false, true, true, true, false, false, false, false, false] rfl rfl (any_of HT_.out (by kernel_rfl)) (fun _ _ _ h => h) (Or.inl ⟨by rfl, ?_⟩) ?_ ?_
                      rotate_left
                      · intro w'
                        go_simp
                        with_reducible rfl
                      rotate_left
                      · simp only [Act.put, lSa, lSz, lSs, i64_w, i32_w]
                        rfl
                      refine pure_ (i := 16) (N := some 100) (v := ?_) (a' := ?_) #[true, true, true, true, true, true, true, true, true, true, true, true, false, true, true, true, true, false, false, false, false] rfl rfl (any_of HT_.out (by kernel_rfl)) (fun _ _ _ h => h) (Or.inl ⟨by rfl, ?_⟩) ?_ ?_
                      rotate_left
                      · intro w'
                        go_simp
                        with_reducible rfl
                      rotate_left
                      · simp only [Act.put, lSa, lSz, lSs, i64_w, i32_w]
                        rfl
                      refine pure_ (i := 17) (N := some 101) (v := ?_) (a' := ?_) #[true, true, true, true, true, true, true, true, true, true, true, true, false, true, true, true, true, true, false, false, false] rfl rfl (any_of HT_.out (by kernel_rfl)) (fun _ _ _ h => h) (Or.inl ⟨by rfl, ?_⟩) ?_ ?_
                      rotate_left
                      · intro w'
                        go_simp
                        with_reducible rfl
                      rotate_left
                      · simp only [Act.put, lSa, lSz, lSs, i64_w, i32_w]
                        rfl
                      refine take_ (i := 12) (N := some 96) (v := ?_) (a' := ?_) #[true, true, true, true, true, true, true, true, true, true, true, true, true, true, true, true, true, true, false, false, false] rfl rfl (take_ofW HT_.out HW_.out (by kernel_rfl)) (fun _ _ _ h => h) (Or.inl ⟨by rfl, ?_⟩) hHeld ?_ ?_
                      rotate_left
                      · rintro w' ⟨s0, s1, s2, s3, s4, s5, s6, s7, s8⟩
                        go_simp
                        with_reducible rfl
                      rotate_left
                      · simp only [Act.put, lSa, lSz, lSs, i64_w, i32_w]
                        rfl
                      refine take_ (i := 18) (N := some 102) (v := ?_) (a' := ?_) #[true, true, true, true, true, true, true, true, true, true, true, true, true, true, true, true, true, true, true, false, false] rfl rfl (take_ofW HT_.out HW_.out (by kernel_rfl)) (fun _ _ _ h => h) (Or.inl ⟨by rfl, ?_⟩) hHeld ?_ ?_
                      rotate_left
                      · rintro w' ⟨s0, s1, s2, s3, s4, s5, s6, s7, s8⟩
                        go_simp
                        with_reducible rfl
                      rotate_left
                      · simp only [Act.put, lSa, lSz, lSs, i64_w, i32_w]
                        rfl
                      refine pure_ (i := 19) (N := some 103) (v := ?_) (a' := ?_) #[true, true, true, true, true, true, true, true, true, true, true, true, true, true, true, true, true, true, true, true, false] rfl rfl (any_of HT_.out (by kernel_rfl)) (fun _ _ _ h => h) (Or.inl ⟨by rfl, ?_⟩) ?_ ?_
                      rotate_left
                      · intro w'
                        go_simp
                        with_reducible rfl
                      rotate_left
                      · simp only [Act.put, lSa, lSz, lSs, i64_w, i32_w]
                        rfl
                      refine pure_ (i := 20) (N := some 104) (v := ?_) (a' := ?_) #[true, true, true, true, true, true, true, true, true, true, true, true, true, true, true, true, true, true, true, true, true] rfl rfl (any_of HT_.out (by kernel_rfl)) (fun _ _ _ h => h) (Or.inl ⟨by rfl, ?_⟩) ?_ ?_
                      rotate_left
                      · intro w'
                        go_simp
                        with_reducible rfl
                      rotate_left
                      · simp only [Act.put, lSa, lSz, lSs, i64_w, i32_w]
                        rfl
                      refine done_ (done_of HT_.out (by kernel_rfl)) ?_
                      try go_wp2
                      go_roundg k2
                      case measure => have := HJ15.out; have := HK2.out; omega
                      case rel => exact ⟨(wrap64 (x11_2 + 1)), (by first | rfl | (simp; done) | (simp [*]; done)), H', ⟨by have := HJ15.out; have := HK2.out; omega⟩, ⟨by (with_reducible repeat (first | apply Kd.R_alloc | apply Kd.R_drewN | apply Kd.R_drew)); exact HO_3.out⟩, ⟨by (with_reducible repeat (first | refine bkD ?_ _ | refine blk_drew ?_ | refine bkA ?_ _)); exact BK368.out⟩, ⟨by repeat (first | (with_reducible first | exact HB.out | apply bAl | apply bDn | apply bD1 | refine bSe ?_ GE368.out) | exact HB.out)⟩⟩
                · rw [if_neg c39] at H
                  exact absurd H (by simp)
              · rw [if_neg c38] at H
                have c38b0 : decide (x11_2 < (t355.length : Int)) = false := decide_eq_false c38
                clear c38
                have H' := aMk H
                clear H
                go_wp2
                go_meet
                case rel => exact ⟨_, H', ⟨by have := HJ15.out; have := HK2.out; first | omega | exact Nat.le_refl _⟩, ⟨by (with_reducible repeat (first | refine bkD ?_ _ | refine blk_drew ?_ | refine bkA ?_ _)); exact BK368.out⟩, ⟨by repeat (first | (with_reducible first | exact HB.out | apply bAl | apply bDn | apply bD1 | refine bSe ?_ GE368.out) | exact HB.out)⟩⟩
        · replace c34 := Bool.eq_false_iff.mpr c34
          subst c34
          have H1 : (laws_FnFloats.j2 kj15 l0) = some r := by rw [if_neg (show ¬ (false = true) by decide)] at H; exact H
          clear H
          have H := H1
          clear H1
          have H' := aMk H
          clear H
          go_wp2
          go_meet
          case rel => exact ⟨_, H', ⟨by have := HJ15.out; first | omega | exact Nat.le_refl _⟩, ⟨by (with_reducible repeat (first | refine bkD ?_ _ | refine blk_drew ?_ | refine bkA ?_ _)); exact BK368.out⟩, ⟨by repeat (first | (with_reducible first | exact HB.out | apply bAl | apply bDn | apply bD1 | refine bSe ?_ GE368.out) | exact HB.out)⟩⟩
       case rest =>
        clear HC33
        try clear p2
        try clear c3
        try clear p3
        try clear q3
        try clear hx3
        try clear c4
        try clear c5
        try clear p6
        try clear c34
        try clear p37
        try clear q37
        try clear hx37
        try clear c38
        try clear c38b0
        try clear p38
        try clear q38
        try clear hx38
        try clear c39
        try clear c40
        try clear c40b0
        try clear c51
        try clear c51b0
        try clear c54
        try clear c54b0
        try clear hx374_0
        try clear hx374_1
        try clear hx374_2
        try clear hx374_3
        try clear hx374_4
        try clear hx375_0
        try clear hx375_1
        try clear hx375_2
        try clear hx375_3
        try clear hx375_4
        try clear hx379_0
        try clear hx379_1
        try clear hx379_2
        try clear hx379_3
        try clear hx379_4
        try clear hx380_0
        try clear hx380_1
        try clear hx380_2
        try clear hx380_3
        try clear hx380_4
        try clear p374
        try clear p375
        try clear p379
        try clear p380
        try clear q374
        try clear q375
        try clear q379
        try clear q380
        obtain ⟨kq, HA, HJ32, BK368, HB⟩ := hcut
        cases kq with
        | zero => exact absurd HA.out (by simp [laws_FnFloats.j2])
        | succ kj32 =>
         have H := HA.out
         clear HA
         simp only [laws_FnFloats.j2] at H
         replace H := oBm H
         obtain ⟨t381, A570, H⟩ := H
         replace H : (laws_FnFloats.l1 kj32 t381 (([] : List Int)) (wrap64 ((t381.length : Int) - 1))) = some r := H
         have A57 := aMk A570
         clear A570
         obtain ⟨y384, hy384⟩ : ∃ y_ : List Int, y_ = (([] : List Int)) := ⟨_, rfl⟩
         replace H : (laws_FnFloats.l1 kj32 t381 y384 (wrap64 ((t381.length : Int) - 1))) = some r := by first | (rw [hy384]; with_reducible exact H) | (have H2_ := (Option.bind_some _ _).symm.trans H; rw [hy384]; with_reducible exact H2_) | (have H2_ := (Option.bind_some _ _).symm.trans H; with_reducible exact H2_) | with_reducible exact H | (rw [hy384]; exact H) | exact H
         have Ny384 := aMk hy384
         clear hy384
         have H' := aMk H
         clear H
         go_wp2_with (first | ((with_reducible refine gate_callee (f := 26) rfl ?_); refine goesL_ (some 106) rfl rfl Try.func26 (by kernel_rfl) rfl #[.slice A0 l0.length c0] rfl (by (try simp only [List.map_toArray, List.map_cons, List.map_nil]); first | done | rfl | (simp only [List.length_drop, List.length_take]; rfl)) ?_; (with_reducible refine (spec_DrawMargin.calls kj32 _ _ l0 t381 _ ?side1 ?side2 A57.out).mono ?_); (case side1 => repeat (first | exact (Kd.C_below HR0.out HB.out) | (with_reducible refine Kd.C_alloc ?_ _) | (with_reducible refine Kd.C_drewN ?_ _) | (with_reducible refine Kd.C_drew ?_))); (case side2 => exact HC0.out); rintro e w58 ⟨v382, rfl, ho0, hb⟩; refine ⟨_, rfl, ?_⟩; have n0_ := aMk (Kd.R_lower ho0 (below_size (by repeat (first | (with_reducible first | exact HB.out | apply bAl | apply bDn | apply bD1 | refine bSe ?_ GE368.out) | exact HB.out)))); have n1_ := aMk (blk_below (g := gb368) (o := .cells #[.int .i64 t364, .int .i64 t365, .int .i64 t366, .int .i64 t367] 34 (0, 0)) (by (with_reducible repeat (first | refine bkD ?_ _ | refine blk_drew ?_ | refine bkA ?_ _)); exact BK368.out) hb); have n2_ := aMk (below_step (by repeat (first | (with_reducible first | exact HB.out | apply bAl | apply bDn | apply bD1 | refine bSe ?_ GE368.out) | exact HB.out)) hb); clear BK368; clear HB; have HO383 := n0_; have BK368 := n1_; have HB := n2_; clear n0_ n1_ n2_; (try clear hb); (try clear hb2); (try clear hk); (try clear hi); (try clear ho0)) | ((with_reducible refine gate_dst (N := 107) rfl ?_); refine Kd.R_lit (Kd.int .i64) _ 3 ?hg (N := 107) ?hd (xs := ([] : List Int)) (inner := []) (ok := fun _ => True) (okp := fun _ => True) ?hr ?hp (fun _ hk => hk) trivial (Below.refl _ _) (Nat.le_refl _) (by simp) ?_; (case hd => rfl); (case hg => rfl); (case hr => first | (go_simp; done) | (go_simp; rfl)); (case hp => exact (Reps.none _ _)); intro v385 w59 ho60 hb hg_ hnew_; clear hg_ hnew_; (first | rw [← Ny384.out] at ho60 | (simp only [Int.reduceToNat] at ho60; rw [← Ny384.out] at ho60)); have n0_ := aMk (Kd.R_elder' (by (with_reducible repeat (first | apply Kd.R_alloc | apply Kd.R_drewN | apply Kd.R_drew)); exact HO383.out) (Kd.R_base ho60) hb); have n1_ := aMk (Kd.R_lower (Kd.R_new' ho60 (Kd.R_lt (by (with_reducible repeat (first | apply Kd.R_alloc | apply Kd.R_drewN | apply Kd.R_drew)); exact HO383.out))) (below_size (by repeat (first | (with_reducible first | exact HB.out | apply bAl | apply bDn | apply bD1 | refine bSe ?_ GE368.out) | exact HB.out)))); have n2_ := aMk (blk_below (g := gb368) (o := .cells #[.int .i64 t364, .int .i64 t365, .int .i64 t366, .int .i64 t367] 34 (0, 0)) (by (with_reducible repeat (first | refine bkD ?_ _ | refine blk_drew ?_ | refine bkA ?_ _)); exact BK368.out) hb); have n3_ := aMk (below_step (by repeat (first | (with_reducible first | exact HB.out | apply bAl | apply bDn | apply bD1 | refine bSe ?_ GE368.out) | exact HB.out)) hb); clear HO383; clear BK368; clear HB; have HO383 := n0_; have HO386 := n1_; have BK368 := n2_; have HB := n3_; clear n0_ n1_ n2_ n3_; clear hb ho60; obtain ⟨Ao61, co61, eo61⟩ := Kd.R_slice HO383.out; subst eo61))
         go_loopg [14, 15] kj32 (fun kq v14 v15 w' => ∃ (x14_3 : List Int) (x15_3 : Int), v15 = .int .i64 x15_3 ∧ Aside0 (laws_FnFloats.l1 kq t381 x14_3 x15_3 = some r) ∧ Aside0 (kq ≤ kj32) ∧ Aside0 (Kd.R (Kd.int .i64) 3 w' w.heap.size (fun k_ => some k_ ≠ (v14 : Value).ownBlock) (.slice Ao61 t381.length co61) t381) ∧ Aside0 (Kd.R (Kd.int .i64) 3 w' w.heap.size (fun k_ => some k_ ≠ ((.slice Ao61 t381.length co61) : Value).ownBlock) v14 x14_3) ∧ Aside0 (w'.heap[gb368]? = some (.cells #[.int .i64 t364, .int .i64 t365, .int .i64 t366, .int .i64 t367] 34 (0, 0))) ∧ Aside0 (Below w.heap.size w w'))
         case atStart => exact ⟨(y384), (wrap64 ((t381.length : Int) - 1)), (by first | rfl | (simp; done) | (simp [*]; done)), H', ⟨Nat.le_refl _⟩, ⟨by (with_reducible repeat (first | apply Kd.R_alloc | apply Kd.R_drewN | apply Kd.R_drew)); exact Kd.R_mono HO383.out (fun _ hk => hk.2)⟩, ⟨by (with_reducible repeat (first | apply Kd.R_alloc | apply Kd.R_drewN | apply Kd.R_drew)); exact Kd.R_mono HO386.out (fun _ hk => hk.2)⟩, ⟨by (with_reducible repeat (first | refine bkD ?_ _ | refine blk_drew ?_ | refine bkA ?_ _)); exact BK368.out⟩, ⟨by repeat (first | (with_reducible first | exact HB.out | apply bAl | apply bDn | apply bD1 | refine bSe ?_ GE368.out) | exact HB.out)⟩⟩
         case round =>
          clear H'
          try clear c2
          try clear p2
          try clear c3
          try clear p3
          try clear q3
          try clear hx3
          try clear c4
          try clear c5
          try clear p6
          try clear c26
          try clear c34
          try clear p37
          try clear q37
          try clear hx37
          try clear c38
          try clear c38b0
          try clear p38
          try clear q38
          try clear hx38
          try clear c39
          try clear c40
          try clear c40b0
          try clear c51
          try clear c51b0
          try clear c54
          try clear c54b0
          try clear hx374_0
          try clear hx374_1
          try clear hx374_2
          try clear hx374_3
          try clear hx374_4
          try clear hx375_0
          try clear hx375_1
          try clear hx375_2
          try clear hx375_3
          try clear hx375_4
          try clear hx379_0
          try clear hx379_1
          try clear hx379_2
          try clear hx379_3
          try clear hx379_4
          try clear hx380_0
          try clear hx380_1
          try clear hx380_2
          try clear hx380_3
          try clear hx380_4
          try clear p2
          try clear p3
          try clear p37
          try clear p374
          try clear p375
          try clear p379
          try clear p38
          try clear p380
          try clear p6
          try clear q3
          try clear q37
          try clear q374
          try clear q375
          try clear q379
          try clear q38
          try clear q380
          obtain ⟨x14_3, x15_3, rfl, HA, HK3, HO_13, HO_14, BK368, HB⟩ := hrel
          cases gk with
          | zero => exact absurd HA.out (by simp [laws_FnFloats.l1])
          | succ k3 =>
           have H := HA.out
           clear HA
           simp only [laws_FnFloats.l1] at H
           by_cases c62 : x15_3 ≥ 0
           · rw [if_pos c62] at H
             have c62b0 : decide (0 ≤ x15_3) = true := decide_eq_true c62
             clear c62
             by_cases c63 : 0 ≤ x15_3
             · rw [if_pos c63] at H
               have c63b0 : decide (0 ≤ x15_3) = true := decide_eq_true c63
               clear c63
               by_cases c64 : x15_3 < (t381.length : Int)
               · rw [if_pos c64] at H
                 have c64b0 : decide (x15_3 < (t381.length : Int)) = true := decide_eq_true c64
                 clear c64
                 by_cases c65 : x14_3.length < 17592186044416
                 · rw [if_pos c65] at H
                   have LMc65 := aMk c65
                   clear c65
                   obtain ⟨y388, hy388⟩ : ∃ y_ : List Int, y_ = (x14_3 ++ [rd t381 x15_3]) := ⟨_, rfl⟩
                   replace H : ((impl_Margin.f k3 (([rd t381 x15_3] : List Int))).bind fun t395 => (if t395 = (rd t381 x15_3) then (laws_FnFloats.l1 k3 t381 y388 (wrap64 (x15_3 - 1))) else (some false))) = some r := by first | (rw [hy388]; with_reducible exact H) | (have H2_ := (Option.bind_some _ _).symm.trans H; rw [hy388]; with_reducible exact H2_) | (have H2_ := (Option.bind_some _ _).symm.trans H; with_reducible exact H2_) | with_reducible exact H | (rw [hy388]; exact H) | exact H
                   have Ny388 := aMk hy388
                   clear hy388
                   obtain ⟨y392, hy392⟩ : ∃ y_ : List Int, y_ = (([rd t381 x15_3] : List Int)) := ⟨_, rfl⟩
                   replace H : ((impl_Margin.f k3 y392).bind fun t395 => (if t395 = (rd t381 x15_3) then (laws_FnFloats.l1 k3 t381 y388 (wrap64 (x15_3 - 1))) else (some false))) = some r := by first | (rw [hy392]; with_reducible exact H) | (have H2_ := (Option.bind_some _ _).symm.trans H; rw [hy392]; with_reducible exact H2_) | (have H2_ := (Option.bind_some _ _).symm.trans H; with_reducible exact H2_) | with_reducible exact H | (rw [hy392]; exact H) | exact H
                   have Ny392 := aMk hy392
                   clear hy392
                   replace H := oBm H
                   obtain ⟨t395, A660, H⟩ := H
                   replace H : (if t395 = (rd t381 x15_3) then (laws_FnFloats.l1 k3 t381 y388 (wrap64 (x15_3 - 1))) else (some false)) = some r := H
                   have A66 := aMk A660
                   clear A660
                   by_cases c67 : t395 = (rd t381 x15_3)
                   · rw [if_pos c67] at H
                     have c67b0 : (t395 == (rd t381 x15_3)) = true := beq_iff_eq.mpr c67
                     have c67b1 : (t395 != (rd t381 x15_3)) = false := bne_eq_false_iff_eq.mpr c67
                     clear c67
                     have H' := aMk H
                     clear H
                     have p387 : 0 ≤ (x15_3 : Int) := oDt (by first | (with_reducible assumption) | assumption)
                     have q387 : x15_3 < (t381.length : Int) := oDt (by first | (with_reducible assumption) | assumption)
                     obtain ⟨ad387, e387, hx387_0⟩ := Kd.at_int (Kd.R_reads' HO_13.out).2.2 x15_3 p387 q387
                     cases e387
                     replace p387 := eq_true p387
                     replace q387 := eq_true q387
                     try go_wp2_with (first | ((with_reducible refine gate_builtin (b := .append) (xs := #[.tmp 115, .tmp 120]) rfl ?_); at_builtin; refine Kd.R_append (Kd.int .i64) (w0 := w) w.heap.size rfl (.tmp 115) (.tmp 120) 22 3 (.int .i64 0) 8 rfl Try.underlying22 info3 rfl (by decide) (by omega) u14 x14_3 (rd t381 x15_3) [.int .i64 (rd t381 x15_3)] (fun k_ => some k_ ≠ (.slice (some ad387) t381.length co61 : Value).ownBlock) (fun _ => False) rfl rfl ?aP (fun _ hk => hk.elim) ?aF ?aO ?aB ?aS ?aL ?_; (case aP => exact rfl); (case aB => exact (by repeat (first | (with_reducible first | exact HB.out | apply bAl | apply bDn | apply bD1 | refine bSe ?_ GE368.out) | exact HB.out))); (case aF => exact (fun k_ hk => Kd.fresh' (Kd.R_lt (by (with_reducible repeat (first | apply Kd.R_alloc | apply Kd.R_drewN | apply Kd.R_drew)); exact HO_13.out)) k_ hk)); (case aO => exact (by (with_reducible repeat (first | apply Kd.R_alloc | apply Kd.R_drewN | apply Kd.R_drew)); exact HO_14.out)); (case aS => exact (below_size (by repeat (first | (with_reducible first | exact HB.out | apply bAl | apply bDn | apply bD1 | refine bSe ?_ GE368.out) | exact HB.out)))); (case aL => have := LMc65.out; omega); intro v389 w68 ho hb hg hat; rw [← Ny388.out] at ho; have n0_ := aMk (Kd.R_after (ok := (fun _ => True)) (by (with_reducible repeat (first | apply Kd.R_alloc | apply Kd.R_drewN | apply Kd.R_drew)); exact Kd.R_mono HO_13.out (fun _ hk => ⟨trivial, hk⟩)) hg hat); have n1_ := aMk (blk_grown (g := gb368) (o := .cells #[.int .i64 t364, .int .i64 t365, .int .i64 t366, .int .i64 t367] 34 (0, 0)) (by (with_reducible repeat (first | refine bkD ?_ _ | refine blk_drew ?_ | refine bkA ?_ _)); exact BK368.out) hg (Kd.R_ne HO_14.out BK368.out (by decide))); have n2_ := aMk (hb); have n3_ := aMk (ho); clear HO_13; clear BK368; clear HB; clear HO_14; have HO_13 := n0_; have BK368 := n1_; have HB := n2_; have HO390 := n3_; clear n0_ n1_ n2_ n3_; clear ho hb hg hat))
                     have n0_ := aMk (Kd.R_drew HO_13.out)
                     have n1_ := aMk (Kd.R_drew HO390.out)
                     have n2_ := aMk (blk_drew BK368.out)
                     have n3_ := aMk (bD1 HB.out)
                     clear HO_13
                     clear HO390
                     clear BK368
                     clear HB
                     have HO_13 := n0_
                     have HO390 := n1_
                     have BK368 := n2_
                     have HB := n3_
                     clear n0_ n1_ n2_ n3_
                     have p391 : 0 ≤ (x15_3 : Int) := oDt (by first | (with_reducible assumption) | assumption)
                     have q391 : x15_3 < (t381.length : Int) := oDt (by first | (with_reducible assumption) | assumption)
                     obtain ⟨ad391, e391, hx391_0⟩ := Kd.at_int (Kd.R_reads' HO_13.out).2.2 x15_3 p391 q391
                     obtain rfl : ad387 = ad391 := (by injection e391)
                     replace p391 := eq_true p391
                     replace q391 := eq_true q391
                     have p396 : 0 ≤ (x15_3 : Int) := oDt (by first | (with_reducible assumption) | assumption)
                     have q396 : x15_3 < (t381.length : Int) := oDt (by first | (with_reducible assumption) | assumption)
                     obtain ⟨ad396, e396, hx396_0⟩ := Kd.at_int (Kd.R_reads' HO_13.out).2.2 x15_3 p396 q396
                     obtain rfl : ad387 = ad396 := (by injection e396)
                     replace p396 := eq_true p396
                     replace q396 := eq_true q396
                     refine start_ (n := 11) (S := fun w' => w'.cell? (ad387.add (x15_3).toNat) = some (.int .i64 (rd t381 x15_3)) ∧ w'.cell? (ad387.add (x15_3).toNat) = some (.int .i64 (rd t381 x15_3))) (ds := []) #[false, false, false, false, false, false, false, false, false, false, false] (by kernel_rfl) rfl rfl ⟨hx391_0, hx396_0⟩ (fun hHeld => ?_); refine with_tabW laws_FnFloats.tab22 laws_FnFloats.bits22 (fun HT_ HW_ => ?_)
                     generalize w68.drew = w69 at HO_13 HO390 BK368 HB hx391_0 hx396_0 hHeld ⊢
                     refine pure_ (i := 0) (N := some 122) (v := ?_) (a' := ?_) #[true, false, false, false, false, false, false, false, false, false, false] rfl rfl (any_of HT_.out (by kernel_rfl)) (fun _ _ _ h => h) (Or.inl ⟨by rfl, ?_⟩) ?_ ?_
                     rotate_left
                     · intro w'
                       go_simp
                       with_reducible rfl
                     rotate_left
                     · simp only [Act.put, lSa, lSz, lSs, i64_w, i32_w]
                       rfl
                     refine pure_ (i := 1) (N := some 123) (v := ?_) (a' := ?_) #[true, true, false, false, false, false, false, false, false, false, false] rfl rfl (any_of HT_.out (by kernel_rfl)) (fun _ _ _ h => h) (Or.inl ⟨by rfl, ?_⟩) ?_ ?_
                     rotate_left
                     · intro w'
                       go_simp
                       with_reducible rfl
                     rotate_left
                     · simp only [Act.put, lSa, lSz, lSs, i64_w, i32_w]
                       rfl
                     refine pure_ (i := 2) (N := some 124) (v := ?_) (a' := ?_) #[true, true, true, false, false, false, false, false, false, false, false] rfl rfl (any_of HT_.out (by kernel_rfl)) (fun _ _ _ h => h) (Or.inl ⟨by rfl, ?_⟩) ?_ ?_
                     rotate_left
                     · intro w'
                       go_simp
                       with_reducible rfl
                     rotate_left
                     · simp only [Act.put, lSa, lSz, lSs, i64_w, i32_w]
                       rfl
                     refine pure_ (i := 6) (N := some 128) (v := ?_) (a' := ?_) #[true, true, true, false, false, false, true, false, false, false, false] rfl rfl (any_of HT_.out (by kernel_rfl)) (fun _ _ _ h => h) (Or.inl ⟨by rfl, ?_⟩) ?_ ?_
                     rotate_left
                     · intro w'
                       go_simp
                       with_reducible rfl
                     rotate_left
                     · simp only [Act.put, lSa, lSz, lSs, i64_w, i32_w]
                       rfl
                     refine pure_ (i := 7) (N := some 129) (v := ?_) (a' := ?_) #[true, true, true, false, false, false, true, true, false, false, false] rfl rfl (any_of HT_.out (by kernel_rfl)) (fun _ _ _ h => h) (Or.inl ⟨by rfl, ?_⟩) ?_ ?_
                     rotate_left
                     · intro w'
                       go_simp
                       with_reducible rfl
                     rotate_left
                     · simp only [Act.put, lSa, lSz, lSs, i64_w, i32_w]
                       rfl
                     refine pure_ (i := 8) (N := some 130) (v := ?_) (a' := ?_) #[true, true, true, false, false, false, true, true, true, false, false] rfl rfl (any_of HT_.out (by kernel_rfl)) (fun _ _ _ h => h) (Or.inl ⟨by rfl, ?_⟩) ?_ ?_
                     rotate_left
                     · intro w'
                       go_simp
                       with_reducible rfl
                     rotate_left
                     · simp only [Act.put, lSa, lSz, lSs, i64_w, i32_w]
                       rfl
                     refine take_ (i := 3) (N := some 125) (v := ?_) (a' := ?_) #[true, true, true, true, false, false, true, true, true, false, false] rfl rfl (take_ofW HT_.out HW_.out (by kernel_rfl)) (fun _ _ _ h => h) (Or.inl ⟨by rfl, ?_⟩) hHeld ?_ ?_
                     rotate_left
                     · rintro w' ⟨s0, s1⟩
                       go_simp
                       with_reducible rfl
                     rotate_left
                     · simp only [Act.put, lSa, lSz, lSs, i64_w, i32_w]
                       rfl
                     refine take_ (i := 9) (N := some 131) (v := ?_) (a' := ?_) #[true, true, true, true, false, false, true, true, true, true, false] rfl rfl (take_ofW HT_.out HW_.out (by kernel_rfl)) (fun _ _ _ h => h) (Or.inl ⟨by rfl, ?_⟩) hHeld ?_ ?_
                     rotate_left
                     · rintro w' ⟨s0, s1⟩
                       go_simp
                       with_reducible rfl
                     rotate_left
                     · simp only [Act.put, lSa, lSz, lSs, i64_w, i32_w]
                       rfl
                     refine one_ (i := 4) (N := some 126) #[true, true, true, true, true, false, true, true, true, true, false] rfl rfl (one_of HT_.out (by kernel_rfl)) (by decide) (fun K hK => ?_)
                     refine Kd.R_lit_step (Kd.int .i64) _ 3 ?hg (N := 126) ?hd (xs := ([rd t381 x15_3] : List Int)) (inner := [.int .i64 (rd t381 x15_3)]) (ok := fun _ => True) (okp := fun _ => True) ?hr ?hp (fun _ hk => hk) trivial (Below.refl _ _) (Nat.le_refl _) (by simp) ?_; (case hd => rfl); (case hg => rfl); (case hr => first | (go_simp; done) | (go_simp; rfl)); (case hp => exact (Reps.one (show Kd.M (Kd.int .i64) _ _ _ (rd t381 x15_3) [.int .i64 (rd t381 x15_3)] from rfl) (Reps.none _ _)))
                     intro v393 w70 ho71 hb hg_ hnew_
                     have HS0_ := (hb.cell (wBl _ _ (hHeld.1))).trans (hHeld.1)
                     have HS1_ := (hb.cell (wBl _ _ (hHeld.2))).trans (hHeld.2)
                     clear hg_ hnew_
                     (first | rw [← Ny392.out] at ho71 | (simp only [Int.reduceToNat] at ho71; rw [← Ny392.out] at ho71))
                     have n0_ := aMk (Kd.R_elder' (by (with_reducible repeat (first | apply Kd.R_alloc | apply Kd.R_drewN | apply Kd.R_drew)); exact HO_13.out) (Kd.R_base ho71) hb)
                     have n1_ := aMk (Kd.R_elder' (by (with_reducible repeat (first | apply Kd.R_alloc | apply Kd.R_drewN | apply Kd.R_drew)); exact HO390.out) (Kd.R_base ho71) hb)
                     have n2_ := aMk (Kd.R_lower (Kd.R_new' (Kd.R_new' ho71 (Kd.R_lt (by (with_reducible repeat (first | apply Kd.R_alloc | apply Kd.R_drewN | apply Kd.R_drew)); exact HO_13.out))) (Kd.R_lt (by (with_reducible repeat (first | apply Kd.R_alloc | apply Kd.R_drewN | apply Kd.R_drew)); exact HO390.out))) (below_size (by repeat (first | (with_reducible first | exact HB.out | apply bAl | apply bDn | apply bD1 | refine bSe ?_ GE368.out) | exact HB.out))))
                     have n3_ := aMk (blk_below (g := gb368) (o := .cells #[.int .i64 t364, .int .i64 t365, .int .i64 t366, .int .i64 t367] 34 (0, 0)) (by (with_reducible repeat (first | refine bkD ?_ _ | refine blk_drew ?_ | refine bkA ?_ _)); exact BK368.out) hb)
                     have n4_ := aMk (below_step (by repeat (first | (with_reducible first | exact HB.out | apply bAl | apply bDn | apply bD1 | refine bSe ?_ GE368.out) | exact HB.out)) hb)
                     clear HO_13
                     clear HO390
                     clear BK368
                     clear HB
                     have HO_13 := n0_
                     have HO390 := n1_
                     have HO394 := n2_
                     have BK368 := n3_
                     have HB := n4_
                     clear n0_ n1_ n2_ n3_ n4_
                     clear hb ho71
                     obtain ⟨Ao72, co72, eo72⟩ := Kd.R_slice HO394.out
                     (first | subst eo72 | (injection eo72 with f1_ f2_ f3_; have f4_ := f1_.symm; have f5_ := f3_.symm; clear f1_ f2_ f3_; subst f4_; subst f5_))
                     refine hK.out _ _ ⟨HS0_, HS1_⟩ (fun hHeld => ?_)
                     clear hK K
                     refine norm_ (a' := ?_) ?_ ?_
                     rotate_left
                     · show Act.put _ (some 126) _ = _
                       simp only [Act.put, lSa, lSz, lSs, i64_w, i32_w]
                       rfl
                     refine one_ (i := 5) (N := some 127) #[true, true, true, true, true, true, true, true, true, true, false] rfl rfl (one_of HT_.out (by kernel_rfl)) (by decide) (fun K hK => ?_)
                     refine goes_ Try.func27 (by kernel_rfl) rfl #[.slice Ao72 y392.length co72] (by rfl) rfl rfl (by (try simp only [List.map_toArray, List.map_cons, List.map_nil]); first | done | rfl | (simp only [List.length_drop, List.length_take]; rfl)) ?_
                     with_reducible refine (impl_Margin.calls k3 _ _ y392 t395 _ ?side1 ?side2 A66.out).mono ?_
                     (case side1 => repeat (first | exact (Kd.R_reads' HO394.out).2.2 | (with_reducible refine Kd.C_alloc ?_ _) | (with_reducible refine Kd.C_drewN ?_ _) | (with_reducible refine Kd.C_drew ?_)))
                     (case side2 => exact (Kd.R_reads' HO394.out).2.1)
                     rintro e w73 ⟨rfl, hb⟩
                     have HS0_ := (hb.cell (wBl _ _ (hHeld.1))).trans (hHeld.1)
                     have HS1_ := (hb.cell (wBl _ _ (hHeld.2))).trans (hHeld.2)
                     refine ⟨_, rfl, ?_⟩
                     have n0_ := aMk (Kd.R_below (by (with_reducible repeat (first | apply Kd.R_alloc | apply Kd.R_drewN | apply Kd.R_drew)); exact HO_13.out) hb)
                     have n1_ := aMk (Kd.R_below (by (with_reducible repeat (first | apply Kd.R_alloc | apply Kd.R_drewN | apply Kd.R_drew)); exact HO390.out) hb)
                     have n2_ := aMk (Kd.R_below (by (with_reducible repeat (first | apply Kd.R_alloc | apply Kd.R_drewN | apply Kd.R_drew)); exact HO394.out) hb)
                     have n3_ := aMk (blk_below (g := gb368) (o := .cells #[.int .i64 t364, .int .i64 t365, .int .i64 t366, .int .i64 t367] 34 (0, 0)) (by (with_reducible repeat (first | refine bkD ?_ _ | refine blk_drew ?_ | refine bkA ?_ _)); exact BK368.out) hb)
                     have n4_ := aMk (below_step (by repeat (first | (with_reducible first | exact HB.out | apply bAl | apply bDn | apply bD1 | refine bSe ?_ GE368.out) | exact HB.out)) hb)
                     clear HO_13
                     clear HO390
                     clear HO394
                     clear BK368
                     clear HB
                     have HO_13 := n0_
                     have HO390 := n1_
                     have HO394 := n2_
                     have BK368 := n3_
                     have HB := n4_
                     clear n0_ n1_ n2_ n3_ n4_
                     (try clear hb)
                     (try clear hb2)
                     (try clear hk)
                     (try clear hi)
                     refine hK.out _ _ ⟨HS0_, HS1_⟩ (fun hHeld => ?_)
                     clear hK K
                     refine norm_ (a' := ?_) ?_ ?_
                     rotate_left
                     · show Act.put _ (some 127) _ = _
                       simp only [Act.put, lSa, lSz, lSs, i64_w, i32_w]
                       rfl
                     refine pure_ (i := 10) (N := some 132) (v := ?_) (a' := ?_) #[true, true, true, true, true, true, true, true, true, true, true] rfl rfl (any_of HT_.out (by kernel_rfl)) (fun _ _ _ h => h) (Or.inl ⟨by rfl, ?_⟩) ?_ ?_
                     rotate_left
                     · intro w'
                       go_simp
                       with_reducible rfl
                     rotate_left
                     · simp only [Act.put, lSa, lSz, lSs, i64_w, i32_w]
                       rfl
                     refine done_ (done_of HT_.out (by kernel_rfl)) ?_
                     try go_wp2
                     go_roundg k3
                     case measure => have := HJ15.out; have := HJ32.out; have := HK3.out; omega
                     case rel => exact ⟨(y388), (wrap64 (x15_3 - 1)), (by first | rfl | (simp; done) | (simp [*]; done)), H', ⟨by have := HJ15.out; have := HJ32.out; have := HK3.out; omega⟩, ⟨by (with_reducible repeat (first | apply Kd.R_alloc | apply Kd.R_drewN | apply Kd.R_drew)); exact Kd.R_mono HO_13.out (fun _ hk => hk.1.2)⟩, ⟨by (with_reducible repeat (first | apply Kd.R_alloc | apply Kd.R_drewN | apply Kd.R_drew)); exact Kd.R_mono HO390.out (fun _ hk => hk.1)⟩, ⟨by (with_reducible repeat (first | refine bkD ?_ _ | refine blk_drew ?_ | refine bkA ?_ _)); exact BK368.out⟩, ⟨by repeat (first | (with_reducible first | exact HB.out | apply bAl | apply bDn | apply bD1 | refine bSe ?_ GE368.out) | exact HB.out)⟩⟩
                   · rw [if_neg c67] at H
                     have c67b0 : (t395 == (rd t381 x15_3)) = false := beq_eq_false_iff_ne.mpr c67
                     have c67b1 : (t395 != (rd t381 x15_3)) = true := bne_iff_ne.mpr c67
                     obtain rfl := Option.some.inj H
                     have p387 : 0 ≤ (x15_3 : Int) := oDt (by first | (with_reducible assumption) | assumption)
                     have q387 : x15_3 < (t381.length : Int) := oDt (by first | (with_reducible assumption) | assumption)
                     obtain ⟨ad387, e387, hx387_0⟩ := Kd.at_int (Kd.R_reads' HO_13.out).2.2 x15_3 p387 q387
                     cases e387
                     replace p387 := eq_true p387
                     replace q387 := eq_true q387
                     try go_wp2_with (first | ((with_reducible refine gate_builtin (b := .append) (xs := #[.tmp 115, .tmp 120]) rfl ?_); at_builtin; refine Kd.R_append (Kd.int .i64) (w0 := w) w.heap.size rfl (.tmp 115) (.tmp 120) 22 3 (.int .i64 0) 8 rfl Try.underlying22 info3 rfl (by decide) (by omega) u14 x14_3 (rd t381 x15_3) [.int .i64 (rd t381 x15_3)] (fun k_ => some k_ ≠ (.slice (some ad387) t381.length co61 : Value).ownBlock) (fun _ => False) rfl rfl ?aP (fun _ hk => hk.elim) ?aF ?aO ?aB ?aS ?aL ?_; (case aP => exact rfl); (case aB => exact (by repeat (first | (with_reducible first | exact HB.out | apply bAl | apply bDn | apply bD1 | refine bSe ?_ GE368.out) | exact HB.out))); (case aF => exact (fun k_ hk => Kd.fresh' (Kd.R_lt (by (with_reducible repeat (first | apply Kd.R_alloc | apply Kd.R_drewN | apply Kd.R_drew)); exact HO_13.out)) k_ hk)); (case aO => exact (by (with_reducible repeat (first | apply Kd.R_alloc | apply Kd.R_drewN | apply Kd.R_drew)); exact HO_14.out)); (case aS => exact (below_size (by repeat (first | (with_reducible first | exact HB.out | apply bAl | apply bDn | apply bD1 | refine bSe ?_ GE368.out) | exact HB.out)))); (case aL => have := LMc65.out; omega); intro v389 w74 ho hb hg hat; rw [← Ny388.out] at ho; have n0_ := aMk (Kd.R_after (ok := (fun _ => True)) (by (with_reducible repeat (first | apply Kd.R_alloc | apply Kd.R_drewN | apply Kd.R_drew)); exact Kd.R_mono HO_13.out (fun _ hk => ⟨trivial, hk⟩)) hg hat); have n1_ := aMk (blk_grown (g := gb368) (o := .cells #[.int .i64 t364, .int .i64 t365, .int .i64 t366, .int .i64 t367] 34 (0, 0)) (by (with_reducible repeat (first | refine bkD ?_ _ | refine blk_drew ?_ | refine bkA ?_ _)); exact BK368.out) hg (Kd.R_ne HO_14.out BK368.out (by decide))); have n2_ := aMk (hb); have n3_ := aMk (ho); clear HO_13; clear BK368; clear HB; clear HO_14; have HO_13 := n0_; have BK368 := n1_; have HB := n2_; have HO390 := n3_; clear n0_ n1_ n2_ n3_; clear ho hb hg hat))
                     have n0_ := aMk (Kd.R_drew HO_13.out)
                     have n1_ := aMk (Kd.R_drew HO390.out)
                     have n2_ := aMk (blk_drew BK368.out)
                     have n3_ := aMk (bD1 HB.out)
                     clear HO_13
                     clear HO390
                     clear BK368
                     clear HB
                     have HO_13 := n0_
                     have HO390 := n1_
                     have BK368 := n2_
                     have HB := n3_
                     clear n0_ n1_ n2_ n3_
                     have p391 : 0 ≤ (x15_3 : Int) := oDt (by first | (with_reducible assumption) | assumption)
                     have q391 : x15_3 < (t381.length : Int) := oDt (by first | (with_reducible assumption) | assumption)
                     obtain ⟨ad391, e391, hx391_0⟩ := Kd.at_int (Kd.R_reads' HO_13.out).2.2 x15_3 p391 q391
                     obtain rfl : ad387 = ad391 := (by injection e391)
                     replace p391 := eq_true p391
                     replace q391 := eq_true q391
                     have p396 : 0 ≤ (x15_3 : Int) := oDt (by first | (with_reducible assumption) | assumption)
                     have q396 : x15_3 < (t381.length : Int) := oDt (by first | (with_reducible assumption) | assumption)
                     obtain ⟨ad396, e396, hx396_0⟩ := Kd.at_int (Kd.R_reads' HO_13.out).2.2 x15_3 p396 q396
                     obtain rfl : ad387 = ad396 := (by injection e396)
                     replace p396 := eq_true p396
                     replace q396 := eq_true q396
                     refine start_ (n := 11) (S := fun w' => w'.cell? (ad387.add (x15_3).toNat) = some (.int .i64 (rd t381 x15_3)) ∧ w'.cell? (ad387.add (x15_3).toNat) = some (.int .i64 (rd t381 x15_3))) (ds := []) #[false, false, false, false, false, false, false, false, false, false, false] (by kernel_rfl) rfl rfl ⟨hx391_0, hx396_0⟩ (fun hHeld => ?_); refine with_tabW laws_FnFloats.tab22 laws_FnFloats.bits22 (fun HT_ HW_ => ?_)
                     generalize w74.drew = w75 at HO_13 HO390 BK368 HB hx391_0 hx396_0 hHeld ⊢
                     refine pure_ (i := 0) (N := some 122) (v := ?_) (a' := ?_) #[true, false, false, false, false, false, false, false, false, false, false] rfl rfl (any_of HT_.out (by kernel_rfl)) (fun _ _ _ h => h) (Or.inl ⟨by rfl, ?_⟩) ?_ ?_
                     rotate_left
                     · intro w'
                       go_simp
                       with_reducible rfl
                     rotate_left
                     · simp only [Act.put, lSa, lSz, lSs, i64_w, i32_w]
                       rfl
                     refine pure_ (i := 1) (N := some 123) (v := ?_) (a' := ?_) #[true, true, false, false, false, false, false, false, false, false, false] rfl rfl (any_of HT_.out (by kernel_rfl)) (fun _ _ _ h => h) (Or.inl ⟨by rfl, ?_⟩) ?_ ?_
                     rotate_left
                     · intro w'
                       go_simp
                       with_reducible rfl
                     rotate_left
                     · simp only [Act.put, lSa, lSz, lSs, i64_w, i32_w]
                       rfl
                     refine pure_ (i := 2) (N := some 124) (v := ?_) (a' := ?_) #[true, true, true, false, false, false, false, false, false, false, false] rfl rfl (any_of HT_.out (by kernel_rfl)) (fun _ _ _ h => h) (Or.inl ⟨by rfl, ?_⟩) ?_ ?_
                     rotate_left
                     · intro w'
                       go_simp
                       with_reducible rfl
                     rotate_left
                     · simp only [Act.put, lSa, lSz, lSs, i64_w, i32_w]
                       rfl
                     refine pure_ (i := 6) (N := some 128) (v := ?_) (a' := ?_) #[true, true, true, false, false, false, true, false, false, false, false] rfl rfl (any_of HT_.out (by kernel_rfl)) (fun _ _ _ h => h) (Or.inl ⟨by rfl, ?_⟩) ?_ ?_
                     rotate_left
                     · intro w'
                       go_simp
                       with_reducible rfl
                     rotate_left
                     · simp only [Act.put, lSa, lSz, lSs, i64_w, i32_w]
                       rfl
                     refine pure_ (i := 7) (N := some 129) (v := ?_) (a' := ?_) #[true, true, true, false, false, false, true, true, false, false, false] rfl rfl (any_of HT_.out (by kernel_rfl)) (fun _ _ _ h => h) (Or.inl ⟨by rfl, ?_⟩) ?_ ?_
                     rotate_left
                     · intro w'
                       go_simp
                       with_reducible rfl
                     rotate_left
                     · simp only [Act.put, lSa, lSz, lSs, i64_w, i32_w]
                       rfl
                     refine pure_ (i := 8) (N := some 130) (v := ?_) (a' := ?_) #[true, true, true, false, false, false, true, true, true, false, false] rfl rfl (any_of HT_.out (by kernel_rfl)) (fun _ _ _ h => h) (Or.inl ⟨by rfl, ?_⟩) ?_ ?_
                     rotate_left
                     · intro w'
                       go_simp
                       with_reducible rfl
                     rotate_left
                     · simp only [Act.put, lSa, lSz, lSs, i64_w, i32_w]
                       rfl
                     refine take_ (i := 3) (N := some 125) (v := ?_) (a' := ?_) #[true, true, true, true, false, false, true, true, true, false, false] rfl rfl (take_ofW HT_.out HW_.out (by kernel_rfl)) (fun _ _ _ h => h) (Or.inl ⟨by rfl, ?_⟩) hHeld ?_ ?_
                     rotate_left
                     · rintro w' ⟨s0, s1⟩
                       go_simp
                       with_reducible rfl
                     rotate_left
                     · simp only [Act.put, lSa, lSz, lSs, i64_w, i32_w]
                       rfl
                     refine take_ (i := 9) (N := some 131) (v := ?_) (a' := ?_) #[true, true, true, true, false, false, true, true, true, true, false] rfl rfl (take_ofW HT_.out HW_.out (by kernel_rfl)) (fun _ _ _ h => h) (Or.inl ⟨by rfl, ?_⟩) hHeld ?_ ?_
                     rotate_left
                     · rintro w' ⟨s0, s1⟩
                       go_simp
                       with_reducible rfl
                     rotate_left
                     · simp only [Act.put, lSa, lSz, lSs, i64_w, i32_w]
                       rfl
                     refine one_ (i := 4) (N := some 126) #[true, true, true, true, true, false, true, true, true, true, false] rfl rfl (one_of HT_.out (by kernel_rfl)) (by decide) (fun K hK => ?_)
                     refine Kd.R_lit_step (Kd.int .i64) _ 3 ?hg (N := 126) ?hd (xs := ([rd t381 x15_3] : List Int)) (inner := [.int .i64 (rd t381 x15_3)]) (ok := fun _ => True) (okp := fun _ => True) ?hr ?hp (fun _ hk => hk) trivial (Below.refl _ _) (Nat.le_refl _) (by simp) ?_; (case hd => rfl); (case hg => rfl); (case hr => first | (go_simp; done) | (go_simp; rfl)); (case hp => exact (Reps.one (show Kd.M (Kd.int .i64) _ _ _ (rd t381 x15_3) [.int .i64 (rd t381 x15_3)] from rfl) (Reps.none _ _)))
                     intro v393 w76 ho77 hb hg_ hnew_
                     have HS0_ := (hb.cell (wBl _ _ (hHeld.1))).trans (hHeld.1)
                     have HS1_ := (hb.cell (wBl _ _ (hHeld.2))).trans (hHeld.2)
                     clear hg_ hnew_
                     (first | rw [← Ny392.out] at ho77 | (simp only [Int.reduceToNat] at ho77; rw [← Ny392.out] at ho77))
                     have n0_ := aMk (Kd.R_elder' (by (with_reducible repeat (first | apply Kd.R_alloc | apply Kd.R_drewN | apply Kd.R_drew)); exact HO_13.out) (Kd.R_base ho77) hb)
                     have n1_ := aMk (Kd.R_elder' (by (with_reducible repeat (first | apply Kd.R_alloc | apply Kd.R_drewN | apply Kd.R_drew)); exact HO390.out) (Kd.R_base ho77) hb)
                     have n2_ := aMk (Kd.R_lower (Kd.R_new' (Kd.R_new' ho77 (Kd.R_lt (by (with_reducible repeat (first | apply Kd.R_alloc | apply Kd.R_drewN | apply Kd.R_drew)); exact HO_13.out))) (Kd.R_lt (by (with_reducible repeat (first | apply Kd.R_alloc | apply Kd.R_drewN | apply Kd.R_drew)); exact HO390.out))) (below_size (by repeat (first | (with_reducible first | exact HB.out | apply bAl | apply bDn | apply bD1 | refine bSe ?_ GE368.out) | exact HB.out))))
                     have n3_ := aMk (blk_below (g := gb368) (o := .cells #[.int .i64 t364, .int .i64 t365, .int .i64 t366, .int .i64 t367] 34 (0, 0)) (by (with_reducible repeat (first | refine bkD ?_ _ | refine blk_drew ?_ | refine bkA ?_ _)); exact BK368.out) hb)
                     have n4_ := aMk (below_step (by repeat (first | (with_reducible first | exact HB.out | apply bAl | apply bDn | apply bD1 | refine bSe ?_ GE368.out) | exact HB.out)) hb)
                     clear HO_13
                     clear HO390
                     clear BK368
                     clear HB
                     have HO_13 := n0_
                     have HO390 := n1_
                     have HO394 := n2_
                     have BK368 := n3_
                     have HB := n4_
                     clear n0_ n1_ n2_ n3_ n4_
                     clear hb ho77
                     obtain ⟨Ao78, co78, eo78⟩ := Kd.R_slice HO394.out
                     (first | subst eo78 | (injection eo78 with f1_ f2_ f3_; have f4_ := f1_.symm; have f5_ := f3_.symm; clear f1_ f2_ f3_; subst f4_; subst f5_))
                     refine hK.out _ _ ⟨HS0_, HS1_⟩ (fun hHeld => ?_)
                     clear hK K
                     refine norm_ (a' := ?_) ?_ ?_
                     rotate_left
                     · show Act.put _ (some 126) _ = _
                       simp only [Act.put, lSa, lSz, lSs, i64_w, i32_w]
                       rfl
                     refine one_ (i := 5) (N := some 127) #[true, true, true, true, true, true, true, true, true, true, false] rfl rfl (one_of HT_.out (by kernel_rfl)) (by decide) (fun K hK => ?_)
                     refine goes_ Try.func27 (by kernel_rfl) rfl #[.slice Ao78 y392.length co78] (by rfl) rfl rfl (by (try simp only [List.map_toArray, List.map_cons, List.map_nil]); first | done | rfl | (simp only [List.length_drop, List.length_take]; rfl)) ?_
                     with_reducible refine (impl_Margin.calls k3 _ _ y392 t395 _ ?side1 ?side2 A66.out).mono ?_
                     (case side1 => repeat (first | exact (Kd.R_reads' HO394.out).2.2 | (with_reducible refine Kd.C_alloc ?_ _) | (with_reducible refine Kd.C_drewN ?_ _) | (with_reducible refine Kd.C_drew ?_)))
                     (case side2 => exact (Kd.R_reads' HO394.out).2.1)
                     rintro e w79 ⟨rfl, hb⟩
                     have HS0_ := (hb.cell (wBl _ _ (hHeld.1))).trans (hHeld.1)
                     have HS1_ := (hb.cell (wBl _ _ (hHeld.2))).trans (hHeld.2)
                     refine ⟨_, rfl, ?_⟩
                     have n0_ := aMk (Kd.R_below (by (with_reducible repeat (first | apply Kd.R_alloc | apply Kd.R_drewN | apply Kd.R_drew)); exact HO_13.out) hb)
                     have n1_ := aMk (Kd.R_below (by (with_reducible repeat (first | apply Kd.R_alloc | apply Kd.R_drewN | apply Kd.R_drew)); exact HO390.out) hb)
                     have n2_ := aMk (Kd.R_below (by (with_reducible repeat (first | apply Kd.R_alloc | apply Kd.R_drewN | apply Kd.R_drew)); exact HO394.out) hb)
                     have n3_ := aMk (blk_below (g := gb368) (o := .cells #[.int .i64 t364, .int .i64 t365, .int .i64 t366, .int .i64 t367] 34 (0, 0)) (by (with_reducible repeat (first | refine bkD ?_ _ | refine blk_drew ?_ | refine bkA ?_ _)); exact BK368.out) hb)
                     have n4_ := aMk (below_step (by repeat (first | (with_reducible first | exact HB.out | apply bAl | apply bDn | apply bD1 | refine bSe ?_ GE368.out) | exact HB.out)) hb)
                     clear HO_13
                     clear HO390
                     clear HO394
                     clear BK368
                     clear HB
                     have HO_13 := n0_
                     have HO390 := n1_
                     have HO394 := n2_
                     have BK368 := n3_
                     have HB := n4_
                     clear n0_ n1_ n2_ n3_ n4_
                     (try clear hb)
                     (try clear hb2)
                     (try clear hk)
                     (try clear hi)
                     refine hK.out _ _ ⟨HS0_, HS1_⟩ (fun hHeld => ?_)
                     clear hK K
                     refine norm_ (a' := ?_) ?_ ?_
                     rotate_left
                     · show Act.put _ (some 127) _ = _
                       simp only [Act.put, lSa, lSz, lSs, i64_w, i32_w]
                       rfl
                     refine pure_ (i := 10) (N := some 132) (v := ?_) (a' := ?_) #[true, true, true, true, true, true, true, true, true, true, true] rfl rfl (any_of HT_.out (by kernel_rfl)) (fun _ _ _ h => h) (Or.inl ⟨by rfl, ?_⟩) ?_ ?_
                     rotate_left
                     · intro w'
                       go_simp
                       with_reducible rfl
                     rotate_left
                     · simp only [Act.put, lSa, lSz, lSs, i64_w, i32_w]
                       rfl
                     refine done_ (done_of HT_.out (by kernel_rfl)) ?_
                     try go_wp2
                     go_ret
                     exact ⟨by first | rfl | (simp [errW_none, errW_some] <;> rfl) | (simp [*, errW_none, errW_some] <;> rfl), by repeat (first | (with_reducible first | exact HB.out | apply bAl | apply bDn | apply bD1 | refine bSe ?_ GE368.out) | exact HB.out)⟩
                 · rw [if_neg c65] at H
                   exact absurd H (by simp)
               · rw [if_neg c64] at H
                 exact absurd H (by simp)
             · rw [if_neg c63] at H
               exact absurd H (by simp)
           · rw [if_neg c62] at H
             have c62b0 : decide (0 ≤ x15_3) = false := decide_eq_false c62
             clear c62
             replace H := oBm H
             obtain ⟨t397, A800, H⟩ := H
             replace H : ((impl_Margin.f k3 x14_3).bind fun t398 => (if t397 = t398 then ((impl_Margin.f k3 t381).bind fun t399 => ((spec_Margin.f k3 t381).bind fun t400 => (some (t399 == t400)))) else (some false))) = some r := H
             have A80 := aMk A800
             clear A800
             replace H := oBm H
             obtain ⟨t398, A810, H⟩ := H
             replace H : (if t397 = t398 then ((impl_Margin.f k3 t381).bind fun t399 => ((spec_Margin.f k3 t381).bind fun t400 => (some (t399 == t400)))) else (some false)) = some r := H
             have A81 := aMk A810
             clear A810
             by_cases c82 : t397 = t398
             · rw [if_pos c82] at H
               have c82b0 : (t397 == t398) = true := beq_iff_eq.mpr c82
               have c82b1 : (t397 != t398) = false := bne_eq_false_iff_eq.mpr c82
               clear c82
               replace H := oBm H
               obtain ⟨t399, A830, H⟩ := H
               replace H : ((spec_Margin.f k3 t381).bind fun t400 => (some (t399 == t400))) = some r := H
               have A83 := aMk A830
               clear A830
               replace H := oBm H
               obtain ⟨t400, A840, H⟩ := H
               replace H : (some (t399 == t400)) = some r := H
               have A84 := aMk A840
               clear A840
               obtain rfl := Option.some.inj H
               go_wp2_with (first | ((with_reducible refine gate_callee (f := 27) rfl ?_); refine goesL_ (some 134) rfl rfl Try.func27 (by kernel_rfl) rfl #[.slice Ao61 t381.length co61] rfl (by (try simp only [List.map_toArray, List.map_cons, List.map_nil]); first | done | rfl | (simp only [List.length_drop, List.length_take]; rfl)) ?_; (with_reducible refine (impl_Margin.calls k3 _ _ t381 t397 _ ?side1 ?side2 A80.out).mono ?_); (case side1 => repeat (first | exact (Kd.R_reads' HO_13.out).2.2 | (with_reducible refine Kd.C_alloc ?_ _) | (with_reducible refine Kd.C_drewN ?_ _) | (with_reducible refine Kd.C_drew ?_))); (case side2 => exact (Kd.R_reads' HO_13.out).2.1); rintro e w85 ⟨rfl, hb⟩; refine ⟨_, rfl, ?_⟩; have n0_ := aMk (Kd.R_below (by (with_reducible repeat (first | apply Kd.R_alloc | apply Kd.R_drewN | apply Kd.R_drew)); exact HO_13.out) hb); have n1_ := aMk (Kd.R_below (by (with_reducible repeat (first | apply Kd.R_alloc | apply Kd.R_drewN | apply Kd.R_drew)); exact HO_14.out) hb); have n2_ := aMk (blk_below (g := gb368) (o := .cells #[.int .i64 t364, .int .i64 t365, .int .i64 t366, .int .i64 t367] 34 (0, 0)) (by (with_reducible repeat (first | refine bkD ?_ _ | refine blk_drew ?_ | refine bkA ?_ _)); exact BK368.out) hb); have n3_ := aMk (below_step (by repeat (first | (with_reducible first | exact HB.out | apply bAl | apply bDn | apply bD1 | refine bSe ?_ GE368.out) | exact HB.out)) hb); clear HO_13; clear HO_14; clear BK368; clear HB; have HO_13 := n0_; have HO_14 := n1_; have BK368 := n2_; have HB := n3_; clear n0_ n1_ n2_ n3_; (try clear hb); (try clear hb2); (try clear hk); (try clear hi); obtain ⟨Ao86, co86, eo86⟩ := Kd.R_slice HO_14.out; subst eo86) | ((with_reducible refine gate_callee (f := 27) rfl ?_); refine goesL_ (some 136) rfl rfl Try.func27 (by kernel_rfl) rfl #[.slice Ao86 x14_3.length co86] rfl (by (try simp only [List.map_toArray, List.map_cons, List.map_nil]); first | done | rfl | (simp only [List.length_drop, List.length_take]; rfl)) ?_; (with_reducible refine (impl_Margin.calls k3 _ _ x14_3 t398 _ ?side1 ?side2 A81.out).mono ?_); (case side1 => repeat (first | exact (Kd.R_reads' HO_14.out).2.2 | (with_reducible refine Kd.C_alloc ?_ _) | (with_reducible refine Kd.C_drewN ?_ _) | (with_reducible refine Kd.C_drew ?_))); (case side2 => exact (Kd.R_reads' HO_14.out).2.1); rintro e w87 ⟨rfl, hb⟩; refine ⟨_, rfl, ?_⟩; have n0_ := aMk (Kd.R_below (by (with_reducible repeat (first | apply Kd.R_alloc | apply Kd.R_drewN | apply Kd.R_drew)); exact HO_13.out) hb); have n1_ := aMk (Kd.R_below (by (with_reducible repeat (first | apply Kd.R_alloc | apply Kd.R_drewN | apply Kd.R_drew)); exact HO_14.out) hb); have n2_ := aMk (blk_below (g := gb368) (o := .cells #[.int .i64 t364, .int .i64 t365, .int .i64 t366, .int .i64 t367] 34 (0, 0)) (by (with_reducible repeat (first | refine bkD ?_ _ | refine blk_drew ?_ | refine bkA ?_ _)); exact BK368.out) hb); have n3_ := aMk (below_step (by repeat (first | (with_reducible first | exact HB.out | apply bAl | apply bDn | apply bD1 | refine bSe ?_ GE368.out) | exact HB.out)) hb); clear HO_13; clear HO_14; clear BK368; clear HB; have HO_13 := n0_; have HO_14 := n1_; have BK368 := n2_; have HB := n3_; clear n0_ n1_ n2_ n3_; (try clear hb); (try clear hb2); (try clear hk); (try clear hi)) | (go_at_call 27; (with_reducible refine (impl_Margin.calls k3 _ _ t381 t399 _ ?side1 ?side2 A83.out).mono ?_); (case side1 => repeat (first | exact (Kd.R_reads' HO_13.out).2.2 | (with_reducible refine Kd.C_alloc ?_ _) | (with_reducible refine Kd.C_drewN ?_ _) | (with_reducible refine Kd.C_drew ?_))); (case side2 => exact (Kd.R_reads' HO_13.out).2.1); rintro e w88 ⟨rfl, hb⟩; have n0_ := aMk (Kd.R_below (by (with_reducible repeat (first | apply Kd.R_alloc | apply Kd.R_drewN | apply Kd.R_drew)); exact HO_13.out) hb); have n1_ := aMk (Kd.R_below (by (with_reducible repeat (first | apply Kd.R_alloc | apply Kd.R_drewN | apply Kd.R_drew)); exact HO_14.out) hb); have n2_ := aMk (blk_below (g := gb368) (o := .cells #[.int .i64 t364, .int .i64 t365, .int .i64 t366, .int .i64 t367] 34 (0, 0)) (by (with_reducible repeat (first | refine bkD ?_ _ | refine blk_drew ?_ | refine bkA ?_ _)); exact BK368.out) hb); have n3_ := aMk (below_step (by repeat (first | (with_reducible first | exact HB.out | apply bAl | apply bDn | apply bD1 | refine bSe ?_ GE368.out) | exact HB.out)) hb); clear HO_13; clear HO_14; clear BK368; clear HB; have HO_13 := n0_; have HO_14 := n1_; have BK368 := n2_; have HB := n3_; clear n0_ n1_ n2_ n3_; (try clear hb); (try clear hb2); (try clear hk); (try clear hi)) | (go_at_call 28; (with_reducible refine (spec_Margin.calls k3 _ _ t381 t400 _ ?side1 ?side2 A84.out).mono ?_); (case side1 => repeat (first | exact (Kd.R_reads' HO_13.out).2.2 | (with_reducible refine Kd.C_alloc ?_ _) | (with_reducible refine Kd.C_drewN ?_ _) | (with_reducible refine Kd.C_drew ?_))); (case side2 => exact (Kd.R_reads' HO_13.out).2.1); rintro e w' ⟨rfl, ⟨nd, rfl⟩⟩))
               go_ret
               exact ⟨by first | rfl | (simp [errW_none, errW_some] <;> rfl) | (simp [*, errW_none, errW_some] <;> rfl), by repeat (first | (with_reducible first | exact HB.out | apply bAl | apply bDn | apply bD1 | refine bSe ?_ GE368.out) | exact HB.out)⟩
             · rw [if_neg c82] at H
               have c82b0 : (t397 == t398) = false := beq_eq_false_iff_ne.mpr c82
               have c82b1 : (t397 != t398) = true := bne_iff_ne.mpr c82
               obtain rfl := Option.some.inj H
               go_wp2_with (first | ((with_reducible refine gate_callee (f := 27) rfl ?_); refine goesL_ (some 134) rfl rfl Try.func27 (by kernel_rfl) rfl #[.slice Ao61 t381.length co61] rfl (by (try simp only [List.map_toArray, List.map_cons, List.map_nil]); first | done | rfl | (simp only [List.length_drop, List.length_take]; rfl)) ?_; (with_reducible refine (impl_Margin.calls k3 _ _ t381 t397 _ ?side1 ?side2 A80.out).mono ?_); (case side1 => repeat (first | exact (Kd.R_reads' HO_13.out).2.2 | (with_reducible refine Kd.C_alloc ?_ _) | (with_reducible refine Kd.C_drewN ?_ _) | (with_reducible refine Kd.C_drew ?_))); (case side2 => exact (Kd.R_reads' HO_13.out).2.1); rintro e w89 ⟨rfl, hb⟩; refine ⟨_, rfl, ?_⟩; have n0_ := aMk (Kd.R_below (by (with_reducible repeat (first | apply Kd.R_alloc | apply Kd.R_drewN | apply Kd.R_drew)); exact HO_13.out) hb); have n1_ := aMk (Kd.R_below (by (with_reducible repeat (first | apply Kd.R_alloc | apply Kd.R_drewN | apply Kd.R_drew)); exact HO_14.out) hb); have n2_ := aMk (blk_below (g := gb368) (o := .cells #[.int .i64 t364, .int .i64 t365, .int .i64 t366, .int .i64 t367] 34 (0, 0)) (by (with_reducible repeat (first | refine bkD ?_ _ | refine blk_drew ?_ | refine bkA ?_ _)); exact BK368.out) hb); have n3_ := aMk (below_step (by repeat (first | (with_reducible first | exact HB.out | apply bAl | apply bDn | apply bD1 | refine bSe ?_ GE368.out) | exact HB.out)) hb); clear HO_13; clear HO_14; clear BK368; clear HB; have HO_13 := n0_; have HO_14 := n1_; have BK368 := n2_; have HB := n3_; clear n0_ n1_ n2_ n3_; (try clear hb); (try clear hb2); (try clear hk); (try clear hi); obtain ⟨Ao90, co90, eo90⟩ := Kd.R_slice HO_14.out; subst eo90) | ((with_reducible refine gate_callee (f := 27) rfl ?_); refine goesL_ (some 136) rfl rfl Try.func27 (by kernel_rfl) rfl #[.slice Ao90 x14_3.length co90] rfl (by (try simp only [List.map_toArray, List.map_cons, List.map_nil]); first | done | rfl | (simp only [List.length_drop, List.length_take]; rfl)) ?_; (with_reducible refine (impl_Margin.calls k3 _ _ x14_3 t398 _ ?side1 ?side2 A81.out).mono ?_); (case side1 => repeat (first | exact (Kd.R_reads' HO_14.out).2.2 | (with_reducible refine Kd.C_alloc ?_ _) | (with_reducible refine Kd.C_drewN ?_ _) | (with_reducible refine Kd.C_drew ?_))); (case side2 => exact (Kd.R_reads' HO_14.out).2.1); rintro e w91 ⟨rfl, hb⟩; refine ⟨_, rfl, ?_⟩; have n0_ := aMk (Kd.R_below (by (with_reducible repeat (first | apply Kd.R_alloc | apply Kd.R_drewN | apply Kd.R_drew)); exact HO_13.out) hb); have n1_ := aMk (Kd.R_below (by (with_reducible repeat (first | apply Kd.R_alloc | apply Kd.R_drewN | apply Kd.R_drew)); exact HO_14.out) hb); have n2_ := aMk (blk_below (g := gb368) (o := .cells #[.int .i64 t364, .int .i64 t365, .int .i64 t366, .int .i64 t367] 34 (0, 0)) (by (with_reducible repeat (first | refine bkD ?_ _ | refine blk_drew ?_ | refine bkA ?_ _)); exact BK368.out) hb); have n3_ := aMk (below_step (by repeat (first | (with_reducible first | exact HB.out | apply bAl | apply bDn | apply bD1 | refine bSe ?_ GE368.out) | exact HB.out)) hb); clear HO_13; clear HO_14; clear BK368; clear HB; have HO_13 := n0_; have HO_14 := n1_; have BK368 := n2_; have HB := n3_; clear n0_ n1_ n2_ n3_; (try clear hb); (try clear hb2); (try clear hk); (try clear hi)))
               go_ret
               exact ⟨by first | rfl | (simp [errW_none, errW_some] <;> rfl) | (simp [*, errW_none, errW_some] <;> rfl), by repeat (first | (with_reducible first | exact HB.out | apply bAl | apply bDn | apply bD1 | refine bSe ?_ GE368.out) | exact HB.out)⟩

/-- THE ONE PURE STATEMENT of laws_FnFloats: yours. -/
def laws_FnFloats.Pure : Prop := ∀ (l0 : List Int), l0.length ≤ maxLen → l0.length * 1 ≤ 140737488351232 → (∀ x ∈ l0, (Lit.int .u8 x).wf = true) → ∃ k, laws_FnFloats.f k l0 = some true
theorem laws_FnFloats.walk (P : laws_FnFloats.Pure) (a0 : Option Addr) (len0 cap0 : Nat) (z0 : List Int) (w : World) (w0 : (a0 = none ∧ len0 = 0 ∧ cap0 = 0 ∧ z0 = []) ∨ ∃ x, a0 = some x ∧ len0 ≤ cap0 ∧ cap0 ≤ maxLen ∧ z0.length = cap0 ∧ (∀ i, i < z0.length → w.cell? (x.add i) = some (.int .u8 (z0.getD i 0))) ∧ ∀ n ∈ z0, (Lit.int .u8 n).wf = true) (y0 : len0 * 1 ≤ 140737488351232) :
 Calls Try.prog 4 #[.slice a0 len0 cap0] w fun e w' => e = .returned (.bool true) ∧ Below w.heap.size w w' := by
 obtain ⟨l0, rfl, hr0, hm0, hw0, hc0⟩ := ReadsInt.ofRowC w0
 obtain ⟨k, h⟩ := P l0 hm0 y0 hw0
 refine (laws_FnFloats.calls k _ _ l0 true w (Kd.C_of_reads (d := (0 : Int)) (h1 := fun _ => rfl) hr0) hc0 h).mono ?_
 rintro e w' ⟨rfl, hd⟩
 exact ⟨rfl, hd⟩

end Go.Proofs.Ytppjmcfcacgbdaa.MFnFloats
