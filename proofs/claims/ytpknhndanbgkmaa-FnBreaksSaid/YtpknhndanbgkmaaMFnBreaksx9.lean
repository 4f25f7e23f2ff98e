-- Written by this session's own program (wip/gen/myprint.py).
import Derived.Test.YtpknhndanbgkmaaMFnBreaksx0
import Derived.Test.YtpknhndanbgkmaaMFnBreaksx1
import Derived.Test.YtpknhndanbgkmaaMFnBreaksx4
import Derived.Test.YtpknhndanbgkmaaMFnBreaksx5
import Derived.Test.YtpknhndanbgkmaaMFnBreaksx6
import Derived.Test.YtpknhndanbgkmaaMFnBreaksx7
import Derived.Test.YtpknhndanbgkmaaMFnBreaksx8
namespace Go.Proofs.Ytpknhndanbgkmaa.MFnBreaks
open Go.RowKit Go.Proofs.YtpknhndanbgkmaaW.PrintWords Go.Proofs.YtpknhndanbgkmaaW.PrintLast Go.Proofs.YtpknhndanbgkmaaW.PrintMore
attribute [local go_sem] max2_int min2_int max_two min_two max_three min_three max_four min_four   -- for this text's walks alone
set_option linter.unusedVariables false
set_option linter.unusedSimpArgs false

/-! ### laws_FnBreaks: function 5 -/
mutual
def laws_FnBreaks.j0 : Nat → List Int → List Int → List Int → Bool → Option (Bool)
  | 0, _, _, _, _ => none
  | k + 1, x0, x3, x4, x47 => if x47 = true then (some false) else (laws_FnBreaks.l0 k x0 x3 x4 false 0)
def laws_FnBreaks.l0 : Nat → List Int → List Int → List Int → Bool → Int → Option (Bool)
  | 0, _, _, _, _, _ => none
  | k + 1, x0, x3, x4, x5, x6 => if x6 < (x3.length : Int) then (if 0 ≤ x6 then ((spec_BreakClass.f k (rd x3 x6)).bind fun t253 => (if t253 = 5 then (laws_FnBreaks.j2 k x0 x3 x4 x5 x6) else (laws_FnBreaks.j2 k x0 x3 x4 ((rd x3 x6) == 10) x6))) else (none)) else ((spec_DrawCollapse.f k x0).bind fun bt258 => ((impl_Collapse.f k bt258.1 bt258.2.1 bt258.2.2).bind fun bt261 => ((impl_Collapse.f k bt261.1 bt258.2.1 bt258.2.2).bind fun bt263 => ((spec_Collapse.f k bt258.1 bt258.2.1 bt258.2.2).bind fun bt265 => (if bt261.1.toList = bt265.1.toList then (if (bt261.2 == bt265.2) = true then (some (bt263.1.toList == bt261.1.toList)) else (some false)) else (some false))))))
def laws_FnBreaks.j2 : Nat → List Int → List Int → List Int → Bool → Int → Option (Bool)
  | 0, _, _, _, _, _ => none
  | k + 1, x0, x3, x4, x5, x6 => if 0 ≤ x6 then (if x6 < (x4.length : Int) then (if (rd x4 x6) = 2 then (laws_FnBreaks.j3 k x0 x3 x4 x5 x6 (!x5)) else (laws_FnBreaks.j3 k x0 x3 x4 x5 x6 false)) else (none)) else (none)
def laws_FnBreaks.j3 : Nat → List Int → List Int → List Int → Bool → Int → Bool → Option (Bool)
  | 0, _, _, _, _, _, _ => none
  | k + 1, x0, x3, x4, x5, x6, x73 => if x73 = true then (some false) else (if (wrap64 (x6 + 1)) < (x3.length : Int) then (if 0 ≤ (wrap64 (x6 + 1)) then (if (rd x3 (wrap64 (x6 + 1))) = 32 then (if x5 = true then (laws_FnBreaks.l0 k x0 x3 x4 x5 (wrap64 (x6 + 1))) else (if 0 ≤ x6 then (if x6 < (x4.length : Int) then (if (rd x4 x6) = 0 then (laws_FnBreaks.l0 k x0 x3 x4 x5 (wrap64 (x6 + 1))) else (some false)) else (none)) else (none))) else (laws_FnBreaks.l0 k x0 x3 x4 x5 (wrap64 (x6 + 1)))) else (none)) else (laws_FnBreaks.l0 k x0 x3 x4 x5 (wrap64 (x6 + 1))))
end
def laws_FnBreaks.f (k : Nat) (l0 : List Int) : Option (Bool) := (laws_big.f l0).bind fun t240 => (if t240 = true then (some true) else ((spec_DrawBreaks.f k l0).bind fun t241 => ((impl_Breaks.f t241).bind fun t244 => ((spec_Breaks.f k t241).bind fun t247 => ((laws_sameInts.f k t244 t247).bind fun t250 => (if t250 = true then (if (t244.length : Int) = (t241.length : Int) then (if (t244.length : Int) > 0 then (if 0 ≤ (wrap64 ((t244.length : Int) - 1)) then (if (wrap64 ((t244.length : Int) - 1)) < (t244.length : Int) then (laws_FnBreaks.j0 k l0 t241 t244 ((rd t244 (wrap64 ((t244.length : Int) - 1))) == 0)) else (none)) else (none)) else (laws_FnBreaks.j0 k l0 t241 t244 false)) else (laws_FnBreaks.j0 k l0 t241 t244 true)) else (laws_FnBreaks.j0 k l0 t241 t244 true)))))))
theorem laws_FnBreaks.mono_l : ∀ k, (∀ y0 y1 y2 y3, LeO (laws_FnBreaks.j0 k y0 y1 y2 y3) (laws_FnBreaks.j0 (k + 1) y0 y1 y2 y3)) ∧ (∀ y0 y1 y2 y3 y4, LeO (laws_FnBreaks.l0 k y0 y1 y2 y3 y4) (laws_FnBreaks.l0 (k + 1) y0 y1 y2 y3 y4)) ∧ (∀ y0 y1 y2 y3 y4, LeO (laws_FnBreaks.j2 k y0 y1 y2 y3 y4) (laws_FnBreaks.j2 (k + 1) y0 y1 y2 y3 y4)) ∧ (∀ y0 y1 y2 y3 y4 y5, LeO (laws_FnBreaks.j3 k y0 y1 y2 y3 y4 y5) (laws_FnBreaks.j3 (k + 1) y0 y1 y2 y3 y4 y5))
  | 0 => ⟨fun _ _ _ _ r h => by simp [laws_FnBreaks.j0] at h, fun _ _ _ _ _ r h => by simp [laws_FnBreaks.l0] at h, fun _ _ _ _ _ r h => by simp [laws_FnBreaks.j2] at h, fun _ _ _ _ _ _ r h => by simp [laws_FnBreaks.j3] at h⟩
  | k + 1 => by
    obtain ⟨ih0, ih1, ih2, ih3⟩ := laws_FnBreaks.mono_l k
    refine ⟨?_, ?_, ?_, ?_⟩
    · intro y0 y1 y2 y3
      unfold laws_FnBreaks.j0
      repeat' first
      | (with_reducible exact ih0 _ _ _ _)
      | (with_reducible exact ih1 _ _ _ _ _)
      | (with_reducible exact ih2 _ _ _ _ _)
      | (with_reducible exact ih3 _ _ _ _ _ _)
      | (with_reducible exact impl_Collapse.mono _ _ _ _)
      | (with_reducible exact laws_sameInts.mono _ _ _)
      | (with_reducible exact spec_BreakClass.mono _ _)
      | (with_reducible exact spec_Breaks.mono _ _)
      | (with_reducible exact spec_Collapse.mono _ _ _ _)
      | (with_reducible exact spec_DrawBreaks.mono _ _)
      | (with_reducible exact spec_DrawCollapse.mono _ _)
      | (with_reducible exact LeO.refl _)
      | (with_reducible exact LeO.none _)
      | (with_reducible refine LeO.ite ?_ ?_)
      | (with_reducible refine LeO.bind ?_ (fun _ => ?_))
      | exact ih0 _ _ _ _
      | exact ih1 _ _ _ _ _
      | exact ih2 _ _ _ _ _
      | exact ih3 _ _ _ _ _ _
      | exact impl_Collapse.mono _ _ _ _
      | exact laws_sameInts.mono _ _ _
      | exact spec_BreakClass.mono _ _
      | exact spec_Breaks.mono _ _
      | exact spec_Collapse.mono _ _ _ _
      | exact spec_DrawBreaks.mono _ _
      | exact spec_DrawCollapse.mono _ _
      | exact LeO.none _
      | refine LeO.ite ?_ ?_
      | refine LeO.bind ?_ (fun _ => ?_)
    · intro y0 y1 y2 y3 y4
      unfold laws_FnBreaks.l0
      repeat' first
      | (with_reducible exact ih0 _ _ _ _)
      | (with_reducible exact ih1 _ _ _ _ _)
      | (with_reducible exact ih2 _ _ _ _ _)
      | (with_reducible exact ih3 _ _ _ _ _ _)
      | (with_reducible exact impl_Collapse.mono _ _ _ _)
      | (with_reducible exact laws_sameInts.mono _ _ _)
      | (with_reducible exact spec_BreakClass.mono _ _)
      | (with_reducible exact spec_Breaks.mono _ _)
      | (with_reducible exact spec_Collapse.mono _ _ _ _)
      | (with_reducible exact spec_DrawBreaks.mono _ _)
      | (with_reducible exact spec_DrawCollapse.mono _ _)
      | (with_reducible exact LeO.refl _)
      | (with_reducible exact LeO.none _)
      | (with_reducible refine LeO.ite ?_ ?_)
      | (with_reducible refine LeO.bind ?_ (fun _ => ?_))
      | exact ih0 _ _ _ _
      | exact ih1 _ _ _ _ _
      | exact ih2 _ _ _ _ _
      | exact ih3 _ _ _ _ _ _
      | exact impl_Collapse.mono _ _ _ _
      | exact laws_sameInts.mono _ _ _
      | exact spec_BreakClass.mono _ _
      | exact spec_Breaks.mono _ _
      | exact spec_Collapse.mono _ _ _ _
      | exact spec_DrawBreaks.mono _ _
      | exact spec_DrawCollapse.mono _ _
      | exact LeO.none _
      | refine LeO.ite ?_ ?_
      | refine LeO.bind ?_ (fun _ => ?_)
    · intro y0 y1 y2 y3 y4
      unfold laws_FnBreaks.j2
      repeat' first
      | (with_reducible exact ih0 _ _ _ _)
      | (with_reducible exact ih1 _ _ _ _ _)
      | (with_reducible exact ih2 _ _ _ _ _)
      | (with_reducible exact ih3 _ _ _ _ _ _)
      | (with_reducible exact impl_Collapse.mono _ _ _ _)
      | (with_reducible exact laws_sameInts.mono _ _ _)
      | (with_reducible exact spec_BreakClass.mono _ _)
      | (with_reducible exact spec_Breaks.mono _ _)
      | (with_reducible exact spec_Collapse.mono _ _ _ _)
      | (with_reducible exact spec_DrawBreaks.mono _ _)
      | (with_reducible exact spec_DrawCollapse.mono _ _)
      | (with_reducible exact LeO.refl _)
      | (with_reducible exact LeO.none _)
      | (with_reducible refine LeO.ite ?_ ?_)
      | (with_reducible refine LeO.bind ?_ (fun _ => ?_))
      | exact ih0 _ _ _ _
      | exact ih1 _ _ _ _ _
      | exact ih2 _ _ _ _ _
      | exact ih3 _ _ _ _ _ _
      | exact impl_Collapse.mono _ _ _ _
      | exact laws_sameInts.mono _ _ _
      | exact spec_BreakClass.mono _ _
      | exact spec_Breaks.mono _ _
      | exact spec_Collapse.mono _ _ _ _
      | exact spec_DrawBreaks.mono _ _
      | exact spec_DrawCollapse.mono _ _
      | exact LeO.none _
      | refine LeO.ite ?_ ?_
      | refine LeO.bind ?_ (fun _ => ?_)
    · intro y0 y1 y2 y3 y4 y5
      unfold laws_FnBreaks.j3
      repeat' first
      | (with_reducible exact ih0 _ _ _ _)
      | (with_reducible exact ih1 _ _ _ _ _)
      | (with_reducible exact ih2 _ _ _ _ _)
      | (with_reducible exact ih3 _ _ _ _ _ _)
      | (with_reducible exact impl_Collapse.mono _ _ _ _)
      | (with_reducible exact laws_sameInts.mono _ _ _)
      | (with_reducible exact spec_BreakClass.mono _ _)
      | (with_reducible exact spec_Breaks.mono _ _)
      | (with_reducible exact spec_Collapse.mono _ _ _ _)
      | (with_reducible exact spec_DrawBreaks.mono _ _)
      | (with_reducible exact spec_DrawCollapse.mono _ _)
      | (with_reducible exact LeO.refl _)
      | (with_reducible exact LeO.none _)
      | (with_reducible refine LeO.ite ?_ ?_)
      | (with_reducible refine LeO.bind ?_ (fun _ => ?_))
      | exact ih0 _ _ _ _
      | exact ih1 _ _ _ _ _
      | exact ih2 _ _ _ _ _
      | exact ih3 _ _ _ _ _ _
      | exact impl_Collapse.mono _ _ _ _
      | exact laws_sameInts.mono _ _ _
      | exact spec_BreakClass.mono _ _
      | exact spec_Breaks.mono _ _
      | exact spec_Collapse.mono _ _ _ _
      | exact spec_DrawBreaks.mono _ _
      | exact spec_DrawCollapse.mono _ _
      | exact LeO.none _
      | refine LeO.ite ?_ ?_
      | refine LeO.bind ?_ (fun _ => ?_)
theorem laws_FnBreaks.mono : ∀ a0 k, LeO (laws_FnBreaks.f k a0) (laws_FnBreaks.f (k + 1) a0) := by
  intro a0 k
  obtain ⟨ih0, ih1, ih2, ih3⟩ := laws_FnBreaks.mono_l k
  unfold laws_FnBreaks.f
  repeat' first
      | (with_reducible exact ih0 _ _ _ _)
      | (with_reducible exact ih1 _ _ _ _ _)
      | (with_reducible exact ih2 _ _ _ _ _)
      | (with_reducible exact ih3 _ _ _ _ _ _)
      | (with_reducible exact impl_Collapse.mono _ _ _ _)
      | (with_reducible exact laws_sameInts.mono _ _ _)
      | (with_reducible exact spec_BreakClass.mono _ _)
      | (with_reducible exact spec_Breaks.mono _ _)
      | (with_reducible exact spec_Collapse.mono _ _ _ _)
      | (with_reducible exact spec_DrawBreaks.mono _ _)
      | (with_reducible exact spec_DrawCollapse.mono _ _)
      | (with_reducible exact LeO.refl _)
      | (with_reducible exact LeO.none _)
      | (with_reducible refine LeO.ite ?_ ?_)
      | (with_reducible refine LeO.bind ?_ (fun _ => ?_))
      | exact ih0 _ _ _ _
      | exact ih1 _ _ _ _ _
      | exact ih2 _ _ _ _ _
      | exact ih3 _ _ _ _ _ _
      | exact impl_Collapse.mono _ _ _ _
      | exact laws_sameInts.mono _ _ _
      | exact spec_BreakClass.mono _ _
      | exact spec_Breaks.mono _ _
      | exact spec_Collapse.mono _ _ _ _
      | exact spec_DrawBreaks.mono _ _
      | exact spec_DrawCollapse.mono _ _
      | exact LeO.none _
      | refine LeO.ite ?_ ?_
      | refine LeO.bind ?_ (fun _ => ?_)
set_option maxHeartbeats 8000000 in
set_option maxRecDepth 100000 in
theorem laws_FnBreaks.calls (k : Nat) (A0 : Option Addr) (c0 : Nat) (l0 : List Int) (r : Bool) (w : World) (hr0 : Kd.C (Kd.int .u8) w A0 l0.length l0) (hc0 : l0.length ≤ c0) (h : laws_FnBreaks.f k l0 = some r) :
    Calls Try.prog 5 #[.slice A0 l0.length c0] w fun e w' => e = .returned (.bool r) ∧ Below w.heap.size w w' := by
  have HR0 := Aside0.mk hr0
  have HC0 := Aside0.mk hc0
  clear hr0 hc0
  have HB := Aside0.mk (Below.refl w.heap.size w)
  have H : ((laws_big.f l0).bind fun t240 => (if t240 = true then (some true) else ((spec_DrawBreaks.f k l0).bind fun t241 => ((impl_Breaks.f t241).bind fun t244 => ((spec_Breaks.f k t241).bind fun t247 => ((laws_sameInts.f k t244 t247).bind fun t250 => (if t250 = true then (if (t244.length : Int) = (t241.length : Int) then (if (t244.length : Int) > 0 then (if 0 ≤ (wrap64 ((t244.length : Int) - 1)) then (if (wrap64 ((t244.length : Int) - 1)) < (t244.length : Int) then (laws_FnBreaks.j0 k l0 t241 t244 ((rd t244 (wrap64 ((t244.length : Int) - 1))) == 0)) else (none)) else (none)) else (laws_FnBreaks.j0 k l0 t241 t244 false)) else (laws_FnBreaks.j0 k l0 t241 t244 true)) else (laws_FnBreaks.j0 k l0 t241 t244 true)))))))) = some r := h
  clear h
  replace H := Option.bind_eq_some_iff.mp H
  obtain ⟨t240, A20, H⟩ := H
  replace H : (if t240 = true then (some true) else ((spec_DrawBreaks.f k l0).bind fun t241 => ((impl_Breaks.f t241).bind fun t244 => ((spec_Breaks.f k t241).bind fun t247 => ((laws_sameInts.f k t244 t247).bind fun t250 => (if t250 = true then (if (t244.length : Int) = (t241.length : Int) then (if (t244.length : Int) > 0 then (if 0 ≤ (wrap64 ((t244.length : Int) - 1)) then (if (wrap64 ((t244.length : Int) - 1)) < (t244.length : Int) then (laws_FnBreaks.j0 k l0 t241 t244 ((rd t244 (wrap64 ((t244.length : Int) - 1))) == 0)) else (none)) else (none)) else (laws_FnBreaks.j0 k l0 t241 t244 false)) else (laws_FnBreaks.j0 k l0 t241 t244 true)) else (laws_FnBreaks.j0 k l0 t241 t244 true))))))) = some r := H
  have A2 := Aside0.mk A20
  clear A20
  by_cases c3 : t240 = true
  · subst c3
    have H1 : (some true) = some r := by rw [if_pos rfl] at H; exact H
    clear H
    have H := H1
    clear H1
    obtain rfl := Option.some.inj H
    go_enter Try.func5, Try.ntmps5
    go_wp2_with (first | ((with_reducible refine gate_callee (f := 20) rfl ?_); refine goesL_ (some 17) rfl rfl Try.func20 (by kernel_rfl) rfl #[.slice A0 l0.length c0] rfl (by (try simp only [List.map_toArray, List.map_cons, List.map_nil]); first | done | rfl | (simp only [List.length_drop, List.length_take]; rfl)) ?_; (with_reducible refine (laws_big.calls _ _ l0 true _ ?side1 ?side2 A2.out).mono ?_); (case side1 => repeat (first | exact HR0.out | (with_reducible refine Kd.C_alloc ?_ _) | (with_reducible refine Kd.C_drewN ?_ _) | (with_reducible refine Kd.C_drew ?_))); (case side2 => exact HC0.out); rintro e w' ⟨rfl, ⟨nd, rfl⟩⟩; refine ⟨_, rfl, ?_⟩))
    go_ret
    exact ⟨by first | rfl | (simp [errW_none, errW_some] <;> rfl) | (simp [*, errW_none, errW_some] <;> rfl), by repeat (first | (with_reducible first | exact HB.out | apply below_alloc | apply pw_below_drewN | apply below_drew1) | exact HB.out)⟩
  · replace c3 := Bool.eq_false_iff.mpr c3
    subst c3
    have H1 : ((spec_DrawBreaks.f k l0).bind fun t241 => ((impl_Breaks.f t241).bind fun t244 => ((spec_Breaks.f k t241).bind fun t247 => ((laws_sameInts.f k t244 t247).bind fun t250 => (if t250 = true then (if (t244.length : Int) = (t241.length : Int) then (if (t244.length : Int) > 0 then (if 0 ≤ (wrap64 ((t244.length : Int) - 1)) then (if (wrap64 ((t244.length : Int) - 1)) < (t244.length : Int) then (laws_FnBreaks.j0 k l0 t241 t244 ((rd t244 (wrap64 ((t244.length : Int) - 1))) == 0)) else (none)) else (none)) else (laws_FnBreaks.j0 k l0 t241 t244 false)) else (laws_FnBreaks.j0 k l0 t241 t244 true)) else (laws_FnBreaks.j0 k l0 t241 t244 true)))))) = some r := by rw [if_neg (show ¬ (false = true) by decide)] at H; exact H
    clear H
    have H := H1
    clear H1
    replace H := Option.bind_eq_some_iff.mp H
    obtain ⟨t241, A40, H⟩ := H
    replace H : ((impl_Breaks.f t241).bind fun t244 => ((spec_Breaks.f k t241).bind fun t247 => ((laws_sameInts.f k t244 t247).bind fun t250 => (if t250 = true then (if (t244.length : Int) = (t241.length : Int) then (if (t244.length : Int) > 0 then (if 0 ≤ (wrap64 ((t244.length : Int) - 1)) then (if (wrap64 ((t244.length : Int) - 1)) < (t244.length : Int) then (laws_FnBreaks.j0 k l0 t241 t244 ((rd t244 (wrap64 ((t244.length : Int) - 1))) == 0)) else (none)) else (none)) else (laws_FnBreaks.j0 k l0 t241 t244 false)) else (laws_FnBreaks.j0 k l0 t241 t244 true)) else (laws_FnBreaks.j0 k l0 t241 t244 true))))) = some r := H
    have A4 := Aside0.mk A40
    clear A40
    replace H := Option.bind_eq_some_iff.mp H
    obtain ⟨t244, A50, H⟩ := H
    replace H : ((spec_Breaks.f k t241).bind fun t247 => ((laws_sameInts.f k t244 t247).bind fun t250 => (if t250 = true then (if (t244.length : Int) = (t241.length : Int) then (if (t244.length : Int) > 0 then (if 0 ≤ (wrap64 ((t244.length : Int) - 1)) then (if (wrap64 ((t244.length : Int) - 1)) < (t244.length : Int) then (laws_FnBreaks.j0 k l0 t241 t244 ((rd t244 (wrap64 ((t244.length : Int) - 1))) == 0)) else (none)) else (none)) else (laws_FnBreaks.j0 k l0 t241 t244 false)) else (laws_FnBreaks.j0 k l0 t241 t244 true)) else (laws_FnBreaks.j0 k l0 t241 t244 true)))) = some r := H
    have A5 := Aside0.mk A50
    clear A50
    have HC6 := Aside0.mk H
    clear H
    go_enter Try.func5, Try.ntmps5
    go_upto_region 5 with (first | ((with_reducible refine gate_callee (f := 20) rfl ?_); refine goesL_ (some 17) rfl rfl Try.func20 (by kernel_rfl) rfl #[.slice A0 l0.length c0] rfl (by (try simp only [List.map_toArray, List.map_cons, List.map_nil]); first | done | rfl | (simp only [List.length_drop, List.length_take]; rfl)) ?_; (with_reducible refine (laws_big.calls _ _ l0 false _ ?side1 ?side2 A2.out).mono ?_); (case side1 => repeat (first | exact HR0.out | (with_reducible refine Kd.C_alloc ?_ _) | (with_reducible refine Kd.C_drewN ?_ _) | (with_reducible refine Kd.C_drew ?_))); (case side2 => exact HC0.out); rintro e w' ⟨rfl, ⟨nd, rfl⟩⟩; refine ⟨_, rfl, ?_⟩) | ((with_reducible refine gate_callee (f := 21) rfl ?_); refine goesL_ (some 19) rfl rfl Try.func21 (by kernel_rfl) rfl #[.slice A0 l0.length c0] rfl (by (try simp only [List.map_toArray, List.map_cons, List.map_nil]); first | done | rfl | (simp only [List.length_drop, List.length_take]; rfl)) ?_; (with_reducible refine (spec_DrawBreaks.calls k _ _ l0 t241 _ ?side1 ?side2 A4.out).mono ?_); (case side1 => repeat (first | exact HR0.out | (with_reducible refine Kd.C_alloc ?_ _) | (with_reducible refine Kd.C_drewN ?_ _) | (with_reducible refine Kd.C_drew ?_))); (case side2 => exact HC0.out); rintro e w7 ⟨v242, rfl, ho0, hb⟩; refine ⟨_, rfl, ?_⟩; have n0_ := Aside0.mk (Kd.R_lower ho0 (below_size (by repeat (first | (with_reducible first | exact HB.out | apply below_alloc | apply pw_below_drewN | apply below_drew1) | exact HB.out)))); have n1_ := Aside0.mk (below_step (by repeat (first | (with_reducible first | exact HB.out | apply below_alloc | apply pw_below_drewN | apply below_drew1) | exact HB.out)) hb); clear HB; have HO243 := n0_; have HB := n1_; clear n0_ n1_; (try clear hb); (try clear hb2); (try clear hk); (try clear hi); (try clear ho0); obtain ⟨Ao8, co8, eo8⟩ := Kd.R_slice HO243.out; subst eo8) | ((with_reducible refine gate_callee (f := 22) rfl ?_); refine goesL_ (some 21) rfl rfl Try.func22 (by kernel_rfl) rfl #[.slice Ao8 t241.length co8] rfl (by (try simp only [List.map_toArray, List.map_cons, List.map_nil]); first | done | rfl | (simp only [List.length_drop, List.length_take]; rfl)) ?_; (with_reducible refine (impl_Breaks.calls _ _ t241 t244 _ ?side1 ?side2 A5.out).mono ?_); (case side1 => repeat (first | exact (Kd.R_reads' HO243.out).2.2 | (with_reducible refine Kd.C_alloc ?_ _) | (with_reducible refine Kd.C_drewN ?_ _) | (with_reducible refine Kd.C_drew ?_))); (case side2 => exact (Kd.R_reads' HO243.out).2.1); rintro e w9 ⟨v245, rfl, ho0, hb⟩; refine ⟨_, rfl, ?_⟩; have n0_ := Aside0.mk (Kd.R_elder' (by (with_reducible repeat (first | apply Kd.R_alloc | apply Kd.R_drewN | apply Kd.R_drew)); exact HO243.out) (Kd.R_base ho0) hb); have n1_ := Aside0.mk (Kd.R_lower (Kd.R_new' ho0 (Kd.R_lt (by (with_reducible repeat (first | apply Kd.R_alloc | apply Kd.R_drewN | apply Kd.R_drew)); exact HO243.out))) (below_size (by repeat (first | (with_reducible first | exact HB.out | apply below_alloc | apply pw_below_drewN | apply below_drew1) | exact HB.out)))); have n2_ := Aside0.mk (below_step (by repeat (first | (with_reducible first | exact HB.out | apply below_alloc | apply pw_below_drewN | apply below_drew1) | exact HB.out)) hb); clear HO243; clear HB; have HO243 := n0_; have HO246 := n1_; have HB := n2_; clear n0_ n1_ n2_; (try clear hb); (try clear hb2); (try clear hk); (try clear hi); (try clear ho0)))
    (try simp only [Act.put, List.setIfInBounds_toArray, List.set_cons_zero, List.set_cons_succ])
    go_cut [47] (fun v47 wc => ∃ (kq : Nat) (x47_5 : Bool), v47 = .bool x47_5 ∧ Aside0 (laws_FnBreaks.j0 kq l0 t241 t244 x47_5 = some r) ∧ Aside0 (kq ≤ k) ∧ Aside0 (Kd.R (Kd.int .i64) 3 wc w.heap.size (fun k_ => some k_ ≠ (v245 : Value).ownBlock) (.slice Ao8 t241.length co8) t241) ∧ Aside0 (Kd.R (Kd.int .i64) 3 wc w.heap.size (fun k_ => some k_ ≠ ((.slice Ao8 t241.length co8) : Value).ownBlock) v245 t244) ∧ Aside0 (Below w.heap.size w wc))
    case first =>
      have H := HC6.out
      clear HC6
      replace H := Option.bind_eq_some_iff.mp H
      obtain ⟨t247, A100, H⟩ := H
      replace H : ((laws_sameInts.f k t244 t247).bind fun t250 => (if t250 = true then (if (t244.length : Int) = (t241.length : Int) then (if (t244.length : Int) > 0 then (if 0 ≤ (wrap64 ((t244.length : Int) - 1)) then (if (wrap64 ((t244.length : Int) - 1)) < (t244.length : Int) then (laws_FnBreaks.j0 k l0 t241 t244 ((rd t244 (wrap64 ((t244.length : Int) - 1))) == 0)) else (none)) else (none)) else (laws_FnBreaks.j0 k l0 t241 t244 false)) else (laws_FnBreaks.j0 k l0 t241 t244 true)) else (laws_FnBreaks.j0 k l0 t241 t244 true))) = some r := H
      have A10 := Aside0.mk A100
      clear A100
      replace H := Option.bind_eq_some_iff.mp H
      obtain ⟨t250, A110, H⟩ := H
      replace H : (if t250 = true then (if (t244.length : Int) = (t241.length : Int) then (if (t244.length : Int) > 0 then (if 0 ≤ (wrap64 ((t244.length : Int) - 1)) then (if (wrap64 ((t244.length : Int) - 1)) < (t244.length : Int) then (laws_FnBreaks.j0 k l0 t241 t244 ((rd t244 (wrap64 ((t244.length : Int) - 1))) == 0)) else (none)) else (none)) else (laws_FnBreaks.j0 k l0 t241 t244 false)) else (laws_FnBreaks.j0 k l0 t241 t244 true)) else (laws_FnBreaks.j0 k l0 t241 t244 true)) = some r := H
      have A11 := Aside0.mk A110
      clear A110
      by_cases c12 : t250 = true
      · subst c12
        have H1 : (if (t244.length : Int) = (t241.length : Int) then (if (t244.length : Int) > 0 then (if 0 ≤ (wrap64 ((t244.length : Int) - 1)) then (if (wrap64 ((t244.length : Int) - 1)) < (t244.length : Int) then (laws_FnBreaks.j0 k l0 t241 t244 ((rd t244 (wrap64 ((t244.length : Int) - 1))) == 0)) else (none)) else (none)) else (laws_FnBreaks.j0 k l0 t241 t244 false)) else (laws_FnBreaks.j0 k l0 t241 t244 true)) = some r := by rw [if_pos rfl] at H; exact H
        clear H
        have H := H1
        clear H1
        by_cases c13 : (t244.length : Int) = (t241.length : Int)
        · rw [if_pos c13] at H
          have c13b0 : ((t244.length : Int) == (t241.length : Int)) = true := beq_iff_eq.mpr c13
          have c13b1 : ((t244.length : Int) != (t241.length : Int)) = false := bne_eq_false_iff_eq.mpr c13
          have c13b2 : (t244.length == t241.length) = true := by first | simpa using c13 | (simp at c13 ⊢; omega)
          clear c13
          (first | rw [c13b0] | (simp only [i64_w, i32_w]; rw [c13b0]) | skip)
          by_cases c14 : (t244.length : Int) > 0
          · rw [if_pos c14] at H
            have c14b0 : decide (0 < (t244.length : Int)) = true := decide_eq_true c14
            have c14b1 : decide (0 < t244.length) = true := decide_eq_true (by omega)
            clear c14
            obtain ⟨ji15, hji15⟩ : ∃ j_ : Int, (wrap64 ((t244.length : Int) - 1)) = j_ := ⟨_, rfl⟩
            replace H : (if 0 ≤ (ji15) then (if (ji15) < (t244.length : Int) then (laws_FnBreaks.j0 k l0 t241 t244 ((rd t244 (ji15)) == 0)) else (none)) else (none)) = some r := by first | (rw [hji15] at H; exact H) | (simp only [hji15] at H ⊢; exact H)
            (try rw [hji15] at A10)
            (try rw [hji15] at A11)
            have hji15w : (IntKind.i64.wrap ((t244.length : Int) - 1)) = ji15 := (i64_w _).trans hji15
            by_cases c16 : 0 ≤ (ji15)
            · rw [if_pos c16] at H
              have c16b0 : decide (0 ≤ (ji15)) = true := decide_eq_true c16
              clear c16
              by_cases c17 : (ji15) < (t244.length : Int)
              · rw [if_pos c17] at H
                have c17b0 : decide ((ji15) < (t244.length : Int)) = true := decide_eq_true c17
                clear c17
                have H' := Aside0.mk H
                clear H
                go_wp2_with (first | ((with_reducible refine gate_callee (f := 24) rfl ?_); refine goesL_ (some 24) rfl rfl Try.func24 (by kernel_rfl) rfl #[.slice Ao8 t241.length co8] rfl (by (try simp only [List.map_toArray, List.map_cons, List.map_nil]); first | done | rfl | (simp only [List.length_drop, List.length_take]; rfl)) ?_; (with_reducible refine (spec_Breaks.calls k _ _ t241 t247 _ ?side1 ?side2 A10.out).mono ?_); (case side1 => repeat (first | exact (Kd.R_reads' HO243.out).2.2 | (with_reducible refine Kd.C_alloc ?_ _) | (with_reducible refine Kd.C_drewN ?_ _) | (with_reducible refine Kd.C_drew ?_))); (case side2 => exact (Kd.R_reads' HO243.out).2.1); rintro e w18 ⟨v248, rfl, ho0, hb⟩; refine ⟨_, rfl, ?_⟩; have n0_ := Aside0.mk (Kd.R_elder' (by (with_reducible repeat (first | apply Kd.R_alloc | apply Kd.R_drewN | apply Kd.R_drew)); exact HO243.out) (Kd.R_base ho0) hb); have n1_ := Aside0.mk (Kd.R_elder' (by (with_reducible repeat (first | apply Kd.R_alloc | apply Kd.R_drewN | apply Kd.R_drew)); exact HO246.out) (Kd.R_base ho0) hb); have n2_ := Aside0.mk (Kd.R_lower (Kd.R_new' (Kd.R_new' ho0 (Kd.R_lt (by (with_reducible repeat (first | apply Kd.R_alloc | apply Kd.R_drewN | apply Kd.R_drew)); exact HO243.out))) (Kd.R_lt (by (with_reducible repeat (first | apply Kd.R_alloc | apply Kd.R_drewN | apply Kd.R_drew)); exact HO246.out))) (below_size (by repeat (first | (with_reducible first | exact HB.out | apply below_alloc | apply pw_below_drewN | apply below_drew1) | exact HB.out)))); have n3_ := Aside0.mk (below_step (by repeat (first | (with_reducible first | exact HB.out | apply below_alloc | apply pw_below_drewN | apply below_drew1) | exact HB.out)) hb); clear HO243; clear HO246; clear HB; have HO243 := n0_; have HO246 := n1_; have HO249 := n2_; have HB := n3_; clear n0_ n1_ n2_ n3_; (try clear hb); (try clear hb2); (try clear hk); (try clear hi); (try clear ho0); obtain ⟨Ao19, co19, eo19⟩ := Kd.R_slice HO246.out; subst eo19; obtain ⟨Ao20, co20, eo20⟩ := Kd.R_slice HO249.out; subst eo20) | ((with_reducible refine gate_callee (f := 23) rfl ?_); refine goesL_ (some 25) rfl rfl Try.func23 (by kernel_rfl) rfl #[.slice Ao19 t244.length co19, .slice Ao20 t247.length co20] rfl (by (try simp only [List.map_toArray, List.map_cons, List.map_nil]); first | done | rfl | (simp only [List.length_drop, List.length_take]; rfl)) ?_; (with_reducible refine (laws_sameInts.calls k _ _ t244 _ _ t247 true _ ?side1 ?side2 ?side3 ?side4 A11.out).mono ?_); (case side1 => repeat (first | exact (Kd.R_reads' HO246.out).2.2 | (with_reducible refine Kd.C_alloc ?_ _) | (with_reducible refine Kd.C_drewN ?_ _) | (with_reducible refine Kd.C_drew ?_))); (case side2 => exact (Kd.R_reads' HO246.out).2.1); (case side3 => repeat (first | exact (Kd.R_reads' HO249.out).2.2 | (with_reducible refine Kd.C_alloc ?_ _) | (with_reducible refine Kd.C_drewN ?_ _) | (with_reducible refine Kd.C_drew ?_))); (case side4 => exact (Kd.R_reads' HO249.out).2.1); rintro e w' ⟨rfl, ⟨nd, rfl⟩⟩; refine ⟨_, rfl, ?_⟩; have p251 : 0 ≤ ((ji15) : Int) := of_decide_eq_true (by first | (with_reducible assumption) | assumption); have q251 : (ji15) < (t244.length : Int) := of_decide_eq_true (by first | (with_reducible assumption) | assumption); obtain ⟨ad251, e251, hx251_0⟩ := Kd.at_int (Kd.R_reads' HO246.out).2.2 (ji15) p251 q251; cases e251; replace p251 := eq_true p251; replace q251 := eq_true q251))
                go_meet
                case rel => exact ⟨_, (((rd t244 (ji15)) == 0)), (by first | rfl | (simp; done) | (simp only [← hji15] <;> (first | rfl | simp)) | (simp [*]; done)), H', ⟨by first | omega | exact Nat.le_refl _⟩, ⟨by (with_reducible repeat (first | apply Kd.R_alloc | apply Kd.R_drewN | apply Kd.R_drew)); exact Kd.R_mono HO243.out (fun _ hk => hk.1.2)⟩, ⟨by (with_reducible repeat (first | apply Kd.R_alloc | apply Kd.R_drewN | apply Kd.R_drew)); exact Kd.R_mono HO246.out (fun _ hk => hk.1.2)⟩, ⟨by repeat (first | (with_reducible first | exact HB.out | apply below_alloc | apply pw_below_drewN | apply below_drew1) | exact HB.out)⟩⟩
              · rw [if_neg c17] at H
                exact absurd H (by simp)
            · rw [if_neg c16] at H
              exact absurd H (by simp)
          · rw [if_neg c14] at H
            have c14b0 : decide (0 < (t244.length : Int)) = false := decide_eq_false c14
            have c14b1 : decide (0 < t244.length) = false := decide_eq_false (by omega)
            clear c14
            have H' := Aside0.mk H
            clear H
            go_wp2_with (first | ((with_reducible refine gate_callee (f := 24) rfl ?_); refine goesL_ (some 24) rfl rfl Try.func24 (by kernel_rfl) rfl #[.slice Ao8 t241.length co8] rfl (by (try simp only [List.map_toArray, List.map_cons, List.map_nil]); first | done | rfl | (simp only [List.length_drop, List.length_take]; rfl)) ?_; (with_reducible refine (spec_Breaks.calls k _ _ t241 t247 _ ?side1 ?side2 A10.out).mono ?_); (case side1 => repeat (first | exact (Kd.R_reads' HO243.out).2.2 | (with_reducible refine Kd.C_alloc ?_ _) | (with_reducible refine Kd.C_drewN ?_ _) | (with_reducible refine Kd.C_drew ?_))); (case side2 => exact (Kd.R_reads' HO243.out).2.1); rintro e w21 ⟨v248, rfl, ho0, hb⟩; refine ⟨_, rfl, ?_⟩; have n0_ := Aside0.mk (Kd.R_elder' (by (with_reducible repeat (first | apply Kd.R_alloc | apply Kd.R_drewN | apply Kd.R_drew)); exact HO243.out) (Kd.R_base ho0) hb); have n1_ := Aside0.mk (Kd.R_elder' (by (with_reducible repeat (first | apply Kd.R_alloc | apply Kd.R_drewN | apply Kd.R_drew)); exact HO246.out) (Kd.R_base ho0) hb); have n2_ := Aside0.mk (Kd.R_lower (Kd.R_new' (Kd.R_new' ho0 (Kd.R_lt (by (with_reducible repeat (first | apply Kd.R_alloc | apply Kd.R_drewN | apply Kd.R_drew)); exact HO243.out))) (Kd.R_lt (by (with_reducible repeat (first | apply Kd.R_alloc | apply Kd.R_drewN | apply Kd.R_drew)); exact HO246.out))) (below_size (by repeat (first | (with_reducible first | exact HB.out | apply below_alloc | apply pw_below_drewN | apply below_drew1) | exact HB.out)))); have n3_ := Aside0.mk (below_step (by repeat (first | (with_reducible first | exact HB.out | apply below_alloc | apply pw_below_drewN | apply below_drew1) | exact HB.out)) hb); clear HO243; clear HO246; clear HB; have HO243 := n0_; have HO246 := n1_; have HO249 := n2_; have HB := n3_; clear n0_ n1_ n2_ n3_; (try clear hb); (try clear hb2); (try clear hk); (try clear hi); (try clear ho0); obtain ⟨Ao22, co22, eo22⟩ := Kd.R_slice HO246.out; subst eo22; obtain ⟨Ao23, co23, eo23⟩ := Kd.R_slice HO249.out; subst eo23) | ((with_reducible refine gate_callee (f := 23) rfl ?_); refine goesL_ (some 25) rfl rfl Try.func23 (by kernel_rfl) rfl #[.slice Ao22 t244.length co22, .slice Ao23 t247.length co23] rfl (by (try simp only [List.map_toArray, List.map_cons, List.map_nil]); first | done | rfl | (simp only [List.length_drop, List.length_take]; rfl)) ?_; (with_reducible refine (laws_sameInts.calls k _ _ t244 _ _ t247 true _ ?side1 ?side2 ?side3 ?side4 A11.out).mono ?_); (case side1 => repeat (first | exact (Kd.R_reads' HO246.out).2.2 | (with_reducible refine Kd.C_alloc ?_ _) | (with_reducible refine Kd.C_drewN ?_ _) | (with_reducible refine Kd.C_drew ?_))); (case side2 => exact (Kd.R_reads' HO246.out).2.1); (case side3 => repeat (first | exact (Kd.R_reads' HO249.out).2.2 | (with_reducible refine Kd.C_alloc ?_ _) | (with_reducible refine Kd.C_drewN ?_ _) | (with_reducible refine Kd.C_drew ?_))); (case side4 => exact (Kd.R_reads' HO249.out).2.1); rintro e w' ⟨rfl, ⟨nd, rfl⟩⟩; refine ⟨_, rfl, ?_⟩))
            go_meet
            case rel => exact ⟨_, (false), (by first | rfl | (simp; done) | (simp [*]; done)), H', ⟨by first | omega | exact Nat.le_refl _⟩, ⟨by (with_reducible repeat (first | apply Kd.R_alloc | apply Kd.R_drewN | apply Kd.R_drew)); exact Kd.R_mono HO243.out (fun _ hk => hk.1.2)⟩, ⟨by (with_reducible repeat (first | apply Kd.R_alloc | apply Kd.R_drewN | apply Kd.R_drew)); exact Kd.R_mono HO246.out (fun _ hk => hk.1.2)⟩, ⟨by repeat (first | (with_reducible first | exact HB.out | apply below_alloc | apply pw_below_drewN | apply below_drew1) | exact HB.out)⟩⟩
        · rw [if_neg c13] at H
          have c13b0 : ((t244.length : Int) == (t241.length : Int)) = false := beq_eq_false_iff_ne.mpr c13
          have c13b1 : ((t244.length : Int) != (t241.length : Int)) = true := bne_iff_ne.mpr c13
          have c13b2 : (t244.length == t241.length) = false := by first | simpa using c13 | (simp at c13 ⊢; omega)
          (first | rw [c13b0] | (simp only [i64_w, i32_w]; rw [c13b0]) | skip)
          have H' := Aside0.mk H
          clear H
          go_wp2_with (first | ((with_reducible refine gate_callee (f := 24) rfl ?_); refine goesL_ (some 24) rfl rfl Try.func24 (by kernel_rfl) rfl #[.slice Ao8 t241.length co8] rfl (by (try simp only [List.map_toArray, List.map_cons, List.map_nil]); first | done | rfl | (simp only [List.length_drop, List.length_take]; rfl)) ?_; (with_reducible refine (spec_Breaks.calls k _ _ t241 t247 _ ?side1 ?side2 A10.out).mono ?_); (case side1 => repeat (first | exact (Kd.R_reads' HO243.out).2.2 | (with_reducible refine Kd.C_alloc ?_ _) | (with_reducible refine Kd.C_drewN ?_ _) | (with_reducible refine Kd.C_drew ?_))); (case side2 => exact (Kd.R_reads' HO243.out).2.1); rintro e w24 ⟨v248, rfl, ho0, hb⟩; refine ⟨_, rfl, ?_⟩; have n0_ := Aside0.mk (Kd.R_elder' (by (with_reducible repeat (first | apply Kd.R_alloc | apply Kd.R_drewN | apply Kd.R_drew)); exact HO243.out) (Kd.R_base ho0) hb); have n1_ := Aside0.mk (Kd.R_elder' (by (with_reducible repeat (first | apply Kd.R_alloc | apply Kd.R_drewN | apply Kd.R_drew)); exact HO246.out) (Kd.R_base ho0) hb); have n2_ := Aside0.mk (Kd.R_lower (Kd.R_new' (Kd.R_new' ho0 (Kd.R_lt (by (with_reducible repeat (first | apply Kd.R_alloc | apply Kd.R_drewN | apply Kd.R_drew)); exact HO243.out))) (Kd.R_lt (by (with_reducible repeat (first | apply Kd.R_alloc | apply Kd.R_drewN | apply Kd.R_drew)); exact HO246.out))) (below_size (by repeat (first | (with_reducible first | exact HB.out | apply below_alloc | apply pw_below_drewN | apply below_drew1) | exact HB.out)))); have n3_ := Aside0.mk (below_step (by repeat (first | (with_reducible first | exact HB.out | apply below_alloc | apply pw_below_drewN | apply below_drew1) | exact HB.out)) hb); clear HO243; clear HO246; clear HB; have HO243 := n0_; have HO246 := n1_; have HO249 := n2_; have HB := n3_; clear n0_ n1_ n2_ n3_; (try clear hb); (try clear hb2); (try clear hk); (try clear hi); (try clear ho0); obtain ⟨Ao25, co25, eo25⟩ := Kd.R_slice HO246.out; subst eo25; obtain ⟨Ao26, co26, eo26⟩ := Kd.R_slice HO249.out; subst eo26) | ((with_reducible refine gate_callee (f := 23) rfl ?_); refine goesL_ (some 25) rfl rfl Try.func23 (by kernel_rfl) rfl #[.slice Ao25 t244.length co25, .slice Ao26 t247.length co26] rfl (by (try simp only [List.map_toArray, List.map_cons, List.map_nil]); first | done | rfl | (simp only [List.length_drop, List.length_take]; rfl)) ?_; (with_reducible refine (laws_sameInts.calls k _ _ t244 _ _ t247 true _ ?side1 ?side2 ?side3 ?side4 A11.out).mono ?_); (case side1 => repeat (first | exact (Kd.R_reads' HO246.out).2.2 | (with_reducible refine Kd.C_alloc ?_ _) | (with_reducible refine Kd.C_drewN ?_ _) | (with_reducible refine Kd.C_drew ?_))); (case side2 => exact (Kd.R_reads' HO246.out).2.1); (case side3 => repeat (first | exact (Kd.R_reads' HO249.out).2.2 | (with_reducible refine Kd.C_alloc ?_ _) | (with_reducible refine Kd.C_drewN ?_ _) | (with_reducible refine Kd.C_drew ?_))); (case side4 => exact (Kd.R_reads' HO249.out).2.1); rintro e w' ⟨rfl, ⟨nd, rfl⟩⟩; refine ⟨_, rfl, ?_⟩))
          go_meet
          case rel => exact ⟨_, (true), (by first | rfl | (simp; done) | (simp [*]; done)), H', ⟨by first | omega | exact Nat.le_refl _⟩, ⟨by (with_reducible repeat (first | apply Kd.R_alloc | apply Kd.R_drewN | apply Kd.R_drew)); exact Kd.R_mono HO243.out (fun _ hk => hk.1.2)⟩, ⟨by (with_reducible repeat (first | apply Kd.R_alloc | apply Kd.R_drewN | apply Kd.R_drew)); exact Kd.R_mono HO246.out (fun _ hk => hk.1.2)⟩, ⟨by repeat (first | (with_reducible first | exact HB.out | apply below_alloc | apply pw_below_drewN | apply below_drew1) | exact HB.out)⟩⟩
      · replace c12 := Bool.eq_false_iff.mpr c12
        subst c12
        have H1 : (laws_FnBreaks.j0 k l0 t241 t244 true) = some r := by rw [if_neg (show ¬ (false = true) by decide)] at H; exact H
        clear H
        have H := H1
        clear H1
        have H' := Aside0.mk H
        clear H
        go_wp2_with (first | ((with_reducible refine gate_callee (f := 24) rfl ?_); refine goesL_ (some 24) rfl rfl Try.func24 (by kernel_rfl) rfl #[.slice Ao8 t241.length co8] rfl (by (try simp only [List.map_toArray, List.map_cons, List.map_nil]); first | done | rfl | (simp only [List.length_drop, List.length_take]; rfl)) ?_; (with_reducible refine (spec_Breaks.calls k _ _ t241 t247 _ ?side1 ?side2 A10.out).mono ?_); (case side1 => repeat (first | exact (Kd.R_reads' HO243.out).2.2 | (with_reducible refine Kd.C_alloc ?_ _) | (with_reducible refine Kd.C_drewN ?_ _) | (with_reducible refine Kd.C_drew ?_))); (case side2 => exact (Kd.R_reads' HO243.out).2.1); rintro e w27 ⟨v248, rfl, ho0, hb⟩; refine ⟨_, rfl, ?_⟩; have n0_ := Aside0.mk (Kd.R_elder' (by (with_reducible repeat (first | apply Kd.R_alloc | apply Kd.R_drewN | apply Kd.R_drew)); exact HO243.out) (Kd.R_base ho0) hb); have n1_ := Aside0.mk (Kd.R_elder' (by (with_reducible repeat (first | apply Kd.R_alloc | apply Kd.R_drewN | apply Kd.R_drew)); exact HO246.out) (Kd.R_base ho0) hb); have n2_ := Aside0.mk (Kd.R_lower (Kd.R_new' (Kd.R_new' ho0 (Kd.R_lt (by (with_reducible repeat (first | apply Kd.R_alloc | apply Kd.R_drewN | apply Kd.R_drew)); exact HO243.out))) (Kd.R_lt (by (with_reducible repeat (first | apply Kd.R_alloc | apply Kd.R_drewN | apply Kd.R_drew)); exact HO246.out))) (below_size (by repeat (first | (with_reducible first | exact HB.out | apply below_alloc | apply pw_below_drewN | apply below_drew1) | exact HB.out)))); have n3_ := Aside0.mk (below_step (by repeat (first | (with_reducible first | exact HB.out | apply below_alloc | apply pw_below_drewN | apply below_drew1) | exact HB.out)) hb); clear HO243; clear HO246; clear HB; have HO243 := n0_; have HO246 := n1_; have HO249 := n2_; have HB := n3_; clear n0_ n1_ n2_ n3_; (try clear hb); (try clear hb2); (try clear hk); (try clear hi); (try clear ho0); obtain ⟨Ao28, co28, eo28⟩ := Kd.R_slice HO246.out; subst eo28; obtain ⟨Ao29, co29, eo29⟩ := Kd.R_slice HO249.out; subst eo29) | ((with_reducible refine gate_callee (f := 23) rfl ?_); refine goesL_ (some 25) rfl rfl Try.func23 (by kernel_rfl) rfl #[.slice Ao28 t244.length co28, .slice Ao29 t247.length co29] rfl (by (try simp only [List.map_toArray, List.map_cons, List.map_nil]); first | done | rfl | (simp only [List.length_drop, List.length_take]; rfl)) ?_; (with_reducible refine (laws_sameInts.calls k _ _ t244 _ _ t247 false _ ?side1 ?side2 ?side3 ?side4 A11.out).mono ?_); (case side1 => repeat (first | exact (Kd.R_reads' HO246.out).2.2 | (with_reducible refine Kd.C_alloc ?_ _) | (with_reducible refine Kd.C_drewN ?_ _) | (with_reducible refine Kd.C_drew ?_))); (case side2 => exact (Kd.R_reads' HO246.out).2.1); (case side3 => repeat (first | exact (Kd.R_reads' HO249.out).2.2 | (with_reducible refine Kd.C_alloc ?_ _) | (with_reducible refine Kd.C_drewN ?_ _) | (with_reducible refine Kd.C_drew ?_))); (case side4 => exact (Kd.R_reads' HO249.out).2.1); rintro e w' ⟨rfl, ⟨nd, rfl⟩⟩; refine ⟨_, rfl, ?_⟩))
        go_meet
        case rel => exact ⟨_, (true), (by first | rfl | (simp; done) | (simp [*]; done)), H', ⟨by first | omega | exact Nat.le_refl _⟩, ⟨by (with_reducible repeat (first | apply Kd.R_alloc | apply Kd.R_drewN | apply Kd.R_drew)); exact Kd.R_mono HO243.out (fun _ hk => hk.1.2)⟩, ⟨by (with_reducible repeat (first | apply Kd.R_alloc | apply Kd.R_drewN | apply Kd.R_drew)); exact Kd.R_mono HO246.out (fun _ hk => hk.1.2)⟩, ⟨by repeat (first | (with_reducible first | exact HB.out | apply below_alloc | apply pw_below_drewN | apply below_drew1) | exact HB.out)⟩⟩
    case rest =>
      clear HC6
      try clear c1
      try clear c2
      try clear p2
      try clear q2
      try clear hx2
      try clear c3
      try clear c5
      try clear p6
      try clear c12
      try clear c13
      try clear c13b0
      try clear c13b1
      try clear c13b2
      try clear c14
      try clear c14b0
      try clear c14b1
      try clear c16
      try clear c16b0
      try clear c17
      try clear c17b0
      try clear c20
      try clear c21
      try clear c22
      try clear c23
      try clear c24
      try clear p25
      try clear q25
      try clear hx25
      try clear hx251_0
      try clear p251
      try clear q251
      obtain ⟨kq, x47_5, rfl, HA, HJ5, HO_3, HO_4, HB⟩ := hcut
      cases kq with
      | zero => exact absurd HA.out (by simp [laws_FnBreaks.j0])
      | succ kj5 =>
        have H := HA.out
        clear HA
        simp only [laws_FnBreaks.j0] at H
        by_cases c30 : x47_5 = true
        · subst c30
          have H1 : (some false) = some r := by rw [if_pos rfl] at H; exact H
          clear H
          have H := H1
          clear H1
          obtain rfl := Option.some.inj H
          go_wp2
          go_ret
          exact ⟨by first | rfl | (simp [errW_none, errW_some] <;> rfl) | (simp [*, errW_none, errW_some] <;> rfl), by repeat (first | (with_reducible first | exact HB.out | apply below_alloc | apply pw_below_drewN | apply below_drew1) | exact HB.out)⟩
        · replace c30 := Bool.eq_false_iff.mpr c30
          subst c30
          have H1 : (laws_FnBreaks.l0 kj5 l0 t241 t244 false 0) = some r := by rw [if_neg (show ¬ (false = true) by decide)] at H; exact H
          clear H
          have H := H1
          clear H1
          have H' := Aside0.mk H
          clear H
          go_wp2
          go_loopg [5, 6] kj5 (fun kq v5 v6 w' => ∃ (x5_2 : Bool) (x6_2 : Int), v5 = .bool x5_2 ∧ v6 = .int .i64 x6_2 ∧ Aside0 (laws_FnBreaks.l0 kq l0 t241 t244 x5_2 x6_2 = some r) ∧ Aside0 (kq ≤ kj5) ∧ Aside0 (Kd.R (Kd.int .i64) 3 w' w.heap.size (fun k_ => some k_ ≠ (v245 : Value).ownBlock) (.slice Ao8 t241.length co8) t241) ∧ Aside0 (Kd.R (Kd.int .i64) 3 w' w.heap.size (fun k_ => some k_ ≠ ((.slice Ao8 t241.length co8) : Value).ownBlock) v245 t244) ∧ Aside0 (Below w.heap.size w w'))
          case atStart => exact ⟨(false), (0), (by first | rfl | (simp; done) | (simp [*]; done)), (by first | rfl | (simp; done) | (simp [*]; done)), H', ⟨Nat.le_refl _⟩, ⟨by (with_reducible repeat (first | apply Kd.R_alloc | apply Kd.R_drewN | apply Kd.R_drew)); exact HO_3.out⟩, ⟨by (with_reducible repeat (first | apply Kd.R_alloc | apply Kd.R_drewN | apply Kd.R_drew)); exact HO_4.out⟩, ⟨by repeat (first | (with_reducible first | exact HB.out | apply below_alloc | apply pw_below_drewN | apply below_drew1) | exact HB.out)⟩⟩
          case round =>
            clear H'
            try clear c1
            try clear c2
            try clear p2
            try clear q2
            try clear hx2
            try clear c3
            try clear c5
            try clear p6
            try clear c12
            try clear c13
            try clear c13b0
            try clear c13b1
            try clear c13b2
            try clear c14
            try clear c14b0
            try clear c14b1
            try clear c16
            try clear c16b0
            try clear c17
            try clear c17b0
            try clear c20
            try clear c21
            try clear c22
            try clear c23
            try clear c24
            try clear p25
            try clear q25
            try clear hx25
            try clear c30
            try clear hx251_0
            try clear p2
            try clear p25
            try clear p251
            try clear p6
            try clear q2
            try clear q25
            try clear q251
            obtain ⟨x5_2, x6_2, rfl, rfl, HA, HK2, HO_3, HO_4, HB⟩ := hrel
            cases gk with
            | zero => exact absurd HA.out (by simp [laws_FnBreaks.l0])
            | succ k2 =>
              have H := HA.out
              clear HA
              simp only [laws_FnBreaks.l0] at H
              by_cases c31 : x6_2 < (t241.length : Int)
              · rw [if_pos c31] at H
                have c31b0 : decide (x6_2 < (t241.length : Int)) = true := decide_eq_true c31
                clear c31
                by_cases c32 : 0 ≤ x6_2
                · rw [if_pos c32] at H
                  have c32b0 : decide (0 ≤ x6_2) = true := decide_eq_true c32
                  clear c32
                  replace H := Option.bind_eq_some_iff.mp H
                  obtain ⟨t253, A330, H⟩ := H
                  replace H : (if t253 = 5 then (laws_FnBreaks.j2 k2 l0 t241 t244 x5_2 x6_2) else (laws_FnBreaks.j2 k2 l0 t241 t244 ((rd t241 x6_2) == 10) x6_2)) = some r := H
                  have A33 := Aside0.mk A330
                  clear A330
                  have HC34 := Aside0.mk H
                  clear H
                  have p252 : 0 ≤ (x6_2 : Int) := of_decide_eq_true (by first | (with_reducible assumption) | assumption)
                  have q252 : x6_2 < (t241.length : Int) := of_decide_eq_true (by first | (with_reducible assumption) | assumption)
                  obtain ⟨ad252, e252, hx252_0⟩ := Kd.at_int (Kd.R_reads' HO_3.out).2.2 x6_2 p252 q252
                  cases e252
                  replace p252 := eq_true p252
                  replace q252 := eq_true q252
                  go_upto_if 59 with (first | ((with_reducible refine gate_callee (f := 25) rfl ?_); refine goesL_ (some 58) rfl rfl Try.func25 (by kernel_rfl) rfl #[.int .i64 (rd t241 x6_2)] rfl (by (try simp only [List.map_toArray, List.map_cons, List.map_nil]); first | done | rfl | (simp only [List.length_drop, List.length_take]; rfl)) ?_; (with_reducible refine (spec_BreakClass.calls k2 (rd t241 x6_2) t253 _ A33.out).mono ?_); rintro e w' ⟨rfl, ⟨nd, rfl⟩⟩; refine ⟨_, rfl, ?_⟩))
                  (try simp only [Act.put, List.setIfInBounds_toArray, List.set_cons_zero, List.set_cons_succ])
                  go_cut [5] (fun v5 wc => ∃ (kq : Nat) (x5_33 : Bool), v5 = .bool x5_33 ∧ Aside0 (laws_FnBreaks.j2 kq l0 t241 t244 x5_33 x6_2 = some r) ∧ Aside0 (kq ≤ k2) ∧ Aside0 (Kd.R (Kd.int .i64) 3 wc w.heap.size (fun k_ => some k_ ≠ (v245 : Value).ownBlock) (.slice (some ad252) t241.length co8) t241) ∧ Aside0 (Kd.R (Kd.int .i64) 3 wc w.heap.size (fun k_ => some k_ ≠ ((.slice (some ad252) t241.length co8) : Value).ownBlock) v245 t244) ∧ Aside0 (Below w.heap.size w wc))
                  case first =>
                    have H := HC34.out
                    clear HC34
                    by_cases c35 : t253 = 5
                    · rw [if_pos c35] at H
                      have c35b0 : (t253 == 5) = true := beq_iff_eq.mpr c35
                      have c35b1 : (t253 != 5) = false := bne_eq_false_iff_eq.mpr c35
                      clear c35
                      (first | rw [c35b0] | (simp only [i64_w, i32_w]; rw [c35b0]) | skip)
                      have H' := Aside0.mk H
                      clear H
                      go_wp2
                      go_meet
                      case rel => exact ⟨_, (x5_2), (by first | rfl | (simp; done) | (simp [*]; done)), H', ⟨by have := HJ5.out; have := HK2.out; first | omega | exact Nat.le_refl _⟩, ⟨by (with_reducible repeat (first | apply Kd.R_alloc | apply Kd.R_drewN | apply Kd.R_drew)); exact HO_3.out⟩, ⟨by (with_reducible repeat (first | apply Kd.R_alloc | apply Kd.R_drewN | apply Kd.R_drew)); exact HO_4.out⟩, ⟨by repeat (first | (with_reducible first | exact HB.out | apply below_alloc | apply pw_below_drewN | apply below_drew1) | exact HB.out)⟩⟩
                    · rw [if_neg c35] at H
                      have c35b0 : (t253 == 5) = false := beq_eq_false_iff_ne.mpr c35
                      have c35b1 : (t253 != 5) = true := bne_iff_ne.mpr c35
                      (first | rw [c35b0] | (simp only [i64_w, i32_w]; rw [c35b0]) | skip)
                      have H' := Aside0.mk H
                      clear H
                      have p254 : 0 ≤ (x6_2 : Int) := of_decide_eq_true (by first | (with_reducible assumption) | assumption)
                      have q254 : x6_2 < (t241.length : Int) := of_decide_eq_true (by first | (with_reducible assumption) | assumption)
                      obtain ⟨ad254, e254, hx254_0⟩ := Kd.at_int (Kd.R_reads' HO_3.out).2.2 x6_2 p254 q254
                      obtain rfl : ad252 = ad254 := (by injection e254)
                      replace p254 := eq_true p254
                      replace q254 := eq_true q254
                      go_wp2
                      go_meet
                      case rel => exact ⟨_, (((rd t241 x6_2) == 10)), (by first | rfl | (simp; done) | (simp [*]; done)), H', ⟨by have := HJ5.out; have := HK2.out; first | omega | exact Nat.le_refl _⟩, ⟨by (with_reducible repeat (first | apply Kd.R_alloc | apply Kd.R_drewN | apply Kd.R_drew)); exact HO_3.out⟩, ⟨by (with_reducible repeat (first | apply Kd.R_alloc | apply Kd.R_drewN | apply Kd.R_drew)); exact HO_4.out⟩, ⟨by repeat (first | (with_reducible first | exact HB.out | apply below_alloc | apply pw_below_drewN | apply below_drew1) | exact HB.out)⟩⟩
                  case rest =>
                    clear HC34
                    try clear c1
                    try clear c2
                    try clear p2
                    try clear q2
                    try clear hx2
                    try clear c3
                    try clear c5
                    try clear p6
                    try clear c12
                    try clear c13
                    try clear c13b0
                    try clear c13b1
                    try clear c13b2
                    try clear c14
                    try clear c14b0
                    try clear c14b1
                    try clear c16
                    try clear c16b0
                    try clear c17
                    try clear c17b0
                    try clear c20
                    try clear c21
                    try clear c22
                    try clear c23
                    try clear c24
                    try clear c25
                    try clear p25
                    try clear q25
                    try clear hx25
                    try clear c30
                    try clear c31
                    try clear c31b0
                    try clear c32
                    try clear c32b0
                    try clear c35
                    try clear c35b0
                    try clear c35b1
                    try clear hx251_0
                    try clear hx252_0
                    try clear hx254_0
                    try clear p2
                    try clear p25
                    try clear p251
                    try clear p252
                    try clear p254
                    try clear p6
                    try clear q2
                    try clear q25
                    try clear q251
                    try clear q252
                    try clear q254
                    obtain ⟨kq, x5_33, rfl, HA, HJ33, HO_3, HO_4, HB⟩ := hcut
                    cases kq with
                    | zero => exact absurd HA.out (by simp [laws_FnBreaks.j2])
                    | succ kj33 =>
                      have H := HA.out
                      clear HA
                      simp only [laws_FnBreaks.j2] at H
                      have HC36 := Aside0.mk H
                      clear H
                      go_upto_region 13 with (fail)
                      go_cut [73] (fun v73 wc => ∃ (kq : Nat) (x73_35 : Bool), v73 = .bool x73_35 ∧ Aside0 (laws_FnBreaks.j3 kq l0 t241 t244 x5_33 x6_2 x73_35 = some r) ∧ Aside0 (kq ≤ kj33) ∧ Aside0 (Kd.R (Kd.int .i64) 3 wc w.heap.size (fun k_ => some k_ ≠ (v245 : Value).ownBlock) (.slice (some ad252) t241.length co8) t241) ∧ Aside0 (Kd.R (Kd.int .i64) 3 wc w.heap.size (fun k_ => some k_ ≠ ((.slice (some ad252) t241.length co8) : Value).ownBlock) v245 t244) ∧ Aside0 (Below w.heap.size w wc))
                      case first =>
                        have H := HC36.out
                        clear HC36
                        by_cases c37 : 0 ≤ x6_2
                        · rw [if_pos c37] at H
                          have c37b0 : decide (0 ≤ x6_2) = true := decide_eq_true c37
                          clear c37
                          (first | rw [c37b0] | (simp only [i64_w, i32_w]; rw [c37b0]) | skip)
                          by_cases c38 : x6_2 < (t244.length : Int)
                          · rw [if_pos c38] at H
                            have c38b0 : decide (x6_2 < (t244.length : Int)) = true := decide_eq_true c38
                            clear c38
                            by_cases c39 : (rd t244 x6_2) = 2
                            · rw [if_pos c39] at H
                              have c39b0 : ((rd t244 x6_2) == 2) = true := beq_iff_eq.mpr c39
                              have c39b1 : ((rd t244 x6_2) != 2) = false := bne_eq_false_iff_eq.mpr c39
                              clear c39
                              have H' := Aside0.mk H
                              clear H
                              obtain ⟨Ao40, co40, eo40⟩ := Kd.R_slice HO_4.out
                              subst eo40
                              have p255 : 0 ≤ (x6_2 : Int) := of_decide_eq_true (by first | (with_reducible assumption) | assumption)
                              have q255 : x6_2 < (t244.length : Int) := of_decide_eq_true (by first | (with_reducible assumption) | assumption)
                              obtain ⟨ad255, e255, hx255_0⟩ := Kd.at_int (Kd.R_reads' HO_4.out).2.2 x6_2 p255 q255
                              cases e255
                              replace p255 := eq_true p255
                              replace q255 := eq_true q255
                              go_wp2
                              go_meet
                              case rel => exact ⟨_, (!x5_33), (by first | rfl | (simp; done) | (simp [*]; done)), H', ⟨by have := HJ5.out; have := HK2.out; have := HJ33.out; first | omega | exact Nat.le_refl _⟩, ⟨by (with_reducible repeat (first | apply Kd.R_alloc | apply Kd.R_drewN | apply Kd.R_drew)); exact HO_3.out⟩, ⟨by (with_reducible repeat (first | apply Kd.R_alloc | apply Kd.R_drewN | apply Kd.R_drew)); exact HO_4.out⟩, ⟨by repeat (first | (with_reducible first | exact HB.out | apply below_alloc | apply pw_below_drewN | apply below_drew1) | exact HB.out)⟩⟩
                            · rw [if_neg c39] at H
                              have c39b0 : ((rd t244 x6_2) == 2) = false := beq_eq_false_iff_ne.mpr c39
                              have c39b1 : ((rd t244 x6_2) != 2) = true := bne_iff_ne.mpr c39
                              have H' := Aside0.mk H
                              clear H
                              obtain ⟨Ao41, co41, eo41⟩ := Kd.R_slice HO_4.out
                              subst eo41
                              have p255 : 0 ≤ (x6_2 : Int) := of_decide_eq_true (by first | (with_reducible assumption) | assumption)
                              have q255 : x6_2 < (t244.length : Int) := of_decide_eq_true (by first | (with_reducible assumption) | assumption)
                              obtain ⟨ad255, e255, hx255_0⟩ := Kd.at_int (Kd.R_reads' HO_4.out).2.2 x6_2 p255 q255
                              cases e255
                              replace p255 := eq_true p255
                              replace q255 := eq_true q255
                              go_wp2
                              go_meet
                              case rel => exact ⟨_, (false), (by first | rfl | (simp; done) | (simp [*]; done)), H', ⟨by have := HJ5.out; have := HK2.out; have := HJ33.out; first | omega | exact Nat.le_refl _⟩, ⟨by (with_reducible repeat (first | apply Kd.R_alloc | apply Kd.R_drewN | apply Kd.R_drew)); exact HO_3.out⟩, ⟨by (with_reducible repeat (first | apply Kd.R_alloc | apply Kd.R_drewN | apply Kd.R_drew)); exact HO_4.out⟩, ⟨by repeat (first | (with_reducible first | exact HB.out | apply below_alloc | apply pw_below_drewN | apply below_drew1) | exact HB.out)⟩⟩
                          · rw [if_neg c38] at H
                            exact absurd H (by simp)
                        · rw [if_neg c37] at H
                          exact absurd H (by simp)
                      case rest =>
                        clear HC36
                        try clear c1
                        try clear c2
                        try clear p2
                        try clear q2
                        try clear hx2
                        try clear c3
                        try clear c5
                        try clear p6
                        try clear c12
                        try clear c13
                        try clear c13b0
                        try clear c13b1
                        try clear c13b2
                        try clear c14
                        try clear c14b0
                        try clear c14b1
                        try clear c16
                        try clear c16b0
                        try clear c17
                        try clear c17b0
                        try clear c20
                        try clear c21
                        try clear c22
                        try clear c23
                        try clear c24
                        try clear c25
                        try clear p25
                        try clear q25
                        try clear hx25
                        try clear c30
                        try clear c31
                        try clear c31b0
                        try clear c32
                        try clear c32b0
                        try clear c35
                        try clear c35b0
                        try clear c35b1
                        try clear c37
                        try clear c37b0
                        try clear c38
                        try clear c38b0
                        try clear c39
                        try clear c39b0
                        try clear c39b1
                        try clear hx251_0
                        try clear hx252_0
                        try clear hx254_0
                        try clear hx255_0
                        try clear p2
                        try clear p25
                        try clear p251
                        try clear p252
                        try clear p254
                        try clear p255
                        try clear p6
                        try clear q2
                        try clear q25
                        try clear q251
                        try clear q252
                        try clear q254
                        try clear q255
                        obtain ⟨kq, x73_35, rfl, HA, HJ35, HO_3, HO_4, HB⟩ := hcut
                        cases kq with
                        | zero => exact absurd HA.out (by simp [laws_FnBreaks.j3])
                        | succ kj35 =>
                          have H := HA.out
                          clear HA
                          simp only [laws_FnBreaks.j3] at H
                          by_cases c42 : x73_35 = true
                          · subst c42
                            have H1 : (some false) = some r := by rw [if_pos rfl] at H; exact H
                            clear H
                            have H := H1
                            clear H1
                            obtain rfl := Option.some.inj H
                            go_wp2
                            go_ret
                            exact ⟨by first | rfl | (simp [errW_none, errW_some] <;> rfl) | (simp [*, errW_none, errW_some] <;> rfl), by repeat (first | (with_reducible first | exact HB.out | apply below_alloc | apply pw_below_drewN | apply below_drew1) | exact HB.out)⟩
                          · replace c42 := Bool.eq_false_iff.mpr c42
                            subst c42
                            have H1 : (if (wrap64 (x6_2 + 1)) < (t241.length : Int) then (if 0 ≤ (wrap64 (x6_2 + 1)) then (if (rd t241 (wrap64 (x6_2 + 1))) = 32 then (if x5_33 = true then (laws_FnBreaks.l0 kj35 l0 t241 t244 x5_33 (wrap64 (x6_2 + 1))) else (if 0 ≤ x6_2 then (if x6_2 < (t244.length : Int) then (if (rd t244 x6_2) = 0 then (laws_FnBreaks.l0 kj35 l0 t241 t244 x5_33 (wrap64 (x6_2 + 1))) else (some false)) else (none)) else (none))) else (laws_FnBreaks.l0 kj35 l0 t241 t244 x5_33 (wrap64 (x6_2 + 1)))) else (none)) else (laws_FnBreaks.l0 kj35 l0 t241 t244 x5_33 (wrap64 (x6_2 + 1)))) = some r := by rw [if_neg (show ¬ (false = true) by decide)] at H; exact H
                            clear H
                            have H := H1
                            clear H1
                            by_cases c43 : (wrap64 (x6_2 + 1)) < (t241.length : Int)
                            · rw [if_pos c43] at H
                              have c43b0 : decide ((wrap64 (x6_2 + 1)) < (t241.length : Int)) = true := decide_eq_true c43
                              clear c43
                              obtain ⟨ji44, hji44⟩ : ∃ j_ : Int, (wrap64 (x6_2 + 1)) = j_ := ⟨_, rfl⟩
                              replace H : (if 0 ≤ (ji44) then (if (rd t241 (ji44)) = 32 then (if x5_33 = true then (laws_FnBreaks.l0 kj35 l0 t241 t244 x5_33 ji44) else (if 0 ≤ x6_2 then (if x6_2 < (t244.length : Int) then (if (rd t244 x6_2) = 0 then (laws_FnBreaks.l0 kj35 l0 t241 t244 x5_33 ji44) else (some false)) else (none)) else (none))) else (laws_FnBreaks.l0 kj35 l0 t241 t244 x5_33 ji44)) else (none)) = some r := by first | (rw [hji44] at H; exact H) | (simp only [hji44] at H ⊢; exact H)
                              (try rw [hji44] at c43b0)
                              have hji44w : (IntKind.i64.wrap (x6_2 + 1)) = ji44 := (i64_w _).trans hji44
                              by_cases c45 : 0 ≤ (ji44)
                              · rw [if_pos c45] at H
                                have c45b0 : decide (0 ≤ (ji44)) = true := decide_eq_true c45
                                clear c45
                                by_cases c46 : (rd t241 (ji44)) = 32
                                · rw [if_pos c46] at H
                                  have c46b0 : ((rd t241 (ji44)) == 32) = true := beq_iff_eq.mpr c46
                                  have c46b1 : ((rd t241 (ji44)) != 32) = false := bne_eq_false_iff_eq.mpr c46
                                  clear c46
                                  by_cases c47 : x5_33 = true
                                  · subst c47
                                    have H1 : (laws_FnBreaks.l0 kj35 l0 t241 t244 true ji44) = some r := by rw [if_pos rfl] at H; exact H
                                    clear H
                                    have H := H1
                                    clear H1
                                    have H' := Aside0.mk H
                                    clear H
                                    have p256 : 0 ≤ ((ji44) : Int) := of_decide_eq_true (by first | (with_reducible assumption) | assumption)
                                    have q256 : (ji44) < (t241.length : Int) := of_decide_eq_true (by first | (with_reducible assumption) | assumption)
                                    obtain ⟨ad256, e256, hx256_0⟩ := Kd.at_int (Kd.R_reads' HO_3.out).2.2 (ji44) p256 q256
                                    obtain rfl : ad252 = ad256 := (by injection e256)
                                    replace p256 := eq_true p256
                                    replace q256 := eq_true q256
                                    go_wp2
                                    go_roundg kj35
                                    case measure => have := HJ5.out; have := HK2.out; have := HJ33.out; have := HJ35.out; omega
                                    case rel => exact ⟨(true), (ji44), (by first | rfl | (simp; done) | (simp [*]; done)), (by first | rfl | (simp; done) | (simp only [← hji44] <;> (first | rfl | simp)) | (simp [*]; done)), H', ⟨by have := HJ5.out; have := HK2.out; have := HJ33.out; have := HJ35.out; omega⟩, ⟨by (with_reducible repeat (first | apply Kd.R_alloc | apply Kd.R_drewN | apply Kd.R_drew)); exact HO_3.out⟩, ⟨by (with_reducible repeat (first | apply Kd.R_alloc | apply Kd.R_drewN | apply Kd.R_drew)); exact HO_4.out⟩, ⟨by repeat (first | (with_reducible first | exact HB.out | apply below_alloc | apply pw_below_drewN | apply below_drew1) | exact HB.out)⟩⟩
                                  · replace c47 := Bool.eq_false_iff.mpr c47
                                    subst c47
                                    have H1 : (if 0 ≤ x6_2 then (if x6_2 < (t244.length : Int) then (if (rd t244 x6_2) = 0 then (laws_FnBreaks.l0 kj35 l0 t241 t244 false ji44) else (some false)) else (none)) else (none)) = some r := by rw [if_neg (show ¬ (false = true) by decide)] at H; exact H
                                    clear H
                                    have H := H1
                                    clear H1
                                    by_cases c48 : 0 ≤ x6_2
                                    · rw [if_pos c48] at H
                                      have c48b0 : decide (0 ≤ x6_2) = true := decide_eq_true c48
                                      clear c48
                                      by_cases c49 : x6_2 < (t244.length : Int)
                                      · rw [if_pos c49] at H
                                        have c49b0 : decide (x6_2 < (t244.length : Int)) = true := decide_eq_true c49
                                        clear c49
                                        by_cases c50 : (rd t244 x6_2) = 0
                                        · rw [if_pos c50] at H
                                          have c50b0 : ((rd t244 x6_2) == 0) = true := beq_iff_eq.mpr c50
                                          have c50b1 : ((rd t244 x6_2) != 0) = false := bne_eq_false_iff_eq.mpr c50
                                          clear c50
                                          have H' := Aside0.mk H
                                          clear H
                                          have p256 : 0 ≤ ((ji44) : Int) := of_decide_eq_true (by first | (with_reducible assumption) | assumption)
                                          have q256 : (ji44) < (t241.length : Int) := of_decide_eq_true (by first | (with_reducible assumption) | assumption)
                                          obtain ⟨ad256, e256, hx256_0⟩ := Kd.at_int (Kd.R_reads' HO_3.out).2.2 (ji44) p256 q256
                                          obtain rfl : ad252 = ad256 := (by injection e256)
                                          replace p256 := eq_true p256
                                          replace q256 := eq_true q256
                                          obtain ⟨Ao51, co51, eo51⟩ := Kd.R_slice HO_4.out
                                          subst eo51
                                          have p257 : 0 ≤ (x6_2 : Int) := of_decide_eq_true (by first | (with_reducible assumption) | assumption)
                                          have q257 : x6_2 < (t244.length : Int) := of_decide_eq_true (by first | (with_reducible assumption) | assumption)
                                          obtain ⟨ad257, e257, hx257_0⟩ := Kd.at_int (Kd.R_reads' HO_4.out).2.2 x6_2 p257 q257
                                          cases e257
                                          replace p257 := eq_true p257
                                          replace q257 := eq_true q257
                                          go_wp2
                                          go_roundg kj35
                                          case measure => have := HJ5.out; have := HK2.out; have := HJ33.out; have := HJ35.out; omega
                                          case rel => exact ⟨(false), (ji44), (by first | rfl | (simp; done) | (simp [*]; done)), (by first | rfl | (simp; done) | (simp only [← hji44] <;> (first | rfl | simp)) | (simp [*]; done)), H', ⟨by have := HJ5.out; have := HK2.out; have := HJ33.out; have := HJ35.out; omega⟩, ⟨by (with_reducible repeat (first | apply Kd.R_alloc | apply Kd.R_drewN | apply Kd.R_drew)); exact HO_3.out⟩, ⟨by (with_reducible repeat (first | apply Kd.R_alloc | apply Kd.R_drewN | apply Kd.R_drew)); exact HO_4.out⟩, ⟨by repeat (first | (with_reducible first | exact HB.out | apply below_alloc | apply pw_below_drewN | apply below_drew1) | exact HB.out)⟩⟩
                                        · rw [if_neg c50] at H
                                          have c50b0 : ((rd t244 x6_2) == 0) = false := beq_eq_false_iff_ne.mpr c50
                                          have c50b1 : ((rd t244 x6_2) != 0) = true := bne_iff_ne.mpr c50
                                          obtain rfl := Option.some.inj H
                                          have p256 : 0 ≤ ((ji44) : Int) := of_decide_eq_true (by first | (with_reducible assumption) | assumption)
                                          have q256 : (ji44) < (t241.length : Int) := of_decide_eq_true (by first | (with_reducible assumption) | assumption)
                                          obtain ⟨ad256, e256, hx256_0⟩ := Kd.at_int (Kd.R_reads' HO_3.out).2.2 (ji44) p256 q256
                                          obtain rfl : ad252 = ad256 := (by injection e256)
                                          replace p256 := eq_true p256
                                          replace q256 := eq_true q256
                                          obtain ⟨Ao52, co52, eo52⟩ := Kd.R_slice HO_4.out
                                          subst eo52
                                          have p257 : 0 ≤ (x6_2 : Int) := of_decide_eq_true (by first | (with_reducible assumption) | assumption)
                                          have q257 : x6_2 < (t244.length : Int) := of_decide_eq_true (by first | (with_reducible assumption) | assumption)
                                          obtain ⟨ad257, e257, hx257_0⟩ := Kd.at_int (Kd.R_reads' HO_4.out).2.2 x6_2 p257 q257
                                          cases e257
                                          replace p257 := eq_true p257
                                          replace q257 := eq_true q257
                                          go_wp2
                                          go_ret
                                          exact ⟨by first | rfl | (simp [errW_none, errW_some] <;> rfl) | (simp only [← hji44]; first | rfl | (simp [errW_none, errW_some] <;> rfl)) | (simp [*, errW_none, errW_some] <;> rfl), by repeat (first | (with_reducible first | exact HB.out | apply below_alloc | apply pw_below_drewN | apply below_drew1) | exact HB.out)⟩
                                      · rw [if_neg c49] at H
                                        exact absurd H (by simp)
                                    · rw [if_neg c48] at H
                                      exact absurd H (by simp)
                                · rw [if_neg c46] at H
                                  have c46b0 : ((rd t241 (ji44)) == 32) = false := beq_eq_false_iff_ne.mpr c46
                                  have c46b1 : ((rd t241 (ji44)) != 32) = true := bne_iff_ne.mpr c46
                                  have H' := Aside0.mk H
                                  clear H
                                  have p256 : 0 ≤ ((ji44) : Int) := of_decide_eq_true (by first | (with_reducible assumption) | assumption)
                                  have q256 : (ji44) < (t241.length : Int) := of_decide_eq_true (by first | (with_reducible assumption) | assumption)
                                  obtain ⟨ad256, e256, hx256_0⟩ := Kd.at_int (Kd.R_reads' HO_3.out).2.2 (ji44) p256 q256
                                  obtain rfl : ad252 = ad256 := (by injection e256)
                                  replace p256 := eq_true p256
                                  replace q256 := eq_true q256
                                  go_wp2
                                  go_roundg kj35
                                  case measure => have := HJ5.out; have := HK2.out; have := HJ33.out; have := HJ35.out; omega
                                  case rel => exact ⟨(x5_33), (ji44), (by first | rfl | (simp; done) | (simp [*]; done)), (by first | rfl | (simp; done) | (simp only [← hji44] <;> (first | rfl | simp)) | (simp [*]; done)), H', ⟨by have := HJ5.out; have := HK2.out; have := HJ33.out; have := HJ35.out; omega⟩, ⟨by (with_reducible repeat (first | apply Kd.R_alloc | apply Kd.R_drewN | apply Kd.R_drew)); exact HO_3.out⟩, ⟨by (with_reducible repeat (first | apply Kd.R_alloc | apply Kd.R_drewN | apply Kd.R_drew)); exact HO_4.out⟩, ⟨by repeat (first | (with_reducible first | exact HB.out | apply below_alloc | apply pw_below_drewN | apply below_drew1) | exact HB.out)⟩⟩
                              · rw [if_neg c45] at H
                                exact absurd H (by simp)
                            · rw [if_neg c43] at H
                              have c43b0 : decide ((wrap64 (x6_2 + 1)) < (t241.length : Int)) = false := decide_eq_false c43
                              clear c43
                              have H' := Aside0.mk H
                              clear H
                              go_wp2
                              go_roundg kj35
                              case measure => have := HJ5.out; have := HK2.out; have := HJ33.out; have := HJ35.out; omega
                              case rel => exact ⟨(x5_33), (wrap64 (x6_2 + 1)), (by first | rfl | (simp; done) | (simp [*]; done)), (by first | rfl | (simp; done) | (simp [*]; done)), H', ⟨by have := HJ5.out; have := HK2.out; have := HJ33.out; have := HJ35.out; omega⟩, ⟨by (with_reducible repeat (first | apply Kd.R_alloc | apply Kd.R_drewN | apply Kd.R_drew)); exact HO_3.out⟩, ⟨by (with_reducible repeat (first | apply Kd.R_alloc | apply Kd.R_drewN | apply Kd.R_drew)); exact HO_4.out⟩, ⟨by repeat (first | (with_reducible first | exact HB.out | apply below_alloc | apply pw_below_drewN | apply below_drew1) | exact HB.out)⟩⟩
                · rw [if_neg c32] at H
                  exact absurd H (by simp)
              · rw [if_neg c31] at H
                have c31b0 : decide (x6_2 < (t241.length : Int)) = false := decide_eq_false c31
                clear c31
                replace H := Option.bind_eq_some_iff.mp H
                obtain ⟨⟨t258, t259, t260⟩, A530, H⟩ := H
                replace H : ((impl_Collapse.f k2 t258 t259 t260).bind fun bt261 => ((impl_Collapse.f k2 bt261.1 t259 t260).bind fun bt263 => ((spec_Collapse.f k2 t258 t259 t260).bind fun bt265 => (if bt261.1.toList = bt265.1.toList then (if (bt261.2 == bt265.2) = true then (some (bt263.1.toList == bt261.1.toList)) else (some false)) else (some false))))) = some r := H
                have A53 := Aside0.mk A530
                clear A530
                replace H := Option.bind_eq_some_iff.mp H
                obtain ⟨⟨t261, t262⟩, A540, H⟩ := H
                replace H : ((impl_Collapse.f k2 t261 t259 t260).bind fun bt263 => ((spec_Collapse.f k2 t258 t259 t260).bind fun bt265 => (if t261.toList = bt265.1.toList then (if (t262 == bt265.2) = true then (some (bt263.1.toList == t261.toList)) else (some false)) else (some false)))) = some r := H
                have A54 := Aside0.mk A540
                clear A540
                replace H := Option.bind_eq_some_iff.mp H
                obtain ⟨⟨t263, t264⟩, A550, H⟩ := H
                replace H : ((spec_Collapse.f k2 t258 t259 t260).bind fun bt265 => (if t261.toList = bt265.1.toList then (if (t262 == bt265.2) = true then (some (t263.toList == t261.toList)) else (some false)) else (some false))) = some r := H
                have A55 := Aside0.mk A550
                clear A550
                replace H := Option.bind_eq_some_iff.mp H
                obtain ⟨⟨t265, t266⟩, A560, H⟩ := H
                replace H : (if t261.toList = t265.toList then (if (t262 == t266) = true then (some (t263.toList == t261.toList)) else (some false)) else (some false)) = some r := H
                have A56 := Aside0.mk A560
                clear A560
                by_cases c57 : t261.toList = t265.toList
                · rw [if_pos c57] at H
                  have c57b0 : (t261.toList == t265.toList) = true := beq_iff_eq.mpr c57
                  have c57b1 : (t261.toList != t265.toList) = false := bne_eq_false_iff_eq.mpr c57
                  clear c57
                  by_cases c58 : (t262 == t266) = true
                  · rw [if_pos c58] at H
                    have c58b0 : (t262 == t266) = true := c58
                    (try (have c58b1 : decide (t262 = t266) = true := by simpa using c58))
                    (try (have c58b2 : (t262 == t266) = true := by simpa using c58))
                    clear c58
                    obtain rfl := Option.some.inj H
                    go_wp2_with (first | ((with_reducible refine gate_callee (f := 26) rfl ?_); refine goesL_ (some 100) rfl rfl Try.func26 (by kernel_rfl) rfl #[.slice A0 l0.length c0] rfl (by (try simp only [List.map_toArray, List.map_cons, List.map_nil]); first | done | rfl | (simp only [List.length_drop, List.length_take]; rfl)) ?_; (with_reducible refine (spec_DrawCollapse.calls k2 _ _ l0 t258 t259 t260 _ ?side1 ?side2 A53.out).mono ?_); (case side1 => repeat (first | exact (Kd.C_below HR0.out HB.out) | (with_reducible refine Kd.C_alloc ?_ _) | (with_reducible refine Kd.C_drewN ?_ _) | (with_reducible refine Kd.C_drew ?_))); (case side2 => exact HC0.out); rintro e w59 ⟨rfl, hb⟩; refine ⟨_, rfl, ?_⟩; have n0_ := Aside0.mk (Kd.R_below (by (with_reducible repeat (first | apply Kd.R_alloc | apply Kd.R_drewN | apply Kd.R_drew)); exact HO_3.out) hb); have n1_ := Aside0.mk (Kd.R_below (by (with_reducible repeat (first | apply Kd.R_alloc | apply Kd.R_drewN | apply Kd.R_drew)); exact HO_4.out) hb); have n2_ := Aside0.mk (below_step (by repeat (first | (with_reducible first | exact HB.out | apply below_alloc | apply pw_below_drewN | apply below_drew1) | exact HB.out)) hb); clear HO_3; clear HO_4; clear HB; have HO_3 := n0_; have HO_4 := n1_; have HB := n2_; clear n0_ n1_ n2_; (try clear hb); (try clear hb2); (try clear hk); (try clear hi)) | ((with_reducible refine gate_callee (f := 27) rfl ?_); refine goesL_ (some 108) rfl rfl Try.func27 (by kernel_rfl) rfl #[.string t258, .int .i64 t259, .bool t260] rfl (by (try simp only [List.map_toArray, List.map_cons, List.map_nil]); first | done | rfl | (simp only [List.length_drop, List.length_take]; rfl)) ?_; (with_reducible refine (impl_Collapse.calls k2 t258 t259 t260 t261 t262 _ A54.out).mono ?_); rintro e w60 ⟨rfl, hb⟩; refine ⟨_, rfl, ?_⟩; have n0_ := Aside0.mk (Kd.R_below (by (with_reducible repeat (first | apply Kd.R_alloc | apply Kd.R_drewN | apply Kd.R_drew)); exact HO_3.out) hb); have n1_ := Aside0.mk (Kd.R_below (by (with_reducible repeat (first | apply Kd.R_alloc | apply Kd.R_drewN | apply Kd.R_drew)); exact HO_4.out) hb); have n2_ := Aside0.mk (below_step (by repeat (first | (with_reducible first | exact HB.out | apply below_alloc | apply pw_below_drewN | apply below_drew1) | exact HB.out)) hb); clear HO_3; clear HO_4; clear HB; have HO_3 := n0_; have HO_4 := n1_; have HB := n2_; clear n0_ n1_ n2_; (try clear hb); (try clear hb2); (try clear hk); (try clear hi)) | ((with_reducible refine gate_callee (f := 27) rfl ?_); refine goesL_ (some 115) rfl rfl Try.func27 (by kernel_rfl) rfl #[.string t261, .int .i64 t259, .bool t260] rfl (by (try simp only [List.map_toArray, List.map_cons, List.map_nil]); first | done | rfl | (simp only [List.length_drop, List.length_take]; rfl)) ?_; (with_reducible refine (impl_Collapse.calls k2 t261 t259 t260 t263 t264 _ A55.out).mono ?_); rintro e w61 ⟨rfl, hb⟩; refine ⟨_, rfl, ?_⟩; have n0_ := Aside0.mk (Kd.R_below (by (with_reducible repeat (first | apply Kd.R_alloc | apply Kd.R_drewN | apply Kd.R_drew)); exact HO_3.out) hb); have n1_ := Aside0.mk (Kd.R_below (by (with_reducible repeat (first | apply Kd.R_alloc | apply Kd.R_drewN | apply Kd.R_drew)); exact HO_4.out) hb); have n2_ := Aside0.mk (below_step (by repeat (first | (with_reducible first | exact HB.out | apply below_alloc | apply pw_below_drewN | apply below_drew1) | exact HB.out)) hb); clear HO_3; clear HO_4; clear HB; have HO_3 := n0_; have HO_4 := n1_; have HB := n2_; clear n0_ n1_ n2_; (try clear hb); (try clear hb2); (try clear hk); (try clear hi)) | ((with_reducible refine gate_callee (f := 28) rfl ?_); refine goesL_ (some 122) rfl rfl Try.func28 (by kernel_rfl) rfl #[.string t258, .int .i64 t259, .bool t260] rfl (by (try simp only [List.map_toArray, List.map_cons, List.map_nil]); first | done | rfl | (simp only [List.length_drop, List.length_take]; rfl)) ?_; (with_reducible refine (spec_Collapse.calls k2 t258 t259 t260 t265 t266 _ A56.out).mono ?_); rintro e w62 ⟨rfl, hb⟩; refine ⟨_, rfl, ?_⟩; have n0_ := Aside0.mk (Kd.R_below (by (with_reducible repeat (first | apply Kd.R_alloc | apply Kd.R_drewN | apply Kd.R_drew)); exact HO_3.out) hb); have n1_ := Aside0.mk (Kd.R_below (by (with_reducible repeat (first | apply Kd.R_alloc | apply Kd.R_drewN | apply Kd.R_drew)); exact HO_4.out) hb); have n2_ := Aside0.mk (below_step (by repeat (first | (with_reducible first | exact HB.out | apply below_alloc | apply pw_below_drewN | apply below_drew1) | exact HB.out)) hb); clear HO_3; clear HO_4; clear HB; have HO_3 := n0_; have HO_4 := n1_; have HB := n2_; clear n0_ n1_ n2_; (try clear hb); (try clear hb2); (try clear hk); (try clear hi)))
                    go_ret
                    exact ⟨by first | rfl | (simp [errW_none, errW_some] <;> rfl) | (simp [*, errW_none, errW_some] <;> rfl), by repeat (first | (with_reducible first | exact HB.out | apply below_alloc | apply pw_below_drewN | apply below_drew1) | exact HB.out)⟩
                  · rw [if_neg c58] at H
                    have c58b0 : (t262 == t266) = false := by simpa using c58
                    (try (have c58b1 : decide (t262 = t266) = false := by simpa using c58))
                    (try (have c58b2 : (t262 == t266) = false := by simpa using c58))
                    (try (have c58b3 : ¬ (t262 = t266) := by simpa using c58))
                    clear c58
                    obtain rfl := Option.some.inj H
                    go_wp2_with (first | ((with_reducible refine gate_callee (f := 26) rfl ?_); refine goesL_ (some 100) rfl rfl Try.func26 (by kernel_rfl) rfl #[.slice A0 l0.length c0] rfl (by (try simp only [List.map_toArray, List.map_cons, List.map_nil]); first | done | rfl | (simp only [List.length_drop, List.length_take]; rfl)) ?_; (with_reducible refine (spec_DrawCollapse.calls k2 _ _ l0 t258 t259 t260 _ ?side1 ?side2 A53.out).mono ?_); (case side1 => repeat (first | exact (Kd.C_below HR0.out HB.out) | (with_reducible refine Kd.C_alloc ?_ _) | (with_reducible refine Kd.C_drewN ?_ _) | (with_reducible refine Kd.C_drew ?_))); (case side2 => exact HC0.out); rintro e w63 ⟨rfl, hb⟩; refine ⟨_, rfl, ?_⟩; have n0_ := Aside0.mk (Kd.R_below (by (with_reducible repeat (first | apply Kd.R_alloc | apply Kd.R_drewN | apply Kd.R_drew)); exact HO_3.out) hb); have n1_ := Aside0.mk (Kd.R_below (by (with_reducible repeat (first | apply Kd.R_alloc | apply Kd.R_drewN | apply Kd.R_drew)); exact HO_4.out) hb); have n2_ := Aside0.mk (below_step (by repeat (first | (with_reducible first | exact HB.out | apply below_alloc | apply pw_below_drewN | apply below_drew1) | exact HB.out)) hb); clear HO_3; clear HO_4; clear HB; have HO_3 := n0_; have HO_4 := n1_; have HB := n2_; clear n0_ n1_ n2_; (try clear hb); (try clear hb2); (try clear hk); (try clear hi)) | ((with_reducible refine gate_callee (f := 27) rfl ?_); refine goesL_ (some 108) rfl rfl Try.func27 (by kernel_rfl) rfl #[.string t258, .int .i64 t259, .bool t260] rfl (by (try simp only [List.map_toArray, List.map_cons, List.map_nil]); first | done | rfl | (simp only [List.length_drop, List.length_take]; rfl)) ?_; (with_reducible refine (impl_Collapse.calls k2 t258 t259 t260 t261 t262 _ A54.out).mono ?_); rintro e w64 ⟨rfl, hb⟩; refine ⟨_, rfl, ?_⟩; have n0_ := Aside0.mk (Kd.R_below (by (with_reducible repeat (first | apply Kd.R_alloc | apply Kd.R_drewN | apply Kd.R_drew)); exact HO_3.out) hb); have n1_ := Aside0.mk (Kd.R_below (by (with_reducible repeat (first | apply Kd.R_alloc | apply Kd.R_drewN | apply Kd.R_drew)); exact HO_4.out) hb); have n2_ := Aside0.mk (below_step (by repeat (first | (with_reducible first | exact HB.out | apply below_alloc | apply pw_below_drewN | apply below_drew1) | exact HB.out)) hb); clear HO_3; clear HO_4; clear HB; have HO_3 := n0_; have HO_4 := n1_; have HB := n2_; clear n0_ n1_ n2_; (try clear hb); (try clear hb2); (try clear hk); (try clear hi)) | ((with_reducible refine gate_callee (f := 27) rfl ?_); refine goesL_ (some 115) rfl rfl Try.func27 (by kernel_rfl) rfl #[.string t261, .int .i64 t259, .bool t260] rfl (by (try simp only [List.map_toArray, List.map_cons, List.map_nil]); first | done | rfl | (simp only [List.length_drop, List.length_take]; rfl)) ?_; (with_reducible refine (impl_Collapse.calls k2 t261 t259 t260 t263 t264 _ A55.out).mono ?_); rintro e w65 ⟨rfl, hb⟩; refine ⟨_, rfl, ?_⟩; have n0_ := Aside0.mk (Kd.R_below (by (with_reducible repeat (first | apply Kd.R_alloc | apply Kd.R_drewN | apply Kd.R_drew)); exact HO_3.out) hb); have n1_ := Aside0.mk (Kd.R_below (by (with_reducible repeat (first | apply Kd.R_alloc | apply Kd.R_drewN | apply Kd.R_drew)); exact HO_4.out) hb); have n2_ := Aside0.mk (below_step (by repeat (first | (with_reducible first | exact HB.out | apply below_alloc | apply pw_below_drewN | apply below_drew1) | exact HB.out)) hb); clear HO_3; clear HO_4; clear HB; have HO_3 := n0_; have HO_4 := n1_; have HB := n2_; clear n0_ n1_ n2_; (try clear hb); (try clear hb2); (try clear hk); (try clear hi)) | ((with_reducible refine gate_callee (f := 28) rfl ?_); refine goesL_ (some 122) rfl rfl Try.func28 (by kernel_rfl) rfl #[.string t258, .int .i64 t259, .bool t260] rfl (by (try simp only [List.map_toArray, List.map_cons, List.map_nil]); first | done | rfl | (simp only [List.length_drop, List.length_take]; rfl)) ?_; (with_reducible refine (spec_Collapse.calls k2 t258 t259 t260 t265 t266 _ A56.out).mono ?_); rintro e w66 ⟨rfl, hb⟩; refine ⟨_, rfl, ?_⟩; have n0_ := Aside0.mk (Kd.R_below (by (with_reducible repeat (first | apply Kd.R_alloc | apply Kd.R_drewN | apply Kd.R_drew)); exact HO_3.out) hb); have n1_ := Aside0.mk (Kd.R_below (by (with_reducible repeat (first | apply Kd.R_alloc | apply Kd.R_drewN | apply Kd.R_drew)); exact HO_4.out) hb); have n2_ := Aside0.mk (below_step (by repeat (first | (with_reducible first | exact HB.out | apply below_alloc | apply pw_below_drewN | apply below_drew1) | exact HB.out)) hb); clear HO_3; clear HO_4; clear HB; have HO_3 := n0_; have HO_4 := n1_; have HB := n2_; clear n0_ n1_ n2_; (try clear hb); (try clear hb2); (try clear hk); (try clear hi)))
                    go_ret
                    exact ⟨by first | rfl | (simp [errW_none, errW_some] <;> rfl) | (simp [*, errW_none, errW_some] <;> rfl), by repeat (first | (with_reducible first | exact HB.out | apply below_alloc | apply pw_below_drewN | apply below_drew1) | exact HB.out)⟩
                · rw [if_neg c57] at H
                  have c57b0 : (t261.toList == t265.toList) = false := beq_eq_false_iff_ne.mpr c57
                  have c57b1 : (t261.toList != t265.toList) = true := bne_iff_ne.mpr c57
                  obtain rfl := Option.some.inj H
                  go_wp2_with (first | ((with_reducible refine gate_callee (f := 26) rfl ?_); refine goesL_ (some 100) rfl rfl Try.func26 (by kernel_rfl) rfl #[.slice A0 l0.length c0] rfl (by (try simp only [List.map_toArray, List.map_cons, List.map_nil]); first | done | rfl | (simp only [List.length_drop, List.length_take]; rfl)) ?_; (with_reducible refine (spec_DrawCollapse.calls k2 _ _ l0 t258 t259 t260 _ ?side1 ?side2 A53.out).mono ?_); (case side1 => repeat (first | exact (Kd.C_below HR0.out HB.out) | (with_reducible refine Kd.C_alloc ?_ _) | (with_reducible refine Kd.C_drewN ?_ _) | (with_reducible refine Kd.C_drew ?_))); (case side2 => exact HC0.out); rintro e w67 ⟨rfl, hb⟩; refine ⟨_, rfl, ?_⟩; have n0_ := Aside0.mk (Kd.R_below (by (with_reducible repeat (first | apply Kd.R_alloc | apply Kd.R_drewN | apply Kd.R_drew)); exact HO_3.out) hb); have n1_ := Aside0.mk (Kd.R_below (by (with_reducible repeat (first | apply Kd.R_alloc | apply Kd.R_drewN | apply Kd.R_drew)); exact HO_4.out) hb); have n2_ := Aside0.mk (below_step (by repeat (first | (with_reducible first | exact HB.out | apply below_alloc | apply pw_below_drewN | apply below_drew1) | exact HB.out)) hb); clear HO_3; clear HO_4; clear HB; have HO_3 := n0_; have HO_4 := n1_; have HB := n2_; clear n0_ n1_ n2_; (try clear hb); (try clear hb2); (try clear hk); (try clear hi)) | ((with_reducible refine gate_callee (f := 27) rfl ?_); refine goesL_ (some 108) rfl rfl Try.func27 (by kernel_rfl) rfl #[.string t258, .int .i64 t259, .bool t260] rfl (by (try simp only [List.map_toArray, List.map_cons, List.map_nil]); first | done | rfl | (simp only [List.length_drop, List.length_take]; rfl)) ?_; (with_reducible refine (impl_Collapse.calls k2 t258 t259 t260 t261 t262 _ A54.out).mono ?_); rintro e w68 ⟨rfl, hb⟩; refine ⟨_, rfl, ?_⟩; have n0_ := Aside0.mk (Kd.R_below (by (with_reducible repeat (first | apply Kd.R_alloc | apply Kd.R_drewN | apply Kd.R_drew)); exact HO_3.out) hb); have n1_ := Aside0.mk (Kd.R_below (by (with_reducible repeat (first | apply Kd.R_alloc | apply Kd.R_drewN | apply Kd.R_drew)); exact HO_4.out) hb); have n2_ := Aside0.mk (below_step (by repeat (first | (with_reducible first | exact HB.out | apply below_alloc | apply pw_below_drewN | apply below_drew1) | exact HB.out)) hb); clear HO_3; clear HO_4; clear HB; have HO_3 := n0_; have HO_4 := n1_; have HB := n2_; clear n0_ n1_ n2_; (try clear hb); (try clear hb2); (try clear hk); (try clear hi)) | ((with_reducible refine gate_callee (f := 27) rfl ?_); refine goesL_ (some 115) rfl rfl Try.func27 (by kernel_rfl) rfl #[.string t261, .int .i64 t259, .bool t260] rfl (by (try simp only [List.map_toArray, List.map_cons, List.map_nil]); first | done | rfl | (simp only [List.length_drop, List.length_take]; rfl)) ?_; (with_reducible refine (impl_Collapse.calls k2 t261 t259 t260 t263 t264 _ A55.out).mono ?_); rintro e w69 ⟨rfl, hb⟩; refine ⟨_, rfl, ?_⟩; have n0_ := Aside0.mk (Kd.R_below (by (with_reducible repeat (first | apply Kd.R_alloc | apply Kd.R_drewN | apply Kd.R_drew)); exact HO_3.out) hb); have n1_ := Aside0.mk (Kd.R_below (by (with_reducible repeat (first | apply Kd.R_alloc | apply Kd.R_drewN | apply Kd.R_drew)); exact HO_4.out) hb); have n2_ := Aside0.mk (below_step (by repeat (first | (with_reducible first | exact HB.out | apply below_alloc | apply pw_below_drewN | apply below_drew1) | exact HB.out)) hb); clear HO_3; clear HO_4; clear HB; have HO_3 := n0_; have HO_4 := n1_; have HB := n2_; clear n0_ n1_ n2_; (try clear hb); (try clear hb2); (try clear hk); (try clear hi)) | ((with_reducible refine gate_callee (f := 28) rfl ?_); refine goesL_ (some 122) rfl rfl Try.func28 (by kernel_rfl) rfl #[.string t258, .int .i64 t259, .bool t260] rfl (by (try simp only [List.map_toArray, List.map_cons, List.map_nil]); first | done | rfl | (simp only [List.length_drop, List.length_take]; rfl)) ?_; (with_reducible refine (spec_Collapse.calls k2 t258 t259 t260 t265 t266 _ A56.out).mono ?_); rintro e w70 ⟨rfl, hb⟩; refine ⟨_, rfl, ?_⟩; have n0_ := Aside0.mk (Kd.R_below (by (with_reducible repeat (first | apply Kd.R_alloc | apply Kd.R_drewN | apply Kd.R_drew)); exact HO_3.out) hb); have n1_ := Aside0.mk (Kd.R_below (by (with_reducible repeat (first | apply Kd.R_alloc | apply Kd.R_drewN | apply Kd.R_drew)); exact HO_4.out) hb); have n2_ := Aside0.mk (below_step (by repeat (first | (with_reducible first | exact HB.out | apply below_alloc | apply pw_below_drewN | apply below_drew1) | exact HB.out)) hb); clear HO_3; clear HO_4; clear HB; have HO_3 := n0_; have HO_4 := n1_; have HB := n2_; clear n0_ n1_ n2_; (try clear hb); (try clear hb2); (try clear hk); (try clear hi)))
                  go_ret
                  exact ⟨by first | rfl | (simp [errW_none, errW_some] <;> rfl) | (simp [*, errW_none, errW_some] <;> rfl), by repeat (first | (with_reducible first | exact HB.out | apply below_alloc | apply pw_below_drewN | apply below_drew1) | exact HB.out)⟩

/-- THE ONE PURE STATEMENT of laws_FnBreaks: yours. -/
def laws_FnBreaks.Pure : Prop := ∀ (l0 : List Int), l0.length ≤ maxLen → l0.length * 1 ≤ 140737488351232 → (∀ x ∈ l0, (Lit.int .u8 x).wf = true) → ∃ k, laws_FnBreaks.f k l0 = some true
theorem laws_FnBreaks.walk (P : laws_FnBreaks.Pure) (a0 : Option Addr) (len0 cap0 : Nat) (z0 : List Int) (w : World) (w0 : (a0 = none ∧ len0 = 0 ∧ cap0 = 0 ∧ z0 = []) ∨ ∃ x, a0 = some x ∧ len0 ≤ cap0 ∧ cap0 ≤ maxLen ∧ z0.length = cap0 ∧ (∀ i, i < z0.length → w.cell? (x.add i) = some (.int .u8 (z0.getD i 0))) ∧ ∀ n ∈ z0, (Lit.int .u8 n).wf = true) (y0 : len0 * 1 ≤ 140737488351232) :
    Calls Try.prog 5 #[.slice a0 len0 cap0] w fun e w' => e = .returned (.bool true) ∧ Below w.heap.size w w' := by
  obtain ⟨l0, rfl, hr0, hm0, hw0, hc0⟩ := ReadsInt.ofRowC w0
  obtain ⟨k, h⟩ := P l0 hm0 y0 hw0
  refine (laws_FnBreaks.calls k _ _ l0 true w (Kd.C_of_reads (d := (0 : Int)) (h1 := fun _ => rfl) hr0) hc0 h).mono ?_
  rintro e w' ⟨rfl, hd⟩
  exact ⟨rfl, hd⟩

end Go.Proofs.Ytpknhndanbgkmaa.MFnBreaks
