-- Written by this session's own program (wip/gen/myprint.py).
import Derived.Test.YtpknhndanbgkmaaMFnLevelsx0
import Derived.Test.YtpknhndanbgkmaaMFnLevelsx1
import Derived.Test.YtpknhndanbgkmaaMFnLevelsx2
import Derived.Test.YtpknhndanbgkmaaMFnLevelsx3
import Derived.Test.YtpknhndanbgkmaaMFnLevelsx8
import Derived.Test.YtpknhndanbgkmaaMFnLevelsx11
namespace Go.Proofs.Ytpknhndanbgkmaa.MFnLevels
open Go.RowKit Go.Proofs.YtpknhndanbgkmaaW.PrintWords Go.Proofs.YtpknhndanbgkmaaW.PrintLast Go.Proofs.YtpknhndanbgkmaaW.PrintMore
attribute [local go_sem] max2_int min2_int max_two min_two max_three min_three max_four min_four   -- for this text's walks alone
set_option linter.unusedVariables false
set_option linter.unusedSimpArgs false
mutual
def laws_FnLevels.j0 : Nat → List Int → List Int → List Int → Bool → Option (Bool)
 | 0, _, _, _, _ => none
 | k + 1, x3, x5, x6, x47 => if x47 = true then (some false) else (if 0 ≤ (x3.length : Int) then (if ((x3.length : Int) : Int).toNat ≤ 281474976710656 then (laws_FnLevels.l0 k x3 x5 x6 (List.replicate ((x3.length : Int) : Int).toNat false) 0) else (none)) else (none))
def laws_FnLevels.l0 : Nat → List Int → List Int → List Int → List Bool → Int → Option (Bool)
 | 0, _, _, _, _, _ => none
 | k + 1, x3, x5, x6, x7, x8 => if x8 < (x6.length : Int) then (if 0 ≤ x8 then (if (rd x6 x8) < 0 then (some false) else (if (rd x6 x8) ≥ (x3.length : Int) then (some false) else (if 0 ≤ (rd x6 x8) then (if (rd x6 x8) < (x7.length : Int) then (if rdOf false x7 (rd x6 x8) = true then (some false) else (if x8 < (x5.length : Int) then (if (rd x5 x8) < 0 then (some false) else (if (rd x5 x8) > 2 then (some false) else (laws_FnLevels.l0 k x3 x5 x6 (x7.set ((rd x6 x8) : Int).toNat true) (wrap64 (x8 + 1))))) else (none))) else (none)) else (none)))) else (none)) else (laws_FnLevels.l1 k x3 (([] : List Int)) (([] : List Int)) 0)
def laws_FnLevels.l1 : Nat → List Int → List Int → List Int → Int → Option (Bool)
 | 0, _, _, _, _ => none
 | k + 1, x3, x9, x10, x11 => if x11 < (x3.length : Int) then (if 0 ≤ x11 then ((spec_DirClass.f k (rd x3 x11)).bind fun t358 => (if t358 = 0 then (if x9.length < 17592186044416 then ((some (x9 ++ [rd x3 x11] : List Int)).bind fun y360 => ((spec_DirClass.f k (rd x3 x11)).bind fun t364 => (if t364 = 1 then (if x10.length < 17592186044416 then (laws_FnLevels.l1 k x3 y360 (x10 ++ [rd x3 x11]) (wrap64 (x11 + 1))) else (none)) else (laws_FnLevels.l1 k x3 y360 x10 (wrap64 (x11 + 1)))))) else (none)) else ((spec_DirClass.f k (rd x3 x11)).bind fun t370 => (if t370 = 1 then (if x10.length < 17592186044416 then (laws_FnLevels.l1 k x3 x9 (x10 ++ [rd x3 x11]) (wrap64 (x11 + 1))) else (none)) else (laws_FnLevels.l1 k x3 x9 x10 (wrap64 (x11 + 1))))))) else (none)) else ((impl_Levels.f k x9 0).bind fun t375 => ((impl_Visual.f t375).bind fun t378 => ((impl_Levels.f k x10 2).bind fun t381 => ((impl_Visual.f t381).bind fun t384 => (laws_FnLevels.l2 k x9 x10 t378 t384 0)))))
def laws_FnLevels.l2 : Nat → List Int → List Int → List Int → List Int → Int → Option (Bool)
 | 0, _, _, _, _, _ => none
 | k + 1, x9, x10, x12, x13, x14 => if x14 < (x9.length : Int) then (if x14 ≥ (x12.length : Int) then (some false) else (if 0 ≤ x14 then (if x14 < (x12.length : Int) then (if (rd x12 x14) = x14 then (laws_FnLevels.l2 k x9 x10 x12 x13 (wrap64 (x14 + 1))) else (some false)) else (none)) else (none))) else (laws_FnLevels.l3 k x10 x13 0)
def laws_FnLevels.l3 : Nat → List Int → List Int → Int → Option (Bool)
 | 0, _, _, _ => none
 | k + 1, x10, x13, x15 => if x15 < (x10.length : Int) then (if x15 ≥ (x13.length : Int) then (some false) else (if 0 ≤ x15 then (if x15 < (x13.length : Int) then (if (rd x13 x15) = (wrap64 ((wrap64 ((x10.length : Int) - 1)) - x15)) then (laws_FnLevels.l3 k x10 x13 (wrap64 (x15 + 1))) else (some false)) else (none)) else (none))) else (some true)
end
def laws_FnLevels.f (k : Nat) (l0 : List Int) : Option (Bool) := (laws_big.f l0).bind fun t321 => (if t321 = true then (some true) else ((spec_DrawLevels.f k l0).bind fun bt322 => ((impl_Levels.f k bt322.1 bt322.2).bind fun t326 => ((impl_Visual.f t326).bind fun t329 => ((spec_Levels.f k bt322.1 bt322.2).bind fun t332 => ((laws_sameInts.f k t326 t332).bind fun t335 => (if t335 = true then ((spec_Visual.f k t326).bind fun t336 => ((laws_sameInts.f k t329 t336).bind fun t339 => (if t339 = true then (laws_FnLevels.j0 k bt322.1 t326 t329 ((t329.length : Int) != (bt322.1.length : Int))) else (laws_FnLevels.j0 k bt322.1 t326 t329 true)))) else (laws_FnLevels.j0 k bt322.1 t326 t329 true))))))))
set_option maxHeartbeats 8000000 in
set_option maxRecDepth 100000 in
theorem laws_FnLevels.calls (k : Nat) (A0 : Option Addr) (c0 : Nat) (l0 : List Int) (r : Bool) (w : World) (hr0 : Kd.C (Kd.int .u8) w A0 l0.length l0) (hc0 : l0.length ≤ c0) (h : laws_FnLevels.f k l0 = some r) :
 Calls Try.prog 9 #[.slice A0 l0.length c0] w fun e w' => e = .returned (.bool r) ∧ Below w.heap.size w w' := by
 have HR0 := aMk hr0
 have HC0 := aMk hc0
 clear hr0 hc0
 have HB := aMk (Below.refl w.heap.size w)
 have H : ((laws_big.f l0).bind fun t321 => (if t321 = true then (some true) else ((spec_DrawLevels.f k l0).bind fun bt322 => ((impl_Levels.f k bt322.1 bt322.2).bind fun t326 => ((impl_Visual.f t326).bind fun t329 => ((spec_Levels.f k bt322.1 bt322.2).bind fun t332 => ((laws_sameInts.f k t326 t332).bind fun t335 => (if t335 = true then ((spec_Visual.f k t326).bind fun t336 => ((laws_sameInts.f k t329 t336).bind fun t339 => (if t339 = true then (laws_FnLevels.j0 k bt322.1 t326 t329 ((t329.length : Int) != (bt322.1.length : Int))) else (laws_FnLevels.j0 k bt322.1 t326 t329 true)))) else (laws_FnLevels.j0 k bt322.1 t326 t329 true))))))))) = some r := h
 clear h
 replace H := oBm H
 obtain ⟨t321, A20, H⟩ := H
 replace H : (if t321 = true then (some true) else ((spec_DrawLevels.f k l0).bind fun bt322 => ((impl_Levels.f k bt322.1 bt322.2).bind fun t326 => ((impl_Visual.f t326).bind fun t329 => ((spec_Levels.f k bt322.1 bt322.2).bind fun t332 => ((laws_sameInts.f k t326 t332).bind fun t335 => (if t335 = true then ((spec_Visual.f k t326).bind fun t336 => ((laws_sameInts.f k t329 t336).bind fun t339 => (if t339 = true then (laws_FnLevels.j0 k bt322.1 t326 t329 ((t329.length : Int) != (bt322.1.length : Int))) else (laws_FnLevels.j0 k bt322.1 t326 t329 true)))) else (laws_FnLevels.j0 k bt322.1 t326 t329 true)))))))) = some r := H
 have A2 := aMk A20
 clear A20
 by_cases c3 : t321 = true
 · subst c3
   have H1 : (some true) = some r := by rw [if_pos rfl] at H; exact H
   clear H
   have H := H1
   clear H1
   obtain rfl := Option.some.inj H
   go_enter Try.func9, Try.ntmps9
   go_wp2_with (first | ((with_reducible refine gate_callee (f := 20) rfl ?_); refine goesL_ (some 17) rfl rfl Try.func20 (by kernel_rfl) rfl #[.slice A0 l0.length c0] rfl (by (try simp only [List.map_toArray, List.map_cons, List.map_nil]); first | done | rfl | (simp only [List.length_drop, List.length_take]; rfl)) ?_; (with_reducible refine (laws_big.calls _ _ l0 true _ ?side1 ?side2 A2.out).mono ?_); (case side1 => repeat (first | exact HR0.out | (with_reducible refine Kd.C_alloc ?_ _) | (with_reducible refine Kd.C_drewN ?_ _) | (with_reducible refine Kd.C_drew ?_))); (case side2 => exact HC0.out); rintro e w' ⟨rfl, ⟨nd, rfl⟩⟩; refine ⟨_, rfl, ?_⟩))
   go_ret
   exact ⟨by first | rfl | (simp [errW_none, errW_some] <;> rfl) | (simp [*, errW_none, errW_some] <;> rfl), by repeat (first | (with_reducible first | exact HB.out | apply bAl | apply bDn | apply bD1) | exact HB.out)⟩
 · replace c3 := Bool.eq_false_iff.mpr c3
   subst c3
   have H1 : ((spec_DrawLevels.f k l0).bind fun bt322 => ((impl_Levels.f k bt322.1 bt322.2).bind fun t326 => ((impl_Visual.f t326).bind fun t329 => ((spec_Levels.f k bt322.1 bt322.2).bind fun t332 => ((laws_sameInts.f k t326 t332).bind fun t335 => (if t335 = true then ((spec_Visual.f k t326).bind fun t336 => ((laws_sameInts.f k t329 t336).bind fun t339 => (if t339 = true then (laws_FnLevels.j0 k bt322.1 t326 t329 ((t329.length : Int) != (bt322.1.length : Int))) else (laws_FnLevels.j0 k bt322.1 t326 t329 true)))) else (laws_FnLevels.j0 k bt322.1 t326 t329 true))))))) = some r := by rw [if_neg (show ¬ (false = true) by decide)] at H; exact H
   clear H
   have H := H1
   clear H1
   replace H := oBm H
   obtain ⟨⟨t322, t323⟩, A40, H⟩ := H
   replace H : ((impl_Levels.f k t322 t323).bind fun t326 => ((impl_Visual.f t326).bind fun t329 => ((spec_Levels.f k t322 t323).bind fun t332 => ((laws_sameInts.f k t326 t332).bind fun t335 => (if t335 = true then ((spec_Visual.f k t326).bind fun t336 => ((laws_sameInts.f k t329 t336).bind fun t339 => (if t339 = true then (laws_FnLevels.j0 k t322 t326 t329 ((t329.length : Int) != (t322.length : Int))) else (laws_FnLevels.j0 k t322 t326 t329 true)))) else (laws_FnLevels.j0 k t322 t326 t329 true)))))) = some r := H
   have A4 := aMk A40
   clear A40
   replace H := oBm H
   obtain ⟨t326, A50, H⟩ := H
   replace H : ((impl_Visual.f t326).bind fun t329 => ((spec_Levels.f k t322 t323).bind fun t332 => ((laws_sameInts.f k t326 t332).bind fun t335 => (if t335 = true then ((spec_Visual.f k t326).bind fun t336 => ((laws_sameInts.f k t329 t336).bind fun t339 => (if t339 = true then (laws_FnLevels.j0 k t322 t326 t329 ((t329.length : Int) != (t322.length : Int))) else (laws_FnLevels.j0 k t322 t326 t329 true)))) else (laws_FnLevels.j0 k t322 t326 t329 true))))) = some r := H
   have A5 := aMk A50
   clear A50
   replace H := oBm H
   obtain ⟨t329, A60, H⟩ := H
   replace H : ((spec_Levels.f k t322 t323).bind fun t332 => ((laws_sameInts.f k t326 t332).bind fun t335 => (if t335 = true then ((spec_Visual.f k t326).bind fun t336 => ((laws_sameInts.f k t329 t336).bind fun t339 => (if t339 = true then (laws_FnLevels.j0 k t322 t326 t329 ((t329.length : Int) != (t322.length : Int))) else (laws_FnLevels.j0 k t322 t326 t329 true)))) else (laws_FnLevels.j0 k t322 t326 t329 true)))) = some r := H
   have A6 := aMk A60
   clear A60
   have HC7 := aMk H
   clear H
   go_enter Try.func9, Try.ntmps9
   go_upto_region 6 with (first | ((with_reducible refine gate_callee (f := 20) rfl ?_); refine goesL_ (some 17) rfl rfl Try.func20 (by kernel_rfl) rfl #[.slice A0 l0.length c0] rfl (by (try simp only [List.map_toArray, List.map_cons, List.map_nil]); first | done | rfl | (simp only [List.length_drop, List.length_take]; rfl)) ?_; (with_reducible refine (laws_big.calls _ _ l0 false _ ?side1 ?side2 A2.out).mono ?_); (case side1 => repeat (first | exact HR0.out | (with_reducible refine Kd.C_alloc ?_ _) | (with_reducible refine Kd.C_drewN ?_ _) | (with_reducible refine Kd.C_drew ?_))); (case side2 => exact HC0.out); rintro e w' ⟨rfl, ⟨nd, rfl⟩⟩; refine ⟨_, rfl, ?_⟩) | ((with_reducible refine gate_callee (f := 43) rfl ?_); refine goesL_ (some 20) rfl rfl Try.func43 (by kernel_rfl) rfl #[.slice A0 l0.length c0] rfl (by (try simp only [List.map_toArray, List.map_cons, List.map_nil]); first | done | rfl | (simp only [List.length_drop, List.length_take]; rfl)) ?_; (with_reducible refine (spec_DrawLevels.calls k _ _ l0 t322 t323 _ ?side1 ?side2 A4.out).mono ?_); (case side1 => repeat (first | exact HR0.out | (with_reducible refine Kd.C_alloc ?_ _) | (with_reducible refine Kd.C_drewN ?_ _) | (with_reducible refine Kd.C_drew ?_))); (case side2 => exact HC0.out); rintro e w8 ⟨v324, rfl, ho0, hb⟩; refine ⟨_, rfl, ?_⟩; have n0_ := aMk (Kd.R_lower ho0 (below_size (by repeat (first | (with_reducible first | exact HB.out | apply bAl | apply bDn | apply bD1) | exact HB.out)))); have n1_ := aMk (below_step (by repeat (first | (with_reducible first | exact HB.out | apply bAl | apply bDn | apply bD1) | exact HB.out)) hb); clear HB; have HO325 := n0_; have HB := n1_; clear n0_ n1_; (try clear hb); (try clear hb2); (try clear hk); (try clear hi); (try clear ho0); obtain ⟨Ao9, co9, eo9⟩ := Kd.R_slice HO325.out; subst eo9) | ((with_reducible refine gate_callee (f := 30) rfl ?_); refine goesL_ (some 25) rfl rfl Try.func30 (by kernel_rfl) rfl #[.slice Ao9 t322.length co9, .int .i64 t323] rfl (by (try simp only [List.map_toArray, List.map_cons, List.map_nil]); first | done | rfl | (simp only [List.length_drop, List.length_take]; rfl)) ?_; (with_reducible refine (impl_Levels.calls k _ _ t322 t323 t326 _ ?side1 ?side2 A5.out).mono ?_); (case side1 => repeat (first | exact (Kd.R_reads' HO325.out).2.2 | (with_reducible refine Kd.C_alloc ?_ _) | (with_reducible refine Kd.C_drewN ?_ _) | (with_reducible refine Kd.C_drew ?_))); (case side2 => exact (Kd.R_reads' HO325.out).2.1); rintro e w10 ⟨v327, rfl, ho0, hb⟩; refine ⟨_, rfl, ?_⟩; have n0_ := aMk (Kd.R_elder' (by (with_reducible repeat (first | apply Kd.R_alloc | apply Kd.R_drewN | apply Kd.R_drew)); exact HO325.out) (Kd.R_base ho0) hb); have n1_ := aMk (Kd.R_lower (Kd.R_new' ho0 (Kd.R_lt (by (with_reducible repeat (first | apply Kd.R_alloc | apply Kd.R_drewN | apply Kd.R_drew)); exact HO325.out))) (below_size (by repeat (first | (with_reducible first | exact HB.out | apply bAl | apply bDn | apply bD1) | exact HB.out)))); have n2_ := aMk (below_step (by repeat (first | (with_reducible first | exact HB.out | apply bAl | apply bDn | apply bD1) | exact HB.out)) hb); clear HO325; clear HB; have HO325 := n0_; have HO328 := n1_; have HB := n2_; clear n0_ n1_ n2_; (try clear hb); (try clear hb2); (try clear hk); (try clear hi); (try clear ho0); obtain ⟨Ao11, co11, eo11⟩ := Kd.R_slice HO328.out; subst eo11) | ((with_reducible refine gate_callee (f := 14) rfl ?_); refine goesL_ (some 27) rfl rfl Try.func14 (by kernel_rfl) rfl #[.slice Ao11 t326.length co11] rfl (by (try simp only [List.map_toArray, List.map_cons, List.map_nil]); first | done | rfl | (simp only [List.length_drop, List.length_take]; rfl)) ?_; (with_reducible refine (impl_Visual.calls _ _ t326 t329 _ ?side1 ?side2 A6.out).mono ?_); (case side1 => repeat (first | exact (Kd.R_reads' HO328.out).2.2 | (with_reducible refine Kd.C_alloc ?_ _) | (with_reducible refine Kd.C_drewN ?_ _) | (with_reducible refine Kd.C_drew ?_))); (case side2 => exact (Kd.R_reads' HO328.out).2.1); rintro e w12 ⟨v330, rfl, ho0, hb⟩; refine ⟨_, rfl, ?_⟩; have n0_ := aMk (Kd.R_elder' (by (with_reducible repeat (first | apply Kd.R_alloc | apply Kd.R_drewN | apply Kd.R_drew)); exact HO325.out) (Kd.R_base ho0) hb); have n1_ := aMk (Kd.R_elder' (by (with_reducible repeat (first | apply Kd.R_alloc | apply Kd.R_drewN | apply Kd.R_drew)); exact HO328.out) (Kd.R_base ho0) hb); have n2_ := aMk (Kd.R_lower (Kd.R_new' (Kd.R_new' ho0 (Kd.R_lt (by (with_reducible repeat (first | apply Kd.R_alloc | apply Kd.R_drewN | apply Kd.R_drew)); exact HO325.out))) (Kd.R_lt (by (with_reducible repeat (first | apply Kd.R_alloc | apply Kd.R_drewN | apply Kd.R_drew)); exact HO328.out))) (below_size (by repeat (first | (with_reducible first | exact HB.out | apply bAl | apply bDn | apply bD1) | exact HB.out)))); have n3_ := aMk (below_step (by repeat (first | (with_reducible first | exact HB.out | apply bAl | apply bDn | apply bD1) | exact HB.out)) hb); clear HO325; clear HO328; clear HB; have HO325 := n0_; have HO328 := n1_; have HO331 := n2_; have HB := n3_; clear n0_ n1_ n2_ n3_; (try clear hb); (try clear hb2); (try clear hk); (try clear hi); (try clear ho0)))
   (try simp only [Act.put, lSa, lSz, lSs])
   go_cut [47] (fun v47 wc => ∃ (kq : Nat) (x47_6 : Bool), v47 = .bool x47_6 ∧ Aside0 (laws_FnLevels.j0 kq t322 t326 t329 x47_6 = some r) ∧ Aside0 (kq ≤ k) ∧ Aside0 (Kd.R (Kd.int .i64) 3 wc w.heap.size (fun k_ => some k_ ≠ ((.slice Ao11 t326.length co11) : Value).ownBlock ∧ some k_ ≠ (v330 : Value).ownBlock) (.slice Ao9 t322.length co9) t322) ∧ Aside0 (Kd.R (Kd.int .i64) 3 wc w.heap.size (fun k_ => some k_ ≠ ((.slice Ao9 t322.length co9) : Value).ownBlock ∧ some k_ ≠ (v330 : Value).ownBlock) (.slice Ao11 t326.length co11) t326) ∧ Aside0 (Kd.R (Kd.int .i64) 3 wc w.heap.size (fun k_ => some k_ ≠ ((.slice Ao9 t322.length co9) : Value).ownBlock ∧ some k_ ≠ ((.slice Ao11 t326.length co11) : Value).ownBlock) v330 t329) ∧ Aside0 (Below w.heap.size w wc))
   case first =>
    have H := HC7.out
    clear HC7
    replace H := oBm H
    obtain ⟨t332, A130, H⟩ := H
    replace H : ((laws_sameInts.f k t326 t332).bind fun t335 => (if t335 = true then ((spec_Visual.f k t326).bind fun t336 => ((laws_sameInts.f k t329 t336).bind fun t339 => (if t339 = true then (laws_FnLevels.j0 k t322 t326 t329 ((t329.length : Int) != (t322.length : Int))) else (laws_FnLevels.j0 k t322 t326 t329 true)))) else (laws_FnLevels.j0 k t322 t326 t329 true))) = some r := H
    have A13 := aMk A130
    clear A130
    replace H := oBm H
    obtain ⟨t335, A140, H⟩ := H
    replace H : (if t335 = true then ((spec_Visual.f k t326).bind fun t336 => ((laws_sameInts.f k t329 t336).bind fun t339 => (if t339 = true then (laws_FnLevels.j0 k t322 t326 t329 ((t329.length : Int) != (t322.length : Int))) else (laws_FnLevels.j0 k t322 t326 t329 true)))) else (laws_FnLevels.j0 k t322 t326 t329 true)) = some r := H
    have A14 := aMk A140
    clear A140
    by_cases c15 : t335 = true
    · subst c15
      have H1 : ((spec_Visual.f k t326).bind fun t336 => ((laws_sameInts.f k t329 t336).bind fun t339 => (if t339 = true then (laws_FnLevels.j0 k t322 t326 t329 ((t329.length : Int) != (t322.length : Int))) else (laws_FnLevels.j0 k t322 t326 t329 true)))) = some r := by rw [if_pos rfl] at H; exact H
      clear H
      have H := H1
      clear H1
      replace H := oBm H
      obtain ⟨t336, A160, H⟩ := H
      replace H : ((laws_sameInts.f k t329 t336).bind fun t339 => (if t339 = true then (laws_FnLevels.j0 k t322 t326 t329 ((t329.length : Int) != (t322.length : Int))) else (laws_FnLevels.j0 k t322 t326 t329 true))) = some r := H
      have A16 := aMk A160
      clear A160
      replace H := oBm H
      obtain ⟨t339, A170, H⟩ := H
      replace H : (if t339 = true then (laws_FnLevels.j0 k t322 t326 t329 ((t329.length : Int) != (t322.length : Int))) else (laws_FnLevels.j0 k t322 t326 t329 true)) = some r := H
      have A17 := aMk A170
      clear A170
      by_cases c18 : t339 = true
      · subst c18
        have H1 : (laws_FnLevels.j0 k t322 t326 t329 ((t329.length : Int) != (t322.length : Int))) = some r := by rw [if_pos rfl] at H; exact H
        clear H
        have H := H1
        clear H1
        have H' := aMk H
        clear H
        go_wp2_with (first | ((with_reducible refine gate_callee (f := 29) rfl ?_); refine goesL_ (some 31) rfl rfl Try.func29 (by kernel_rfl) rfl #[.slice Ao9 t322.length co9, .int .i64 t323] rfl (by (try simp only [List.map_toArray, List.map_cons, List.map_nil]); first | done | rfl | (simp only [List.length_drop, List.length_take]; rfl)) ?_; (with_reducible refine (spec_Levels.calls k _ _ t322 t323 t332 _ ?side1 ?side2 A13.out).mono ?_); (case side1 => repeat (first | exact (Kd.R_reads' HO325.out).2.2 | (with_reducible refine Kd.C_alloc ?_ _) | (with_reducible refine Kd.C_drewN ?_ _) | (with_reducible refine Kd.C_drew ?_))); (case side2 => exact (Kd.R_reads' HO325.out).2.1); rintro e w19 ⟨v333, rfl, ho0, hb⟩; refine ⟨_, rfl, ?_⟩; have n0_ := aMk (Kd.R_elder' (by (with_reducible repeat (first | apply Kd.R_alloc | apply Kd.R_drewN | apply Kd.R_drew)); exact HO325.out) (Kd.R_base ho0) hb); have n1_ := aMk (Kd.R_elder' (by (with_reducible repeat (first | apply Kd.R_alloc | apply Kd.R_drewN | apply Kd.R_drew)); exact HO328.out) (Kd.R_base ho0) hb); have n2_ := aMk (Kd.R_elder' (by (with_reducible repeat (first | apply Kd.R_alloc | apply Kd.R_drewN | apply Kd.R_drew)); exact HO331.out) (Kd.R_base ho0) hb); have n3_ := aMk (Kd.R_lower (Kd.R_new' (Kd.R_new' (Kd.R_new' ho0 (Kd.R_lt (by (with_reducible repeat (first | apply Kd.R_alloc | apply Kd.R_drewN | apply Kd.R_drew)); exact HO325.out))) (Kd.R_lt (by (with_reducible repeat (first | apply Kd.R_alloc | apply Kd.R_drewN | apply Kd.R_drew)); exact HO328.out))) (Kd.R_lt (by (with_reducible repeat (first | apply Kd.R_alloc | apply Kd.R_drewN | apply Kd.R_drew)); exact HO331.out))) (below_size (by repeat (first | (with_reducible first | exact HB.out | apply bAl | apply bDn | apply bD1) | exact HB.out)))); have n4_ := aMk (below_step (by repeat (first | (with_reducible first | exact HB.out | apply bAl | apply bDn | apply bD1) | exact HB.out)) hb); clear HO325; clear HO328; clear HO331; clear HB; have HO325 := n0_; have HO328 := n1_; have HO331 := n2_; have HO334 := n3_; have HB := n4_; clear n0_ n1_ n2_ n3_ n4_; (try clear hb); (try clear hb2); (try clear hk); (try clear hi); (try clear ho0); obtain ⟨Ao20, co20, eo20⟩ := Kd.R_slice HO334.out; subst eo20) | ((with_reducible refine gate_callee (f := 23) rfl ?_); refine goesL_ (some 32) rfl rfl Try.func23 (by kernel_rfl) rfl #[.slice Ao11 t326.length co11, .slice Ao20 t332.length co20] rfl (by (try simp only [List.map_toArray, List.map_cons, List.map_nil]); first | done | rfl | (simp only [List.length_drop, List.length_take]; rfl)) ?_; (with_reducible refine (laws_sameInts.calls k _ _ t326 _ _ t332 true _ ?side1 ?side2 ?side3 ?side4 A14.out).mono ?_); (case side1 => repeat (first | exact (Kd.R_reads' HO328.out).2.2 | (with_reducible refine Kd.C_alloc ?_ _) | (with_reducible refine Kd.C_drewN ?_ _) | (with_reducible refine Kd.C_drew ?_))); (case side2 => exact (Kd.R_reads' HO328.out).2.1); (case side3 => repeat (first | exact (Kd.R_reads' HO334.out).2.2 | (with_reducible refine Kd.C_alloc ?_ _) | (with_reducible refine Kd.C_drewN ?_ _) | (with_reducible refine Kd.C_drew ?_))); (case side4 => exact (Kd.R_reads' HO334.out).2.1); rintro e w' ⟨rfl, ⟨nd, rfl⟩⟩; refine ⟨_, rfl, ?_⟩) | (go_at_call 12; (with_reducible refine (spec_Visual.calls k _ _ t326 t336 _ ?side1 ?side2 A16.out).mono ?_); (case side1 => repeat (first | exact (Kd.R_reads' HO328.out).2.2 | (with_reducible refine Kd.C_alloc ?_ _) | (with_reducible refine Kd.C_drewN ?_ _) | (with_reducible refine Kd.C_drew ?_))); (case side2 => exact (Kd.R_reads' HO328.out).2.1); rintro e w21 ⟨v337, rfl, ho0, hb⟩; have n0_ := aMk (Kd.R_elder' (by (with_reducible repeat (first | apply Kd.R_alloc | apply Kd.R_drewN | apply Kd.R_drew)); exact HO325.out) (Kd.R_base ho0) hb); have n1_ := aMk (Kd.R_elder' (by (with_reducible repeat (first | apply Kd.R_alloc | apply Kd.R_drewN | apply Kd.R_drew)); exact HO328.out) (Kd.R_base ho0) hb); have n2_ := aMk (Kd.R_elder' (by (with_reducible repeat (first | apply Kd.R_alloc | apply Kd.R_drewN | apply Kd.R_drew)); exact HO331.out) (Kd.R_base ho0) hb); have n3_ := aMk (Kd.R_elder' (by (with_reducible repeat (first | apply Kd.R_alloc | apply Kd.R_drewN | apply Kd.R_drew)); exact HO334.out) (Kd.R_base ho0) hb); have n4_ := aMk (Kd.R_lower (Kd.R_new' (Kd.R_new' (Kd.R_new' (Kd.R_new' ho0 (Kd.R_lt (by (with_reducible repeat (first | apply Kd.R_alloc | apply Kd.R_drewN | apply Kd.R_drew)); exact HO325.out))) (Kd.R_lt (by (with_reducible repeat (first | apply Kd.R_alloc | apply Kd.R_drewN | apply Kd.R_drew)); exact HO328.out))) (Kd.R_lt (by (with_reducible repeat (first | apply Kd.R_alloc | apply Kd.R_drewN | apply Kd.R_drew)); exact HO331.out))) (Kd.R_lt (by (with_reducible repeat (first | apply Kd.R_alloc | apply Kd.R_drewN | apply Kd.R_drew)); exact HO334.out))) (below_size (by repeat (first | (with_reducible first | exact HB.out | apply bAl | apply bDn | apply bD1) | exact HB.out)))); have n5_ := aMk (below_step (by repeat (first | (with_reducible first | exact HB.out | apply bAl | apply bDn | apply bD1) | exact HB.out)) hb); clear HO325; clear HO328; clear HO331; clear HO334; clear HB; have HO325 := n0_; have HO328 := n1_; have HO331 := n2_; have HO334 := n3_; have HO338 := n4_; have HB := n5_; clear n0_ n1_ n2_ n3_ n4_ n5_; (try clear hb); (try clear hb2); (try clear hk); (try clear hi); (try clear ho0); obtain ⟨Ao22, co22, eo22⟩ := Kd.R_slice HO331.out; subst eo22; obtain ⟨Ao23, co23, eo23⟩ := Kd.R_slice HO338.out; subst eo23) | (go_at_call 23; (with_reducible refine (laws_sameInts.calls k _ _ t329 _ _ t336 true _ ?side1 ?side2 ?side3 ?side4 A17.out).mono ?_); (case side1 => repeat (first | exact (Kd.R_reads' HO331.out).2.2 | (with_reducible refine Kd.C_alloc ?_ _) | (with_reducible refine Kd.C_drewN ?_ _) | (with_reducible refine Kd.C_drew ?_))); (case side2 => exact (Kd.R_reads' HO331.out).2.1); (case side3 => repeat (first | exact (Kd.R_reads' HO338.out).2.2 | (with_reducible refine Kd.C_alloc ?_ _) | (with_reducible refine Kd.C_drewN ?_ _) | (with_reducible refine Kd.C_drew ?_))); (case side4 => exact (Kd.R_reads' HO338.out).2.1); rintro e w' ⟨rfl, ⟨nd, rfl⟩⟩))
        go_meet
        case rel => exact ⟨_, (((t329.length : Int) != (t322.length : Int))), (by first | rfl | (simp; done) | (simp [*]; done)), H', ⟨by first | omega | exact Nat.le_refl _⟩, ⟨by (with_reducible repeat (first | apply Kd.R_alloc | apply Kd.R_drewN | apply Kd.R_drew)); exact Kd.R_mono HO325.out (fun _ hk => ⟨hk.1.1.1.2, hk.1.1.2⟩)⟩, ⟨by (with_reducible repeat (first | apply Kd.R_alloc | apply Kd.R_drewN | apply Kd.R_drew)); exact Kd.R_mono HO328.out (fun _ hk => ⟨hk.1.1.1.2, hk.1.1.2⟩)⟩, ⟨by (with_reducible repeat (first | apply Kd.R_alloc | apply Kd.R_drewN | apply Kd.R_drew)); exact Kd.R_mono HO331.out (fun _ hk => ⟨hk.1.1.1.2, hk.1.1.2⟩)⟩, ⟨by repeat (first | (with_reducible first | exact HB.out | apply bAl | apply bDn | apply bD1) | exact HB.out)⟩⟩
      · replace c18 := Bool.eq_false_iff.mpr c18
        subst c18
        have H1 : (laws_FnLevels.j0 k t322 t326 t329 true) = some r := by rw [if_neg (show ¬ (false = true) by decide)] at H; exact H
        clear H
        have H := H1
        clear H1
        have H' := aMk H
        clear H
        go_wp2_with (first | ((with_reducible refine gate_callee (f := 29) rfl ?_); refine goesL_ (some 31) rfl rfl Try.func29 (by kernel_rfl) rfl #[.slice Ao9 t322.length co9, .int .i64 t323] rfl (by (try simp only [List.map_toArray, List.map_cons, List.map_nil]); first | done | rfl | (simp only [List.length_drop, List.length_take]; rfl)) ?_; (with_reducible refine (spec_Levels.calls k _ _ t322 t323 t332 _ ?side1 ?side2 A13.out).mono ?_); (case side1 => repeat (first | exact (Kd.R_reads' HO325.out).2.2 | (with_reducible refine Kd.C_alloc ?_ _) | (with_reducible refine Kd.C_drewN ?_ _) | (with_reducible refine Kd.C_drew ?_))); (case side2 => exact (Kd.R_reads' HO325.out).2.1); rintro e w24 ⟨v333, rfl, ho0, hb⟩; refine ⟨_, rfl, ?_⟩; have n0_ := aMk (Kd.R_elder' (by (with_reducible repeat (first | apply Kd.R_alloc | apply Kd.R_drewN | apply Kd.R_drew)); exact HO325.out) (Kd.R_base ho0) hb); have n1_ := aMk (Kd.R_elder' (by (with_reducible repeat (first | apply Kd.R_alloc | apply Kd.R_drewN | apply Kd.R_drew)); exact HO328.out) (Kd.R_base ho0) hb); have n2_ := aMk (Kd.R_elder' (by (with_reducible repeat (first | apply Kd.R_alloc | apply Kd.R_drewN | apply Kd.R_drew)); exact HO331.out) (Kd.R_base ho0) hb); have n3_ := aMk (Kd.R_lower (Kd.R_new' (Kd.R_new' (Kd.R_new' ho0 (Kd.R_lt (by (with_reducible repeat (first | apply Kd.R_alloc | apply Kd.R_drewN | apply Kd.R_drew)); exact HO325.out))) (Kd.R_lt (by (with_reducible repeat (first | apply Kd.R_alloc | apply Kd.R_drewN | apply Kd.R_drew)); exact HO328.out))) (Kd.R_lt (by (with_reducible repeat (first | apply Kd.R_alloc | apply Kd.R_drewN | apply Kd.R_drew)); exact HO331.out))) (below_size (by repeat (first | (with_reducible first | exact HB.out | apply bAl | apply bDn | apply bD1) | exact HB.out)))); have n4_ := aMk (below_step (by repeat (first | (with_reducible first | exact HB.out | apply bAl | apply bDn | apply bD1) | exact HB.out)) hb); clear HO325; clear HO328; clear HO331; clear HB; have HO325 := n0_; have HO328 := n1_; have HO331 := n2_; have HO334 := n3_; have HB := n4_; clear n0_ n1_ n2_ n3_ n4_; (try clear hb); (try clear hb2); (try clear hk); (try clear hi); (try clear ho0); obtain ⟨Ao25, co25, eo25⟩ := Kd.R_slice HO334.out; subst eo25) | ((with_reducible refine gate_callee (f := 23) rfl ?_); refine goesL_ (some 32) rfl rfl Try.func23 (by kernel_rfl) rfl #[.slice Ao11 t326.length co11, .slice Ao25 t332.length co25] rfl (by (try simp only [List.map_toArray, List.map_cons, List.map_nil]); first | done | rfl | (simp only [List.length_drop, List.length_take]; rfl)) ?_; (with_reducible refine (laws_sameInts.calls k _ _ t326 _ _ t332 true _ ?side1 ?side2 ?side3 ?side4 A14.out).mono ?_); (case side1 => repeat (first | exact (Kd.R_reads' HO328.out).2.2 | (with_reducible refine Kd.C_alloc ?_ _) | (with_reducible refine Kd.C_drewN ?_ _) | (with_reducible refine Kd.C_drew ?_))); (case side2 => exact (Kd.R_reads' HO328.out).2.1); (case side3 => repeat (first | exact (Kd.R_reads' HO334.out).2.2 | (with_reducible refine Kd.C_alloc ?_ _) | (with_reducible refine Kd.C_drewN ?_ _) | (with_reducible refine Kd.C_drew ?_))); (case side4 => exact (Kd.R_reads' HO334.out).2.1); rintro e w' ⟨rfl, ⟨nd, rfl⟩⟩; refine ⟨_, rfl, ?_⟩) | (go_at_call 12; (with_reducible refine (spec_Visual.calls k _ _ t326 t336 _ ?side1 ?side2 A16.out).mono ?_); (case side1 => repeat (first | exact (Kd.R_reads' HO328.out).2.2 | (with_reducible refine Kd.C_alloc ?_ _) | (with_reducible refine Kd.C_drewN ?_ _) | (with_reducible refine Kd.C_drew ?_))); (case side2 => exact (Kd.R_reads' HO328.out).2.1); rintro e w26 ⟨v337, rfl, ho0, hb⟩; have n0_ := aMk (Kd.R_elder' (by (with_reducible repeat (first | apply Kd.R_alloc | apply Kd.R_drewN | apply Kd.R_drew)); exact HO325.out) (Kd.R_base ho0) hb); have n1_ := aMk (Kd.R_elder' (by (with_reducible repeat (first | apply Kd.R_alloc | apply Kd.R_drewN | apply Kd.R_drew)); exact HO328.out) (Kd.R_base ho0) hb); have n2_ := aMk (Kd.R_elder' (by (with_reducible repeat (first | apply Kd.R_alloc | apply Kd.R_drewN | apply Kd.R_drew)); exact HO331.out) (Kd.R_base ho0) hb); have n3_ := aMk (Kd.R_elder' (by (with_reducible repeat (first | apply Kd.R_alloc | apply Kd.R_drewN | apply Kd.R_drew)); exact HO334.out) (Kd.R_base ho0) hb); have n4_ := aMk (Kd.R_lower (Kd.R_new' (Kd.R_new' (Kd.R_new' (Kd.R_new' ho0 (Kd.R_lt (by (with_reducible repeat (first | apply Kd.R_alloc | apply Kd.R_drewN | apply Kd.R_drew)); exact HO325.out))) (Kd.R_lt (by (with_reducible repeat (first | apply Kd.R_alloc | apply Kd.R_drewN | apply Kd.R_drew)); exact HO328.out))) (Kd.R_lt (by (with_reducible repeat (first | apply Kd.R_alloc | apply Kd.R_drewN | apply Kd.R_drew)); exact HO331.out))) (Kd.R_lt (by (with_reducible repeat (first | apply Kd.R_alloc | apply Kd.R_drewN | apply Kd.R_drew)); exact HO334.out))) (below_size (by repeat (first | (with_reducible first | exact HB.out | apply bAl | apply bDn | apply bD1) | exact HB.out)))); have n5_ := aMk (below_step (by repeat (first | (with_reducible first | exact HB.out | apply bAl | apply bDn | apply bD1) | exact HB.out)) hb); clear HO325; clear HO328; clear HO331; clear HO334; clear HB; have HO325 := n0_; have HO328 := n1_; have HO331 := n2_; have HO334 := n3_; have HO338 := n4_; have HB := n5_; clear n0_ n1_ n2_ n3_ n4_ n5_; (try clear hb); (try clear hb2); (try clear hk); (try clear hi); (try clear ho0); obtain ⟨Ao27, co27, eo27⟩ := Kd.R_slice HO331.out; subst eo27; obtain ⟨Ao28, co28, eo28⟩ := Kd.R_slice HO338.out; subst eo28) | (go_at_call 23; (with_reducible refine (laws_sameInts.calls k _ _ t329 _ _ t336 false _ ?side1 ?side2 ?side3 ?side4 A17.out).mono ?_); (case side1 => repeat (first | exact (Kd.R_reads' HO331.out).2.2 | (with_reducible refine Kd.C_alloc ?_ _) | (with_reducible refine Kd.C_drewN ?_ _) | (with_reducible refine Kd.C_drew ?_))); (case side2 => exact (Kd.R_reads' HO331.out).2.1); (case side3 => repeat (first | exact (Kd.R_reads' HO338.out).2.2 | (with_reducible refine Kd.C_alloc ?_ _) | (with_reducible refine Kd.C_drewN ?_ _) | (with_reducible refine Kd.C_drew ?_))); (case side4 => exact (Kd.R_reads' HO338.out).2.1); rintro e w' ⟨rfl, ⟨nd, rfl⟩⟩))
        go_meet
        case rel => exact ⟨_, (true), (by first | rfl | (simp; done) | (simp [*]; done)), H', ⟨by first | omega | exact Nat.le_refl _⟩, ⟨by (with_reducible repeat (first | apply Kd.R_alloc | apply Kd.R_drewN | apply Kd.R_drew)); exact Kd.R_mono HO325.out (fun _ hk => ⟨hk.1.1.1.2, hk.1.1.2⟩)⟩, ⟨by (with_reducible repeat (first | apply Kd.R_alloc | apply Kd.R_drewN | apply Kd.R_drew)); exact Kd.R_mono HO328.out (fun _ hk => ⟨hk.1.1.1.2, hk.1.1.2⟩)⟩, ⟨by (with_reducible repeat (first | apply Kd.R_alloc | apply Kd.R_drewN | apply Kd.R_drew)); exact Kd.R_mono HO331.out (fun _ hk => ⟨hk.1.1.1.2, hk.1.1.2⟩)⟩, ⟨by repeat (first | (with_reducible first | exact HB.out | apply bAl | apply bDn | apply bD1) | exact HB.out)⟩⟩
    · replace c15 := Bool.eq_false_iff.mpr c15
      subst c15
      have H1 : (laws_FnLevels.j0 k t322 t326 t329 true) = some r := by rw [if_neg (show ¬ (false = true) by decide)] at H; exact H
      clear H
      have H := H1
      clear H1
      have H' := aMk H
      clear H
      go_wp2_with (first | ((with_reducible refine gate_callee (f := 29) rfl ?_); refine goesL_ (some 31) rfl rfl Try.func29 (by kernel_rfl) rfl #[.slice Ao9 t322.length co9, .int .i64 t323] rfl (by (try simp only [List.map_toArray, List.map_cons, List.map_nil]); first | done | rfl | (simp only [List.length_drop, List.length_take]; rfl)) ?_; (with_reducible refine (spec_Levels.calls k _ _ t322 t323 t332 _ ?side1 ?side2 A13.out).mono ?_); (case side1 => repeat (first | exact (Kd.R_reads' HO325.out).2.2 | (with_reducible refine Kd.C_alloc ?_ _) | (with_reducible refine Kd.C_drewN ?_ _) | (with_reducible refine Kd.C_drew ?_))); (case side2 => exact (Kd.R_reads' HO325.out).2.1); rintro e w29 ⟨v333, rfl, ho0, hb⟩; refine ⟨_, rfl, ?_⟩; have n0_ := aMk (Kd.R_elder' (by (with_reducible repeat (first | apply Kd.R_alloc | apply Kd.R_drewN | apply Kd.R_drew)); exact HO325.out) (Kd.R_base ho0) hb); have n1_ := aMk (Kd.R_elder' (by (with_reducible repeat (first | apply Kd.R_alloc | apply Kd.R_drewN | apply Kd.R_drew)); exact HO328.out) (Kd.R_base ho0) hb); have n2_ := aMk (Kd.R_elder' (by (with_reducible repeat (first | apply Kd.R_alloc | apply Kd.R_drewN | apply Kd.R_drew)); exact HO331.out) (Kd.R_base ho0) hb); have n3_ := aMk (Kd.R_lower (Kd.R_new' (Kd.R_new' (Kd.R_new' ho0 (Kd.R_lt (by (with_reducible repeat (first | apply Kd.R_alloc | apply Kd.R_drewN | apply Kd.R_drew)); exact HO325.out))) (Kd.R_lt (by (with_reducible repeat (first | apply Kd.R_alloc | apply Kd.R_drewN | apply Kd.R_drew)); exact HO328.out))) (Kd.R_lt (by (with_reducible repeat (first | apply Kd.R_alloc | apply Kd.R_drewN | apply Kd.R_drew)); exact HO331.out))) (below_size (by repeat (first | (with_reducible first | exact HB.out | apply bAl | apply bDn | apply bD1) | exact HB.out)))); have n4_ := aMk (below_step (by repeat (first | (with_reducible first | exact HB.out | apply bAl | apply bDn | apply bD1) | exact HB.out)) hb); clear HO325; clear HO328; clear HO331; clear HB; have HO325 := n0_; have HO328 := n1_; have HO331 := n2_; have HO334 := n3_; have HB := n4_; clear n0_ n1_ n2_ n3_ n4_; (try clear hb); (try clear hb2); (try clear hk); (try clear hi); (try clear ho0); obtain ⟨Ao30, co30, eo30⟩ := Kd.R_slice HO334.out; subst eo30) | ((with_reducible refine gate_callee (f := 23) rfl ?_); refine goesL_ (some 32) rfl rfl Try.func23 (by kernel_rfl) rfl #[.slice Ao11 t326.length co11, .slice Ao30 t332.length co30] rfl (by (try simp only [List.map_toArray, List.map_cons, List.map_nil]); first | done | rfl | (simp only [List.length_drop, List.length_take]; rfl)) ?_; (with_reducible refine (laws_sameInts.calls k _ _ t326 _ _ t332 false _ ?side1 ?side2 ?side3 ?side4 A14.out).mono ?_); (case side1 => repeat (first | exact (Kd.R_reads' HO328.out).2.2 | (with_reducible refine Kd.C_alloc ?_ _) | (with_reducible refine Kd.C_drewN ?_ _) | (with_reducible refine Kd.C_drew ?_))); (case side2 => exact (Kd.R_reads' HO328.out).2.1); (case side3 => repeat (first | exact (Kd.R_reads' HO334.out).2.2 | (with_reducible refine Kd.C_alloc ?_ _) | (with_reducible refine Kd.C_drewN ?_ _) | (with_reducible refine Kd.C_drew ?_))); (case side4 => exact (Kd.R_reads' HO334.out).2.1); rintro e w' ⟨rfl, ⟨nd, rfl⟩⟩; refine ⟨_, rfl, ?_⟩))
      go_meet
      case rel => exact ⟨_, (true), (by first | rfl | (simp; done) | (simp [*]; done)), H', ⟨by first | omega | exact Nat.le_refl _⟩, ⟨by (with_reducible repeat (first | apply Kd.R_alloc | apply Kd.R_drewN | apply Kd.R_drew)); exact Kd.R_mono HO325.out (fun _ hk => ⟨hk.1.1.2, hk.1.2⟩)⟩, ⟨by (with_reducible repeat (first | apply Kd.R_alloc | apply Kd.R_drewN | apply Kd.R_drew)); exact Kd.R_mono HO328.out (fun _ hk => ⟨hk.1.1.2, hk.1.2⟩)⟩, ⟨by (with_reducible repeat (first | apply Kd.R_alloc | apply Kd.R_drewN | apply Kd.R_drew)); exact Kd.R_mono HO331.out (fun _ hk => ⟨hk.1.1.2, hk.1.2⟩)⟩, ⟨by repeat (first | (with_reducible first | exact HB.out | apply bAl | apply bDn | apply bD1) | exact HB.out)⟩⟩
   case rest =>
    clear HC7
    (try clear c1); (try clear c2); (try clear p2); (try clear c3); (try clear c4); (try clear c9); (try clear c14); (try clear c15); (try clear c18); (try clear c20); (try clear c23); (try clear c29); (try clear c30)
    obtain ⟨kq, x47_6, rfl, HA, HJ6, HO_3, HO_5, HO_6, HB⟩ := hcut
    cases kq with
    | zero => exact absurd HA.out (by simp [laws_FnLevels.j0])
    | succ kj6 =>
     have H := HA.out
     clear HA
     simp only [laws_FnLevels.j0] at H
     by_cases c31 : x47_6 = true
     · subst c31
       have H1 : (some false) = some r := by rw [if_pos rfl] at H; exact H
       clear H
       have H := H1
       clear H1
       obtain rfl := Option.some.inj H
       go_wp2
       go_ret
       exact ⟨by first | rfl | (simp [errW_none, errW_some] <;> rfl) | (simp [*, errW_none, errW_some] <;> rfl), by repeat (first | (with_reducible first | exact HB.out | apply bAl | apply bDn | apply bD1) | exact HB.out)⟩
     · replace c31 := Bool.eq_false_iff.mpr c31
       subst c31
       have H1 : (if 0 ≤ (t322.length : Int) then (if ((t322.length : Int) : Int).toNat ≤ 281474976710656 then (laws_FnLevels.l0 kj6 t322 t326 t329 (List.replicate ((t322.length : Int) : Int).toNat false) 0) else (none)) else (none)) = some r := by rw [if_neg (show ¬ (false = true) by decide)] at H; exact H
       clear H
       have H := H1
       clear H1
       by_cases c32 : 0 ≤ (t322.length : Int)
       · rw [if_pos c32] at H
         have c32b0 := eq_true c32
         have c32b1 : decide (0 ≤ (t322.length : Int)) = true := decide_eq_true c32
         clear c32
         by_cases c33 : ((t322.length : Int) : Int).toNat ≤ 281474976710656
         · rw [if_pos c33] at H
           have c33b0 := eq_true c33
           have c33b1 : decide (((t322.length : Int) : Int).toNat ≤ 281474976710656) = true := decide_eq_true c33
           clear c33
           obtain ⟨y340, hy340⟩ : ∃ y_ : List Bool, y_ = (List.replicate ((t322.length : Int) : Int).toNat false) := ⟨_, rfl⟩
           replace H : (laws_FnLevels.l0 kj6 t322 t326 t329 y340 0) = some r := by first | (rw [hy340]; with_reducible exact H) | (have H2_ := (Option.bind_some _ _).symm.trans H; rw [hy340]; with_reducible exact H2_) | (have H2_ := (Option.bind_some _ _).symm.trans H; with_reducible exact H2_) | with_reducible exact H | (rw [hy340]; exact H) | exact H
           have Ny340 := aMk hy340
           clear hy340
           have H' := aMk H
           clear H
           go_wp2_with (first | ((with_reducible refine gate_dst (N := 50) rfl ?_); (try (refine gate_guard (by rfl) ?_; dsimp only)); refine Kd.R_make Kd.bool _ 4 rfl (N := 50) rfl 58 _ _ rfl (t322.length : Int) rfl rfl Try.underlying58 (.bool false) 1 info4 rfl (by decide) (by omega) false (ok := fun _ => True) (okp := fun _ => True) rfl (fun _ hk => hk) trivial (oDt (by first | (with_reducible assumption) | assumption)) (Nat.le_trans (Nat.mul_le_mul_right _ (oDt (by first | (with_reducible assumption) | assumption) : (t322.length : Int).toNat ≤ 281474976710656)) (by omega)) (Below.refl _ _) (Nat.le_refl _) ?_; intro v341 w34 ho35 hb hg_ hnew_; clear hg_ hnew_; (first | rw [← Ny340.out] at ho35 | (simp only [Int.reduceToNat] at ho35; rw [← Ny340.out] at ho35)); have n0_ := aMk (Kd.R_below (by (with_reducible repeat (first | apply Kd.R_alloc | apply Kd.R_drewN | apply Kd.R_drew)); exact HO_3.out) hb); have n1_ := aMk (Kd.R_below (by (with_reducible repeat (first | apply Kd.R_alloc | apply Kd.R_drewN | apply Kd.R_drew)); exact HO_5.out) hb); have n2_ := aMk (Kd.R_below (by (with_reducible repeat (first | apply Kd.R_alloc | apply Kd.R_drewN | apply Kd.R_drew)); exact HO_6.out) hb); have n3_ := aMk (Kd.R_lower ho35 (below_size (by repeat (first | (with_reducible first | exact HB.out | apply bAl | apply bDn | apply bD1) | exact HB.out)))); have n4_ := aMk (below_step (by repeat (first | (with_reducible first | exact HB.out | apply bAl | apply bDn | apply bD1) | exact HB.out)) hb); clear HO_3; clear HO_5; clear HO_6; clear HB; have HO_3 := n0_; have HO_5 := n1_; have HO_6 := n2_; have HO342 := n3_; have HB := n4_; clear n0_ n1_ n2_ n3_ n4_; clear hb ho35))
           go_loopg [8] kj6 (fun kq v8 w' => ∃ (x7_2 : List Bool) (x8_2 : Int), v8 = .int .i64 x8_2 ∧ Aside0 (laws_FnLevels.l0 kq t322 t326 t329 x7_2 x8_2 = some r) ∧ Aside0 (kq ≤ kj6) ∧ Aside0 (Kd.R (Kd.int .i64) 3 w' w.heap.size (fun k_ => some k_ ≠ ((.slice Ao11 t326.length co11) : Value).ownBlock ∧ some k_ ≠ (v330 : Value).ownBlock) (.slice Ao9 t322.length co9) t322) ∧ Aside0 (Kd.R (Kd.int .i64) 3 w' w.heap.size (fun k_ => some k_ ≠ ((.slice Ao9 t322.length co9) : Value).ownBlock ∧ some k_ ≠ (v330 : Value).ownBlock) (.slice Ao11 t326.length co11) t326) ∧ Aside0 (Kd.R (Kd.int .i64) 3 w' w.heap.size (fun k_ => some k_ ≠ ((.slice Ao9 t322.length co9) : Value).ownBlock ∧ some k_ ≠ ((.slice Ao11 t326.length co11) : Value).ownBlock) v330 t329) ∧ Aside0 (Kd.R Kd.bool 4 w' w.heap.size (fun _ => True) v341 x7_2) ∧ Aside0 (Below w.heap.size w w'))
           case atStart => exact ⟨(y340), (0), (by first | rfl | (simp; done) | (simp [*]; done)), H', ⟨Nat.le_refl _⟩, ⟨by (with_reducible repeat (first | apply Kd.R_alloc | apply Kd.R_drewN | apply Kd.R_drew)); exact HO_3.out⟩, ⟨by (with_reducible repeat (first | apply Kd.R_alloc | apply Kd.R_drewN | apply Kd.R_drew)); exact HO_5.out⟩, ⟨by (with_reducible repeat (first | apply Kd.R_alloc | apply Kd.R_drewN | apply Kd.R_drew)); exact HO_6.out⟩, ⟨by (with_reducible repeat (first | apply Kd.R_alloc | apply Kd.R_drewN | apply Kd.R_drew)); exact HO342.out⟩, ⟨by repeat (first | (with_reducible first | exact HB.out | apply bAl | apply bDn | apply bD1) | exact HB.out)⟩⟩
           case round =>
            clear H'
            (try clear c1); (try clear c2); (try clear p2); (try clear c3); (try clear c4); (try clear c9); (try clear c14); (try clear c15); (try clear c18); (try clear c20); (try clear c23); (try clear c29); (try clear c30); (try clear c31); (try clear c32); (try clear c32b0); (try clear c32b1); (try clear c33); (try clear c33b0); (try clear c33b1); (try clear p2)
            obtain ⟨x7_2, x8_2, rfl, HA, HK2, HO_3, HO_5, HO_6, HO_7, HB⟩ := hrel
            cases gk with
            | zero => exact absurd HA.out (by simp [laws_FnLevels.l0])
            | succ k2 =>
             have H := HA.out
             clear HA
             simp only [laws_FnLevels.l0] at H
             by_cases c36 : x8_2 < (t329.length : Int)
             · rw [if_pos c36] at H
               have c36b0 : decide (x8_2 < (t329.length : Int)) = true := decide_eq_true c36
               clear c36
               by_cases c37 : 0 ≤ x8_2
               · rw [if_pos c37] at H
                 have c37b0 : decide (0 ≤ x8_2) = true := decide_eq_true c37
                 clear c37
                 by_cases c38 : (rd t329 x8_2) < 0
                 · rw [if_pos c38] at H
                   have c38b0 : decide ((rd t329 x8_2) < 0) = true := decide_eq_true c38
                   clear c38
                   obtain rfl := Option.some.inj H
                   obtain ⟨Ao39, co39, eo39⟩ := Kd.R_slice HO_6.out
                   subst eo39
                   have p343 : 0 ≤ (x8_2 : Int) := oDt (by first | (with_reducible assumption) | assumption)
                   have q343 : x8_2 < (t329.length : Int) := oDt (by first | (with_reducible assumption) | assumption)
                   obtain ⟨ad343, e343, hx343_0⟩ := Kd.at_int (Kd.R_reads' HO_6.out).2.2 x8_2 p343 q343
                   cases e343
                   replace p343 := eq_true p343
                   replace q343 := eq_true q343
                   go_wp2
                   go_ret
                   exact ⟨by first | rfl | (simp [errW_none, errW_some] <;> rfl) | (simp [*, errW_none, errW_some] <;> rfl), by repeat (first | (with_reducible first | exact HB.out | apply bAl | apply bDn | apply bD1) | exact HB.out)⟩
                 · rw [if_neg c38] at H
                   have c38b0 : decide ((rd t329 x8_2) < 0) = false := decide_eq_false c38
                   clear c38
                   by_cases c40 : (rd t329 x8_2) ≥ (t322.length : Int)
                   · rw [if_pos c40] at H
                     have c40b0 : decide ((t322.length : Int) ≤ (rd t329 x8_2)) = true := decide_eq_true c40
                     clear c40
                     obtain rfl := Option.some.inj H
                     obtain ⟨Ao41, co41, eo41⟩ := Kd.R_slice HO_6.out
                     subst eo41
                     have p343 : 0 ≤ (x8_2 : Int) := oDt (by first | (with_reducible assumption) | assumption)
                     have q343 : x8_2 < (t329.length : Int) := oDt (by first | (with_reducible assumption) | assumption)
                     obtain ⟨ad343, e343, hx343_0⟩ := Kd.at_int (Kd.R_reads' HO_6.out).2.2 x8_2 p343 q343
                     cases e343
                     replace p343 := eq_true p343
                     replace q343 := eq_true q343
                     have p344 : 0 ≤ (x8_2 : Int) := oDt (by first | (with_reducible assumption) | assumption)
                     have q344 : x8_2 < (t329.length : Int) := oDt (by first | (with_reducible assumption) | assumption)
                     obtain ⟨ad344, e344, hx344_0⟩ := Kd.at_int (Kd.R_reads' HO_6.out).2.2 x8_2 p344 q344
                     obtain rfl : ad343 = ad344 := (by injection e344)
                     replace p344 := eq_true p344
                     replace q344 := eq_true q344
                     go_wp2
                     go_ret
                     exact ⟨by first | rfl | (simp [errW_none, errW_some] <;> rfl) | (simp [*, errW_none, errW_some] <;> rfl), by repeat (first | (with_reducible first | exact HB.out | apply bAl | apply bDn | apply bD1) | exact HB.out)⟩
                   · rw [if_neg c40] at H
                     have c40b0 : decide ((t322.length : Int) ≤ (rd t329 x8_2)) = false := decide_eq_false c40
                     clear c40
                     by_cases c42 : 0 ≤ (rd t329 x8_2)
                     · rw [if_pos c42] at H
                       have c42b0 : decide (0 ≤ (rd t329 x8_2)) = true := decide_eq_true c42
                       clear c42
                       by_cases c43 : (rd t329 x8_2) < (x7_2.length : Int)
                       · rw [if_pos c43] at H
                         have c43b0 : decide ((rd t329 x8_2) < (x7_2.length : Int)) = true := decide_eq_true c43
                         clear c43
                         obtain ⟨bq44, hbq44⟩ : ∃ b_ : Bool, b_ = (rdOf false x7_2 (rd t329 x8_2)) := ⟨_, rfl⟩
                         replace H : (if bq44 = true then (some false) else (if x8_2 < (t326.length : Int) then (if (rd t326 x8_2) < 0 then (some false) else (if (rd t326 x8_2) > 2 then (some false) else (laws_FnLevels.l0 k2 t322 t326 t329 (x7_2.set ((rd t329 x8_2) : Int).toNat true) (wrap64 (x8_2 + 1))))) else (none))) = some r := by rw [← hbq44] at H; exact H
                         have Nbq44 := aMk hbq44
                         clear hbq44
                         by_cases c45 : bq44 = true
                         · subst c45
                           have H1 : (some false) = some r := by rw [if_pos rfl] at H; exact H
                           clear H
                           have H := H1
                           clear H1
                           obtain rfl := Option.some.inj H
                           obtain ⟨Ao46, co46, eo46⟩ := Kd.R_slice HO_6.out
                           subst eo46
                           have p343 : 0 ≤ (x8_2 : Int) := oDt (by first | (with_reducible assumption) | assumption)
                           have q343 : x8_2 < (t329.length : Int) := oDt (by first | (with_reducible assumption) | assumption)
                           obtain ⟨ad343, e343, hx343_0⟩ := Kd.at_int (Kd.R_reads' HO_6.out).2.2 x8_2 p343 q343
                           cases e343
                           replace p343 := eq_true p343
                           replace q343 := eq_true q343
                           have p344 : 0 ≤ (x8_2 : Int) := oDt (by first | (with_reducible assumption) | assumption)
                           have q344 : x8_2 < (t329.length : Int) := oDt (by first | (with_reducible assumption) | assumption)
                           obtain ⟨ad344, e344, hx344_0⟩ := Kd.at_int (Kd.R_reads' HO_6.out).2.2 x8_2 p344 q344
                           obtain rfl : ad343 = ad344 := (by injection e344)
                           replace p344 := eq_true p344
                           replace q344 := eq_true q344
                           have p345 : 0 ≤ (x8_2 : Int) := oDt (by first | (with_reducible assumption) | assumption)
                           have q345 : x8_2 < (t329.length : Int) := oDt (by first | (with_reducible assumption) | assumption)
                           obtain ⟨ad345, e345, hx345_0⟩ := Kd.at_int (Kd.R_reads' HO_6.out).2.2 x8_2 p345 q345
                           obtain rfl : ad343 = ad345 := (by injection e345)
                           replace p345 := eq_true p345
                           replace q345 := eq_true q345
                           obtain ⟨Ao47, co47, eo47⟩ := Kd.R_slice HO_7.out
                           subst eo47
                           have p346 : 0 ≤ ((rd t329 x8_2) : Int) := oDt (by first | (with_reducible assumption) | assumption)
                           have q346 : (rd t329 x8_2) < (x7_2.length : Int) := oDt (by first | (with_reducible assumption) | assumption)
                           obtain ⟨ad346, e346, hx346_0⟩ := Kd.at_bool (Kd.R_reads' HO_7.out).2.2 (rd t329 x8_2) p346 q346
                           (try rw [← Nbq44.out] at hx346_0)
                           cases e346
                           replace p346 := eq_true p346
                           replace q346 := eq_true q346
                           go_wp2
                           go_ret
                           exact ⟨by first | rfl | (simp [errW_none, errW_some] <;> rfl) | (simp [*, errW_none, errW_some] <;> rfl), by repeat (first | (with_reducible first | exact HB.out | apply bAl | apply bDn | apply bD1) | exact HB.out)⟩
                         · replace c45 := Bool.eq_false_iff.mpr c45
                           subst c45
                           have H1 : (if x8_2 < (t326.length : Int) then (if (rd t326 x8_2) < 0 then (some false) else (if (rd t326 x8_2) > 2 then (some false) else (laws_FnLevels.l0 k2 t322 t326 t329 (x7_2.set ((rd t329 x8_2) : Int).toNat true) (wrap64 (x8_2 + 1))))) else (none)) = some r := by rw [if_neg (show ¬ (false = true) by decide)] at H; exact H
                           clear H
                           have H := H1
                           clear H1
                           by_cases c48 : x8_2 < (t326.length : Int)
                           · rw [if_pos c48] at H
                             have c48b0 : decide (x8_2 < (t326.length : Int)) = true := decide_eq_true c48
                             clear c48
                             by_cases c49 : (rd t326 x8_2) < 0
                             · rw [if_pos c49] at H
                               have c49b0 : decide ((rd t326 x8_2) < 0) = true := decide_eq_true c49
                               clear c49
                               obtain rfl := Option.some.inj H
                               obtain ⟨Ao50, co50, eo50⟩ := Kd.R_slice HO_6.out
                               subst eo50
                               have p343 : 0 ≤ (x8_2 : Int) := oDt (by first | (with_reducible assumption) | assumption)
                               have q343 : x8_2 < (t329.length : Int) := oDt (by first | (with_reducible assumption) | assumption)
                               obtain ⟨ad343, e343, hx343_0⟩ := Kd.at_int (Kd.R_reads' HO_6.out).2.2 x8_2 p343 q343
                               cases e343
                               replace p343 := eq_true p343
                               replace q343 := eq_true q343
                               have p344 : 0 ≤ (x8_2 : Int) := oDt (by first | (with_reducible assumption) | assumption)
                               have q344 : x8_2 < (t329.length : Int) := oDt (by first | (with_reducible assumption) | assumption)
                               obtain ⟨ad344, e344, hx344_0⟩ := Kd.at_int (Kd.R_reads' HO_6.out).2.2 x8_2 p344 q344
                               obtain rfl : ad343 = ad344 := (by injection e344)
                               replace p344 := eq_true p344
                               replace q344 := eq_true q344
                               have p345 : 0 ≤ (x8_2 : Int) := oDt (by first | (with_reducible assumption) | assumption)
                               have q345 : x8_2 < (t329.length : Int) := oDt (by first | (with_reducible assumption) | assumption)
                               obtain ⟨ad345, e345, hx345_0⟩ := Kd.at_int (Kd.R_reads' HO_6.out).2.2 x8_2 p345 q345
                               obtain rfl : ad343 = ad345 := (by injection e345)
                               replace p345 := eq_true p345
                               replace q345 := eq_true q345
                               obtain ⟨Ao51, co51, eo51⟩ := Kd.R_slice HO_7.out
                               subst eo51
                               have p346 : 0 ≤ ((rd t329 x8_2) : Int) := oDt (by first | (with_reducible assumption) | assumption)
                               have q346 : (rd t329 x8_2) < (x7_2.length : Int) := oDt (by first | (with_reducible assumption) | assumption)
                               obtain ⟨ad346, e346, hx346_0⟩ := Kd.at_bool (Kd.R_reads' HO_7.out).2.2 (rd t329 x8_2) p346 q346
                               (try rw [← Nbq44.out] at hx346_0)
                               cases e346
                               replace p346 := eq_true p346
                               replace q346 := eq_true q346
                               have p347 : 0 ≤ (x8_2 : Int) := oDt (by first | (with_reducible assumption) | assumption)
                               have q347 : x8_2 < (t326.length : Int) := oDt (by first | (with_reducible assumption) | assumption)
                               obtain ⟨ad347, e347, hx347_0⟩ := Kd.at_int (Kd.R_reads' HO_5.out).2.2 x8_2 p347 q347
                               cases e347
                               replace p347 := eq_true p347
                               replace q347 := eq_true q347
                               go_wp2
                               go_ret
                               exact ⟨by first | rfl | (simp [errW_none, errW_some] <;> rfl) | (simp [*, errW_none, errW_some] <;> rfl), by repeat (first | (with_reducible first | exact HB.out | apply bAl | apply bDn | apply bD1) | exact HB.out)⟩
                             · rw [if_neg c49] at H
                               have c49b0 : decide ((rd t326 x8_2) < 0) = false := decide_eq_false c49
                               clear c49
                               by_cases c52 : (rd t326 x8_2) > 2
                               · rw [if_pos c52] at H
                                 have c52b0 : decide (2 < (rd t326 x8_2)) = true := decide_eq_true c52
                                 clear c52
                                 obtain rfl := Option.some.inj H
                                 obtain ⟨Ao53, co53, eo53⟩ := Kd.R_slice HO_6.out
                                 subst eo53
                                 have p343 : 0 ≤ (x8_2 : Int) := oDt (by first | (with_reducible assumption) | assumption)
                                 have q343 : x8_2 < (t329.length : Int) := oDt (by first | (with_reducible assumption) | assumption)
                                 obtain ⟨ad343, e343, hx343_0⟩ := Kd.at_int (Kd.R_reads' HO_6.out).2.2 x8_2 p343 q343
                                 cases e343
                                 replace p343 := eq_true p343
                                 replace q343 := eq_true q343
                                 have p344 : 0 ≤ (x8_2 : Int) := oDt (by first | (with_reducible assumption) | assumption)
                                 have q344 : x8_2 < (t329.length : Int) := oDt (by first | (with_reducible assumption) | assumption)
                                 obtain ⟨ad344, e344, hx344_0⟩ := Kd.at_int (Kd.R_reads' HO_6.out).2.2 x8_2 p344 q344
                                 obtain rfl : ad343 = ad344 := (by injection e344)
                                 replace p344 := eq_true p344
                                 replace q344 := eq_true q344
                                 have p345 : 0 ≤ (x8_2 : Int) := oDt (by first | (with_reducible assumption) | assumption)
                                 have q345 : x8_2 < (t329.length : Int) := oDt (by first | (with_reducible assumption) | assumption)
                                 obtain ⟨ad345, e345, hx345_0⟩ := Kd.at_int (Kd.R_reads' HO_6.out).2.2 x8_2 p345 q345
                                 obtain rfl : ad343 = ad345 := (by injection e345)
                                 replace p345 := eq_true p345
                                 replace q345 := eq_true q345
                                 obtain ⟨Ao54, co54, eo54⟩ := Kd.R_slice HO_7.out
                                 subst eo54
                                 have p346 : 0 ≤ ((rd t329 x8_2) : Int) := oDt (by first | (with_reducible assumption) | assumption)
                                 have q346 : (rd t329 x8_2) < (x7_2.length : Int) := oDt (by first | (with_reducible assumption) | assumption)
                                 obtain ⟨ad346, e346, hx346_0⟩ := Kd.at_bool (Kd.R_reads' HO_7.out).2.2 (rd t329 x8_2) p346 q346
                                 (try rw [← Nbq44.out] at hx346_0)
                                 cases e346
                                 replace p346 := eq_true p346
                                 replace q346 := eq_true q346
                                 have p347 : 0 ≤ (x8_2 : Int) := oDt (by first | (with_reducible assumption) | assumption)
                                 have q347 : x8_2 < (t326.length : Int) := oDt (by first | (with_reducible assumption) | assumption)
                                 obtain ⟨ad347, e347, hx347_0⟩ := Kd.at_int (Kd.R_reads' HO_5.out).2.2 x8_2 p347 q347
                                 cases e347
                                 replace p347 := eq_true p347
                                 replace q347 := eq_true q347
                                 have p348 : 0 ≤ (x8_2 : Int) := oDt (by first | (with_reducible assumption) | assumption)
                                 have q348 : x8_2 < (t326.length : Int) := oDt (by first | (with_reducible assumption) | assumption)
                                 obtain ⟨ad348, e348, hx348_0⟩ := Kd.at_int (Kd.R_reads' HO_5.out).2.2 x8_2 p348 q348
                                 obtain rfl : ad347 = ad348 := (by injection e348)
                                 replace p348 := eq_true p348
                                 replace q348 := eq_true q348
                                 go_wp2
                                 go_ret
                                 exact ⟨by first | rfl | (simp [errW_none, errW_some] <;> rfl) | (simp [*, errW_none, errW_some] <;> rfl), by repeat (first | (with_reducible first | exact HB.out | apply bAl | apply bDn | apply bD1) | exact HB.out)⟩
                               · rw [if_neg c52] at H
                                 have c52b0 : decide (2 < (rd t326 x8_2)) = false := decide_eq_false c52
                                 clear c52
                                 obtain ⟨y350, hy350⟩ : ∃ y_ : List Bool, y_ = (x7_2.set ((rd t329 x8_2) : Int).toNat true) := ⟨_, rfl⟩
                                 replace H : (laws_FnLevels.l0 k2 t322 t326 t329 y350 (wrap64 (x8_2 + 1))) = some r := by first | (rw [hy350]; with_reducible exact H) | (have H2_ := (Option.bind_some _ _).symm.trans H; rw [hy350]; with_reducible exact H2_) | (have H2_ := (Option.bind_some _ _).symm.trans H; with_reducible exact H2_) | with_reducible exact H | (rw [hy350]; exact H) | exact H
                                 have Ny350 := aMk hy350
                                 clear hy350
                                 have H' := aMk H
                                 clear H
                                 obtain ⟨Ao56, co56, eo56⟩ := Kd.R_slice HO_6.out
                                 subst eo56
                                 have p343 : 0 ≤ (x8_2 : Int) := oDt (by first | (with_reducible assumption) | assumption)
                                 have q343 : x8_2 < (t329.length : Int) := oDt (by first | (with_reducible assumption) | assumption)
                                 obtain ⟨ad343, e343, hx343_0⟩ := Kd.at_int (Kd.R_reads' HO_6.out).2.2 x8_2 p343 q343
                                 cases e343
                                 replace p343 := eq_true p343
                                 replace q343 := eq_true q343
                                 have p344 : 0 ≤ (x8_2 : Int) := oDt (by first | (with_reducible assumption) | assumption)
                                 have q344 : x8_2 < (t329.length : Int) := oDt (by first | (with_reducible assumption) | assumption)
                                 obtain ⟨ad344, e344, hx344_0⟩ := Kd.at_int (Kd.R_reads' HO_6.out).2.2 x8_2 p344 q344
                                 obtain rfl : ad343 = ad344 := (by injection e344)
                                 replace p344 := eq_true p344
                                 replace q344 := eq_true q344
                                 have p345 : 0 ≤ (x8_2 : Int) := oDt (by first | (with_reducible assumption) | assumption)
                                 have q345 : x8_2 < (t329.length : Int) := oDt (by first | (with_reducible assumption) | assumption)
                                 obtain ⟨ad345, e345, hx345_0⟩ := Kd.at_int (Kd.R_reads' HO_6.out).2.2 x8_2 p345 q345
                                 obtain rfl : ad343 = ad345 := (by injection e345)
                                 replace p345 := eq_true p345
                                 replace q345 := eq_true q345
                                 obtain ⟨Ao57, co57, eo57⟩ := Kd.R_slice HO_7.out
                                 subst eo57
                                 have p346 : 0 ≤ ((rd t329 x8_2) : Int) := oDt (by first | (with_reducible assumption) | assumption)
                                 have q346 : (rd t329 x8_2) < (x7_2.length : Int) := oDt (by first | (with_reducible assumption) | assumption)
                                 obtain ⟨ad346, e346, hx346_0⟩ := Kd.at_bool (Kd.R_reads' HO_7.out).2.2 (rd t329 x8_2) p346 q346
                                 (try rw [← Nbq44.out] at hx346_0)
                                 cases e346
                                 replace p346 := eq_true p346
                                 replace q346 := eq_true q346
                                 have p347 : 0 ≤ (x8_2 : Int) := oDt (by first | (with_reducible assumption) | assumption)
                                 have q347 : x8_2 < (t326.length : Int) := oDt (by first | (with_reducible assumption) | assumption)
                                 obtain ⟨ad347, e347, hx347_0⟩ := Kd.at_int (Kd.R_reads' HO_5.out).2.2 x8_2 p347 q347
                                 cases e347
                                 replace p347 := eq_true p347
                                 replace q347 := eq_true q347
                                 have p348 : 0 ≤ (x8_2 : Int) := oDt (by first | (with_reducible assumption) | assumption)
                                 have q348 : x8_2 < (t326.length : Int) := oDt (by first | (with_reducible assumption) | assumption)
                                 obtain ⟨ad348, e348, hx348_0⟩ := Kd.at_int (Kd.R_reads' HO_5.out).2.2 x8_2 p348 q348
                                 obtain rfl : ad347 = ad348 := (by injection e348)
                                 replace p348 := eq_true p348
                                 replace q348 := eq_true q348
                                 have p349 : 0 ≤ (x8_2 : Int) := oDt (by first | (with_reducible assumption) | assumption)
                                 have q349 : x8_2 < (t329.length : Int) := oDt (by first | (with_reducible assumption) | assumption)
                                 obtain ⟨ad349, e349, hx349_0⟩ := Kd.at_int (Kd.R_reads' HO_6.out).2.2 x8_2 p349 q349
                                 obtain rfl : ad343 = ad349 := (by injection e349)
                                 replace p349 := eq_true p349
                                 replace q349 := eq_true q349
                                 have p55 : 0 ≤ ((rd t329 x8_2) : Int) := oDt (by first | (with_reducible assumption) | assumption)
                                 have q55 : ((rd t329 x8_2) : Int) < ((x7_2.length : Int) : Int) := oDt (by first | (with_reducible assumption) | assumption)
                                 obtain ⟨go55, co55, eo55, gb55, gl55, cl55, HG55⟩ := Kd.R_form HO_7.out (by omega)
                                 (first | cases eo55 | (injection eo55 with ea_ en_ ec_; (first | subst ea_ | (injection ea_ with ea_; subst ea_)); subst ec_; clear en_))
                                 have GB55 := aMk gb55
                                 have GG55 := aMk HG55
                                 clear gb55 gl55 HG55
                                 (first | simp only [add_plain] at hx346_0 | skip)
                                 obtain ⟨hx55_0, hf55_0⟩ := Kd.R_celln false HO_7.out ((rd t329 x8_2) : Int) p55 q55
                                 replace p55 := eq_true p55
                                 replace q55 := eq_true q55
                                 have HP58 := Kd.R_putg HO_7.out ((rd t329 x8_2) : Int) true
                                 go_wp2_with (first | ((with_reducible refine gate_store (t := 4) (p := 99) rfl ?_); refine store_event (t := 4) (p := 99) (v := ?vo_w59) (w1 := (wr.setCell ⟨go55, ((rd t329 x8_2) : Int).toNat, none⟩ (.bool true))) ?hg ?ho ?hn ?hr ?_; (case ho => rfl); (case hg => rfl); (case hn => rfl); (case hr => first | (go_simp; done) | (go_simp; rfl)); intro w59 hw; have hg : wr.grownBy w59 (some go55) := (by rw [hw]; exact HP58.2); have hp_ : Kd.R Kd.bool 4 w59 w.heap.size (fun _ => True) (.slice (some ⟨go55, 0, none⟩) x7_2.length co57) y350 := (by rw [hw, Ny350.out]; exact HP58.1); clear HP58; have n0_ := aMk (Kd.R_over' (v := (.slice (some ⟨go55, 0, none⟩) x7_2.length co57)) (by (with_reducible repeat (first | apply Kd.R_alloc | apply Kd.R_drewN | apply Kd.R_drew)); exact HO_3.out) (Kd.R_typed HO_7.out) (by decide) hg); have n1_ := aMk (Kd.R_over' (v := (.slice (some ⟨go55, 0, none⟩) x7_2.length co57)) (by (with_reducible repeat (first | apply Kd.R_alloc | apply Kd.R_drewN | apply Kd.R_drew)); exact HO_5.out) (Kd.R_typed HO_7.out) (by decide) hg); have n2_ := aMk (Kd.R_over' (v := (.slice (some ⟨go55, 0, none⟩) x7_2.length co57)) (by (with_reducible repeat (first | apply Kd.R_alloc | apply Kd.R_drewN | apply Kd.R_drew)); exact HO_6.out) (Kd.R_typed HO_7.out) (by decide) hg); have n3_ := aMk (hp_); have n4_ := aMk ((by rw [hw]; exact bSe (HB.out) GB55.out : Below w.heap.size w w59)); clear HO_3; clear HO_5; clear HO_6; clear HO_7; clear HB; have HO_3 := n0_; have HO_5 := n1_; have HO_6 := n2_; have HO_7 := n3_; have HB := n4_; clear n0_ n1_ n2_ n3_ n4_; clear hg hw hp_))
                                 go_roundg k2
                                 case measure => have := HJ6.out; have := HK2.out; omega
                                 case rel => exact ⟨(y350), (wrap64 (x8_2 + 1)), (by first | rfl | (simp; done) | (simp [*]; done)), H', ⟨by have := HJ6.out; have := HK2.out; omega⟩, ⟨by (with_reducible repeat (first | apply Kd.R_alloc | apply Kd.R_drewN | apply Kd.R_drew)); exact HO_3.out⟩, ⟨by (with_reducible repeat (first | apply Kd.R_alloc | apply Kd.R_drewN | apply Kd.R_drew)); exact HO_5.out⟩, ⟨by (with_reducible repeat (first | apply Kd.R_alloc | apply Kd.R_drewN | apply Kd.R_drew)); exact HO_6.out⟩, ⟨by (with_reducible repeat (first | apply Kd.R_alloc | apply Kd.R_drewN | apply Kd.R_drew)); exact HO_7.out⟩, ⟨by repeat (first | (with_reducible first | exact HB.out | apply bAl | apply bDn | apply bD1) | exact HB.out)⟩⟩
                           · rw [if_neg c48] at H
                             exact absurd H (by simp)
                       · rw [if_neg c43] at H
                         exact absurd H (by simp)
                     · rw [if_neg c42] at H
                       exact absurd H (by simp)
               · rw [if_neg c37] at H
                 exact absurd H (by simp)
             · rw [if_neg c36] at H
               have c36b0 : decide (x8_2 < (t329.length : Int)) = false := decide_eq_false c36
               clear c36
               obtain ⟨y351, hy351⟩ : ∃ y_ : List Int, y_ = (([] : List Int)) := ⟨_, rfl⟩
               replace H : (laws_FnLevels.l1 k2 t322 y351 (([] : List Int)) 0) = some r := by first | (rw [hy351]; with_reducible exact H) | (have H2_ := (Option.bind_some _ _).symm.trans H; rw [hy351]; with_reducible exact H2_) | (have H2_ := (Option.bind_some _ _).symm.trans H; with_reducible exact H2_) | with_reducible exact H | (rw [hy351]; exact H) | exact H
               have Ny351 := aMk hy351
               clear hy351
               obtain ⟨y354, hy354⟩ : ∃ y_ : List Int, y_ = (([] : List Int)) := ⟨_, rfl⟩
               replace H : (laws_FnLevels.l1 k2 t322 y351 y354 0) = some r := by first | (rw [hy354]; with_reducible exact H) | (have H2_ := (Option.bind_some _ _).symm.trans H; rw [hy354]; with_reducible exact H2_) | (have H2_ := (Option.bind_some _ _).symm.trans H; with_reducible exact H2_) | with_reducible exact H | (rw [hy354]; exact H) | exact H
               have Ny354 := aMk hy354
               clear hy354
               have H' := aMk H
               clear H
               obtain ⟨Ao60, co60, eo60⟩ := Kd.R_slice HO_6.out
               subst eo60
               go_wp2_with (first | ((with_reducible refine gate_dst (N := 100) rfl ?_); (try (refine gate_guard (by rfl) ?_; dsimp only)); refine Kd.R_lit (Kd.int .i64) _ 3 ?hg (N := 100) ?hd (xs := ([] : List Int)) (inner := []) (ok := fun _ => True) (okp := fun _ => True) ?hr ?hp (fun _ hk => hk) trivial (Below.refl _ _) (Nat.le_refl _) (by simp) ?_; (case hd => rfl); (case hg => rfl); (case hr => first | (go_simp; done) | (go_simp; rfl)); (case hp => exact (Reps.none _ _)); intro v352 w61 ho62 hb hg_ hnew_; clear hg_ hnew_; (first | rw [← Ny351.out] at ho62 | (simp only [Int.reduceToNat] at ho62; rw [← Ny351.out] at ho62)); have n0_ := aMk (Kd.R_elder' (by (with_reducible repeat (first | apply Kd.R_alloc | apply Kd.R_drewN | apply Kd.R_drew)); exact HO_3.out) (Kd.R_base ho62) hb); have n1_ := aMk (Kd.R_elder' (by (with_reducible repeat (first | apply Kd.R_alloc | apply Kd.R_drewN | apply Kd.R_drew)); exact HO_5.out) (Kd.R_base ho62) hb); have n2_ := aMk (Kd.R_elder' (by (with_reducible repeat (first | apply Kd.R_alloc | apply Kd.R_drewN | apply Kd.R_drew)); exact HO_6.out) (Kd.R_base ho62) hb); have n3_ := aMk (Kd.R_below (by (with_reducible repeat (first | apply Kd.R_alloc | apply Kd.R_drewN | apply Kd.R_drew)); exact HO_7.out) hb); have n4_ := aMk (Kd.R_lower (Kd.R_new' (Kd.R_new' (Kd.R_new' ho62 (Kd.R_lt (by (with_reducible repeat (first | apply Kd.R_alloc | apply Kd.R_drewN | apply Kd.R_drew)); exact HO_3.out))) (Kd.R_lt (by (with_reducible repeat (first | apply Kd.R_alloc | apply Kd.R_drewN | apply Kd.R_drew)); exact HO_5.out))) (Kd.R_lt (by (with_reducible repeat (first | apply Kd.R_alloc | apply Kd.R_drewN | apply Kd.R_drew)); exact HO_6.out))) (below_size (by repeat (first | (with_reducible first | exact HB.out | apply bAl | apply bDn | apply bD1) | exact HB.out)))); have n5_ := aMk (below_step (by repeat (first | (with_reducible first | exact HB.out | apply bAl | apply bDn | apply bD1) | exact HB.out)) hb); clear HO_3; clear HO_5; clear HO_6; clear HO_7; clear HB; have HO_3 := n0_; have HO_5 := n1_; have HO_6 := n2_; have HO_7 := n3_; have HO353 := n4_; have HB := n5_; clear n0_ n1_ n2_ n3_ n4_ n5_; clear hb ho62) | ((with_reducible refine gate_dst (N := 101) rfl ?_); (try (refine gate_guard (by rfl) ?_; dsimp only)); refine Kd.R_lit (Kd.int .i64) _ 3 ?hg (N := 101) ?hd (xs := ([] : List Int)) (inner := []) (ok := fun _ => True) (okp := fun _ => True) ?hr ?hp (fun _ hk => hk) trivial (Below.refl _ _) (Nat.le_refl _) (by simp) ?_; (case hd => rfl); (case hg => rfl); (case hr => first | (go_simp; done) | (go_simp; rfl)); (case hp => exact (Reps.none _ _)); intro v355 w63 ho64 hb hg_ hnew_; clear hg_ hnew_; (first | rw [← Ny354.out] at ho64 | (simp only [Int.reduceToNat] at ho64; rw [← Ny354.out] at ho64)); have n0_ := aMk (Kd.R_elder' (by (with_reducible repeat (first | apply Kd.R_alloc | apply Kd.R_drewN | apply Kd.R_drew)); exact HO_3.out) (Kd.R_base ho64) hb); have n1_ := aMk (Kd.R_elder' (by (with_reducible repeat (first | apply Kd.R_alloc | apply Kd.R_drewN | apply Kd.R_drew)); exact HO_5.out) (Kd.R_base ho64) hb); have n2_ := aMk (Kd.R_elder' (by (with_reducible repeat (first | apply Kd.R_alloc | apply Kd.R_drewN | apply Kd.R_drew)); exact HO_6.out) (Kd.R_base ho64) hb); have n3_ := aMk (Kd.R_below (by (with_reducible repeat (first | apply Kd.R_alloc | apply Kd.R_drewN | apply Kd.R_drew)); exact HO_7.out) hb); have n4_ := aMk (Kd.R_elder' (by (with_reducible repeat (first | apply Kd.R_alloc | apply Kd.R_drewN | apply Kd.R_drew)); exact HO353.out) (Kd.R_base ho64) hb); have n5_ := aMk (Kd.R_lower (Kd.R_new' (Kd.R_new' (Kd.R_new' (Kd.R_new' ho64 (Kd.R_lt (by (with_reducible repeat (first | apply Kd.R_alloc | apply Kd.R_drewN | apply Kd.R_drew)); exact HO_3.out))) (Kd.R_lt (by (with_reducible repeat (first | apply Kd.R_alloc | apply Kd.R_drewN | apply Kd.R_drew)); exact HO_5.out))) (Kd.R_lt (by (with_reducible repeat (first | apply Kd.R_alloc | apply Kd.R_drewN | apply Kd.R_drew)); exact HO_6.out))) (Kd.R_lt (by (with_reducible repeat (first | apply Kd.R_alloc | apply Kd.R_drewN | apply Kd.R_drew)); exact HO353.out))) (below_size (by repeat (first | (with_reducible first | exact HB.out | apply bAl | apply bDn | apply bD1) | exact HB.out)))); have n6_ := aMk (below_step (by repeat (first | (with_reducible first | exact HB.out | apply bAl | apply bDn | apply bD1) | exact HB.out)) hb); clear HO_3; clear HO_5; clear HO_6; clear HO_7; clear HO353; clear HB; have HO_3 := n0_; have HO_5 := n1_; have HO_6 := n2_; have HO_7 := n3_; have HO353 := n4_; have HO356 := n5_; have HB := n6_; clear n0_ n1_ n2_ n3_ n4_ n5_ n6_; clear hb ho64))
               go_loopg [9, 10, 11] k2 (fun kq v9 v10 v11 w' => ∃ (x9_3 : List Int) (x10_3 : List Int) (x11_3 : Int), v11 = .int .i64 x11_3 ∧ Aside0 (laws_FnLevels.l1 kq t322 x9_3 x10_3 x11_3 = some r) ∧ Aside0 (kq ≤ k2) ∧ Aside0 (Kd.R (Kd.int .i64) 3 w' w.heap.size (fun k_ => some k_ ≠ (v9 : Value).ownBlock ∧ some k_ ≠ (v10 : Value).ownBlock) (.slice Ao9 t322.length co9) t322) ∧ Aside0 (Kd.R (Kd.int .i64) 3 w' w.heap.size (fun k_ => some k_ ≠ ((.slice Ao9 t322.length co9) : Value).ownBlock ∧ some k_ ≠ (v10 : Value).ownBlock) v9 x9_3) ∧ Aside0 (Kd.R (Kd.int .i64) 3 w' w.heap.size (fun k_ => some k_ ≠ ((.slice Ao9 t322.length co9) : Value).ownBlock ∧ some k_ ≠ (v9 : Value).ownBlock) v10 x10_3) ∧ Aside0 (Below w.heap.size w w'))
               case atStart => exact ⟨(y351), (y354), (0), (by first | rfl | (simp; done) | (simp [*]; done)), H', ⟨Nat.le_refl _⟩, ⟨by (with_reducible repeat (first | apply Kd.R_alloc | apply Kd.R_drewN | apply Kd.R_drew)); exact Kd.R_mono HO_3.out (fun _ hk => ⟨hk.1.2, hk.2⟩)⟩, ⟨by (with_reducible repeat (first | apply Kd.R_alloc | apply Kd.R_drewN | apply Kd.R_drew)); exact Kd.R_mono HO353.out (fun _ hk => ⟨hk.1.1.1.2, hk.2⟩)⟩, ⟨by (with_reducible repeat (first | apply Kd.R_alloc | apply Kd.R_drewN | apply Kd.R_drew)); exact Kd.R_mono HO356.out (fun _ hk => ⟨hk.1.1.1.2, hk.2⟩)⟩, ⟨by repeat (first | (with_reducible first | exact HB.out | apply bAl | apply bDn | apply bD1) | exact HB.out)⟩⟩
               case round =>
                clear H'
                (try clear c1); (try clear c2); (try clear p2); (try clear c3); (try clear p3); (try clear q3); (try clear hx3); (try clear c4); (try clear q4); (try clear c5); (try clear p5); (try clear q5); (try clear hx5); (try clear hf5); (try clear p6); (try clear c9); (try clear c14); (try clear c15); (try clear c18); (try clear c20); (try clear c23); (try clear c29); (try clear c30); (try clear c31); (try clear c32); (try clear c32b0); (try clear c32b1); (try clear c33); (try clear c33b0); (try clear c33b1); (try clear p34); (try clear q34); (try clear hx34); (try clear c36); (try clear c36b0); (try clear c37); (try clear c37b0); (try clear c38); (try clear c38b0); (try clear c40); (try clear c40b0); (try clear c42); (try clear c42b0); (try clear c43); (try clear c43b0); (try clear q44); (try clear c45); (try clear c48); (try clear c48b0); (try clear c49); (try clear c49b0); (try clear c52); (try clear c52b0); (try clear p55); (try clear q55); (try clear hx55); (try clear hf55); (try clear p64); (try clear hx343_0); (try clear hx344_0); (try clear hx345_0); (try clear hx346_0); (try clear hx347_0); (try clear hx348_0); (try clear hx349_0); (try clear hx55_0); (try clear p2); (try clear p343); (try clear p344); (try clear p345); (try clear p346); (try clear p347); (try clear p348); (try clear p349); (try clear p55); (try clear q343); (try clear q344); (try clear q345); (try clear q346); (try clear q347); (try clear q348); (try clear q349); (try clear q55)
                obtain ⟨x9_3, x10_3, x11_3, rfl, HA, HK3, HO_3, HO_9, HO_10, HB⟩ := hrel
                cases gk with
                | zero => exact absurd HA.out (by simp [laws_FnLevels.l1])
                | succ k3 =>
                 have H := HA.out
                 clear HA
                 simp only [laws_FnLevels.l1] at H
                 by_cases c65 : x11_3 < (t322.length : Int)
                 · rw [if_pos c65] at H
                   have c65b0 : decide (x11_3 < (t322.length : Int)) = true := decide_eq_true c65
                   clear c65
                   by_cases c66 : 0 ≤ x11_3
                   · rw [if_pos c66] at H
                     have c66b0 : decide (0 ≤ x11_3) = true := decide_eq_true c66
                     clear c66
                     replace H := oBm H
                     obtain ⟨t358, A670, H⟩ := H
                     replace H : (if t358 = 0 then (if x9_3.length < 17592186044416 then ((some (x9_3 ++ [rd t322 x11_3] : List Int)).bind fun y360 => ((spec_DirClass.f k3 (rd t322 x11_3)).bind fun t364 => (if t364 = 1 then (if x10_3.length < 17592186044416 then (laws_FnLevels.l1 k3 t322 y360 (x10_3 ++ [rd t322 x11_3]) (wrap64 (x11_3 + 1))) else (none)) else (laws_FnLevels.l1 k3 t322 y360 x10_3 (wrap64 (x11_3 + 1)))))) else (none)) else ((spec_DirClass.f k3 (rd t322 x11_3)).bind fun t370 => (if t370 = 1 then (if x10_3.length < 17592186044416 then (laws_FnLevels.l1 k3 t322 x9_3 (x10_3 ++ [rd t322 x11_3]) (wrap64 (x11_3 + 1))) else (none)) else (laws_FnLevels.l1 k3 t322 x9_3 x10_3 (wrap64 (x11_3 + 1)))))) = some r := H
                     have A67 := aMk A670
                     clear A670
                     by_cases c68 : t358 = 0
                     · rw [if_pos c68] at H
                       have c68b0 : (t358 == 0) = true := beq_iff_eq.mpr c68
                       have c68b1 : (t358 != 0) = false := bne_eq_false_iff_eq.mpr c68
                       clear c68
                       by_cases c69 : x9_3.length < 17592186044416
                       · rw [if_pos c69] at H
                         have LMc69 := aMk c69
                         clear c69
                         obtain ⟨y360, hy360⟩ : ∃ y_ : List Int, y_ = (x9_3 ++ [rd t322 x11_3]) := ⟨_, rfl⟩
                         replace H : ((spec_DirClass.f k3 (rd t322 x11_3)).bind fun t364 => (if t364 = 1 then (if x10_3.length < 17592186044416 then (laws_FnLevels.l1 k3 t322 y360 (x10_3 ++ [rd t322 x11_3]) (wrap64 (x11_3 + 1))) else (none)) else (laws_FnLevels.l1 k3 t322 y360 x10_3 (wrap64 (x11_3 + 1))))) = some r := by first | (rw [hy360]; with_reducible exact H) | (have H2_ := (Option.bind_some _ _).symm.trans H; rw [hy360]; with_reducible exact H2_) | (have H2_ := (Option.bind_some _ _).symm.trans H; with_reducible exact H2_) | with_reducible exact H | (rw [hy360]; exact H) | exact H
                         have Ny360 := aMk hy360
                         clear hy360
                         replace H := oBm H
                         obtain ⟨t364, A700, H⟩ := H
                         replace H : (if t364 = 1 then (if x10_3.length < 17592186044416 then (laws_FnLevels.l1 k3 t322 y360 (x10_3 ++ [rd t322 x11_3]) (wrap64 (x11_3 + 1))) else (none)) else (laws_FnLevels.l1 k3 t322 y360 x10_3 (wrap64 (x11_3 + 1)))) = some r := H
                         have A70 := aMk A700
                         clear A700
                         by_cases c71 : t364 = 1
                         · rw [if_pos c71] at H
                           have c71b0 : (t364 == 1) = true := beq_iff_eq.mpr c71
                           have c71b1 : (t364 != 1) = false := bne_eq_false_iff_eq.mpr c71
                           clear c71
                           by_cases c72 : x10_3.length < 17592186044416
                           · rw [if_pos c72] at H
                             have LMc72 := aMk c72
                             clear c72
                             obtain ⟨y366, hy366⟩ : ∃ y_ : List Int, y_ = (x10_3 ++ [rd t322 x11_3]) := ⟨_, rfl⟩
                             replace H : (laws_FnLevels.l1 k3 t322 y360 y366 (wrap64 (x11_3 + 1))) = some r := by first | (rw [hy366]; with_reducible exact H) | (have H2_ := (Option.bind_some _ _).symm.trans H; rw [hy366]; with_reducible exact H2_) | (have H2_ := (Option.bind_some _ _).symm.trans H; with_reducible exact H2_) | with_reducible exact H | (rw [hy366]; exact H) | exact H
                             have Ny366 := aMk hy366
                             clear hy366
                             have H' := aMk H
                             clear H
                             have p357 : 0 ≤ (x11_3 : Int) := oDt (by first | (with_reducible assumption) | assumption)
                             have q357 : x11_3 < (t322.length : Int) := oDt (by first | (with_reducible assumption) | assumption)
                             obtain ⟨ad357, e357, hx357_0⟩ := Kd.at_int (Kd.R_reads' HO_3.out).2.2 x11_3 p357 q357
                             cases e357
                             replace p357 := eq_true p357
                             replace q357 := eq_true q357
                             go_wp2_with (first | ((with_reducible refine gate_callee (f := 44) rfl ?_); refine goesL_ (some 112) rfl rfl Try.func44 (by kernel_rfl) rfl #[.int .i64 (rd t322 x11_3)] rfl (by (try simp only [List.map_toArray, List.map_cons, List.map_nil]); first | done | rfl | (simp only [List.length_drop, List.length_take]; rfl)) ?_; (with_reducible refine (spec_DirClass.calls k3 (rd t322 x11_3) t358 _ A67.out).mono ?_); rintro e w' ⟨rfl, ⟨nd, rfl⟩⟩; refine ⟨_, rfl, ?_⟩; have p359 : 0 ≤ (x11_3 : Int) := oDt (by first | (with_reducible assumption) | assumption); have q359 : x11_3 < (t322.length : Int) := oDt (by first | (with_reducible assumption) | assumption); obtain ⟨ad359, e359, hx359_0⟩ := Kd.at_int (Kd.R_reads' HO_3.out).2.2 x11_3 p359 q359; obtain rfl : ad357 = ad359 := (by injection e359); replace p359 := eq_true p359; replace q359 := eq_true q359) | ((with_reducible refine gate_builtin (b := .append) (xs := #[.tmp 114, .tmp 119]) rfl ?_); (try (refine gate_guard (by rfl) ?_; dsimp only)); at_builtin; refine Kd.R_append (Kd.int .i64) (w0 := w) w.heap.size rfl (.tmp 114) (.tmp 119) 22 3 (.int .i64 0) 8 rfl Try.underlying22 info3 rfl (by decide) (by omega) u9 x9_3 (rd t322 x11_3) [.int .i64 (rd t322 x11_3)] (fun k_ => some k_ ≠ (.slice (some ad357) t322.length co9 : Value).ownBlock ∧ some k_ ≠ (u10 : Value).ownBlock) (fun _ => False) rfl rfl ?aP (fun _ hk => hk.elim) ?aF ?aO ?aB ?aS ?aL ?_; (case aP => exact rfl); (case aB => exact (by repeat (first | (with_reducible first | exact HB.out | apply bAl | apply bDn | apply bD1) | exact HB.out))); (case aF => exact (fun k_ hk => ⟨Kd.fresh' (Kd.R_lt (by (with_reducible repeat (first | apply Kd.R_alloc | apply Kd.R_drewN | apply Kd.R_drew)); exact HO_3.out)) k_ hk, Kd.fresh' (Kd.R_lt (by (with_reducible repeat (first | apply Kd.R_alloc | apply Kd.R_drewN | apply Kd.R_drew)); exact HO_10.out)) k_ hk⟩)); (case aO => exact (by (with_reducible repeat (first | apply Kd.R_alloc | apply Kd.R_drewN | apply Kd.R_drew)); exact HO_9.out)); (case aS => exact (below_size (by repeat (first | (with_reducible first | exact HB.out | apply bAl | apply bDn | apply bD1) | exact HB.out)))); (case aL => have := LMc69.out; omega); intro v361 w73 ho hb hg hat; rw [← Ny360.out] at ho; have n0_ := aMk (Kd.R_after (ok := (fun k_ => some k_ ≠ (u10 : Value).ownBlock)) (by (with_reducible repeat (first | apply Kd.R_alloc | apply Kd.R_drewN | apply Kd.R_drew)); exact Kd.R_mono HO_3.out (fun _ hk => ⟨hk.2, hk.1⟩)) hg hat); have n1_ := aMk (Kd.R_after (ok := (fun k_ => some k_ ≠ (.slice (some ad357) t322.length co9 : Value).ownBlock)) (by (with_reducible repeat (first | apply Kd.R_alloc | apply Kd.R_drewN | apply Kd.R_drew)); exact HO_10.out) hg hat); have n2_ := aMk (hb); have n3_ := aMk (ho); clear HO_3; clear HO_10; clear HB; clear HO_9; have HO_3 := n0_; have HO_10 := n1_; have HB := n2_; have HO362 := n3_; clear n0_ n1_ n2_ n3_; clear ho hb hg hat; have p363 : 0 ≤ (x11_3 : Int) := oDt (by first | (with_reducible assumption) | assumption); have q363 : x11_3 < (t322.length : Int) := oDt (by first | (with_reducible assumption) | assumption); obtain ⟨ad363, e363, hx363_0⟩ := Kd.at_int (Kd.R_reads' HO_3.out).2.2 x11_3 p363 q363; obtain rfl : ad357 = ad363 := (by injection e363); replace p363 := eq_true p363; replace q363 := eq_true q363) | ((with_reducible refine gate_callee (f := 44) rfl ?_); refine goesL_ (some 125) rfl rfl Try.func44 (by kernel_rfl) rfl #[.int .i64 (rd t322 x11_3)] rfl (by (try simp only [List.map_toArray, List.map_cons, List.map_nil]); first | done | rfl | (simp only [List.length_drop, List.length_take]; rfl)) ?_; (with_reducible refine (spec_DirClass.calls k3 (rd t322 x11_3) t364 _ A70.out).mono ?_); rintro e w' ⟨rfl, ⟨nd, rfl⟩⟩; refine ⟨_, rfl, ?_⟩; have p365 : 0 ≤ (x11_3 : Int) := oDt (by first | (with_reducible assumption) | assumption); have q365 : x11_3 < (t322.length : Int) := oDt (by first | (with_reducible assumption) | assumption); obtain ⟨ad365, e365, hx365_0⟩ := Kd.at_int (Kd.R_reads' HO_3.out).2.2 x11_3 p365 q365; obtain rfl : ad357 = ad365 := (by injection e365); replace p365 := eq_true p365; replace q365 := eq_true q365) | ((with_reducible refine gate_builtin (b := .append) (xs := #[.tmp 127, .tmp 132]) rfl ?_); (try (refine gate_guard (by rfl) ?_; dsimp only)); at_builtin; refine Kd.R_append (Kd.int .i64) (w0 := w) w.heap.size rfl (.tmp 127) (.tmp 132) 22 3 (.int .i64 0) 8 rfl Try.underlying22 info3 rfl (by decide) (by omega) u10 x10_3 (rd t322 x11_3) [.int .i64 (rd t322 x11_3)] (fun k_ => some k_ ≠ (.slice (some ad357) t322.length co9 : Value).ownBlock ∧ some k_ ≠ (v361 : Value).ownBlock) (fun _ => False) rfl rfl ?aP (fun _ hk => hk.elim) ?aF ?aO ?aB ?aS ?aL ?_; (case aP => exact rfl); (case aB => exact (by repeat (first | (with_reducible first | exact HB.out | apply bAl | apply bDn | apply bD1) | exact HB.out))); (case aF => exact (fun k_ hk => ⟨Kd.fresh' (Kd.R_lt (by (with_reducible repeat (first | apply Kd.R_alloc | apply Kd.R_drewN | apply Kd.R_drew)); exact HO_3.out)) k_ hk, Kd.fresh' (Kd.R_lt (by (with_reducible repeat (first | apply Kd.R_alloc | apply Kd.R_drewN | apply Kd.R_drew)); exact HO362.out)) k_ hk⟩)); (case aO => exact (by (with_reducible repeat (first | apply Kd.R_alloc | apply Kd.R_drewN | apply Kd.R_drew)); exact HO_10.out)); (case aS => exact (below_size (by repeat (first | (with_reducible first | exact HB.out | apply bAl | apply bDn | apply bD1) | exact HB.out)))); (case aL => have := LMc72.out; omega); intro v367 w74 ho hb hg hat; rw [← Ny366.out] at ho; have n0_ := aMk (Kd.R_after (ok := (fun k_ => some k_ ≠ (v361 : Value).ownBlock)) (by (with_reducible repeat (first | apply Kd.R_alloc | apply Kd.R_drewN | apply Kd.R_drew)); exact Kd.R_mono HO_3.out (fun _ hk => ⟨hk.2, hk.1⟩)) hg hat); have n1_ := aMk (Kd.R_after (ok := (fun k_ => some k_ ≠ (.slice (some ad357) t322.length co9 : Value).ownBlock)) (by (with_reducible repeat (first | apply Kd.R_alloc | apply Kd.R_drewN | apply Kd.R_drew)); exact HO362.out) hg hat); have n2_ := aMk (hb); have n3_ := aMk (ho); clear HO_3; clear HO362; clear HB; clear HO_10; have HO_3 := n0_; have HO362 := n1_; have HB := n2_; have HO368 := n3_; clear n0_ n1_ n2_ n3_; clear ho hb hg hat))
                             go_roundg k3
                             case measure => have := HJ6.out; have := HK2.out; have := HK3.out; omega
                             case rel => exact ⟨(y360), (y366), (wrap64 (x11_3 + 1)), (by first | rfl | (simp; done) | (simp [*]; done)), H', ⟨by have := HJ6.out; have := HK2.out; have := HK3.out; omega⟩, ⟨by (with_reducible repeat (first | apply Kd.R_alloc | apply Kd.R_drewN | apply Kd.R_drew)); exact HO_3.out⟩, ⟨by (with_reducible repeat (first | apply Kd.R_alloc | apply Kd.R_drewN | apply Kd.R_drew)); exact HO362.out⟩, ⟨by (with_reducible repeat (first | apply Kd.R_alloc | apply Kd.R_drewN | apply Kd.R_drew)); exact HO368.out⟩, ⟨by repeat (first | (with_reducible first | exact HB.out | apply bAl | apply bDn | apply bD1) | exact HB.out)⟩⟩
                           · rw [if_neg c72] at H
                             exact absurd H (by simp)
                         · rw [if_neg c71] at H
                           have c71b0 : (t364 == 1) = false := beq_eq_false_iff_ne.mpr c71
                           have c71b1 : (t364 != 1) = true := bne_iff_ne.mpr c71
                           have H' := aMk H
                           clear H
                           have p357 : 0 ≤ (x11_3 : Int) := oDt (by first | (with_reducible assumption) | assumption)
                           have q357 : x11_3 < (t322.length : Int) := oDt (by first | (with_reducible assumption) | assumption)
                           obtain ⟨ad357, e357, hx357_0⟩ := Kd.at_int (Kd.R_reads' HO_3.out).2.2 x11_3 p357 q357
                           cases e357
                           replace p357 := eq_true p357
                           replace q357 := eq_true q357
                           go_wp2_with (first | ((with_reducible refine gate_callee (f := 44) rfl ?_); refine goesL_ (some 112) rfl rfl Try.func44 (by kernel_rfl) rfl #[.int .i64 (rd t322 x11_3)] rfl (by (try simp only [List.map_toArray, List.map_cons, List.map_nil]); first | done | rfl | (simp only [List.length_drop, List.length_take]; rfl)) ?_; (with_reducible refine (spec_DirClass.calls k3 (rd t322 x11_3) t358 _ A67.out).mono ?_); rintro e w' ⟨rfl, ⟨nd, rfl⟩⟩; refine ⟨_, rfl, ?_⟩; have p359 : 0 ≤ (x11_3 : Int) := oDt (by first | (with_reducible assumption) | assumption); have q359 : x11_3 < (t322.length : Int) := oDt (by first | (with_reducible assumption) | assumption); obtain ⟨ad359, e359, hx359_0⟩ := Kd.at_int (Kd.R_reads' HO_3.out).2.2 x11_3 p359 q359; obtain rfl : ad357 = ad359 := (by injection e359); replace p359 := eq_true p359; replace q359 := eq_true q359) | ((with_reducible refine gate_builtin (b := .append) (xs := #[.tmp 114, .tmp 119]) rfl ?_); (try (refine gate_guard (by rfl) ?_; dsimp only)); at_builtin; refine Kd.R_append (Kd.int .i64) (w0 := w) w.heap.size rfl (.tmp 114) (.tmp 119) 22 3 (.int .i64 0) 8 rfl Try.underlying22 info3 rfl (by decide) (by omega) u9 x9_3 (rd t322 x11_3) [.int .i64 (rd t322 x11_3)] (fun k_ => some k_ ≠ (.slice (some ad357) t322.length co9 : Value).ownBlock ∧ some k_ ≠ (u10 : Value).ownBlock) (fun _ => False) rfl rfl ?aP (fun _ hk => hk.elim) ?aF ?aO ?aB ?aS ?aL ?_; (case aP => exact rfl); (case aB => exact (by repeat (first | (with_reducible first | exact HB.out | apply bAl | apply bDn | apply bD1) | exact HB.out))); (case aF => exact (fun k_ hk => ⟨Kd.fresh' (Kd.R_lt (by (with_reducible repeat (first | apply Kd.R_alloc | apply Kd.R_drewN | apply Kd.R_drew)); exact HO_3.out)) k_ hk, Kd.fresh' (Kd.R_lt (by (with_reducible repeat (first | apply Kd.R_alloc | apply Kd.R_drewN | apply Kd.R_drew)); exact HO_10.out)) k_ hk⟩)); (case aO => exact (by (with_reducible repeat (first | apply Kd.R_alloc | apply Kd.R_drewN | apply Kd.R_drew)); exact HO_9.out)); (case aS => exact (below_size (by repeat (first | (with_reducible first | exact HB.out | apply bAl | apply bDn | apply bD1) | exact HB.out)))); (case aL => have := LMc69.out; omega); intro v361 w75 ho hb hg hat; rw [← Ny360.out] at ho; have n0_ := aMk (Kd.R_after (ok := (fun k_ => some k_ ≠ (u10 : Value).ownBlock)) (by (with_reducible repeat (first | apply Kd.R_alloc | apply Kd.R_drewN | apply Kd.R_drew)); exact Kd.R_mono HO_3.out (fun _ hk => ⟨hk.2, hk.1⟩)) hg hat); have n1_ := aMk (Kd.R_after (ok := (fun k_ => some k_ ≠ (.slice (some ad357) t322.length co9 : Value).ownBlock)) (by (with_reducible repeat (first | apply Kd.R_alloc | apply Kd.R_drewN | apply Kd.R_drew)); exact HO_10.out) hg hat); have n2_ := aMk (hb); have n3_ := aMk (ho); clear HO_3; clear HO_10; clear HB; clear HO_9; have HO_3 := n0_; have HO_10 := n1_; have HB := n2_; have HO362 := n3_; clear n0_ n1_ n2_ n3_; clear ho hb hg hat; have p363 : 0 ≤ (x11_3 : Int) := oDt (by first | (with_reducible assumption) | assumption); have q363 : x11_3 < (t322.length : Int) := oDt (by first | (with_reducible assumption) | assumption); obtain ⟨ad363, e363, hx363_0⟩ := Kd.at_int (Kd.R_reads' HO_3.out).2.2 x11_3 p363 q363; obtain rfl : ad357 = ad363 := (by injection e363); replace p363 := eq_true p363; replace q363 := eq_true q363) | ((with_reducible refine gate_callee (f := 44) rfl ?_); refine goesL_ (some 125) rfl rfl Try.func44 (by kernel_rfl) rfl #[.int .i64 (rd t322 x11_3)] rfl (by (try simp only [List.map_toArray, List.map_cons, List.map_nil]); first | done | rfl | (simp only [List.length_drop, List.length_take]; rfl)) ?_; (with_reducible refine (spec_DirClass.calls k3 (rd t322 x11_3) t364 _ A70.out).mono ?_); rintro e w' ⟨rfl, ⟨nd, rfl⟩⟩; refine ⟨_, rfl, ?_⟩))
                           go_roundg k3
                           case measure => have := HJ6.out; have := HK2.out; have := HK3.out; omega
                           case rel => exact ⟨(y360), (x10_3), (wrap64 (x11_3 + 1)), (by first | rfl | (simp; done) | (simp [*]; done)), H', ⟨by have := HJ6.out; have := HK2.out; have := HK3.out; omega⟩, ⟨by (with_reducible repeat (first | apply Kd.R_alloc | apply Kd.R_drewN | apply Kd.R_drew)); exact Kd.R_mono HO_3.out (fun _ hk => ⟨hk.2, hk.1⟩)⟩, ⟨by (with_reducible repeat (first | apply Kd.R_alloc | apply Kd.R_drewN | apply Kd.R_drew)); exact HO362.out⟩, ⟨by (with_reducible repeat (first | apply Kd.R_alloc | apply Kd.R_drewN | apply Kd.R_drew)); exact HO_10.out⟩, ⟨by repeat (first | (with_reducible first | exact HB.out | apply bAl | apply bDn | apply bD1) | exact HB.out)⟩⟩
                       · rw [if_neg c69] at H
                         exact absurd H (by simp)
                     · rw [if_neg c68] at H
                       have c68b0 : (t358 == 0) = false := beq_eq_false_iff_ne.mpr c68
                       have c68b1 : (t358 != 0) = true := bne_iff_ne.mpr c68
                       replace H := oBm H
                       obtain ⟨t370, A760, H⟩ := H
                       replace H : (if t370 = 1 then (if x10_3.length < 17592186044416 then (laws_FnLevels.l1 k3 t322 x9_3 (x10_3 ++ [rd t322 x11_3]) (wrap64 (x11_3 + 1))) else (none)) else (laws_FnLevels.l1 k3 t322 x9_3 x10_3 (wrap64 (x11_3 + 1)))) = some r := H
                       have A76 := aMk A760
                       clear A760
                       by_cases c77 : t370 = 1
                       · rw [if_pos c77] at H
                         have c77b0 : (t370 == 1) = true := beq_iff_eq.mpr c77
                         have c77b1 : (t370 != 1) = false := bne_eq_false_iff_eq.mpr c77
                         clear c77
                         by_cases c78 : x10_3.length < 17592186044416
                         · rw [if_pos c78] at H
                           have LMc78 := aMk c78
                           clear c78
                           obtain ⟨y372, hy372⟩ : ∃ y_ : List Int, y_ = (x10_3 ++ [rd t322 x11_3]) := ⟨_, rfl⟩
                           replace H : (laws_FnLevels.l1 k3 t322 x9_3 y372 (wrap64 (x11_3 + 1))) = some r := by first | (rw [hy372]; with_reducible exact H) | (have H2_ := (Option.bind_some _ _).symm.trans H; rw [hy372]; with_reducible exact H2_) | (have H2_ := (Option.bind_some _ _).symm.trans H; with_reducible exact H2_) | with_reducible exact H | (rw [hy372]; exact H) | exact H
                           have Ny372 := aMk hy372
                           clear hy372
                           have H' := aMk H
                           clear H
                           have p357 : 0 ≤ (x11_3 : Int) := oDt (by first | (with_reducible assumption) | assumption)
                           have q357 : x11_3 < (t322.length : Int) := oDt (by first | (with_reducible assumption) | assumption)
                           obtain ⟨ad357, e357, hx357_0⟩ := Kd.at_int (Kd.R_reads' HO_3.out).2.2 x11_3 p357 q357
                           cases e357
                           replace p357 := eq_true p357
                           replace q357 := eq_true q357
                           go_wp2_with (first | ((with_reducible refine gate_callee (f := 44) rfl ?_); refine goesL_ (some 112) rfl rfl Try.func44 (by kernel_rfl) rfl #[.int .i64 (rd t322 x11_3)] rfl (by (try simp only [List.map_toArray, List.map_cons, List.map_nil]); first | done | rfl | (simp only [List.length_drop, List.length_take]; rfl)) ?_; (with_reducible refine (spec_DirClass.calls k3 (rd t322 x11_3) t358 _ A67.out).mono ?_); rintro e w' ⟨rfl, ⟨nd, rfl⟩⟩; refine ⟨_, rfl, ?_⟩; have p369 : 0 ≤ (x11_3 : Int) := oDt (by first | (with_reducible assumption) | assumption); have q369 : x11_3 < (t322.length : Int) := oDt (by first | (with_reducible assumption) | assumption); obtain ⟨ad369, e369, hx369_0⟩ := Kd.at_int (Kd.R_reads' HO_3.out).2.2 x11_3 p369 q369; obtain rfl : ad357 = ad369 := (by injection e369); replace p369 := eq_true p369; replace q369 := eq_true q369) | ((with_reducible refine gate_callee (f := 44) rfl ?_); refine goesL_ (some 125) rfl rfl Try.func44 (by kernel_rfl) rfl #[.int .i64 (rd t322 x11_3)] rfl (by (try simp only [List.map_toArray, List.map_cons, List.map_nil]); first | done | rfl | (simp only [List.length_drop, List.length_take]; rfl)) ?_; (with_reducible refine (spec_DirClass.calls k3 (rd t322 x11_3) t370 _ A76.out).mono ?_); rintro e w' ⟨rfl, ⟨nd, rfl⟩⟩; refine ⟨_, rfl, ?_⟩; have p371 : 0 ≤ (x11_3 : Int) := oDt (by first | (with_reducible assumption) | assumption); have q371 : x11_3 < (t322.length : Int) := oDt (by first | (with_reducible assumption) | assumption); obtain ⟨ad371, e371, hx371_0⟩ := Kd.at_int (Kd.R_reads' HO_3.out).2.2 x11_3 p371 q371; obtain rfl : ad357 = ad371 := (by injection e371); replace p371 := eq_true p371; replace q371 := eq_true q371) | ((with_reducible refine gate_builtin (b := .append) (xs := #[.tmp 127, .tmp 132]) rfl ?_); (try (refine gate_guard (by rfl) ?_; dsimp only)); at_builtin; refine Kd.R_append (Kd.int .i64) (w0 := w) w.heap.size rfl (.tmp 127) (.tmp 132) 22 3 (.int .i64 0) 8 rfl Try.underlying22 info3 rfl (by decide) (by omega) u10 x10_3 (rd t322 x11_3) [.int .i64 (rd t322 x11_3)] (fun k_ => some k_ ≠ (.slice (some ad357) t322.length co9 : Value).ownBlock ∧ some k_ ≠ (u9 : Value).ownBlock) (fun _ => False) rfl rfl ?aP (fun _ hk => hk.elim) ?aF ?aO ?aB ?aS ?aL ?_; (case aP => exact rfl); (case aB => exact (by repeat (first | (with_reducible first | exact HB.out | apply bAl | apply bDn | apply bD1) | exact HB.out))); (case aF => exact (fun k_ hk => ⟨Kd.fresh' (Kd.R_lt (by (with_reducible repeat (first | apply Kd.R_alloc | apply Kd.R_drewN | apply Kd.R_drew)); exact HO_3.out)) k_ hk, Kd.fresh' (Kd.R_lt (by (with_reducible repeat (first | apply Kd.R_alloc | apply Kd.R_drewN | apply Kd.R_drew)); exact HO_9.out)) k_ hk⟩)); (case aO => exact (by (with_reducible repeat (first | apply Kd.R_alloc | apply Kd.R_drewN | apply Kd.R_drew)); exact HO_10.out)); (case aS => exact (below_size (by repeat (first | (with_reducible first | exact HB.out | apply bAl | apply bDn | apply bD1) | exact HB.out)))); (case aL => have := LMc78.out; omega); intro v373 w79 ho hb hg hat; rw [← Ny372.out] at ho; have n0_ := aMk (Kd.R_after (ok := (fun k_ => some k_ ≠ (u9 : Value).ownBlock)) (by (with_reducible repeat (first | apply Kd.R_alloc | apply Kd.R_drewN | apply Kd.R_drew)); exact HO_3.out) hg hat); have n1_ := aMk (Kd.R_after (ok := (fun k_ => some k_ ≠ (.slice (some ad357) t322.length co9 : Value).ownBlock)) (by (with_reducible repeat (first | apply Kd.R_alloc | apply Kd.R_drewN | apply Kd.R_drew)); exact HO_9.out) hg hat); have n2_ := aMk (hb); have n3_ := aMk (ho); clear HO_3; clear HO_9; clear HB; clear HO_10; have HO_3 := n0_; have HO_9 := n1_; have HB := n2_; have HO374 := n3_; clear n0_ n1_ n2_ n3_; clear ho hb hg hat))
                           go_roundg k3
                           case measure => have := HJ6.out; have := HK2.out; have := HK3.out; omega
                           case rel => exact ⟨(x9_3), (y372), (wrap64 (x11_3 + 1)), (by first | rfl | (simp; done) | (simp [*]; done)), H', ⟨by have := HJ6.out; have := HK2.out; have := HK3.out; omega⟩, ⟨by (with_reducible repeat (first | apply Kd.R_alloc | apply Kd.R_drewN | apply Kd.R_drew)); exact HO_3.out⟩, ⟨by (with_reducible repeat (first | apply Kd.R_alloc | apply Kd.R_drewN | apply Kd.R_drew)); exact HO_9.out⟩, ⟨by (with_reducible repeat (first | apply Kd.R_alloc | apply Kd.R_drewN | apply Kd.R_drew)); exact HO374.out⟩, ⟨by repeat (first | (with_reducible first | exact HB.out | apply bAl | apply bDn | apply bD1) | exact HB.out)⟩⟩
                         · rw [if_neg c78] at H
                           exact absurd H (by simp)
                       · rw [if_neg c77] at H
                         have c77b0 : (t370 == 1) = false := beq_eq_false_iff_ne.mpr c77
                         have c77b1 : (t370 != 1) = true := bne_iff_ne.mpr c77
                         have H' := aMk H
                         clear H
                         have p357 : 0 ≤ (x11_3 : Int) := oDt (by first | (with_reducible assumption) | assumption)
                         have q357 : x11_3 < (t322.length : Int) := oDt (by first | (with_reducible assumption) | assumption)
                         obtain ⟨ad357, e357, hx357_0⟩ := Kd.at_int (Kd.R_reads' HO_3.out).2.2 x11_3 p357 q357
                         cases e357
                         replace p357 := eq_true p357
                         replace q357 := eq_true q357
                         go_wp2_with (first | ((with_reducible refine gate_callee (f := 44) rfl ?_); refine goesL_ (some 112) rfl rfl Try.func44 (by kernel_rfl) rfl #[.int .i64 (rd t322 x11_3)] rfl (by (try simp only [List.map_toArray, List.map_cons, List.map_nil]); first | done | rfl | (simp only [List.length_drop, List.length_take]; rfl)) ?_; (with_reducible refine (spec_DirClass.calls k3 (rd t322 x11_3) t358 _ A67.out).mono ?_); rintro e w' ⟨rfl, ⟨nd, rfl⟩⟩; refine ⟨_, rfl, ?_⟩; have p369 : 0 ≤ (x11_3 : Int) := oDt (by first | (with_reducible assumption) | assumption); have q369 : x11_3 < (t322.length : Int) := oDt (by first | (with_reducible assumption) | assumption); obtain ⟨ad369, e369, hx369_0⟩ := Kd.at_int (Kd.R_reads' HO_3.out).2.2 x11_3 p369 q369; obtain rfl : ad357 = ad369 := (by injection e369); replace p369 := eq_true p369; replace q369 := eq_true q369) | ((with_reducible refine gate_callee (f := 44) rfl ?_); refine goesL_ (some 125) rfl rfl Try.func44 (by kernel_rfl) rfl #[.int .i64 (rd t322 x11_3)] rfl (by (try simp only [List.map_toArray, List.map_cons, List.map_nil]); first | done | rfl | (simp only [List.length_drop, List.length_take]; rfl)) ?_; (with_reducible refine (spec_DirClass.calls k3 (rd t322 x11_3) t370 _ A76.out).mono ?_); rintro e w' ⟨rfl, ⟨nd, rfl⟩⟩; refine ⟨_, rfl, ?_⟩))
                         go_roundg k3
                         case measure => have := HJ6.out; have := HK2.out; have := HK3.out; omega
                         case rel => exact ⟨(x9_3), (x10_3), (wrap64 (x11_3 + 1)), (by first | rfl | (simp; done) | (simp [*]; done)), H', ⟨by have := HJ6.out; have := HK2.out; have := HK3.out; omega⟩, ⟨by (with_reducible repeat (first | apply Kd.R_alloc | apply Kd.R_drewN | apply Kd.R_drew)); exact HO_3.out⟩, ⟨by (with_reducible repeat (first | apply Kd.R_alloc | apply Kd.R_drewN | apply Kd.R_drew)); exact HO_9.out⟩, ⟨by (with_reducible repeat (first | apply Kd.R_alloc | apply Kd.R_drewN | apply Kd.R_drew)); exact HO_10.out⟩, ⟨by repeat (first | (with_reducible first | exact HB.out | apply bAl | apply bDn | apply bD1) | exact HB.out)⟩⟩
                   · rw [if_neg c66] at H
                     exact absurd H (by simp)
                 · rw [if_neg c65] at H
                   have c65b0 : decide (x11_3 < (t322.length : Int)) = false := decide_eq_false c65
                   clear c65
                   replace H := oBm H
                   obtain ⟨t375, A800, H⟩ := H
                   replace H : ((impl_Visual.f t375).bind fun t378 => ((impl_Levels.f k3 x10_3 2).bind fun t381 => ((impl_Visual.f t381).bind fun t384 => (laws_FnLevels.l2 k3 x9_3 x10_3 t378 t384 0)))) = some r := H
                   have A80 := aMk A800
                   clear A800
                   replace H := oBm H
                   obtain ⟨t378, A810, H⟩ := H
                   replace H : ((impl_Levels.f k3 x10_3 2).bind fun t381 => ((impl_Visual.f t381).bind fun t384 => (laws_FnLevels.l2 k3 x9_3 x10_3 t378 t384 0))) = some r := H
                   have A81 := aMk A810
                   clear A810
                   replace H := oBm H
                   obtain ⟨t381, A820, H⟩ := H
                   replace H : ((impl_Visual.f t381).bind fun t384 => (laws_FnLevels.l2 k3 x9_3 x10_3 t378 t384 0)) = some r := H
                   have A82 := aMk A820
                   clear A820
                   replace H := oBm H
                   obtain ⟨t384, A830, H⟩ := H
                   replace H : (laws_FnLevels.l2 k3 x9_3 x10_3 t378 t384 0) = some r := H
                   have A83 := aMk A830
                   clear A830
                   have H' := aMk H
                   clear H
                   obtain ⟨Ao84, co84, eo84⟩ := Kd.R_slice HO_9.out
                   subst eo84
                   go_wp2_with (first | ((with_reducible refine gate_callee (f := 30) rfl ?_); refine goesL_ (some 135) rfl rfl Try.func30 (by kernel_rfl) rfl #[.slice Ao84 x9_3.length co84, .int .i64 0] rfl (by (try simp only [List.map_toArray, List.map_cons, List.map_nil]); first | done | rfl | (simp only [List.length_drop, List.length_take]; rfl)) ?_; (with_reducible refine (impl_Levels.calls k3 _ _ x9_3 0 t375 _ ?side1 ?side2 A80.out).mono ?_); (case side1 => repeat (first | exact (Kd.R_reads' HO_9.out).2.2 | (with_reducible refine Kd.C_alloc ?_ _) | (with_reducible refine Kd.C_drewN ?_ _) | (with_reducible refine Kd.C_drew ?_))); (case side2 => exact (Kd.R_reads' HO_9.out).2.1); rintro e w85 ⟨v376, rfl, ho0, hb⟩; refine ⟨_, rfl, ?_⟩; have n0_ := aMk (Kd.R_elder' (by (with_reducible repeat (first | apply Kd.R_alloc | apply Kd.R_drewN | apply Kd.R_drew)); exact HO_3.out) (Kd.R_base ho0) hb); have n1_ := aMk (Kd.R_elder' (by (with_reducible repeat (first | apply Kd.R_alloc | apply Kd.R_drewN | apply Kd.R_drew)); exact HO_9.out) (Kd.R_base ho0) hb); have n2_ := aMk (Kd.R_elder' (by (with_reducible repeat (first | apply Kd.R_alloc | apply Kd.R_drewN | apply Kd.R_drew)); exact HO_10.out) (Kd.R_base ho0) hb); have n3_ := aMk (Kd.R_lower (Kd.R_new' (Kd.R_new' (Kd.R_new' ho0 (Kd.R_lt (by (with_reducible repeat (first | apply Kd.R_alloc | apply Kd.R_drewN | apply Kd.R_drew)); exact HO_3.out))) (Kd.R_lt (by (with_reducible repeat (first | apply Kd.R_alloc | apply Kd.R_drewN | apply Kd.R_drew)); exact HO_9.out))) (Kd.R_lt (by (with_reducible repeat (first | apply Kd.R_alloc | apply Kd.R_drewN | apply Kd.R_drew)); exact HO_10.out))) (below_size (by repeat (first | (with_reducible first | exact HB.out | apply bAl | apply bDn | apply bD1) | exact HB.out)))); have n4_ := aMk (below_step (by repeat (first | (with_reducible first | exact HB.out | apply bAl | apply bDn | apply bD1) | exact HB.out)) hb); clear HO_3; clear HO_9; clear HO_10; clear HB; have HO_3 := n0_; have HO_9 := n1_; have HO_10 := n2_; have HO377 := n3_; have HB := n4_; clear n0_ n1_ n2_ n3_ n4_; (try clear hb); (try clear hb2); (try clear hk); (try clear hi); (try clear ho0); obtain ⟨Ao86, co86, eo86⟩ := Kd.R_slice HO377.out; subst eo86) | ((with_reducible refine gate_callee (f := 14) rfl ?_); refine goesL_ (some 136) rfl rfl Try.func14 (by kernel_rfl) rfl #[.slice Ao86 t375.length co86] rfl (by (try simp only [List.map_toArray, List.map_cons, List.map_nil]); first | done | rfl | (simp only [List.length_drop, List.length_take]; rfl)) ?_; (with_reducible refine (impl_Visual.calls _ _ t375 t378 _ ?side1 ?side2 A81.out).mono ?_); (case side1 => repeat (first | exact (Kd.R_reads' HO377.out).2.2 | (with_reducible refine Kd.C_alloc ?_ _) | (with_reducible refine Kd.C_drewN ?_ _) | (with_reducible refine Kd.C_drew ?_))); (case side2 => exact (Kd.R_reads' HO377.out).2.1); rintro e w87 ⟨v379, rfl, ho0, hb⟩; refine ⟨_, rfl, ?_⟩; have n0_ := aMk (Kd.R_elder' (by (with_reducible repeat (first | apply Kd.R_alloc | apply Kd.R_drewN | apply Kd.R_drew)); exact HO_3.out) (Kd.R_base ho0) hb); have n1_ := aMk (Kd.R_elder' (by (with_reducible repeat (first | apply Kd.R_alloc | apply Kd.R_drewN | apply Kd.R_drew)); exact HO_9.out) (Kd.R_base ho0) hb); have n2_ := aMk (Kd.R_elder' (by (with_reducible repeat (first | apply Kd.R_alloc | apply Kd.R_drewN | apply Kd.R_drew)); exact HO_10.out) (Kd.R_base ho0) hb); have n3_ := aMk (Kd.R_elder' (by (with_reducible repeat (first | apply Kd.R_alloc | apply Kd.R_drewN | apply Kd.R_drew)); exact HO377.out) (Kd.R_base ho0) hb); have n4_ := aMk (Kd.R_lower (Kd.R_new' (Kd.R_new' (Kd.R_new' (Kd.R_new' ho0 (Kd.R_lt (by (with_reducible repeat (first | apply Kd.R_alloc | apply Kd.R_drewN | apply Kd.R_drew)); exact HO_3.out))) (Kd.R_lt (by (with_reducible repeat (first | apply Kd.R_alloc | apply Kd.R_drewN | apply Kd.R_drew)); exact HO_9.out))) (Kd.R_lt (by (with_reducible repeat (first | apply Kd.R_alloc | apply Kd.R_drewN | apply Kd.R_drew)); exact HO_10.out))) (Kd.R_lt (by (with_reducible repeat (first | apply Kd.R_alloc | apply Kd.R_drewN | apply Kd.R_drew)); exact HO377.out))) (below_size (by repeat (first | (with_reducible first | exact HB.out | apply bAl | apply bDn | apply bD1) | exact HB.out)))); have n5_ := aMk (below_step (by repeat (first | (with_reducible first | exact HB.out | apply bAl | apply bDn | apply bD1) | exact HB.out)) hb); clear HO_3; clear HO_9; clear HO_10; clear HO377; clear HB; have HO_3 := n0_; have HO_9 := n1_; have HO_10 := n2_; have HO377 := n3_; have HO380 := n4_; have HB := n5_; clear n0_ n1_ n2_ n3_ n4_ n5_; (try clear hb); (try clear hb2); (try clear hk); (try clear hi); (try clear ho0); obtain ⟨Ao88, co88, eo88⟩ := Kd.R_slice HO_10.out; subst eo88) | ((with_reducible refine gate_callee (f := 30) rfl ?_); refine goesL_ (some 138) rfl rfl Try.func30 (by kernel_rfl) rfl #[.slice Ao88 x10_3.length co88, .int .i64 2] rfl (by (try simp only [List.map_toArray, List.map_cons, List.map_nil]); first | done | rfl | (simp only [List.length_drop, List.length_take]; rfl)) ?_; (with_reducible refine (impl_Levels.calls k3 _ _ x10_3 2 t381 _ ?side1 ?side2 A82.out).mono ?_); (case side1 => repeat (first | exact (Kd.R_reads' HO_10.out).2.2 | (with_reducible refine Kd.C_alloc ?_ _) | (with_reducible refine Kd.C_drewN ?_ _) | (with_reducible refine Kd.C_drew ?_))); (case side2 => exact (Kd.R_reads' HO_10.out).2.1); rintro e w89 ⟨v382, rfl, ho0, hb⟩; refine ⟨_, rfl, ?_⟩; have n0_ := aMk (Kd.R_elder' (by (with_reducible repeat (first | apply Kd.R_alloc | apply Kd.R_drewN | apply Kd.R_drew)); exact HO_3.out) (Kd.R_base ho0) hb); have n1_ := aMk (Kd.R_elder' (by (with_reducible repeat (first | apply Kd.R_alloc | apply Kd.R_drewN | apply Kd.R_drew)); exact HO_9.out) (Kd.R_base ho0) hb); have n2_ := aMk (Kd.R_elder' (by (with_reducible repeat (first | apply Kd.R_alloc | apply Kd.R_drewN | apply Kd.R_drew)); exact HO_10.out) (Kd.R_base ho0) hb); have n3_ := aMk (Kd.R_elder' (by (with_reducible repeat (first | apply Kd.R_alloc | apply Kd.R_drewN | apply Kd.R_drew)); exact HO377.out) (Kd.R_base ho0) hb); have n4_ := aMk (Kd.R_elder' (by (with_reducible repeat (first | apply Kd.R_alloc | apply Kd.R_drewN | apply Kd.R_drew)); exact HO380.out) (Kd.R_base ho0) hb); have n5_ := aMk (Kd.R_lower (Kd.R_new' (Kd.R_new' (Kd.R_new' (Kd.R_new' (Kd.R_new' ho0 (Kd.R_lt (by (with_reducible repeat (first | apply Kd.R_alloc | apply Kd.R_drewN | apply Kd.R_drew)); exact HO_3.out))) (Kd.R_lt (by (with_reducible repeat (first | apply Kd.R_alloc | apply Kd.R_drewN | apply Kd.R_drew)); exact HO_9.out))) (Kd.R_lt (by (with_reducible repeat (first | apply Kd.R_alloc | apply Kd.R_drewN | apply Kd.R_drew)); exact HO_10.out))) (Kd.R_lt (by (with_reducible repeat (first | apply Kd.R_alloc | apply Kd.R_drewN | apply Kd.R_drew)); exact HO377.out))) (Kd.R_lt (by (with_reducible repeat (first | apply Kd.R_alloc | apply Kd.R_drewN | apply Kd.R_drew)); exact HO380.out))) (below_size (by repeat (first | (with_reducible first | exact HB.out | apply bAl | apply bDn | apply bD1) | exact HB.out)))); have n6_ := aMk (below_step (by repeat (first | (with_reducible first | exact HB.out | apply bAl | apply bDn | apply bD1) | exact HB.out)) hb); clear HO_3; clear HO_9; clear HO_10; clear HO377; clear HO380; clear HB; have HO_3 := n0_; have HO_9 := n1_; have HO_10 := n2_; have HO377 := n3_; have HO380 := n4_; have HO383 := n5_; have HB := n6_; clear n0_ n1_ n2_ n3_ n4_ n5_ n6_; (try clear hb); (try clear hb2); (try clear hk); (try clear hi); (try clear ho0); obtain ⟨Ao90, co90, eo90⟩ := Kd.R_slice HO383.out; subst eo90) | ((with_reducible refine gate_callee (f := 14) rfl ?_); refine goesL_ (some 139) rfl rfl Try.func14 (by kernel_rfl) rfl #[.slice Ao90 t381.length co90] rfl (by (try simp only [List.map_toArray, List.map_cons, List.map_nil]); first | done | rfl | (simp only [List.length_drop, List.length_take]; rfl)) ?_; (with_reducible refine (impl_Visual.calls _ _ t381 t384 _ ?side1 ?side2 A83.out).mono ?_); (case side1 => repeat (first | exact (Kd.R_reads' HO383.out).2.2 | (with_reducible refine Kd.C_alloc ?_ _) | (with_reducible refine Kd.C_drewN ?_ _) | (with_reducible refine Kd.C_drew ?_))); (case side2 => exact (Kd.R_reads' HO383.out).2.1); rintro e w91 ⟨v385, rfl, ho0, hb⟩; refine ⟨_, rfl, ?_⟩; have n0_ := aMk (Kd.R_elder' (by (with_reducible repeat (first | apply Kd.R_alloc | apply Kd.R_drewN | apply Kd.R_drew)); exact HO_3.out) (Kd.R_base ho0) hb); have n1_ := aMk (Kd.R_elder' (by (with_reducible repeat (first | apply Kd.R_alloc | apply Kd.R_drewN | apply Kd.R_drew)); exact HO_9.out) (Kd.R_base ho0) hb); have n2_ := aMk (Kd.R_elder' (by (with_reducible repeat (first | apply Kd.R_alloc | apply Kd.R_drewN | apply Kd.R_drew)); exact HO_10.out) (Kd.R_base ho0) hb); have n3_ := aMk (Kd.R_elder' (by (with_reducible repeat (first | apply Kd.R_alloc | apply Kd.R_drewN | apply Kd.R_drew)); exact HO377.out) (Kd.R_base ho0) hb); have n4_ := aMk (Kd.R_elder' (by (with_reducible repeat (first | apply Kd.R_alloc | apply Kd.R_drewN | apply Kd.R_drew)); exact HO380.out) (Kd.R_base ho0) hb); have n5_ := aMk (Kd.R_elder' (by (with_reducible repeat (first | apply Kd.R_alloc | apply Kd.R_drewN | apply Kd.R_drew)); exact HO383.out) (Kd.R_base ho0) hb); have n6_ := aMk (Kd.R_lower (Kd.R_new' (Kd.R_new' (Kd.R_new' (Kd.R_new' (Kd.R_new' (Kd.R_new' ho0 (Kd.R_lt (by (with_reducible repeat (first | apply Kd.R_alloc | apply Kd.R_drewN | apply Kd.R_drew)); exact HO_3.out))) (Kd.R_lt (by (with_reducible repeat (first | apply Kd.R_alloc | apply Kd.R_drewN | apply Kd.R_drew)); exact HO_9.out))) (Kd.R_lt (by (with_reducible repeat (first | apply Kd.R_alloc | apply Kd.R_drewN | apply Kd.R_drew)); exact HO_10.out))) (Kd.R_lt (by (with_reducible repeat (first | apply Kd.R_alloc | apply Kd.R_drewN | apply Kd.R_drew)); exact HO377.out))) (Kd.R_lt (by (with_reducible repeat (first | apply Kd.R_alloc | apply Kd.R_drewN | apply Kd.R_drew)); exact HO380.out))) (Kd.R_lt (by (with_reducible repeat (first | apply Kd.R_alloc | apply Kd.R_drewN | apply Kd.R_drew)); exact HO383.out))) (below_size (by repeat (first | (with_reducible first | exact HB.out | apply bAl | apply bDn | apply bD1) | exact HB.out)))); have n7_ := aMk (below_step (by repeat (first | (with_reducible first | exact HB.out | apply bAl | apply bDn | apply bD1) | exact HB.out)) hb); clear HO_3; clear HO_9; clear HO_10; clear HO377; clear HO380; clear HO383; clear HB; have HO_3 := n0_; have HO_9 := n1_; have HO_10 := n2_; have HO377 := n3_; have HO380 := n4_; have HO383 := n5_; have HO386 := n6_; have HB := n7_; clear n0_ n1_ n2_ n3_ n4_ n5_ n6_ n7_; (try clear hb); (try clear hb2); (try clear hk); (try clear hi); (try clear ho0)))
                   go_loopg [14] k3 (fun kq v14 w' => ∃ (x14_4 : Int), v14 = .int .i64 x14_4 ∧ Aside0 (laws_FnLevels.l2 kq x9_3 x10_3 t378 t384 x14_4 = some r) ∧ Aside0 (kq ≤ k3) ∧ Aside0 (Kd.R (Kd.int .i64) 3 w' w.heap.size (fun k_ => some k_ ≠ ((.slice Ao88 x10_3.length co88) : Value).ownBlock ∧ some k_ ≠ (v379 : Value).ownBlock ∧ some k_ ≠ (v385 : Value).ownBlock) (.slice Ao84 x9_3.length co84) x9_3) ∧ Aside0 (Kd.R (Kd.int .i64) 3 w' w.heap.size (fun k_ => some k_ ≠ ((.slice Ao84 x9_3.length co84) : Value).ownBlock ∧ some k_ ≠ (v379 : Value).ownBlock ∧ some k_ ≠ (v385 : Value).ownBlock) (.slice Ao88 x10_3.length co88) x10_3) ∧ Aside0 (Kd.R (Kd.int .i64) 3 w' w.heap.size (fun k_ => some k_ ≠ ((.slice Ao84 x9_3.length co84) : Value).ownBlock ∧ some k_ ≠ ((.slice Ao88 x10_3.length co88) : Value).ownBlock ∧ some k_ ≠ (v385 : Value).ownBlock) v379 t378) ∧ Aside0 (Kd.R (Kd.int .i64) 3 w' w.heap.size (fun k_ => some k_ ≠ ((.slice Ao84 x9_3.length co84) : Value).ownBlock ∧ some k_ ≠ ((.slice Ao88 x10_3.length co88) : Value).ownBlock ∧ some k_ ≠ (v379 : Value).ownBlock) v385 t384) ∧ Aside0 (Below w.heap.size w w'))
                   case atStart => exact ⟨(0), (by first | rfl | (simp; done) | (simp [*]; done)), H', ⟨Nat.le_refl _⟩, ⟨by (with_reducible repeat (first | apply Kd.R_alloc | apply Kd.R_drewN | apply Kd.R_drew)); exact Kd.R_mono HO_9.out (fun _ hk => ⟨hk.1.1.1.1.2, ⟨hk.1.1.2, hk.2⟩⟩)⟩, ⟨by (with_reducible repeat (first | apply Kd.R_alloc | apply Kd.R_drewN | apply Kd.R_drew)); exact Kd.R_mono HO_10.out (fun _ hk => ⟨hk.1.1.1.1.2, ⟨hk.1.1.2, hk.2⟩⟩)⟩, ⟨by (with_reducible repeat (first | apply Kd.R_alloc | apply Kd.R_drewN | apply Kd.R_drew)); exact Kd.R_mono HO380.out (fun _ hk => ⟨hk.1.1.1.1.2, ⟨hk.1.1.1.2, hk.2⟩⟩)⟩, ⟨by (with_reducible repeat (first | apply Kd.R_alloc | apply Kd.R_drewN | apply Kd.R_drew)); exact Kd.R_mono HO386.out (fun _ hk => ⟨hk.1.1.1.1.2, ⟨hk.1.1.1.2, hk.1.2⟩⟩)⟩, ⟨by repeat (first | (with_reducible first | exact HB.out | apply bAl | apply bDn | apply bD1) | exact HB.out)⟩⟩
                   case round =>
                    clear H'
                    (try clear c1); (try clear c2); (try clear p2); (try clear c3); (try clear p3); (try clear q3); (try clear hx3); (try clear c4); (try clear q4); (try clear c5); (try clear p5); (try clear q5); (try clear hx5); (try clear hf5); (try clear c6); (try clear p6); (try clear c7); (try clear c9); (try clear c14); (try clear c15); (try clear c18); (try clear c20); (try clear c23); (try clear c29); (try clear c30); (try clear c31); (try clear c32); (try clear c32b0); (try clear c32b1); (try clear c33); (try clear c33b0); (try clear c33b1); (try clear p34); (try clear q34); (try clear hx34); (try clear p35); (try clear q35); (try clear hx35); (try clear c36); (try clear c36b0); (try clear p36); (try clear q36); (try clear hx36); (try clear c37); (try clear c37b0); (try clear p37); (try clear q37); (try clear hx37); (try clear c38); (try clear c38b0); (try clear c40); (try clear c40b0); (try clear c42); (try clear c42b0); (try clear c43); (try clear c43b0); (try clear c44); (try clear q44); (try clear c45); (try clear c48); (try clear c48b0); (try clear c49); (try clear c49b0); (try clear c52); (try clear c52b0); (try clear p55); (try clear q55); (try clear hx55); (try clear hf55); (try clear p64); (try clear c65); (try clear c65b0); (try clear c66); (try clear c66b0); (try clear c68); (try clear c68b0); (try clear c68b1); (try clear c69); (try clear c71); (try clear c71b0); (try clear c71b1); (try clear c72); (try clear c77); (try clear c77b0); (try clear c77b1); (try clear c78); (try clear hx343_0); (try clear hx344_0); (try clear hx345_0); (try clear hx346_0); (try clear hx347_0); (try clear hx348_0); (try clear hx349_0); (try clear hx357_0); (try clear hx359_0); (try clear hx363_0); (try clear hx365_0); (try clear hx369_0); (try clear hx371_0); (try clear hx55_0); (try clear p2); (try clear p3); (try clear p34); (try clear p343); (try clear p344); (try clear p345); (try clear p346); (try clear p347); (try clear p348); (try clear p349); (try clear p357); (try clear p359); (try clear p363); (try clear p365); (try clear p369); (try clear p371); (try clear p5); (try clear p55); (try clear p6); (try clear p64); (try clear q3); (try clear q34); (try clear q343); (try clear q344); (try clear q345); (try clear q346); (try clear q347); (try clear q348); (try clear q349); (try clear q357); (try clear q359); (try clear q363); (try clear q365); (try clear q369); (try clear q371); (try clear q4); (try clear q44); (try clear q5); (try clear q55)
                    obtain ⟨x14_4, rfl, HA, HK4, HO_9, HO_10, HO_12, HO_13, HB⟩ := hrel
                    cases gk with
                    | zero => exact absurd HA.out (by simp [laws_FnLevels.l2])
                    | succ k4 =>
                     have H := HA.out
                     clear HA
                     simp only [laws_FnLevels.l2] at H
                     by_cases c92 : x14_4 < (x9_3.length : Int)
                     · rw [if_pos c92] at H
                       have c92b0 : decide (x14_4 < (x9_3.length : Int)) = true := decide_eq_true c92
                       clear c92
                       by_cases c93 : x14_4 ≥ (t378.length : Int)
                       · rw [if_pos c93] at H
                         have c93b0 : decide ((t378.length : Int) ≤ x14_4) = true := decide_eq_true c93
                         clear c93
                         obtain rfl := Option.some.inj H
                         obtain ⟨Ao94, co94, eo94⟩ := Kd.R_slice HO_12.out
                         subst eo94
                         go_wp2
                         go_ret
                         exact ⟨by first | rfl | (simp [errW_none, errW_some] <;> rfl) | (simp [*, errW_none, errW_some] <;> rfl), by repeat (first | (with_reducible first | exact HB.out | apply bAl | apply bDn | apply bD1) | exact HB.out)⟩
                       · rw [if_neg c93] at H
                         have c93b0 : decide ((t378.length : Int) ≤ x14_4) = false := decide_eq_false c93
                         clear c93
                         by_cases c95 : 0 ≤ x14_4
                         · rw [if_pos c95] at H
                           have c95b0 : decide (0 ≤ x14_4) = true := decide_eq_true c95
                           clear c95
                           by_cases c96 : x14_4 < (t378.length : Int)
                           · rw [if_pos c96] at H
                             have c96b0 : decide (x14_4 < (t378.length : Int)) = true := decide_eq_true c96
                             clear c96
                             by_cases c97 : (rd t378 x14_4) = x14_4
                             · rw [if_pos c97] at H
                               have c97b0 : ((rd t378 x14_4) == x14_4) = true := beq_iff_eq.mpr c97
                               have c97b1 : ((rd t378 x14_4) != x14_4) = false := bne_eq_false_iff_eq.mpr c97
                               clear c97
                               have H' := aMk H
                               clear H
                               obtain ⟨Ao98, co98, eo98⟩ := Kd.R_slice HO_12.out
                               subst eo98
                               have p387 : 0 ≤ (x14_4 : Int) := oDt (by first | (with_reducible assumption) | assumption)
                               have q387 : x14_4 < (t378.length : Int) := oDt (by first | (with_reducible assumption) | assumption)
                               obtain ⟨ad387, e387, hx387_0⟩ := Kd.at_int (Kd.R_reads' HO_12.out).2.2 x14_4 p387 q387
                               cases e387
                               replace p387 := eq_true p387
                               replace q387 := eq_true q387
                               go_wp2
                               go_roundg k4
                               case measure => have := HJ6.out; have := HK2.out; have := HK3.out; have := HK4.out; omega
                               case rel => exact ⟨(wrap64 (x14_4 + 1)), (by first | rfl | (simp; done) | (simp [*]; done)), H', ⟨by have := HJ6.out; have := HK2.out; have := HK3.out; have := HK4.out; omega⟩, ⟨by (with_reducible repeat (first | apply Kd.R_alloc | apply Kd.R_drewN | apply Kd.R_drew)); exact HO_9.out⟩, ⟨by (with_reducible repeat (first | apply Kd.R_alloc | apply Kd.R_drewN | apply Kd.R_drew)); exact HO_10.out⟩, ⟨by (with_reducible repeat (first | apply Kd.R_alloc | apply Kd.R_drewN | apply Kd.R_drew)); exact HO_12.out⟩, ⟨by (with_reducible repeat (first | apply Kd.R_alloc | apply Kd.R_drewN | apply Kd.R_drew)); exact HO_13.out⟩, ⟨by repeat (first | (with_reducible first | exact HB.out | apply bAl | apply bDn | apply bD1) | exact HB.out)⟩⟩
                             · rw [if_neg c97] at H
                               have c97b0 : ((rd t378 x14_4) == x14_4) = false := beq_eq_false_iff_ne.mpr c97
                               have c97b1 : ((rd t378 x14_4) != x14_4) = true := bne_iff_ne.mpr c97
                               obtain rfl := Option.some.inj H
                               obtain ⟨Ao99, co99, eo99⟩ := Kd.R_slice HO_12.out
                               subst eo99
                               have p387 : 0 ≤ (x14_4 : Int) := oDt (by first | (with_reducible assumption) | assumption)
                               have q387 : x14_4 < (t378.length : Int) := oDt (by first | (with_reducible assumption) | assumption)
                               obtain ⟨ad387, e387, hx387_0⟩ := Kd.at_int (Kd.R_reads' HO_12.out).2.2 x14_4 p387 q387
                               cases e387
                               replace p387 := eq_true p387
                               replace q387 := eq_true q387
                               go_wp2
                               go_ret
                               exact ⟨by first | rfl | (simp [errW_none, errW_some] <;> rfl) | (simp [*, errW_none, errW_some] <;> rfl), by repeat (first | (with_reducible first | exact HB.out | apply bAl | apply bDn | apply bD1) | exact HB.out)⟩
                           · rw [if_neg c96] at H
                             exact absurd H (by simp)
                         · rw [if_neg c95] at H
                           exact absurd H (by simp)
                     · rw [if_neg c92] at H
                       have c92b0 : decide (x14_4 < (x9_3.length : Int)) = false := decide_eq_false c92
                       clear c92
                       have H' := aMk H
                       clear H
                       go_wp2
                       go_loopg [15] k4 (fun kq v15 w' => ∃ (x15_5 : Int), v15 = .int .i64 x15_5 ∧ Aside0 (laws_FnLevels.l3 kq x10_3 t384 x15_5 = some r) ∧ Aside0 (kq ≤ k4) ∧ Aside0 (Kd.R (Kd.int .i64) 3 w' w.heap.size (fun k_ => some k_ ≠ (v385 : Value).ownBlock) (.slice Ao88 x10_3.length co88) x10_3) ∧ Aside0 (Kd.R (Kd.int .i64) 3 w' w.heap.size (fun k_ => some k_ ≠ ((.slice Ao88 x10_3.length co88) : Value).ownBlock) v385 t384) ∧ Aside0 (Below w.heap.size w w'))
                       case atStart => exact ⟨(0), (by first | rfl | (simp; done) | (simp [*]; done)), H', ⟨Nat.le_refl _⟩, ⟨by (with_reducible repeat (first | apply Kd.R_alloc | apply Kd.R_drewN | apply Kd.R_drew)); exact Kd.R_mono HO_10.out (fun _ hk => hk.2.2)⟩, ⟨by (with_reducible repeat (first | apply Kd.R_alloc | apply Kd.R_drewN | apply Kd.R_drew)); exact Kd.R_mono HO_13.out (fun _ hk => hk.2.1)⟩, ⟨by repeat (first | (with_reducible first | exact HB.out | apply bAl | apply bDn | apply bD1) | exact HB.out)⟩⟩
                       case round =>
                        clear H'
                        (try clear c1); (try clear c2); (try clear p2); (try clear c3); (try clear p3); (try clear q3); (try clear hx3); (try clear c4); (try clear q4); (try clear c5); (try clear p5); (try clear q5); (try clear hx5); (try clear hf5); (try clear c6); (try clear p6); (try clear c7); (try clear c9); (try clear c14); (try clear c15); (try clear c18); (try clear c20); (try clear c23); (try clear c29); (try clear c30); (try clear c31); (try clear c32); (try clear c32b0); (try clear c32b1); (try clear c33); (try clear c33b0); (try clear c33b1); (try clear p34); (try clear q34); (try clear hx34); (try clear p35); (try clear q35); (try clear hx35); (try clear c36); (try clear c36b0); (try clear p36); (try clear q36); (try clear hx36); (try clear c37); (try clear c37b0); (try clear p37); (try clear q37); (try clear hx37); (try clear c38); (try clear c38b0); (try clear p38); (try clear q38); (try clear hx38); (try clear c40); (try clear c40b0); (try clear c42); (try clear c42b0); (try clear c43); (try clear c43b0); (try clear c44); (try clear q44); (try clear c45); (try clear c48); (try clear c48b0); (try clear c49); (try clear c49b0); (try clear c52); (try clear c52b0); (try clear p55); (try clear q55); (try clear hx55); (try clear hf55); (try clear p64); (try clear c65); (try clear c65b0); (try clear c66); (try clear c66b0); (try clear c68); (try clear c68b0); (try clear c68b1); (try clear c69); (try clear c71); (try clear c71b0); (try clear c71b1); (try clear c72); (try clear c77); (try clear c77b0); (try clear c77b1); (try clear c78); (try clear c92); (try clear c92b0); (try clear c93); (try clear c93b0); (try clear c95); (try clear c95b0); (try clear c96); (try clear c96b0); (try clear c97); (try clear c97b0); (try clear c97b1); (try clear hx343_0); (try clear hx344_0); (try clear hx345_0); (try clear hx346_0); (try clear hx347_0); (try clear hx348_0); (try clear hx349_0); (try clear hx357_0); (try clear hx359_0); (try clear hx363_0); (try clear hx365_0); (try clear hx369_0); (try clear hx371_0); (try clear hx387_0); (try clear hx55_0); (try clear p2); (try clear p3); (try clear p34); (try clear p343); (try clear p344); (try clear p345); (try clear p346); (try clear p347); (try clear p348); (try clear p349); (try clear p35); (try clear p357); (try clear p359); (try clear p36); (try clear p363); (try clear p365); (try clear p369); (try clear p37); (try clear p371); (try clear p387); (try clear p5); (try clear p55); (try clear p6); (try clear p64); (try clear q3); (try clear q34); (try clear q343); (try clear q344); (try clear q345); (try clear q346); (try clear q347); (try clear q348); (try clear q349); (try clear q35); (try clear q357); (try clear q359); (try clear q36); (try clear q363); (try clear q365); (try clear q369); (try clear q37); (try clear q371); (try clear q387); (try clear q4); (try clear q44); (try clear q5); (try clear q55)
                        obtain ⟨x15_5, rfl, HA, HK5, HO_10, HO_13, HB⟩ := hrel
                        cases gk with
                        | zero => exact absurd HA.out (by simp [laws_FnLevels.l3])
                        | succ k5 =>
                         have H := HA.out
                         clear HA
                         simp only [laws_FnLevels.l3] at H
                         by_cases c100 : x15_5 < (x10_3.length : Int)
                         · rw [if_pos c100] at H
                           have c100b0 : decide (x15_5 < (x10_3.length : Int)) = true := decide_eq_true c100
                           clear c100
                           by_cases c101 : x15_5 ≥ (t384.length : Int)
                           · rw [if_pos c101] at H
                             have c101b0 : decide ((t384.length : Int) ≤ x15_5) = true := decide_eq_true c101
                             clear c101
                             obtain rfl := Option.some.inj H
                             obtain ⟨Ao102, co102, eo102⟩ := Kd.R_slice HO_13.out
                             subst eo102
                             go_wp2
                             go_ret
                             exact ⟨by first | rfl | (simp [errW_none, errW_some] <;> rfl) | (simp [*, errW_none, errW_some] <;> rfl), by repeat (first | (with_reducible first | exact HB.out | apply bAl | apply bDn | apply bD1) | exact HB.out)⟩
                           · rw [if_neg c101] at H
                             have c101b0 : decide ((t384.length : Int) ≤ x15_5) = false := decide_eq_false c101
                             clear c101
                             by_cases c103 : 0 ≤ x15_5
                             · rw [if_pos c103] at H
                               have c103b0 : decide (0 ≤ x15_5) = true := decide_eq_true c103
                               clear c103
                               by_cases c104 : x15_5 < (t384.length : Int)
                               · rw [if_pos c104] at H
                                 have c104b0 : decide (x15_5 < (t384.length : Int)) = true := decide_eq_true c104
                                 clear c104
                                 by_cases c105 : (rd t384 x15_5) = (wrap64 ((wrap64 ((x10_3.length : Int) - 1)) - x15_5))
                                 · rw [if_pos c105] at H
                                   have c105b0 : ((rd t384 x15_5) == (wrap64 ((wrap64 ((x10_3.length : Int) - 1)) - x15_5))) = true := beq_iff_eq.mpr c105
                                   have c105b1 : ((rd t384 x15_5) != (wrap64 ((wrap64 ((x10_3.length : Int) - 1)) - x15_5))) = false := bne_eq_false_iff_eq.mpr c105
                                   clear c105
                                   have H' := aMk H
                                   clear H
                                   obtain ⟨Ao106, co106, eo106⟩ := Kd.R_slice HO_13.out
                                   subst eo106
                                   have p388 : 0 ≤ (x15_5 : Int) := oDt (by first | (with_reducible assumption) | assumption)
                                   have q388 : x15_5 < (t384.length : Int) := oDt (by first | (with_reducible assumption) | assumption)
                                   obtain ⟨ad388, e388, hx388_0⟩ := Kd.at_int (Kd.R_reads' HO_13.out).2.2 x15_5 p388 q388
                                   cases e388
                                   replace p388 := eq_true p388
                                   replace q388 := eq_true q388
                                   go_wp2
                                   go_roundg k5
                                   case measure => have := HJ6.out; have := HK2.out; have := HK3.out; have := HK4.out; have := HK5.out; omega
                                   case rel => exact ⟨(wrap64 (x15_5 + 1)), (by first | rfl | (simp; done) | (simp [*]; done)), H', ⟨by have := HJ6.out; have := HK2.out; have := HK3.out; have := HK4.out; have := HK5.out; omega⟩, ⟨by (with_reducible repeat (first | apply Kd.R_alloc | apply Kd.R_drewN | apply Kd.R_drew)); exact HO_10.out⟩, ⟨by (with_reducible repeat (first | apply Kd.R_alloc | apply Kd.R_drewN | apply Kd.R_drew)); exact HO_13.out⟩, ⟨by repeat (first | (with_reducible first | exact HB.out | apply bAl | apply bDn | apply bD1) | exact HB.out)⟩⟩
                                 · rw [if_neg c105] at H
                                   have c105b0 : ((rd t384 x15_5) == (wrap64 ((wrap64 ((x10_3.length : Int) - 1)) - x15_5))) = false := beq_eq_false_iff_ne.mpr c105
                                   have c105b1 : ((rd t384 x15_5) != (wrap64 ((wrap64 ((x10_3.length : Int) - 1)) - x15_5))) = true := bne_iff_ne.mpr c105
                                   obtain rfl := Option.some.inj H
                                   obtain ⟨Ao107, co107, eo107⟩ := Kd.R_slice HO_13.out
                                   subst eo107
                                   have p388 : 0 ≤ (x15_5 : Int) := oDt (by first | (with_reducible assumption) | assumption)
                                   have q388 : x15_5 < (t384.length : Int) := oDt (by first | (with_reducible assumption) | assumption)
                                   obtain ⟨ad388, e388, hx388_0⟩ := Kd.at_int (Kd.R_reads' HO_13.out).2.2 x15_5 p388 q388
                                   cases e388
                                   replace p388 := eq_true p388
                                   replace q388 := eq_true q388
                                   go_wp2
                                   go_ret
                                   exact ⟨by first | rfl | (simp [errW_none, errW_some] <;> rfl) | (simp [*, errW_none, errW_some] <;> rfl), by repeat (first | (with_reducible first | exact HB.out | apply bAl | apply bDn | apply bD1) | exact HB.out)⟩
                               · rw [if_neg c104] at H
                                 exact absurd H (by simp)
                             · rw [if_neg c103] at H
                               exact absurd H (by simp)
                         · rw [if_neg c100] at H
                           have c100b0 : decide (x15_5 < (x10_3.length : Int)) = false := decide_eq_false c100
                           clear c100
                           obtain rfl := Option.some.inj H
                           go_wp2
                           go_ret
                           exact ⟨by first | rfl | (simp [errW_none, errW_some] <;> rfl) | (simp [*, errW_none, errW_some] <;> rfl), by repeat (first | (with_reducible first | exact HB.out | apply bAl | apply bDn | apply bD1) | exact HB.out)⟩
         · rw [if_neg c33] at H
           exact absurd H (by simp)
       · rw [if_neg c32] at H
         exact absurd H (by simp)
/-- THE ONE PURE STATEMENT of laws_FnLevels: yours. -/
def laws_FnLevels.Pure : Prop := ∀ (l0 : List Int), l0.length ≤ maxLen → l0.length * 1 ≤ 140737488351232 → (∀ x ∈ l0, (Lit.int .u8 x).wf = true) → ∃ k, laws_FnLevels.f k l0 = some true
theorem laws_FnLevels.walk (P : laws_FnLevels.Pure) (a0 : Option Addr) (len0 cap0 : Nat) (z0 : List Int) (w : World) (w0 : (a0 = none ∧ len0 = 0 ∧ cap0 = 0 ∧ z0 = []) ∨ ∃ x, a0 = some x ∧ len0 ≤ cap0 ∧ cap0 ≤ maxLen ∧ z0.length = cap0 ∧ (∀ i, i < z0.length → w.cell? (x.add i) = some (.int .u8 (z0.getD i 0))) ∧ ∀ n ∈ z0, (Lit.int .u8 n).wf = true) (y0 : len0 * 1 ≤ 140737488351232) :
 Calls Try.prog 9 #[.slice a0 len0 cap0] w fun e w' => e = .returned (.bool true) ∧ Below w.heap.size w w' := by
 obtain ⟨l0, rfl, hr0, hm0, hw0, hc0⟩ := ReadsInt.ofRowC w0
 obtain ⟨k, h⟩ := P l0 hm0 y0 hw0
 refine (laws_FnLevels.calls k _ _ l0 true w (Kd.C_of_reads (d := (0 : Int)) (h1 := fun _ => rfl) hr0) hc0 h).mono ?_
 rintro e w' ⟨rfl, hd⟩
 exact ⟨rfl, hd⟩
end Go.Proofs.Ytpknhndanbgkmaa.MFnLevels
