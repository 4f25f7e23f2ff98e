-- Written by this session's own program (wip/gen/myprint.py).
import Derived.Test.YtpknhndanbgkmaaMFnLevelsx0
import Derived.Test.YtpknhndanbgkmaaMFnLevelsx3
import Derived.Test.YtpknhndanbgkmaaMFnLevelsx4
import Derived.Test.YtpknhndanbgkmaaMFnLevelsx7
namespace Go.Proofs.Ytpknhndanbgkmaa.MFnLevels
open Go.RowKit Go.Proofs.YtpknhndanbgkmaaW.PrintWords Go.Proofs.YtpknhndanbgkmaaW.PrintLast Go.Proofs.YtpknhndanbgkmaaW.PrintMore
attribute [local go_sem] max2_int min2_int max_two min_two max_three min_three max_four min_four   -- for this text's walks alone
set_option linter.unusedVariables false
set_option linter.unusedSimpArgs false
mutual
def spec_Levels.j0 : Nat → List Int → Int → Bool → Option (List Int)
 | 0, _, _, _ => none
 | k + 1, x0, x1, x13 => if x13 = true then ((spec_BaseLevel.f k x0).bind fun t231 => (spec_Levels.j1 k x0 t231)) else (spec_Levels.j1 k x0 x1)
def spec_Levels.j1 : Nat → List Int → Int → Option (List Int)
 | 0, _, _ => none
 | k + 1, x0, x1 => spec_Levels.l0 k x0 x1 (([] : List Int)) 0 0
def spec_Levels.l0 : Nat → List Int → Int → List Int → Int → Int → Option (List Int)
 | 0, _, _, _, _, _ => none
 | k + 1, x0, x1, x5, x6, x7 => if x7 < (x0.length : Int) then (if 0 ≤ x7 then ((spec_DirClass.f k (rd x0 x7)).bind fun t236 => (if t236 = 11 then (if 0 ≤ x6 then (if x6 ≤ (wrap64 (x7 + 1)) then (if (wrap64 (x7 + 1)) ≤ (x0.length : Int) then ((spec_l14Piece.f k ((x0.take ((wrap64 (x7 + 1)) : Int).toNat).drop (x6 : Int).toNat) x1).bind fun t238 => (if x5.length + t238.length < 17592186044416 then (spec_Levels.l0 k x0 x1 (x5 ++ t238) (wrap64 (x7 + 1)) (wrap64 (x7 + 1))) else (none))) else (none)) else (none)) else (none)) else (if x7 = (wrap64 ((x0.length : Int) - 1)) then (if 0 ≤ x6 then (if x6 ≤ (wrap64 (x7 + 1)) then (if (wrap64 (x7 + 1)) ≤ (x0.length : Int) then ((spec_l14Piece.f k ((x0.take ((wrap64 (x7 + 1)) : Int).toNat).drop (x6 : Int).toNat) x1).bind fun t245 => (if x5.length + t245.length < 17592186044416 then (spec_Levels.l0 k x0 x1 (x5 ++ t245) (wrap64 (x7 + 1)) (wrap64 (x7 + 1))) else (none))) else (none)) else (none)) else (none)) else (spec_Levels.l0 k x0 x1 x5 x6 (wrap64 (x7 + 1)))))) else (none)) else (some x5)
end
def spec_Levels.f (k : Nat) (l0 : List Int) (a1 : Int) : Option (List Int) := if a1 = 0 then (spec_Levels.j0 k l0 a1 false) else (spec_Levels.j0 k l0 a1 (a1 != 1))
set_option maxHeartbeats 8000000 in
set_option maxRecDepth 100000 in
theorem spec_Levels.calls (k : Nat) (A0 : Option Addr) (c0 : Nat) (l0 : List Int) (a1 : Int) (r : List Int) (w : World) (hr0 : Kd.C (Kd.int .i64) w A0 l0.length l0) (hc0 : l0.length ≤ c0) (h : spec_Levels.f k l0 a1 = some r) :
 Calls Try.prog 29 #[.slice A0 l0.length c0, .int .i64 a1] w fun e w' => ∃ v0_ : Value, e = .returned (v0_) ∧ Kd.R (Kd.int .i64) 3 w' w.heap.size (fun _ => True) v0_ r ∧ Below w.heap.size w w' := by
 have HR0 := aMk hr0
 have HC0 := aMk hc0
 clear hr0 hc0
 have HB := aMk (Below.refl w.heap.size w)
 have H : (if a1 = 0 then (spec_Levels.j0 k l0 a1 false) else (spec_Levels.j0 k l0 a1 (a1 != 1))) = some r := h
 clear h
 have HC3 := aMk H
 clear H
 go_enter Try.func29, Try.ntmps29
 go_upto_region 1 with (fail)
 go_cut [13] (fun v13 wc => ∃ (kq : Nat) (x13_2 : Bool), v13 = .bool x13_2 ∧ Aside0 (spec_Levels.j0 kq l0 a1 x13_2 = some r) ∧ Aside0 (kq ≤ k) ∧ Aside0 (Below w.heap.size w wc))
 case first =>
  have H := HC3.out
  clear HC3
  by_cases c4 : a1 = 0
  · rw [if_pos c4] at H
    have c4b0 : (a1 == 0) = true := beq_iff_eq.mpr c4
    have c4b1 : (a1 != 0) = false := bne_eq_false_iff_eq.mpr c4
    clear c4
    (first | rw [c4b0] | (simp only [i64_w, i32_w]; rw [c4b0]) | skip)
    have H' := aMk H
    clear H
    go_wp2
    go_meet
    case rel => exact ⟨_, (false), (by first | rfl | (simp; done) | (simp [*]; done)), H', ⟨by first | omega | exact Nat.le_refl _⟩, ⟨by repeat (first | (with_reducible first | exact HB.out | apply bAl | apply bDn | apply bD1) | exact HB.out)⟩⟩
  · rw [if_neg c4] at H
    have c4b0 : (a1 == 0) = false := beq_eq_false_iff_ne.mpr c4
    have c4b1 : (a1 != 0) = true := bne_iff_ne.mpr c4
    (first | rw [c4b0] | (simp only [i64_w, i32_w]; rw [c4b0]) | skip)
    have H' := aMk H
    clear H
    go_wp2
    go_meet
    case rel => exact ⟨_, ((a1 != 1)), (by first | rfl | (simp; done) | (simp [*]; done)), H', ⟨by first | omega | exact Nat.le_refl _⟩, ⟨by repeat (first | (with_reducible first | exact HB.out | apply bAl | apply bDn | apply bD1) | exact HB.out)⟩⟩
 case rest =>
  clear HC3
  (try clear c2); (try clear p2); (try clear c4); (try clear c4b0); (try clear c4b1)
  obtain ⟨kq, x13_2, rfl, HA, HJ2, HB⟩ := hcut
  cases kq with
  | zero => exact absurd HA.out (by simp [spec_Levels.j0])
  | succ kj2 =>
   have H := HA.out
   clear HA
   simp only [spec_Levels.j0] at H
   have HC5 := aMk H
   clear H
   go_upto_if 13 with (fail)
   go_cut [1] (fun v1 wc => ∃ (kq : Nat) (x1_4 : Int), v1 = .int .i64 x1_4 ∧ Aside0 (spec_Levels.j1 kq l0 x1_4 = some r) ∧ Aside0 (kq ≤ kj2) ∧ Aside0 (Below w.heap.size w wc))
   case first =>
    have H := HC5.out
    clear HC5
    by_cases c6 : x13_2 = true
    · subst c6
      have H1 : ((spec_BaseLevel.f kj2 l0).bind fun t231 => (spec_Levels.j1 kj2 l0 t231)) = some r := by rw [if_pos rfl] at H; exact H
      clear H
      have H := H1
      clear H1
      replace H := oBm H
      obtain ⟨t231, A70, H⟩ := H
      replace H : (spec_Levels.j1 kj2 l0 t231) = some r := H
      have A7 := aMk A70
      clear A70
      have H' := aMk H
      clear H
      go_wp2_with (first | ((with_reducible refine gate_callee (f := 74) rfl ?_); refine goesL_ (some 15) rfl rfl Try.func74 (by kernel_rfl) rfl #[.slice A0 l0.length c0] rfl (by (try simp only [List.map_toArray, List.map_cons, List.map_nil]); first | done | rfl | (simp only [List.length_drop, List.length_take]; rfl)) ?_; (with_reducible refine (spec_BaseLevel.calls kj2 _ _ l0 t231 _ ?side1 ?side2 A7.out).mono ?_); (case side1 => repeat (first | exact (Kd.C_below HR0.out HB.out) | (with_reducible refine Kd.C_alloc ?_ _) | (with_reducible refine Kd.C_drewN ?_ _) | (with_reducible refine Kd.C_drew ?_))); (case side2 => exact HC0.out); rintro e w' ⟨rfl, ⟨nd, rfl⟩⟩; refine ⟨_, rfl, ?_⟩))
      go_meet
      case rel => exact ⟨_, (t231), (by first | rfl | (simp; done) | (simp [*]; done)), H', ⟨by have := HJ2.out; first | omega | exact Nat.le_refl _⟩, ⟨by repeat (first | (with_reducible first | exact HB.out | apply bAl | apply bDn | apply bD1) | exact HB.out)⟩⟩
    · replace c6 := Bool.eq_false_iff.mpr c6
      subst c6
      have H1 : (spec_Levels.j1 kj2 l0 a1) = some r := by rw [if_neg (show ¬ (false = true) by decide)] at H; exact H
      clear H
      have H := H1
      clear H1
      have H' := aMk H
      clear H
      go_wp2
      go_meet
      case rel => exact ⟨_, (a1), (by first | rfl | (simp; done) | (simp [*]; done)), H', ⟨by have := HJ2.out; first | omega | exact Nat.le_refl _⟩, ⟨by repeat (first | (with_reducible first | exact HB.out | apply bAl | apply bDn | apply bD1) | exact HB.out)⟩⟩
   case rest =>
    clear HC5
    (try clear c2); (try clear p2); (try clear c4); (try clear c4b0); (try clear c4b1); (try clear c6); (try clear c7); (try clear p2)
    obtain ⟨kq, x1_4, rfl, HA, HJ4, HB⟩ := hcut
    cases kq with
    | zero => exact absurd HA.out (by simp [spec_Levels.j1])
    | succ kj4 =>
     have H := HA.out
     clear HA
     simp only [spec_Levels.j1] at H
     obtain ⟨y232, hy232⟩ : ∃ y_ : List Int, y_ = (([] : List Int)) := ⟨_, rfl⟩
     replace H : (spec_Levels.l0 kj4 l0 x1_4 y232 0 0) = some r := by first | (rw [hy232]; with_reducible exact H) | (have H2_ := (Option.bind_some _ _).symm.trans H; rw [hy232]; with_reducible exact H2_) | (have H2_ := (Option.bind_some _ _).symm.trans H; with_reducible exact H2_) | with_reducible exact H | (rw [hy232]; exact H) | exact H
     have Ny232 := aMk hy232
     clear hy232
     have H' := aMk H
     clear H
     go_wp2_with (first | ((with_reducible refine gate_dst (N := 16) rfl ?_); (try (refine gate_guard (by rfl) ?_; dsimp only)); refine Kd.R_lit (Kd.int .i64) _ 3 ?hg (N := 16) ?hd (xs := ([] : List Int)) (inner := []) (ok := fun _ => True) (okp := fun _ => True) ?hr ?hp (fun _ hk => hk) trivial (Below.refl _ _) (Nat.le_refl _) (by simp) ?_; (case hd => rfl); (case hg => rfl); (case hr => first | (go_simp; done) | (go_simp; rfl)); (case hp => exact (Reps.none _ _)); intro v233 w8 ho9 hb hg_ hnew_; clear hg_ hnew_; (first | rw [← Ny232.out] at ho9 | (simp only [Int.reduceToNat] at ho9; rw [← Ny232.out] at ho9)); have n0_ := aMk (Kd.R_lower ho9 (below_size (by repeat (first | (with_reducible first | exact HB.out | apply bAl | apply bDn | apply bD1) | exact HB.out)))); have n1_ := aMk (below_step (by repeat (first | (with_reducible first | exact HB.out | apply bAl | apply bDn | apply bD1) | exact HB.out)) hb); clear HB; have HO234 := n0_; have HB := n1_; clear n0_ n1_; clear hb ho9))
     go_loopg [5, 6, 7] kj4 (fun kq v5 v6 v7 w' => ∃ (x5_3 : List Int) (x6_3 : Int) (x7_3 : Int), v6 = .int .i64 x6_3 ∧ v7 = .int .i64 x7_3 ∧ Aside0 (spec_Levels.l0 kq l0 x1_4 x5_3 x6_3 x7_3 = some r) ∧ Aside0 (kq ≤ kj4) ∧ Aside0 (Kd.R (Kd.int .i64) 3 w' w.heap.size (fun _ => True) v5 x5_3) ∧ Aside0 (Below w.heap.size w w'))
     case atStart => exact ⟨(y232), (0), (0), (by first | rfl | (simp; done) | (simp [*]; done)), (by first | rfl | (simp; done) | (simp [*]; done)), H', ⟨Nat.le_refl _⟩, ⟨by (with_reducible repeat (first | apply Kd.R_alloc | apply Kd.R_drewN | apply Kd.R_drew)); exact HO234.out⟩, ⟨by repeat (first | (with_reducible first | exact HB.out | apply bAl | apply bDn | apply bD1) | exact HB.out)⟩⟩
     case round =>
      clear H'
      (try clear c2); (try clear p2); (try clear c4); (try clear c4b0); (try clear c4b1); (try clear c6); (try clear c7); (try clear p2)
      obtain ⟨x5_3, x6_3, x7_3, rfl, rfl, HA, HK3, HO_5, HB⟩ := hrel
      cases gk with
      | zero => exact absurd HA.out (by simp [spec_Levels.l0])
      | succ k3 =>
       have H := HA.out
       clear HA
       simp only [spec_Levels.l0] at H
       by_cases c10 : x7_3 < (l0.length : Int)
       · rw [if_pos c10] at H
         have c10b0 : decide (x7_3 < (l0.length : Int)) = true := decide_eq_true c10
         clear c10
         by_cases c11 : 0 ≤ x7_3
         · rw [if_pos c11] at H
           have c11b0 : decide (0 ≤ x7_3) = true := decide_eq_true c11
           clear c11
           replace H := oBm H
           obtain ⟨t236, A120, H⟩ := H
           replace H : (if t236 = 11 then (if 0 ≤ x6_3 then (if x6_3 ≤ (wrap64 (x7_3 + 1)) then (if (wrap64 (x7_3 + 1)) ≤ (l0.length : Int) then ((spec_l14Piece.f k3 ((l0.take ((wrap64 (x7_3 + 1)) : Int).toNat).drop (x6_3 : Int).toNat) x1_4).bind fun t238 => (if x5_3.length + t238.length < 17592186044416 then (spec_Levels.l0 k3 l0 x1_4 (x5_3 ++ t238) (wrap64 (x7_3 + 1)) (wrap64 (x7_3 + 1))) else (none))) else (none)) else (none)) else (none)) else (if x7_3 = (wrap64 ((l0.length : Int) - 1)) then (if 0 ≤ x6_3 then (if x6_3 ≤ (wrap64 (x7_3 + 1)) then (if (wrap64 (x7_3 + 1)) ≤ (l0.length : Int) then ((spec_l14Piece.f k3 ((l0.take ((wrap64 (x7_3 + 1)) : Int).toNat).drop (x6_3 : Int).toNat) x1_4).bind fun t245 => (if x5_3.length + t245.length < 17592186044416 then (spec_Levels.l0 k3 l0 x1_4 (x5_3 ++ t245) (wrap64 (x7_3 + 1)) (wrap64 (x7_3 + 1))) else (none))) else (none)) else (none)) else (none)) else (spec_Levels.l0 k3 l0 x1_4 x5_3 x6_3 (wrap64 (x7_3 + 1))))) = some r := H
           have A12 := aMk A120
           clear A120
           by_cases c13 : t236 = 11
           · rw [if_pos c13] at H
             have c13b0 : (t236 == 11) = true := beq_iff_eq.mpr c13
             have c13b1 : (t236 != 11) = false := bne_eq_false_iff_eq.mpr c13
             clear c13
             by_cases c14 : 0 ≤ x6_3
             · rw [if_pos c14] at H
               have c14b0 := eq_true c14
               have c14b1 : decide (0 ≤ x6_3) = true := decide_eq_true c14
               clear c14
               by_cases c15 : x6_3 ≤ (wrap64 (x7_3 + 1))
               · rw [if_pos c15] at H
                 have c15b0 := eq_true c15
                 have c15b1 : decide (x6_3 ≤ (wrap64 (x7_3 + 1))) = true := decide_eq_true c15
                 by_cases c16 : (wrap64 (x7_3 + 1)) ≤ (l0.length : Int)
                 · rw [if_pos c16] at H
                   have c16b0 := eq_true c16
                   have c16b1 : decide ((wrap64 (x7_3 + 1)) ≤ (l0.length : Int)) = true := decide_eq_true c16
                   replace H := oBm H
                   obtain ⟨t238, A170, H⟩ := H
                   replace H : (if x5_3.length + t238.length < 17592186044416 then (spec_Levels.l0 k3 l0 x1_4 (x5_3 ++ t238) (wrap64 (x7_3 + 1)) (wrap64 (x7_3 + 1))) else (none)) = some r := H
                   have A17 := aMk A170
                   clear A170
                   by_cases c18 : x5_3.length + t238.length < 17592186044416
                   · rw [if_pos c18] at H
                     have LMc18 := aMk c18
                     clear c18
                     obtain ⟨y241, hy241⟩ : ∃ y_ : List Int, y_ = (x5_3 ++ t238) := ⟨_, rfl⟩
                     replace H : (spec_Levels.l0 k3 l0 x1_4 y241 (wrap64 (x7_3 + 1)) (wrap64 (x7_3 + 1))) = some r := by first | (rw [hy241]; with_reducible exact H) | (have H2_ := (Option.bind_some _ _).symm.trans H; rw [hy241]; with_reducible exact H2_) | (have H2_ := (Option.bind_some _ _).symm.trans H; with_reducible exact H2_) | with_reducible exact H | (rw [hy241]; exact H) | exact H
                     have Ny241 := aMk hy241
                     clear hy241
                     have H' := aMk H
                     clear H
                     have p235 : 0 ≤ (x7_3 : Int) := oDt (by first | (with_reducible assumption) | assumption)
                     have q235 : x7_3 < (l0.length : Int) := oDt (by first | (with_reducible assumption) | assumption)
                     obtain ⟨ad235, e235, hx235_0⟩ := Kd.at_int HR0.out x7_3 p235 q235
                     cases e235
                     replace hx235_0 := (HB.out.cell (wBl w _ hx235_0)).trans hx235_0
                     replace p235 := eq_true p235
                     replace q235 := eq_true q235
                     go_wp2_with (first | ((with_reducible refine gate_callee (f := 44) rfl ?_); refine goesL_ (some 27) rfl rfl Try.func44 (by kernel_rfl) rfl #[.int .i64 (rd l0 x7_3)] rfl (by (try simp only [List.map_toArray, List.map_cons, List.map_nil]); first | done | rfl | (simp only [List.length_drop, List.length_take]; rfl)) ?_; (with_reducible refine (spec_DirClass.calls k3 (rd l0 x7_3) t236 _ A12.out).mono ?_); rintro e w' ⟨rfl, ⟨nd, rfl⟩⟩; refine ⟨_, rfl, ?_⟩; obtain ⟨i019, hi019, _, hsz19, _⟩ := info_parts info3; obtain ⟨A19, hcut19, hA19, hC19⟩ := print_mid_of (P := Try.prog) (Value.int .i64) 0 22 3 .i64 .i64 Try.underlying22 hi019 hsz19 (some ad235) c0 l0 x6_3 (wrap64 (x7_3 + 1)) (oDt (by first | (with_reducible assumption) | assumption)) (by first | omega | exact oDt (by first | (with_reducible assumption) | assumption)) (oDt (by first | (with_reducible assumption) | assumption)) HC0.out; have HR237 := aMk (Kd.C_of_reads (h1 := fun _ => rfl) (hA19 _ (Kd.reads_of_C HR0.out))); have HC237 := aMk hC19; clear hA19 hC19 hi019 hsz19) | ((with_reducible refine gate_callee (f := 75) rfl ?_); refine goesL_ (some 43) rfl rfl Try.func75 (by kernel_rfl) rfl #[.slice A19 ((l0.take ((wrap64 (x7_3 + 1)) : Int).toNat).drop (x6_3 : Int).toNat).length (c0 - x6_3.toNat), .int .i64 x1_4] rfl (by (try simp only [List.map_toArray, List.map_cons, List.map_nil]); first | done | (rw [show ((l0.take ((wrap64 (x7_3 + 1)) : Int).toNat).drop (x6_3 : Int).toNat).length = ((wrap64 (x7_3 + 1)).toNat - x6_3.toNat) from (by rw [List.length_drop, List.length_take]; have h_ : ((wrap64 (x7_3 + 1)) : Int) ≤ (l0.length : Int) := oDt (by first | (with_reducible assumption) | assumption); omega)] <;> rfl) | rfl | (simp only [List.length_drop, List.length_take]; rfl)) ?_; (with_reducible refine (spec_l14Piece.calls k3 _ _ ((l0.take ((wrap64 (x7_3 + 1)) : Int).toNat).drop (x6_3 : Int).toNat) x1_4 t238 _ ?side1 ?side2 A17.out).mono ?_); (case side1 => repeat (first | exact (Kd.C_below HR237.out (by repeat (first | (with_reducible first | exact HB.out | apply bAl | apply bDn | apply bD1) | exact HB.out))) | (with_reducible refine Kd.C_alloc ?_ _) | (with_reducible refine Kd.C_drewN ?_ _) | (with_reducible refine Kd.C_drew ?_))); (case side2 => exact HC237.out); rintro e w20 ⟨v239, rfl, ho0, hb⟩; refine ⟨_, rfl, ?_⟩; have n0_ := aMk (Kd.R_elder' (by (with_reducible repeat (first | apply Kd.R_alloc | apply Kd.R_drewN | apply Kd.R_drew)); exact HO_5.out) (Kd.R_base ho0) hb); have n1_ := aMk (Kd.R_lower (Kd.R_new' ho0 (Kd.R_lt (by (with_reducible repeat (first | apply Kd.R_alloc | apply Kd.R_drewN | apply Kd.R_drew)); exact HO_5.out))) (below_size (by repeat (first | (with_reducible first | exact HB.out | apply bAl | apply bDn | apply bD1) | exact HB.out)))); have n2_ := aMk (below_step (by repeat (first | (with_reducible first | exact HB.out | apply bAl | apply bDn | apply bD1) | exact HB.out)) hb); clear HO_5; clear HB; have HO_5 := n0_; have HO240 := n1_; have HB := n2_; clear n0_ n1_ n2_; (try clear hb); (try clear hb2); (try clear hk); (try clear hi); (try clear ho0); obtain ⟨Ao22, co22, eo22⟩ := Kd.R_slice HO240.out; subst eo22) | ((with_reducible refine gate_builtin (b := .append) (xs := #[.tmp 36, .tmp 43]) rfl ?_); (try (refine gate_guard (by rfl) ?_; dsimp only)); at_builtin; refine Kd.R_append_rows (Kd.int .i64) (w0 := w) w.heap.size rfl (.tmp 36) (.tmp 43) 22 3 (.int .i64 0) 8 rfl Try.underlying22 info3 rfl (by decide) (by omega) u5 x5_3 t238 _ _ _ (fun k_ => some k_ ≠ (.slice Ao22 t238.length co22 : Value).ownBlock) (fun _ => False) rfl rfl ?aO ?aR (fun _ _ h => h) (fun _ h => h.elim) ?aF ?aB ?aS ?aL ?_; (case aR => repeat (first | exact (Kd.R_reads' HO240.out).2.2 | (with_reducible refine Kd.C_alloc ?_ _) | (with_reducible refine Kd.C_drewN ?_ _) | (with_reducible refine Kd.C_drew ?_))); (case aB => exact (by repeat (first | (with_reducible first | exact HB.out | apply bAl | apply bDn | apply bD1) | exact HB.out))); (case aF => exact (fun k_ hk => Kd.fresh' (Kd.R_lt (by (with_reducible repeat (first | apply Kd.R_alloc | apply Kd.R_drewN | apply Kd.R_drew)); exact HO240.out)) k_ hk)); (case aO => exact (by (with_reducible repeat (first | apply Kd.R_alloc | apply Kd.R_drewN | apply Kd.R_drew)); exact Kd.R_mono HO_5.out (fun _ hk => hk.2))); (case aS => exact (below_size (by repeat (first | (with_reducible first | exact HB.out | apply bAl | apply bDn | apply bD1) | exact HB.out)))); (case aL => have := LMc18.out; omega); intro v242 w21 ho hb hg hat; rw [← Ny241.out] at ho; have n0_ := aMk (Kd.R_after (ok := (fun _ => True)) (by (with_reducible repeat (first | apply Kd.R_alloc | apply Kd.R_drewN | apply Kd.R_drew)); exact HO240.out) hg hat); have n1_ := aMk (hb); have n2_ := aMk (ho); clear HO240; clear HB; clear HO_5; have HO240 := n0_; have HB := n1_; have HO243 := n2_; clear n0_ n1_ n2_; clear ho hb hg hat))
                     go_roundg k3
                     case measure => have := HJ2.out; have := HJ4.out; have := HK3.out; omega
                     case rel => exact ⟨(y241), (wrap64 (x7_3 + 1)), (wrap64 (x7_3 + 1)), (by first | rfl | (simp; done) | (simp [*]; done)), (by first | rfl | (simp; done) | (simp [*]; done)), H', ⟨by have := HJ2.out; have := HJ4.out; have := HK3.out; omega⟩, ⟨by (with_reducible repeat (first | apply Kd.R_alloc | apply Kd.R_drewN | apply Kd.R_drew)); exact Kd.R_mono HO243.out (fun _ hk => trivial)⟩, ⟨by repeat (first | (with_reducible first | exact HB.out | apply bAl | apply bDn | apply bD1) | exact HB.out)⟩⟩
                   · rw [if_neg c18] at H
                     exact absurd H (by simp)
                 · rw [if_neg c16] at H
                   exact absurd H (by simp)
               · rw [if_neg c15] at H
                 exact absurd H (by simp)
             · rw [if_neg c14] at H
               exact absurd H (by simp)
           · rw [if_neg c13] at H
             have c13b0 : (t236 == 11) = false := beq_eq_false_iff_ne.mpr c13
             have c13b1 : (t236 != 11) = true := bne_iff_ne.mpr c13
             by_cases c23 : x7_3 = (wrap64 ((l0.length : Int) - 1))
             · rw [if_pos c23] at H
               have c23b0 : (x7_3 == (wrap64 ((l0.length : Int) - 1))) = true := beq_iff_eq.mpr c23
               have c23b1 : (x7_3 != (wrap64 ((l0.length : Int) - 1))) = false := bne_eq_false_iff_eq.mpr c23
               clear c23
               by_cases c24 : 0 ≤ x6_3
               · rw [if_pos c24] at H
                 have c24b0 := eq_true c24
                 have c24b1 : decide (0 ≤ x6_3) = true := decide_eq_true c24
                 clear c24
                 by_cases c25 : x6_3 ≤ (wrap64 (x7_3 + 1))
                 · rw [if_pos c25] at H
                   have c25b0 := eq_true c25
                   have c25b1 : decide (x6_3 ≤ (wrap64 (x7_3 + 1))) = true := decide_eq_true c25
                   by_cases c26 : (wrap64 (x7_3 + 1)) ≤ (l0.length : Int)
                   · rw [if_pos c26] at H
                     have c26b0 := eq_true c26
                     have c26b1 : decide ((wrap64 (x7_3 + 1)) ≤ (l0.length : Int)) = true := decide_eq_true c26
                     replace H := oBm H
                     obtain ⟨t245, A270, H⟩ := H
                     replace H : (if x5_3.length + t245.length < 17592186044416 then (spec_Levels.l0 k3 l0 x1_4 (x5_3 ++ t245) (wrap64 (x7_3 + 1)) (wrap64 (x7_3 + 1))) else (none)) = some r := H
                     have A27 := aMk A270
                     clear A270
                     by_cases c28 : x5_3.length + t245.length < 17592186044416
                     · rw [if_pos c28] at H
                       have LMc28 := aMk c28
                       clear c28
                       obtain ⟨y248, hy248⟩ : ∃ y_ : List Int, y_ = (x5_3 ++ t245) := ⟨_, rfl⟩
                       replace H : (spec_Levels.l0 k3 l0 x1_4 y248 (wrap64 (x7_3 + 1)) (wrap64 (x7_3 + 1))) = some r := by first | (rw [hy248]; with_reducible exact H) | (have H2_ := (Option.bind_some _ _).symm.trans H; rw [hy248]; with_reducible exact H2_) | (have H2_ := (Option.bind_some _ _).symm.trans H; with_reducible exact H2_) | with_reducible exact H | (rw [hy248]; exact H) | exact H
                       have Ny248 := aMk hy248
                       clear hy248
                       have H' := aMk H
                       clear H
                       have p235 : 0 ≤ (x7_3 : Int) := oDt (by first | (with_reducible assumption) | assumption)
                       have q235 : x7_3 < (l0.length : Int) := oDt (by first | (with_reducible assumption) | assumption)
                       obtain ⟨ad235, e235, hx235_0⟩ := Kd.at_int HR0.out x7_3 p235 q235
                       cases e235
                       replace hx235_0 := (HB.out.cell (wBl w _ hx235_0)).trans hx235_0
                       replace p235 := eq_true p235
                       replace q235 := eq_true q235
                       go_wp2_with (first | ((with_reducible refine gate_callee (f := 44) rfl ?_); refine goesL_ (some 27) rfl rfl Try.func44 (by kernel_rfl) rfl #[.int .i64 (rd l0 x7_3)] rfl (by (try simp only [List.map_toArray, List.map_cons, List.map_nil]); first | done | rfl | (simp only [List.length_drop, List.length_take]; rfl)) ?_; (with_reducible refine (spec_DirClass.calls k3 (rd l0 x7_3) t236 _ A12.out).mono ?_); rintro e w' ⟨rfl, ⟨nd, rfl⟩⟩; refine ⟨_, rfl, ?_⟩; obtain ⟨i029, hi029, _, hsz29, _⟩ := info_parts info3; obtain ⟨A29, hcut29, hA29, hC29⟩ := print_mid_of (P := Try.prog) (Value.int .i64) 0 22 3 .i64 .i64 Try.underlying22 hi029 hsz29 (some ad235) c0 l0 x6_3 (wrap64 (x7_3 + 1)) (oDt (by first | (with_reducible assumption) | assumption)) (by first | omega | exact oDt (by first | (with_reducible assumption) | assumption)) (oDt (by first | (with_reducible assumption) | assumption)) HC0.out; have HR244 := aMk (Kd.C_of_reads (h1 := fun _ => rfl) (hA29 _ (Kd.reads_of_C HR0.out))); have HC244 := aMk hC29; clear hA29 hC29 hi029 hsz29) | ((with_reducible refine gate_callee (f := 75) rfl ?_); refine goesL_ (some 43) rfl rfl Try.func75 (by kernel_rfl) rfl #[.slice A29 ((l0.take ((wrap64 (x7_3 + 1)) : Int).toNat).drop (x6_3 : Int).toNat).length (c0 - x6_3.toNat), .int .i64 x1_4] rfl (by (try simp only [List.map_toArray, List.map_cons, List.map_nil]); first | done | (rw [show ((l0.take ((wrap64 (x7_3 + 1)) : Int).toNat).drop (x6_3 : Int).toNat).length = ((wrap64 (x7_3 + 1)).toNat - x6_3.toNat) from (by rw [List.length_drop, List.length_take]; have h_ : ((wrap64 (x7_3 + 1)) : Int) ≤ (l0.length : Int) := oDt (by first | (with_reducible assumption) | assumption); omega)] <;> rfl) | rfl | (simp only [List.length_drop, List.length_take]; rfl)) ?_; (with_reducible refine (spec_l14Piece.calls k3 _ _ ((l0.take ((wrap64 (x7_3 + 1)) : Int).toNat).drop (x6_3 : Int).toNat) x1_4 t245 _ ?side1 ?side2 A27.out).mono ?_); (case side1 => repeat (first | exact (Kd.C_below HR244.out (by repeat (first | (with_reducible first | exact HB.out | apply bAl | apply bDn | apply bD1) | exact HB.out))) | (with_reducible refine Kd.C_alloc ?_ _) | (with_reducible refine Kd.C_drewN ?_ _) | (with_reducible refine Kd.C_drew ?_))); (case side2 => exact HC244.out); rintro e w30 ⟨v246, rfl, ho0, hb⟩; refine ⟨_, rfl, ?_⟩; have n0_ := aMk (Kd.R_elder' (by (with_reducible repeat (first | apply Kd.R_alloc | apply Kd.R_drewN | apply Kd.R_drew)); exact HO_5.out) (Kd.R_base ho0) hb); have n1_ := aMk (Kd.R_lower (Kd.R_new' ho0 (Kd.R_lt (by (with_reducible repeat (first | apply Kd.R_alloc | apply Kd.R_drewN | apply Kd.R_drew)); exact HO_5.out))) (below_size (by repeat (first | (with_reducible first | exact HB.out | apply bAl | apply bDn | apply bD1) | exact HB.out)))); have n2_ := aMk (below_step (by repeat (first | (with_reducible first | exact HB.out | apply bAl | apply bDn | apply bD1) | exact HB.out)) hb); clear HO_5; clear HB; have HO_5 := n0_; have HO247 := n1_; have HB := n2_; clear n0_ n1_ n2_; (try clear hb); (try clear hb2); (try clear hk); (try clear hi); (try clear ho0); obtain ⟨Ao32, co32, eo32⟩ := Kd.R_slice HO247.out; subst eo32) | ((with_reducible refine gate_builtin (b := .append) (xs := #[.tmp 36, .tmp 43]) rfl ?_); (try (refine gate_guard (by rfl) ?_; dsimp only)); at_builtin; refine Kd.R_append_rows (Kd.int .i64) (w0 := w) w.heap.size rfl (.tmp 36) (.tmp 43) 22 3 (.int .i64 0) 8 rfl Try.underlying22 info3 rfl (by decide) (by omega) u5 x5_3 t245 _ _ _ (fun k_ => some k_ ≠ (.slice Ao32 t245.length co32 : Value).ownBlock) (fun _ => False) rfl rfl ?aO ?aR (fun _ _ h => h) (fun _ h => h.elim) ?aF ?aB ?aS ?aL ?_; (case aR => repeat (first | exact (Kd.R_reads' HO247.out).2.2 | (with_reducible refine Kd.C_alloc ?_ _) | (with_reducible refine Kd.C_drewN ?_ _) | (with_reducible refine Kd.C_drew ?_))); (case aB => exact (by repeat (first | (with_reducible first | exact HB.out | apply bAl | apply bDn | apply bD1) | exact HB.out))); (case aF => exact (fun k_ hk => Kd.fresh' (Kd.R_lt (by (with_reducible repeat (first | apply Kd.R_alloc | apply Kd.R_drewN | apply Kd.R_drew)); exact HO247.out)) k_ hk)); (case aO => exact (by (with_reducible repeat (first | apply Kd.R_alloc | apply Kd.R_drewN | apply Kd.R_drew)); exact Kd.R_mono HO_5.out (fun _ hk => hk.2))); (case aS => exact (below_size (by repeat (first | (with_reducible first | exact HB.out | apply bAl | apply bDn | apply bD1) | exact HB.out)))); (case aL => have := LMc28.out; omega); intro v249 w31 ho hb hg hat; rw [← Ny248.out] at ho; have n0_ := aMk (Kd.R_after (ok := (fun _ => True)) (by (with_reducible repeat (first | apply Kd.R_alloc | apply Kd.R_drewN | apply Kd.R_drew)); exact HO247.out) hg hat); have n1_ := aMk (hb); have n2_ := aMk (ho); clear HO247; clear HB; clear HO_5; have HO247 := n0_; have HB := n1_; have HO250 := n2_; clear n0_ n1_ n2_; clear ho hb hg hat))
                       go_roundg k3
                       case measure => have := HJ2.out; have := HJ4.out; have := HK3.out; omega
                       case rel => exact ⟨(y248), (wrap64 (x7_3 + 1)), (wrap64 (x7_3 + 1)), (by first | rfl | (simp; done) | (simp [*]; done)), (by first | rfl | (simp; done) | (simp [*]; done)), H', ⟨by have := HJ2.out; have := HJ4.out; have := HK3.out; omega⟩, ⟨by (with_reducible repeat (first | apply Kd.R_alloc | apply Kd.R_drewN | apply Kd.R_drew)); exact Kd.R_mono HO250.out (fun _ hk => trivial)⟩, ⟨by repeat (first | (with_reducible first | exact HB.out | apply bAl | apply bDn | apply bD1) | exact HB.out)⟩⟩
                     · rw [if_neg c28] at H
                       exact absurd H (by simp)
                   · rw [if_neg c26] at H
                     exact absurd H (by simp)
                 · rw [if_neg c25] at H
                   exact absurd H (by simp)
               · rw [if_neg c24] at H
                 exact absurd H (by simp)
             · rw [if_neg c23] at H
               have c23b0 : (x7_3 == (wrap64 ((l0.length : Int) - 1))) = false := beq_eq_false_iff_ne.mpr c23
               have c23b1 : (x7_3 != (wrap64 ((l0.length : Int) - 1))) = true := bne_iff_ne.mpr c23
               have H' := aMk H
               clear H
               have p235 : 0 ≤ (x7_3 : Int) := oDt (by first | (with_reducible assumption) | assumption)
               have q235 : x7_3 < (l0.length : Int) := oDt (by first | (with_reducible assumption) | assumption)
               obtain ⟨ad235, e235, hx235_0⟩ := Kd.at_int HR0.out x7_3 p235 q235
               cases e235
               replace hx235_0 := (HB.out.cell (wBl w _ hx235_0)).trans hx235_0
               replace p235 := eq_true p235
               replace q235 := eq_true q235
               go_wp2_with (first | ((with_reducible refine gate_callee (f := 44) rfl ?_); refine goesL_ (some 27) rfl rfl Try.func44 (by kernel_rfl) rfl #[.int .i64 (rd l0 x7_3)] rfl (by (try simp only [List.map_toArray, List.map_cons, List.map_nil]); first | done | rfl | (simp only [List.length_drop, List.length_take]; rfl)) ?_; (with_reducible refine (spec_DirClass.calls k3 (rd l0 x7_3) t236 _ A12.out).mono ?_); rintro e w' ⟨rfl, ⟨nd, rfl⟩⟩; refine ⟨_, rfl, ?_⟩))
               go_roundg k3
               case measure => have := HJ2.out; have := HJ4.out; have := HK3.out; omega
               case rel => exact ⟨(x5_3), (x6_3), (wrap64 (x7_3 + 1)), (by first | rfl | (simp; done) | (simp [*]; done)), (by first | rfl | (simp; done) | (simp [*]; done)), H', ⟨by have := HJ2.out; have := HJ4.out; have := HK3.out; omega⟩, ⟨by (with_reducible repeat (first | apply Kd.R_alloc | apply Kd.R_drewN | apply Kd.R_drew)); exact HO_5.out⟩, ⟨by repeat (first | (with_reducible first | exact HB.out | apply bAl | apply bDn | apply bD1) | exact HB.out)⟩⟩
         · rw [if_neg c11] at H
           exact absurd H (by simp)
       · rw [if_neg c10] at H
         have c10b0 : decide (x7_3 < (l0.length : Int)) = false := decide_eq_false c10
         clear c10
         obtain rfl := Option.some.inj H
         go_wp2
         go_ret
         exact ⟨_, by first | rfl | (simp [errW_none, errW_some] <;> rfl) | (simp [*, errW_none, errW_some] <;> rfl), by (with_reducible repeat (first | apply Kd.R_alloc | apply Kd.R_drewN | apply Kd.R_drew)); exact HO_5.out, by repeat (first | (with_reducible first | exact HB.out | apply bAl | apply bDn | apply bD1) | exact HB.out)⟩
def inR (x lo hi : Int) : Bool := decide (lo ≤ x) && decide (x ≤ hi)
def impl_DirClass.g (cp : Int) : Int :=
 if cp = 10 then 11 else
 if cp = 9 then 10 else
 if cp = 32 ∨ cp = 12 ∨ (8192 ≤ cp ∧ cp ≤ 8202) then 9 else
 if (768 ≤ cp ∧ cp ≤ 879) ∨ (1425 ≤ cp ∧ cp ≤ 1469) then 8 else
 if cp = 8206 then 0 else
 if cp = 8207 ∨ (1424 ≤ cp ∧ cp ≤ 1535) ∨ (1984 ≤ cp ∧ cp ≤ 2143) then 1 else
 if 1632 ≤ cp ∧ cp ≤ 1641 then 4 else
 if 1536 ≤ cp ∧ cp ≤ 1983 then 2 else
 if 48 ≤ cp ∧ cp ≤ 57 then 3 else
 if cp = 43 ∨ cp = 45 then 5 else
 if (35 ≤ cp ∧ cp ≤ 37) ∨ (162 ≤ cp ∧ cp ≤ 165) ∨ cp = 8364 then 6 else
 if cp = 44 ∨ cp = 46 ∨ cp = 47 ∨ cp = 58 ∨ cp = 160 then 7 else
 if (33 ≤ cp ∧ cp ≤ 34) ∨ (38 ≤ cp ∧ cp ≤ 42) ∨ (59 ≤ cp ∧ cp ≤ 64) ∨ (91 ≤ cp ∧ cp ≤ 96) ∨ (123 ≤ cp ∧ cp ≤ 126) ∨ cp = 161 ∨ (166 ≤ cp ∧ cp ≤ 169) ∨ (171 ≤ cp ∧ cp ≤ 177) ∨ (8208 ≤ cp ∧ cp ≤ 8231) ∨ cp = 8203 then 12 else 0
def impl_DirClass.f (a0 : Int) : Option Int := some (impl_DirClass.g a0)
set_option maxHeartbeats 1000000 in
theorem impl_DirClass.in_calls (lo hi cp : Int) (a : Addr) (w : World) (hc : w.cell? a = some (.int .i64 cp)) :
 Calls Try.prog 111 #[.int .i64 lo, .int .i64 hi, .pointer (some a)] w fun e w' => e = .returned (.bool (inR cp lo hi)) ∧ w = w' := by
 have e0 : inR cp lo hi = (decide (lo ≤ cp) && decide (cp ≤ hi)) := rfl
 by_cases h1 : lo ≤ cp <;> by_cases h2 : cp ≤ hi
 all_goals
  rw [e0]
  simp only [h1, h2, decide_true, decide_false, Bool.and_true, Bool.and_false]
  clear e0
  go_enter Try.func111, Try.ntmps111
  go_wp2
  go_ret
  exact ⟨rfl, rfl⟩
set_option maxHeartbeats 8000000 in
set_option maxRecDepth 100000 in
theorem impl_DirClass.calls (a0 : Int) (r : Int) (w : World) (h : impl_DirClass.f a0 = some r) :
 Calls Try.prog 77 #[.int .i64 a0] w fun e w' => e = .returned (.int .i64 r) ∧ Below w.heap.size w w' := by
 have HB := aMk (bAl (Below.refl w.heap.size w) (.cells #[.int .i64 a0] 3))
 have hc : (w.alloc (.cells #[.int .i64 a0] 3)).cell? ⟨w.heap.size, 0, none⟩ = some (.int .i64 a0) := by simp [World.cell?_alloc_new]
 obtain rfl : impl_DirClass.g a0 = r := Option.some.inj h
 have hmf : ∀ (fn : Fn) (first cap : Array Value) (w : World), (Instr.makeFunc fn first cap).run Try.prog w = .ok (.func fn first cap) w := fun _ _ _ _ => rfl
 have HC := aMk hc
 clear h
 obtain ⟨n, hn⟩ : ∃ n, n = impl_DirClass.g a0 := ⟨_, rfl⟩
 rw [← hn]
 have HN := aMk hn
 clear hn
 go_enter Try.func77, Try.ntmps77
 go_wp2_with (go_at_call 111; refine (impl_DirClass.in_calls _ _ a0 _ _ HC.out).mono ?_; rintro e w' ⟨rfl, rfl⟩)
 all_goals
  go_ret
  refine ⟨congrArg (fun z => Ending.returned (.int .i64 z)) ?_, bAl (Below.refl _ _) _⟩
  rw [HN.out]
  clear HN HC HB hmf
  simp only [inR, Bool.and_eq_true, Bool.and_eq_false_iff, decide_eq_true_eq, decide_eq_false_iff_not, beq_iff_eq, beq_eq_false_iff_ne, ne_eq] at *
  unfold impl_DirClass.g
  repeat (first | rw [if_pos (by omega)] | rw [if_neg (by omega)])
def impl_BaseLevel.l0 : Nat → List Int → Int → Int → Option (Int)
 | 0, _, _, _ => none
 | k + 1, x5, x6, x7 => if x7 < x6 then (if 0 ≤ x7 then (if x7 < (x5.length : Int) then ((impl_DirClass.f (rd x5 x7)).bind fun t252 => (if t252 = 0 then (some 0) else (if t252 = 1 then (some 1) else (if t252 = 2 then (some 1) else (impl_BaseLevel.l0 k x5 x6 (wrap64 (x7 + 1))))))) else (none)) else (none)) else (some 0)
def impl_BaseLevel.f (k : Nat) (l0 : List Int) : Option (Int) := impl_BaseLevel.l0 k l0 (l0.length : Int) 0
set_option maxHeartbeats 8000000 in
set_option maxRecDepth 100000 in
theorem impl_BaseLevel.calls (k : Nat) (A0 : Option Addr) (c0 : Nat) (l0 : List Int) (r : Int) (w : World) (hr0 : Kd.C (Kd.int .i64) w A0 l0.length l0) (hc0 : l0.length ≤ c0) (h : impl_BaseLevel.f k l0 = some r) :
 Calls Try.prog 76 #[.slice A0 l0.length c0] w fun e w' => e = .returned (.int .i64 r) ∧ Below w.heap.size w w' := by
 have HR0 := aMk hr0
 have HC0 := aMk hc0
 clear hr0 hc0
 have HB := aMk (Below.refl w.heap.size w)
 have H : (impl_BaseLevel.l0 k l0 (l0.length : Int) 0) = some r := h
 clear h
 have H' := aMk H
 clear H
 go_enter Try.func76, Try.ntmps76
 go_wp2
 go_loopg [7] k (fun kq v7 w' => ∃ (x7_1 : Int), v7 = .int .i64 x7_1 ∧ Aside0 (impl_BaseLevel.l0 kq l0 (l0.length : Int) x7_1 = some r) ∧ Aside0 (kq ≤ k) ∧ Aside0 (Below w.heap.size w w'))
 case atStart => exact ⟨(0), (by first | rfl | (simp; done) | (simp [*]; done)), H', ⟨Nat.le_refl _⟩, ⟨by repeat (first | (with_reducible first | exact HB.out | apply bAl | apply bDn | apply bD1) | exact HB.out)⟩⟩
 case round =>
  clear H'
  obtain ⟨x7_1, rfl, HA, HK1, HB⟩ := hrel
  cases gk with
  | zero => exact absurd HA.out (by simp [impl_BaseLevel.l0])
  | succ k1 =>
   have H := HA.out
   clear HA
   simp only [impl_BaseLevel.l0] at H
   by_cases c2 : x7_1 < (l0.length : Int)
   · rw [if_pos c2] at H
     have c2b0 : decide (x7_1 < (l0.length : Int)) = true := decide_eq_true c2
     clear c2
     by_cases c3 : 0 ≤ x7_1
     · rw [if_pos c3] at H
       have c3b0 : decide (0 ≤ x7_1) = true := decide_eq_true c3
       clear c3
       by_cases c4 : x7_1 < (l0.length : Int)
       · rw [if_pos c4] at H
         have c4b0 : decide (x7_1 < (l0.length : Int)) = true := decide_eq_true c4
         clear c4
         replace H := oBm H
         obtain ⟨t252, A50, H⟩ := H
         replace H : (if t252 = 0 then (some 0) else (if t252 = 1 then (some 1) else (if t252 = 2 then (some 1) else (impl_BaseLevel.l0 k1 l0 (l0.length : Int) (wrap64 (x7_1 + 1)))))) = some r := H
         have A5 := aMk A50
         clear A50
         by_cases c6 : t252 = 0
         · rw [if_pos c6] at H
           have c6b0 : (t252 == 0) = true := beq_iff_eq.mpr c6
           have c6b1 : (t252 != 0) = false := bne_eq_false_iff_eq.mpr c6
           clear c6
           obtain rfl := Option.some.inj H
           have p251 : 0 ≤ (x7_1 : Int) := oDt (by first | (with_reducible assumption) | assumption)
           have q251 : x7_1 < (l0.length : Int) := oDt (by first | (with_reducible assumption) | assumption)
           obtain ⟨ad251, e251, hx251_0⟩ := Kd.at_int HR0.out x7_1 p251 q251
           cases e251
           replace hx251_0 := (HB.out.cell (wBl w _ hx251_0)).trans hx251_0
           replace p251 := eq_true p251
           replace q251 := eq_true q251
           go_wp2_with (first | ((with_reducible refine gate_callee (f := 77) rfl ?_); refine goesL_ (some 12) rfl rfl Try.func77 (by kernel_rfl) rfl #[.int .i64 (rd l0 x7_1)] rfl (by (try simp only [List.map_toArray, List.map_cons, List.map_nil]); first | done | rfl | (simp only [List.length_drop, List.length_take]; rfl)) ?_; (with_reducible refine (impl_DirClass.calls (rd l0 x7_1) t252 _ A5.out).mono ?_); rintro e w7 ⟨rfl, hb⟩; refine ⟨_, rfl, ?_⟩; have n0_ := aMk (below_step (by repeat (first | (with_reducible first | exact HB.out | apply bAl | apply bDn | apply bD1) | exact HB.out)) hb); clear HB; have HB := n0_; clear n0_; (try clear hb); (try clear hb2); (try clear hk); (try clear hi)))
           go_ret
           exact ⟨by first | rfl | (simp [errW_none, errW_some] <;> rfl) | (simp [*, errW_none, errW_some] <;> rfl), by repeat (first | (with_reducible first | exact HB.out | apply bAl | apply bDn | apply bD1) | exact HB.out)⟩
         · rw [if_neg c6] at H
           have c6b0 : (t252 == 0) = false := beq_eq_false_iff_ne.mpr c6
           have c6b1 : (t252 != 0) = true := bne_iff_ne.mpr c6
           by_cases c8 : t252 = 1
           · rw [if_pos c8] at H
             have c8b0 : (t252 == 1) = true := beq_iff_eq.mpr c8
             have c8b1 : (t252 != 1) = false := bne_eq_false_iff_eq.mpr c8
             clear c8
             obtain rfl := Option.some.inj H
             have p251 : 0 ≤ (x7_1 : Int) := oDt (by first | (with_reducible assumption) | assumption)
             have q251 : x7_1 < (l0.length : Int) := oDt (by first | (with_reducible assumption) | assumption)
             obtain ⟨ad251, e251, hx251_0⟩ := Kd.at_int HR0.out x7_1 p251 q251
             cases e251
             replace hx251_0 := (HB.out.cell (wBl w _ hx251_0)).trans hx251_0
             replace p251 := eq_true p251
             replace q251 := eq_true q251
             go_wp2_with (first | ((with_reducible refine gate_callee (f := 77) rfl ?_); refine goesL_ (some 12) rfl rfl Try.func77 (by kernel_rfl) rfl #[.int .i64 (rd l0 x7_1)] rfl (by (try simp only [List.map_toArray, List.map_cons, List.map_nil]); first | done | rfl | (simp only [List.length_drop, List.length_take]; rfl)) ?_; (with_reducible refine (impl_DirClass.calls (rd l0 x7_1) t252 _ A5.out).mono ?_); rintro e w9 ⟨rfl, hb⟩; refine ⟨_, rfl, ?_⟩; have n0_ := aMk (below_step (by repeat (first | (with_reducible first | exact HB.out | apply bAl | apply bDn | apply bD1) | exact HB.out)) hb); clear HB; have HB := n0_; clear n0_; (try clear hb); (try clear hb2); (try clear hk); (try clear hi)))
             go_ret
             exact ⟨by first | rfl | (simp [errW_none, errW_some] <;> rfl) | (simp [*, errW_none, errW_some] <;> rfl), by repeat (first | (with_reducible first | exact HB.out | apply bAl | apply bDn | apply bD1) | exact HB.out)⟩
           · rw [if_neg c8] at H
             have c8b0 : (t252 == 1) = false := beq_eq_false_iff_ne.mpr c8
             have c8b1 : (t252 != 1) = true := bne_iff_ne.mpr c8
             by_cases c10 : t252 = 2
             · rw [if_pos c10] at H
               have c10b0 : (t252 == 2) = true := beq_iff_eq.mpr c10
               have c10b1 : (t252 != 2) = false := bne_eq_false_iff_eq.mpr c10
               clear c10
               obtain rfl := Option.some.inj H
               have p251 : 0 ≤ (x7_1 : Int) := oDt (by first | (with_reducible assumption) | assumption)
               have q251 : x7_1 < (l0.length : Int) := oDt (by first | (with_reducible assumption) | assumption)
               obtain ⟨ad251, e251, hx251_0⟩ := Kd.at_int HR0.out x7_1 p251 q251
               cases e251
               replace hx251_0 := (HB.out.cell (wBl w _ hx251_0)).trans hx251_0
               replace p251 := eq_true p251
               replace q251 := eq_true q251
               go_wp2_with (first | ((with_reducible refine gate_callee (f := 77) rfl ?_); refine goesL_ (some 12) rfl rfl Try.func77 (by kernel_rfl) rfl #[.int .i64 (rd l0 x7_1)] rfl (by (try simp only [List.map_toArray, List.map_cons, List.map_nil]); first | done | rfl | (simp only [List.length_drop, List.length_take]; rfl)) ?_; (with_reducible refine (impl_DirClass.calls (rd l0 x7_1) t252 _ A5.out).mono ?_); rintro e w11 ⟨rfl, hb⟩; refine ⟨_, rfl, ?_⟩; have n0_ := aMk (below_step (by repeat (first | (with_reducible first | exact HB.out | apply bAl | apply bDn | apply bD1) | exact HB.out)) hb); clear HB; have HB := n0_; clear n0_; (try clear hb); (try clear hb2); (try clear hk); (try clear hi)))
               go_ret
               exact ⟨by first | rfl | (simp [errW_none, errW_some] <;> rfl) | (simp [*, errW_none, errW_some] <;> rfl), by repeat (first | (with_reducible first | exact HB.out | apply bAl | apply bDn | apply bD1) | exact HB.out)⟩
             · rw [if_neg c10] at H
               have c10b0 : (t252 == 2) = false := beq_eq_false_iff_ne.mpr c10
               have c10b1 : (t252 != 2) = true := bne_iff_ne.mpr c10
               have H' := aMk H
               clear H
               have p251 : 0 ≤ (x7_1 : Int) := oDt (by first | (with_reducible assumption) | assumption)
               have q251 : x7_1 < (l0.length : Int) := oDt (by first | (with_reducible assumption) | assumption)
               obtain ⟨ad251, e251, hx251_0⟩ := Kd.at_int HR0.out x7_1 p251 q251
               cases e251
               replace hx251_0 := (HB.out.cell (wBl w _ hx251_0)).trans hx251_0
               replace p251 := eq_true p251
               replace q251 := eq_true q251
               go_wp2_with (first | ((with_reducible refine gate_callee (f := 77) rfl ?_); refine goesL_ (some 12) rfl rfl Try.func77 (by kernel_rfl) rfl #[.int .i64 (rd l0 x7_1)] rfl (by (try simp only [List.map_toArray, List.map_cons, List.map_nil]); first | done | rfl | (simp only [List.length_drop, List.length_take]; rfl)) ?_; (with_reducible refine (impl_DirClass.calls (rd l0 x7_1) t252 _ A5.out).mono ?_); rintro e w12 ⟨rfl, hb⟩; refine ⟨_, rfl, ?_⟩; have n0_ := aMk (below_step (by repeat (first | (with_reducible first | exact HB.out | apply bAl | apply bDn | apply bD1) | exact HB.out)) hb); clear HB; have HB := n0_; clear n0_; (try clear hb); (try clear hb2); (try clear hk); (try clear hi)))
               go_roundg k1
               case measure => have := HK1.out; omega
               case rel => exact ⟨(wrap64 (x7_1 + 1)), (by first | rfl | (simp; done) | (simp [*]; done)), H', ⟨by have := HK1.out; omega⟩, ⟨by repeat (first | (with_reducible first | exact HB.out | apply bAl | apply bDn | apply bD1) | exact HB.out)⟩⟩
       · rw [if_neg c4] at H
         exact absurd H (by simp)
     · rw [if_neg c3] at H
       exact absurd H (by simp)
   · rw [if_neg c2] at H
     have c2b0 : decide (x7_1 < (l0.length : Int)) = false := decide_eq_false c2
     clear c2
     obtain rfl := Option.some.inj H
     go_wp2
     go_ret
     exact ⟨by first | rfl | (simp [errW_none, errW_some] <;> rfl) | (simp [*, errW_none, errW_some] <;> rfl), by repeat (first | (with_reducible first | exact HB.out | apply bAl | apply bDn | apply bD1) | exact HB.out)⟩
def slices_Clone_int_int.f (l0 : List Int) : Option (List Int) := if l0.length * 8 ≤ 140737488355328 then some l0 else none
theorem slices_Clone_int_int.calls (A0 : Option Addr) (c0 : Nat) (l0 : List Int) (r : List Int) (w : World) (hr0 : Kd.C (Kd.int .i64) w A0 l0.length l0) (hc0 : l0.length ≤ c0) (h : slices_Clone_int_int.f l0 = some r) :
 Calls Try.prog 112 #[.slice A0 l0.length c0] w fun e w' => ∃ v0_ : Value, e = .returned (v0_) ∧ Kd.R (Kd.int .i64) 3 w' w.heap.size (fun _ => True) v0_ r ∧ Below w.heap.size w w' := by
 unfold slices_Clone_int_int.f at h
 by_cases c : l0.length * 8 ≤ 140737488355328
 · rw [if_pos c] at h
   obtain rfl := Option.some.inj h
   by_cases hl : 0 < l0.length
   · obtain ⟨ad, rfl, hx⟩ := hr0.2.2 hl
     have cell : ∀ j, j < l0.length → w.cell? (ad.add j) = some (.int .i64 (l0.getD j 0)) := by
      intro j hj
      obtain ⟨cs, _, hk, hcell⟩ := hx j _ (List.getElem?_eq_getElem hj)
      have hk : cs = [.int .i64 l0[j]] := hk
      subst hk
      have := hcell 0 _ rfl
      rw [show (Kd.int .i64).sz = 1 from rfl, Nat.mul_one, Nat.add_zero] at this
      rw [this, List.getD_eq_getElem?_getD, List.getElem?_eq_getElem hj]; rfl
     obtain ⟨b, off, sp⟩ := ad
     have hsp : sp = none := by
      have h0 := cell 0 hl
      cases sp with
      | none => rfl
      | some n =>
       exfalso
       have e : (⟨b, off, some n⟩ : Addr).add 0 = ⟨b, off, some n⟩ := rfl
       rw [e] at h0
       unfold World.cell? at h0
       simp only at h0
       split at h0
       · simp at h0
       · cases h0
     subst hsp
     have cell2 : ∀ j, j < l0.length → w.cell? ⟨b, off + j, none⟩ = some (.int .i64 (l0.getD j 0)) := by
      intro j hj
      have := cell j hj
      unfold Addr.add at this
      split at this
      · rename_i e; subst e; exact this
      · exact this
     refine (Try.slices_Clone_int b off l0.length c0 l0 w (Nat.le_refl _) c cell2).mono ?_
     rintro e w' ⟨v', rfl, ho, _, hb⟩
     rw [List.take_length] at ho
     exact ⟨v', rfl, Kd.R_of_own ho (fun _ _ => trivial), hb⟩
   · have hl0 : l0 = [] := List.eq_nil_of_length_eq_zero (by omega)
     subst hl0
     cases A0 with
     | none =>
      refine (Try.slices_Clone_int_nil 0 c0 w).mono ?_
      rintro e w' ⟨rfl, rfl⟩
      exact ⟨_, rfl, Kd.R_nil _ _ _ _ _, Below.refl _ _⟩
     | some ad =>
      refine (Try.slices_Clone_int_zero ad c0 w).mono ?_
      rintro e w' ⟨v', rfl, ho, _, hb⟩
      exact ⟨v', rfl, Kd.R_of_own (xs := []) ho (fun _ _ => trivial), hb⟩
 · rw [if_neg c] at h
   cases h
def slices_Index_int_int.l0 : Nat → List Int → Int → Int → Int → Option (Int)
 | 0, _, _, _, _ => none
 | k + 1, x0, x1, x7, x8 => if x8 < x7 then (if 0 ≤ x8 then (if x8 < (x0.length : Int) then (if x1 = (rd x0 x8) then (some x8) else (slices_Index_int_int.l0 k x0 x1 x7 (wrap64 (x8 + 1)))) else (none)) else (none)) else (some (-1))
def slices_Index_int_int.f (k : Nat) (l0 : List Int) (a1 : Int) : Option (Int) := slices_Index_int_int.l0 k l0 a1 (l0.length : Int) 0
set_option maxHeartbeats 8000000 in
set_option maxRecDepth 100000 in
theorem slices_Index_int_int.calls (k : Nat) (A0 : Option Addr) (c0 : Nat) (l0 : List Int) (a1 : Int) (r : Int) (w : World) (hr0 : Kd.C (Kd.int .i64) w A0 l0.length l0) (hc0 : l0.length ≤ c0) (h : slices_Index_int_int.f k l0 a1 = some r) :
 Calls Try.prog 103 #[.slice A0 l0.length c0, .int .i64 a1] w fun e w' => e = .returned (.int .i64 r) ∧ Drawn0 w w' := by
 have HR0 := aMk hr0
 have HC0 := aMk hc0
 clear hr0 hc0
 have H : (slices_Index_int_int.l0 k l0 a1 (l0.length : Int) 0) = some r := h
 clear h
 have H' := aMk H
 clear H
 go_enter Try.func103, Try.ntmps103
 go_wp2
 go_loopg [8] k (fun kq v8 w' => ∃ (x8_1 : Int), v8 = .int .i64 x8_1 ∧ Aside0 (slices_Index_int_int.l0 kq l0 a1 (l0.length : Int) x8_1 = some r) ∧ Aside0 (kq ≤ k) ∧ Drawn0 w w')
 case atStart => exact ⟨(0), (by first | rfl | (simp; done) | (simp [*]; done)), H', ⟨Nat.le_refl _⟩, by repeat (first | exact Drawn0.refl _ | apply Drawn0.step)⟩
 case round =>
  clear H'
  (try clear c1); (try clear p2)
  obtain ⟨x8_1, rfl, HA, HK1, ⟨m1, rfl⟩⟩ := hrel
  cases gk with
  | zero => exact absurd HA.out (by simp [slices_Index_int_int.l0])
  | succ k1 =>
   have H := HA.out
   clear HA
   simp only [slices_Index_int_int.l0] at H
   by_cases c3 : x8_1 < (l0.length : Int)
   · rw [if_pos c3] at H
     have c3b0 : decide (x8_1 < (l0.length : Int)) = true := decide_eq_true c3
     clear c3
     by_cases c4 : 0 ≤ x8_1
     · rw [if_pos c4] at H
       have c4b0 : decide (0 ≤ x8_1) = true := decide_eq_true c4
       clear c4
       by_cases c5 : x8_1 < (l0.length : Int)
       · rw [if_pos c5] at H
         have c5b0 : decide (x8_1 < (l0.length : Int)) = true := decide_eq_true c5
         clear c5
         by_cases c6 : a1 = (rd l0 x8_1)
         · rw [if_pos c6] at H
           have c6b0 : (a1 == (rd l0 x8_1)) = true := beq_iff_eq.mpr c6
           have c6b1 : (a1 != (rd l0 x8_1)) = false := bne_eq_false_iff_eq.mpr c6
           clear c6
           obtain rfl := Option.some.inj H
           have p253 : 0 ≤ (x8_1 : Int) := oDt (by first | (with_reducible assumption) | assumption)
           have q253 : x8_1 < (l0.length : Int) := oDt (by first | (with_reducible assumption) | assumption)
           obtain ⟨ad253, e253, hx253_0⟩ := Kd.at_int HR0.out x8_1 p253 q253
           cases e253
           replace p253 := eq_true p253
           replace q253 := eq_true q253
           go_wp2
           go_ret
           exact ⟨by first | rfl | (simp; done) | (simp [*]; done), by repeat (first | exact Drawn0.refl _ | apply Drawn0.step)⟩
         · rw [if_neg c6] at H
           have c6b0 : (a1 == (rd l0 x8_1)) = false := beq_eq_false_iff_ne.mpr c6
           have c6b1 : (a1 != (rd l0 x8_1)) = true := bne_iff_ne.mpr c6
           have H' := aMk H
           clear H
           have p253 : 0 ≤ (x8_1 : Int) := oDt (by first | (with_reducible assumption) | assumption)
           have q253 : x8_1 < (l0.length : Int) := oDt (by first | (with_reducible assumption) | assumption)
           obtain ⟨ad253, e253, hx253_0⟩ := Kd.at_int HR0.out x8_1 p253 q253
           cases e253
           replace p253 := eq_true p253
           replace q253 := eq_true q253
           go_wp2
           go_roundg k1
           case measure => have := HK1.out; omega
           case rel => exact ⟨(wrap64 (x8_1 + 1)), (by first | rfl | (simp; done) | (simp [*]; done)), H', ⟨by have := HK1.out; omega⟩, by repeat (first | exact Drawn0.refl _ | apply Drawn0.step)⟩
       · rw [if_neg c5] at H
         exact absurd H (by simp)
     · rw [if_neg c4] at H
       exact absurd H (by simp)
   · rw [if_neg c3] at H
     have c3b0 : decide (x8_1 < (l0.length : Int)) = false := decide_eq_false c3
     clear c3
     obtain rfl := Option.some.inj H
     go_wp2
     go_ret
     exact ⟨by first | rfl | (simp; done) | (simp [*]; done), by repeat (first | exact Drawn0.refl _ | apply Drawn0.step)⟩
def slices_Contains_int_int.f (k : Nat) (l0 : List Int) (a1 : Int) : Option (Bool) := (slices_Index_int_int.f k l0 a1).bind fun t254 => (some (decide (t254 ≥ 0)))
set_option maxHeartbeats 8000000 in
set_option maxRecDepth 100000 in
theorem slices_Contains_int_int.calls (k : Nat) (A0 : Option Addr) (c0 : Nat) (l0 : List Int) (a1 : Int) (r : Bool) (w : World) (hr0 : Kd.C (Kd.int .i64) w A0 l0.length l0) (hc0 : l0.length ≤ c0) (h : slices_Contains_int_int.f k l0 a1 = some r) :
 Calls Try.prog 155 #[.slice A0 l0.length c0, .int .i64 a1] w fun e w' => e = .returned (.bool r) ∧ Drawn0 w w' := by
 have HR0 := aMk hr0
 have HC0 := aMk hc0
 clear hr0 hc0
 have H : ((slices_Index_int_int.f k l0 a1).bind fun t254 => (some (decide (t254 ≥ 0)))) = some r := h
 clear h
 replace H := oBm H
 obtain ⟨t254, A30, H⟩ := H
 replace H : (some (decide (t254 ≥ 0))) = some r := H
 have A3 := aMk A30
 clear A30
 obtain rfl := Option.some.inj H
 go_enter Try.func155, Try.ntmps155
 go_wp2_with (first | ((with_reducible refine gate_callee (f := 103) rfl ?_); refine goesL_ (some 7) rfl rfl Try.func103 (by kernel_rfl) rfl #[.slice A0 l0.length c0, .int .i64 a1] rfl (by (try simp only [List.map_toArray, List.map_cons, List.map_nil]); first | done | rfl | (simp only [List.length_drop, List.length_take]; rfl)) ?_; (with_reducible refine (slices_Index_int_int.calls k _ _ l0 a1 t254 _ ?side1 ?side2 A3.out).mono ?_); (case side1 => repeat (first | exact HR0.out | (with_reducible refine Kd.C_alloc ?_ _) | (with_reducible refine Kd.C_drewN ?_ _) | (with_reducible refine Kd.C_drew ?_))); (case side2 => exact HC0.out); rintro e w' ⟨rfl, ⟨nd, rfl⟩⟩; refine ⟨_, rfl, ?_⟩))
 go_ret
 exact ⟨by first | rfl | (simp; done) | (simp [*]; done), by repeat (first | exact Drawn0.refl _ | apply Drawn0.step)⟩
end Go.Proofs.Ytpknhndanbgkmaa.MFnLevels
