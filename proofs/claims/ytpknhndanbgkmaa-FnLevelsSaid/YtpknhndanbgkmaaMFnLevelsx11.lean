-- Written by this session's own program (wip/gen/myprint.py).
import Derived.Test.YtpknhndanbgkmaaMFnLevelsx0
import Derived.Test.YtpknhndanbgkmaaMFnLevelsx8
import Derived.Test.YtpknhndanbgkmaaMFnLevelsx10
namespace Go.Proofs.Ytpknhndanbgkmaa.MFnLevels
open Go.RowKit Go.Proofs.YtpknhndanbgkmaaW.PrintWords Go.Proofs.YtpknhndanbgkmaaW.PrintLast Go.Proofs.YtpknhndanbgkmaaW.PrintMore
attribute [local go_sem] max2_int min2_int max_two min_two max_three min_three max_four min_four   -- for this text's walks alone
set_option linter.unusedVariables false
set_option linter.unusedSimpArgs false
mutual
def impl_Levels.j0 : Nat → List Int → Int → Bool → Option (List Int)
 | 0, _, _, _ => none
 | k + 1, x0, x1, x14 => if x14 = true then ((impl_BaseLevel.f k x0).bind fun t259 => (impl_Levels.j1 k x0 t259)) else (impl_Levels.j1 k x0 x1)
def impl_Levels.j1 : Nat → List Int → Int → Option (List Int)
 | 0, _, _ => none
 | k + 1, x0, x1 => impl_Levels.l0 k x0 x1 (([] : List Int)) 0 x0 (x0.length : Int) 0
def impl_Levels.l0 : Nat → List Int → Int → List Int → Int → List Int → Int → Int → Option (List Int)
 | 0, _, _, _, _, _, _, _ => none
 | k + 1, x0, x1, x5, x6, x18, x19, x20 => if x20 < x19 then (if 0 ≤ x20 then (if x20 < (x18.length : Int) then ((impl_DirClass.f (rd x18 x20)).bind fun t264 => (if t264 = 11 then (if 0 ≤ x6 then (if x6 ≤ (wrap64 (x20 + 1)) then (if (wrap64 (x20 + 1)) ≤ (x0.length : Int) then ((impl_levelsOf.f ((x0.take ((wrap64 (x20 + 1)) : Int).toNat).drop (x6 : Int).toNat) x1).bind fun t266 => (if x5.length + t266.length < 17592186044416 then (impl_Levels.l0 k x0 x1 (x5 ++ t266) (wrap64 (x20 + 1)) x18 x19 (wrap64 (x20 + 1))) else (none))) else (none)) else (none)) else (none)) else (if (wrap64 (x20 + 1)) = (x0.length : Int) then (if 0 ≤ x6 then (if x6 ≤ (wrap64 (x20 + 1)) then (if (wrap64 (x20 + 1)) ≤ (x0.length : Int) then ((impl_levelsOf.f ((x0.take ((wrap64 (x20 + 1)) : Int).toNat).drop (x6 : Int).toNat) x1).bind fun t273 => (if x5.length + t273.length < 17592186044416 then (impl_Levels.l0 k x0 x1 (x5 ++ t273) (wrap64 (x20 + 1)) x18 x19 (wrap64 (x20 + 1))) else (none))) else (none)) else (none)) else (none)) else (impl_Levels.l0 k x0 x1 x5 x6 x18 x19 (wrap64 (x20 + 1)))))) else (none)) else (none)) else (some x5)
end
def impl_Levels.f (k : Nat) (l0 : List Int) (a1 : Int) : Option (List Int) := if a1 = 0 then (impl_Levels.j0 k l0 a1 false) else (impl_Levels.j0 k l0 a1 (a1 != 1))
set_option maxHeartbeats 8000000 in
set_option maxRecDepth 100000 in
theorem impl_Levels.calls (k : Nat) (A0 : Option Addr) (c0 : Nat) (l0 : List Int) (a1 : Int) (r : List Int) (w : World) (hr0 : Kd.C (Kd.int .i64) w A0 l0.length l0) (hc0 : l0.length ≤ c0) (h : impl_Levels.f k l0 a1 = some r) :
 Calls Try.prog 30 #[.slice A0 l0.length c0, .int .i64 a1] w fun e w' => ∃ v0_ : Value, e = .returned (v0_) ∧ Kd.R (Kd.int .i64) 3 w' w.heap.size (fun _ => True) v0_ r ∧ Below w.heap.size w w' := by
 have HR0 := aMk hr0
 have HC0 := aMk hc0
 clear hr0 hc0
 have HB := aMk (Below.refl w.heap.size w)
 have H : (if a1 = 0 then (impl_Levels.j0 k l0 a1 false) else (impl_Levels.j0 k l0 a1 (a1 != 1))) = some r := h
 clear h
 have HC3 := aMk H
 clear H
 go_enter Try.func30, Try.ntmps30
 go_upto_region 1 with (fail)
 go_cut [14] (fun v14 wc => ∃ (kq : Nat) (x14_2 : Bool), v14 = .bool x14_2 ∧ Aside0 (impl_Levels.j0 kq l0 a1 x14_2 = some r) ∧ Aside0 (kq ≤ k) ∧ Aside0 (Below w.heap.size w wc))
 case first =>
  have H := HC3.out
  clear HC3
  by_cases c4 : a1 = 0
  · rw [if_pos c4] at H
    have c4b0 : (a1 == 0) = true := beq_iff_eq.mpr c4
    have c4b1 : (a1 != 0) = false := bne_eq_false_iff_eq.mpr c4
    clear c4
    (first | rw [c4b0] | (simp only [i64_w, i32_w]; rw [c4b0]) | skip)
    have H' := aMk H
    clear H
    go_wp2
    go_meet
    case rel => exact ⟨_, (false), (by first | rfl | (simp; done) | (simp [*]; done)), H', ⟨by first | omega | exact Nat.le_refl _⟩, ⟨by repeat (first | (with_reducible first | exact HB.out | apply bAl | apply bDn | apply bD1) | exact HB.out)⟩⟩
  · rw [if_neg c4] at H
    have c4b0 : (a1 == 0) = false := beq_eq_false_iff_ne.mpr c4
    have c4b1 : (a1 != 0) = true := bne_iff_ne.mpr c4
    (first | rw [c4b0] | (simp only [i64_w, i32_w]; rw [c4b0]) | skip)
    have H' := aMk H
    clear H
    go_wp2
    go_meet
    case rel => exact ⟨_, ((a1 != 1)), (by first | rfl | (simp; done) | (simp [*]; done)), H', ⟨by first | omega | exact Nat.le_refl _⟩, ⟨by repeat (first | (with_reducible first | exact HB.out | apply bAl | apply bDn | apply bD1) | exact HB.out)⟩⟩
 case rest =>
  clear HC3
  (try clear p2); (try clear c3); (try clear c4); (try clear c4b0); (try clear c4b1)
  obtain ⟨kq, x14_2, rfl, HA, HJ2, HB⟩ := hcut
  cases kq with
  | zero => exact absurd HA.out (by simp [impl_Levels.j0])
  | succ kj2 =>
   have H := HA.out
   clear HA
   simp only [impl_Levels.j0] at H
   have HC5 := aMk H
   clear H
   go_upto_if 14 with (fail)
   go_cut [1] (fun v1 wc => ∃ (kq : Nat) (x1_4 : Int), v1 = .int .i64 x1_4 ∧ Aside0 (impl_Levels.j1 kq l0 x1_4 = some r) ∧ Aside0 (kq ≤ kj2) ∧ Aside0 (Below w.heap.size w wc))
   case first =>
    have H := HC5.out
    clear HC5
    by_cases c6 : x14_2 = true
    · subst c6
      have H1 : ((impl_BaseLevel.f kj2 l0).bind fun t259 => (impl_Levels.j1 kj2 l0 t259)) = some r := by rw [if_pos rfl] at H; exact H
      clear H
      have H := H1
      clear H1
      replace H := oBm H
      obtain ⟨t259, A70, H⟩ := H
      replace H : (impl_Levels.j1 kj2 l0 t259) = some r := H
      have A7 := aMk A70
      clear A70
      have H' := aMk H
      clear H
      go_wp2_with (first | ((with_reducible refine gate_callee (f := 76) rfl ?_); refine goesL_ (some 16) rfl rfl Try.func76 (by kernel_rfl) rfl #[.slice A0 l0.length c0] rfl (by (try simp only [List.map_toArray, List.map_cons, List.map_nil]); first | done | rfl | (simp only [List.length_drop, List.length_take]; rfl)) ?_; (with_reducible refine (impl_BaseLevel.calls kj2 _ _ l0 t259 _ ?side1 ?side2 A7.out).mono ?_); (case side1 => repeat (first | exact (Kd.C_below HR0.out HB.out) | (with_reducible refine Kd.C_alloc ?_ _) | (with_reducible refine Kd.C_drewN ?_ _) | (with_reducible refine Kd.C_drew ?_))); (case side2 => exact HC0.out); rintro e w8 ⟨rfl, hb⟩; refine ⟨_, rfl, ?_⟩; have n0_ := aMk (below_step (by repeat (first | (with_reducible first | exact HB.out | apply bAl | apply bDn | apply bD1) | exact HB.out)) hb); clear HB; have HB := n0_; clear n0_; (try clear hb); (try clear hb2); (try clear hk); (try clear hi)))
      go_meet
      case rel => exact ⟨_, (t259), (by first | rfl | (simp; done) | (simp [*]; done)), H', ⟨by have := HJ2.out; first | omega | exact Nat.le_refl _⟩, ⟨by repeat (first | (with_reducible first | exact HB.out | apply bAl | apply bDn | apply bD1) | exact HB.out)⟩⟩
    · replace c6 := Bool.eq_false_iff.mpr c6
      subst c6
      have H1 : (impl_Levels.j1 kj2 l0 a1) = some r := by rw [if_neg (show ¬ (false = true) by decide)] at H; exact H
      clear H
      have H := H1
      clear H1
      have H' := aMk H
      clear H
      go_wp2
      go_meet
      case rel => exact ⟨_, (a1), (by first | rfl | (simp; done) | (simp [*]; done)), H', ⟨by have := HJ2.out; first | omega | exact Nat.le_refl _⟩, ⟨by repeat (first | (with_reducible first | exact HB.out | apply bAl | apply bDn | apply bD1) | exact HB.out)⟩⟩
   case rest =>
    clear HC5
    (try clear p2); (try clear c3); (try clear c4); (try clear c4b0); (try clear c4b1); (try clear c6); (try clear c7); (try clear p2)
    obtain ⟨kq, x1_4, rfl, HA, HJ4, HB⟩ := hcut
    cases kq with
    | zero => exact absurd HA.out (by simp [impl_Levels.j1])
    | succ kj4 =>
     have H := HA.out
     clear HA
     simp only [impl_Levels.j1] at H
     obtain ⟨y260, hy260⟩ : ∃ y_ : List Int, y_ = (([] : List Int)) := ⟨_, rfl⟩
     replace H : (impl_Levels.l0 kj4 l0 x1_4 y260 0 l0 (l0.length : Int) 0) = some r := by first | (rw [hy260]; with_reducible exact H) | (have H2_ := (Option.bind_some _ _).symm.trans H; rw [hy260]; with_reducible exact H2_) | (have H2_ := (Option.bind_some _ _).symm.trans H; with_reducible exact H2_) | with_reducible exact H | (rw [hy260]; exact H) | exact H
     have Ny260 := aMk hy260
     clear hy260
     have H' := aMk H
     clear H
     go_wp2_with (first | ((with_reducible refine gate_dst (N := 17) rfl ?_); (try (refine gate_guard (by rfl) ?_; dsimp only)); refine Kd.R_lit (Kd.int .i64) _ 3 ?hg (N := 17) ?hd (xs := ([] : List Int)) (inner := []) (ok := fun _ => True) (okp := fun _ => True) ?hr ?hp (fun _ hk => hk) trivial (Below.refl _ _) (Nat.le_refl _) (by simp) ?_; (case hd => rfl); (case hg => rfl); (case hr => first | (go_simp; done) | (go_simp; rfl)); (case hp => exact (Reps.none _ _)); intro v261 w9 ho10 hb hg_ hnew_; clear hg_ hnew_; (first | rw [← Ny260.out] at ho10 | (simp only [Int.reduceToNat] at ho10; rw [← Ny260.out] at ho10)); have n0_ := aMk (Kd.R_lower ho10 (below_size (by repeat (first | (with_reducible first | exact HB.out | apply bAl | apply bDn | apply bD1) | exact HB.out)))); have n1_ := aMk (below_step (by repeat (first | (with_reducible first | exact HB.out | apply bAl | apply bDn | apply bD1) | exact HB.out)) hb); clear HB; have HO262 := n0_; have HB := n1_; clear n0_ n1_; clear hb ho10))
     go_loopg [5, 6, 20] kj4 (fun kq v5 v6 v20 w' => ∃ (x5_3 : List Int) (x6_3 : Int) (x20_3 : Int), v6 = .int .i64 x6_3 ∧ v20 = .int .i64 x20_3 ∧ Aside0 (impl_Levels.l0 kq l0 x1_4 x5_3 x6_3 l0 (l0.length : Int) x20_3 = some r) ∧ Aside0 (kq ≤ kj4) ∧ Aside0 (Kd.R (Kd.int .i64) 3 w' w.heap.size (fun _ => True) v5 x5_3) ∧ Aside0 (Below w.heap.size w w'))
     case atStart => exact ⟨(y260), (0), (0), (by first | rfl | (simp; done) | (simp [*]; done)), (by first | rfl | (simp; done) | (simp [*]; done)), H', ⟨Nat.le_refl _⟩, ⟨by (with_reducible repeat (first | apply Kd.R_alloc | apply Kd.R_drewN | apply Kd.R_drew)); exact HO262.out⟩, ⟨by repeat (first | (with_reducible first | exact HB.out | apply bAl | apply bDn | apply bD1) | exact HB.out)⟩⟩
     case round =>
      clear H'
      (try clear p2); (try clear c3); (try clear c4); (try clear c4b0); (try clear c4b1); (try clear c6); (try clear c7); (try clear p2)
      obtain ⟨x5_3, x6_3, x20_3, rfl, rfl, HA, HK3, HO_5, HB⟩ := hrel
      cases gk with
      | zero => exact absurd HA.out (by simp [impl_Levels.l0])
      | succ k3 =>
       have H := HA.out
       clear HA
       simp only [impl_Levels.l0] at H
       by_cases c11 : x20_3 < (l0.length : Int)
       · rw [if_pos c11] at H
         have c11b0 : decide (x20_3 < (l0.length : Int)) = true := decide_eq_true c11
         clear c11
         by_cases c12 : 0 ≤ x20_3
         · rw [if_pos c12] at H
           have c12b0 : decide (0 ≤ x20_3) = true := decide_eq_true c12
           clear c12
           by_cases c13 : x20_3 < (l0.length : Int)
           · rw [if_pos c13] at H
             have c13b0 : decide (x20_3 < (l0.length : Int)) = true := decide_eq_true c13
             clear c13
             replace H := oBm H
             obtain ⟨t264, A140, H⟩ := H
             replace H : (if t264 = 11 then (if 0 ≤ x6_3 then (if x6_3 ≤ (wrap64 (x20_3 + 1)) then (if (wrap64 (x20_3 + 1)) ≤ (l0.length : Int) then ((impl_levelsOf.f ((l0.take ((wrap64 (x20_3 + 1)) : Int).toNat).drop (x6_3 : Int).toNat) x1_4).bind fun t266 => (if x5_3.length + t266.length < 17592186044416 then (impl_Levels.l0 k3 l0 x1_4 (x5_3 ++ t266) (wrap64 (x20_3 + 1)) l0 (l0.length : Int) (wrap64 (x20_3 + 1))) else (none))) else (none)) else (none)) else (none)) else (if (wrap64 (x20_3 + 1)) = (l0.length : Int) then (if 0 ≤ x6_3 then (if x6_3 ≤ (wrap64 (x20_3 + 1)) then (if (wrap64 (x20_3 + 1)) ≤ (l0.length : Int) then ((impl_levelsOf.f ((l0.take ((wrap64 (x20_3 + 1)) : Int).toNat).drop (x6_3 : Int).toNat) x1_4).bind fun t273 => (if x5_3.length + t273.length < 17592186044416 then (impl_Levels.l0 k3 l0 x1_4 (x5_3 ++ t273) (wrap64 (x20_3 + 1)) l0 (l0.length : Int) (wrap64 (x20_3 + 1))) else (none))) else (none)) else (none)) else (none)) else (impl_Levels.l0 k3 l0 x1_4 x5_3 x6_3 l0 (l0.length : Int) (wrap64 (x20_3 + 1))))) = some r := H
             have A14 := aMk A140
             clear A140
             by_cases c15 : t264 = 11
             · rw [if_pos c15] at H
               have c15b0 : (t264 == 11) = true := beq_iff_eq.mpr c15
               have c15b1 : (t264 != 11) = false := bne_eq_false_iff_eq.mpr c15
               clear c15
               by_cases c16 : 0 ≤ x6_3
               · rw [if_pos c16] at H
                 have c16b0 := eq_true c16
                 have c16b1 : decide (0 ≤ x6_3) = true := decide_eq_true c16
                 clear c16
                 by_cases c17 : x6_3 ≤ (wrap64 (x20_3 + 1))
                 · rw [if_pos c17] at H
                   have c17b0 := eq_true c17
                   have c17b1 : decide (x6_3 ≤ (wrap64 (x20_3 + 1))) = true := decide_eq_true c17
                   by_cases c18 : (wrap64 (x20_3 + 1)) ≤ (l0.length : Int)
                   · rw [if_pos c18] at H
                     have c18b0 := eq_true c18
                     have c18b1 : decide ((wrap64 (x20_3 + 1)) ≤ (l0.length : Int)) = true := decide_eq_true c18
                     replace H := oBm H
                     obtain ⟨t266, A190, H⟩ := H
                     replace H : (if x5_3.length + t266.length < 17592186044416 then (impl_Levels.l0 k3 l0 x1_4 (x5_3 ++ t266) (wrap64 (x20_3 + 1)) l0 (l0.length : Int) (wrap64 (x20_3 + 1))) else (none)) = some r := H
                     have A19 := aMk A190
                     clear A190
                     by_cases c20 : x5_3.length + t266.length < 17592186044416
                     · rw [if_pos c20] at H
                       have LMc20 := aMk c20
                       clear c20
                       obtain ⟨y269, hy269⟩ : ∃ y_ : List Int, y_ = (x5_3 ++ t266) := ⟨_, rfl⟩
                       replace H : (impl_Levels.l0 k3 l0 x1_4 y269 (wrap64 (x20_3 + 1)) l0 (l0.length : Int) (wrap64 (x20_3 + 1))) = some r := by first | (rw [hy269]; with_reducible exact H) | (have H2_ := (Option.bind_some _ _).symm.trans H; rw [hy269]; with_reducible exact H2_) | (have H2_ := (Option.bind_some _ _).symm.trans H; with_reducible exact H2_) | with_reducible exact H | (rw [hy269]; exact H) | exact H
                       have Ny269 := aMk hy269
                       clear hy269
                       have H' := aMk H
                       clear H
                       have p263 : 0 ≤ (x20_3 : Int) := oDt (by first | (with_reducible assumption) | assumption)
                       have q263 : x20_3 < (l0.length : Int) := oDt (by first | (with_reducible assumption) | assumption)
                       obtain ⟨ad263, e263, hx263_0⟩ := Kd.at_int HR0.out x20_3 p263 q263
                       cases e263
                       replace hx263_0 := (HB.out.cell (wBl w _ hx263_0)).trans hx263_0
                       replace p263 := eq_true p263
                       replace q263 := eq_true q263
                       go_wp2_with (first | ((with_reducible refine gate_callee (f := 77) rfl ?_); refine goesL_ (some 26) rfl rfl Try.func77 (by kernel_rfl) rfl #[.int .i64 (rd l0 x20_3)] rfl (by (try simp only [List.map_toArray, List.map_cons, List.map_nil]); first | done | rfl | (simp only [List.length_drop, List.length_take]; rfl)) ?_; (with_reducible refine (impl_DirClass.calls (rd l0 x20_3) t264 _ A14.out).mono ?_); rintro e w21 ⟨rfl, hb⟩; refine ⟨_, rfl, ?_⟩; have n0_ := aMk (Kd.R_below (by (with_reducible repeat (first | apply Kd.R_alloc | apply Kd.R_drewN | apply Kd.R_drew)); exact HO_5.out) hb); have n1_ := aMk (below_step (by repeat (first | (with_reducible first | exact HB.out | apply bAl | apply bDn | apply bD1) | exact HB.out)) hb); clear HO_5; clear HB; have HO_5 := n0_; have HB := n1_; clear n0_ n1_; (try clear hb); (try clear hb2); (try clear hk); (try clear hi); obtain ⟨i022, hi022, _, hsz22, _⟩ := info_parts info3; obtain ⟨A22, hcut22, hA22, hC22⟩ := print_mid_of (P := Try.prog) (Value.int .i64) 0 22 3 .i64 .i64 Try.underlying22 hi022 hsz22 (some ad263) c0 l0 x6_3 (wrap64 (x20_3 + 1)) (oDt (by first | (with_reducible assumption) | assumption)) (by first | omega | exact oDt (by first | (with_reducible assumption) | assumption)) (oDt (by first | (with_reducible assumption) | assumption)) HC0.out; have HR265 := aMk (Kd.C_of_reads (h1 := fun _ => rfl) (hA22 _ (Kd.reads_of_C HR0.out))); have HC265 := aMk hC22; clear hA22 hC22 hi022 hsz22) | ((with_reducible refine gate_callee (f := 78) rfl ?_); refine goesL_ (some 42) rfl rfl Try.func78 (by kernel_rfl) rfl #[.slice A22 ((l0.take ((wrap64 (x20_3 + 1)) : Int).toNat).drop (x6_3 : Int).toNat).length (c0 - x6_3.toNat), .int .i64 x1_4] rfl (by (try simp only [List.map_toArray, List.map_cons, List.map_nil]); first | done | (rw [show ((l0.take ((wrap64 (x20_3 + 1)) : Int).toNat).drop (x6_3 : Int).toNat).length = ((wrap64 (x20_3 + 1)).toNat - x6_3.toNat) from (by rw [List.length_drop, List.length_take]; have h_ : ((wrap64 (x20_3 + 1)) : Int) ≤ (l0.length : Int) := oDt (by first | (with_reducible assumption) | assumption); omega)] <;> rfl) | rfl | (simp only [List.length_drop, List.length_take]; rfl)) ?_; (with_reducible refine (impl_levelsOf.calls _ _ ((l0.take ((wrap64 (x20_3 + 1)) : Int).toNat).drop (x6_3 : Int).toNat) x1_4 t266 _ ?side1 ?side2 A19.out).mono ?_); (case side1 => repeat (first | exact (Kd.C_below HR265.out HB.out) | (with_reducible refine Kd.C_alloc ?_ _) | (with_reducible refine Kd.C_drewN ?_ _) | (with_reducible refine Kd.C_drew ?_))); (case side2 => exact HC265.out); rintro e w23 ⟨v267, rfl, ho0, hb⟩; refine ⟨_, rfl, ?_⟩; have n0_ := aMk (Kd.R_elder' (by (with_reducible repeat (first | apply Kd.R_alloc | apply Kd.R_drewN | apply Kd.R_drew)); exact HO_5.out) (Kd.R_base ho0) hb); have n1_ := aMk (Kd.R_lower (Kd.R_new' ho0 (Kd.R_lt (by (with_reducible repeat (first | apply Kd.R_alloc | apply Kd.R_drewN | apply Kd.R_drew)); exact HO_5.out))) (below_size (by repeat (first | (with_reducible first | exact HB.out | apply bAl | apply bDn | apply bD1) | exact HB.out)))); have n2_ := aMk (below_step (by repeat (first | (with_reducible first | exact HB.out | apply bAl | apply bDn | apply bD1) | exact HB.out)) hb); clear HO_5; clear HB; have HO_5 := n0_; have HO268 := n1_; have HB := n2_; clear n0_ n1_ n2_; (try clear hb); (try clear hb2); (try clear hk); (try clear hi); (try clear ho0); obtain ⟨Ao25, co25, eo25⟩ := Kd.R_slice HO268.out; subst eo25) | ((with_reducible refine gate_builtin (b := .append) (xs := #[.tmp 35, .tmp 42]) rfl ?_); (try (refine gate_guard (by rfl) ?_; dsimp only)); at_builtin; refine Kd.R_append_rows (Kd.int .i64) (w0 := w) w.heap.size rfl (.tmp 35) (.tmp 42) 22 3 (.int .i64 0) 8 rfl Try.underlying22 info3 rfl (by decide) (by omega) u5 x5_3 t266 _ _ _ (fun k_ => some k_ ≠ (.slice Ao25 t266.length co25 : Value).ownBlock) (fun _ => False) rfl rfl ?aO ?aR (fun _ _ h => h) (fun _ h => h.elim) ?aF ?aB ?aS ?aL ?_; (case aR => repeat (first | exact (Kd.R_reads' HO268.out).2.2 | (with_reducible refine Kd.C_alloc ?_ _) | (with_reducible refine Kd.C_drewN ?_ _) | (with_reducible refine Kd.C_drew ?_))); (case aB => exact (by repeat (first | (with_reducible first | exact HB.out | apply bAl | apply bDn | apply bD1) | exact HB.out))); (case aF => exact (fun k_ hk => Kd.fresh' (Kd.R_lt (by (with_reducible repeat (first | apply Kd.R_alloc | apply Kd.R_drewN | apply Kd.R_drew)); exact HO268.out)) k_ hk)); (case aO => exact (by (with_reducible repeat (first | apply Kd.R_alloc | apply Kd.R_drewN | apply Kd.R_drew)); exact Kd.R_mono HO_5.out (fun _ hk => hk.2))); (case aS => exact (below_size (by repeat (first | (with_reducible first | exact HB.out | apply bAl | apply bDn | apply bD1) | exact HB.out)))); (case aL => have := LMc20.out; omega); intro v270 w24 ho hb hg hat; rw [← Ny269.out] at ho; have n0_ := aMk (Kd.R_after (ok := (fun _ => True)) (by (with_reducible repeat (first | apply Kd.R_alloc | apply Kd.R_drewN | apply Kd.R_drew)); exact HO268.out) hg hat); have n1_ := aMk (hb); have n2_ := aMk (ho); clear HO268; clear HB; clear HO_5; have HO268 := n0_; have HB := n1_; have HO271 := n2_; clear n0_ n1_ n2_; clear ho hb hg hat))
                       go_roundg k3
                       case measure => have := HJ2.out; have := HJ4.out; have := HK3.out; omega
                       case rel => exact ⟨(y269), (wrap64 (x20_3 + 1)), (wrap64 (x20_3 + 1)), (by first | rfl | (simp; done) | (simp [*]; done)), (by first | rfl | (simp; done) | (simp [*]; done)), H', ⟨by have := HJ2.out; have := HJ4.out; have := HK3.out; omega⟩, ⟨by (with_reducible repeat (first | apply Kd.R_alloc | apply Kd.R_drewN | apply Kd.R_drew)); exact Kd.R_mono HO271.out (fun _ hk => trivial)⟩, ⟨by repeat (first | (with_reducible first | exact HB.out | apply bAl | apply bDn | apply bD1) | exact HB.out)⟩⟩
                     · rw [if_neg c20] at H
                       exact absurd H (by simp)
                   · rw [if_neg c18] at H
                     exact absurd H (by simp)
                 · rw [if_neg c17] at H
                   exact absurd H (by simp)
               · rw [if_neg c16] at H
                 exact absurd H (by simp)
             · rw [if_neg c15] at H
               have c15b0 : (t264 == 11) = false := beq_eq_false_iff_ne.mpr c15
               have c15b1 : (t264 != 11) = true := bne_iff_ne.mpr c15
               by_cases c26 : (wrap64 (x20_3 + 1)) = (l0.length : Int)
               · rw [if_pos c26] at H
                 have c26b0 : ((wrap64 (x20_3 + 1)) == (l0.length : Int)) = true := beq_iff_eq.mpr c26
                 have c26b1 : ((wrap64 (x20_3 + 1)) != (l0.length : Int)) = false := bne_eq_false_iff_eq.mpr c26
                 clear c26
                 by_cases c27 : 0 ≤ x6_3
                 · rw [if_pos c27] at H
                   have c27b0 := eq_true c27
                   have c27b1 : decide (0 ≤ x6_3) = true := decide_eq_true c27
                   clear c27
                   by_cases c28 : x6_3 ≤ (wrap64 (x20_3 + 1))
                   · rw [if_pos c28] at H
                     have c28b0 := eq_true c28
                     have c28b1 : decide (x6_3 ≤ (wrap64 (x20_3 + 1))) = true := decide_eq_true c28
                     by_cases c29 : (wrap64 (x20_3 + 1)) ≤ (l0.length : Int)
                     · rw [if_pos c29] at H
                       have c29b0 := eq_true c29
                       have c29b1 : decide ((wrap64 (x20_3 + 1)) ≤ (l0.length : Int)) = true := decide_eq_true c29
                       replace H := oBm H
                       obtain ⟨t273, A300, H⟩ := H
                       replace H : (if x5_3.length + t273.length < 17592186044416 then (impl_Levels.l0 k3 l0 x1_4 (x5_3 ++ t273) (wrap64 (x20_3 + 1)) l0 (l0.length : Int) (wrap64 (x20_3 + 1))) else (none)) = some r := H
                       have A30 := aMk A300
                       clear A300
                       by_cases c31 : x5_3.length + t273.length < 17592186044416
                       · rw [if_pos c31] at H
                         have LMc31 := aMk c31
                         clear c31
                         obtain ⟨y276, hy276⟩ : ∃ y_ : List Int, y_ = (x5_3 ++ t273) := ⟨_, rfl⟩
                         replace H : (impl_Levels.l0 k3 l0 x1_4 y276 (wrap64 (x20_3 + 1)) l0 (l0.length : Int) (wrap64 (x20_3 + 1))) = some r := by first | (rw [hy276]; with_reducible exact H) | (have H2_ := (Option.bind_some _ _).symm.trans H; rw [hy276]; with_reducible exact H2_) | (have H2_ := (Option.bind_some _ _).symm.trans H; with_reducible exact H2_) | with_reducible exact H | (rw [hy276]; exact H) | exact H
                         have Ny276 := aMk hy276
                         clear hy276
                         have H' := aMk H
                         clear H
                         have p263 : 0 ≤ (x20_3 : Int) := oDt (by first | (with_reducible assumption) | assumption)
                         have q263 : x20_3 < (l0.length : Int) := oDt (by first | (with_reducible assumption) | assumption)
                         obtain ⟨ad263, e263, hx263_0⟩ := Kd.at_int HR0.out x20_3 p263 q263
                         cases e263
                         replace hx263_0 := (HB.out.cell (wBl w _ hx263_0)).trans hx263_0
                         replace p263 := eq_true p263
                         replace q263 := eq_true q263
                         go_wp2_with (first | ((with_reducible refine gate_callee (f := 77) rfl ?_); refine goesL_ (some 26) rfl rfl Try.func77 (by kernel_rfl) rfl #[.int .i64 (rd l0 x20_3)] rfl (by (try simp only [List.map_toArray, List.map_cons, List.map_nil]); first | done | rfl | (simp only [List.length_drop, List.length_take]; rfl)) ?_; (with_reducible refine (impl_DirClass.calls (rd l0 x20_3) t264 _ A14.out).mono ?_); rintro e w32 ⟨rfl, hb⟩; refine ⟨_, rfl, ?_⟩; have n0_ := aMk (Kd.R_below (by (with_reducible repeat (first | apply Kd.R_alloc | apply Kd.R_drewN | apply Kd.R_drew)); exact HO_5.out) hb); have n1_ := aMk (below_step (by repeat (first | (with_reducible first | exact HB.out | apply bAl | apply bDn | apply bD1) | exact HB.out)) hb); clear HO_5; clear HB; have HO_5 := n0_; have HB := n1_; clear n0_ n1_; (try clear hb); (try clear hb2); (try clear hk); (try clear hi); obtain ⟨i033, hi033, _, hsz33, _⟩ := info_parts info3; obtain ⟨A33, hcut33, hA33, hC33⟩ := print_mid_of (P := Try.prog) (Value.int .i64) 0 22 3 .i64 .i64 Try.underlying22 hi033 hsz33 (some ad263) c0 l0 x6_3 (wrap64 (x20_3 + 1)) (oDt (by first | (with_reducible assumption) | assumption)) (by first | omega | exact oDt (by first | (with_reducible assumption) | assumption)) (oDt (by first | (with_reducible assumption) | assumption)) HC0.out; have HR272 := aMk (Kd.C_of_reads (h1 := fun _ => rfl) (hA33 _ (Kd.reads_of_C HR0.out))); have HC272 := aMk hC33; clear hA33 hC33 hi033 hsz33) | ((with_reducible refine gate_callee (f := 78) rfl ?_); refine goesL_ (some 42) rfl rfl Try.func78 (by kernel_rfl) rfl #[.slice A33 ((l0.take ((wrap64 (x20_3 + 1)) : Int).toNat).drop (x6_3 : Int).toNat).length (c0 - x6_3.toNat), .int .i64 x1_4] rfl (by (try simp only [List.map_toArray, List.map_cons, List.map_nil]); first | done | (rw [show ((l0.take ((wrap64 (x20_3 + 1)) : Int).toNat).drop (x6_3 : Int).toNat).length = ((wrap64 (x20_3 + 1)).toNat - x6_3.toNat) from (by rw [List.length_drop, List.length_take]; have h_ : ((wrap64 (x20_3 + 1)) : Int) ≤ (l0.length : Int) := oDt (by first | (with_reducible assumption) | assumption); omega)] <;> rfl) | rfl | (simp only [List.length_drop, List.length_take]; rfl)) ?_; (with_reducible refine (impl_levelsOf.calls _ _ ((l0.take ((wrap64 (x20_3 + 1)) : Int).toNat).drop (x6_3 : Int).toNat) x1_4 t273 _ ?side1 ?side2 A30.out).mono ?_); (case side1 => repeat (first | exact (Kd.C_below HR272.out HB.out) | (with_reducible refine Kd.C_alloc ?_ _) | (with_reducible refine Kd.C_drewN ?_ _) | (with_reducible refine Kd.C_drew ?_))); (case side2 => exact HC272.out); rintro e w34 ⟨v274, rfl, ho0, hb⟩; refine ⟨_, rfl, ?_⟩; have n0_ := aMk (Kd.R_elder' (by (with_reducible repeat (first | apply Kd.R_alloc | apply Kd.R_drewN | apply Kd.R_drew)); exact HO_5.out) (Kd.R_base ho0) hb); have n1_ := aMk (Kd.R_lower (Kd.R_new' ho0 (Kd.R_lt (by (with_reducible repeat (first | apply Kd.R_alloc | apply Kd.R_drewN | apply Kd.R_drew)); exact HO_5.out))) (below_size (by repeat (first | (with_reducible first | exact HB.out | apply bAl | apply bDn | apply bD1) | exact HB.out)))); have n2_ := aMk (below_step (by repeat (first | (with_reducible first | exact HB.out | apply bAl | apply bDn | apply bD1) | exact HB.out)) hb); clear HO_5; clear HB; have HO_5 := n0_; have HO275 := n1_; have HB := n2_; clear n0_ n1_ n2_; (try clear hb); (try clear hb2); (try clear hk); (try clear hi); (try clear ho0); obtain ⟨Ao36, co36, eo36⟩ := Kd.R_slice HO275.out; subst eo36) | ((with_reducible refine gate_builtin (b := .append) (xs := #[.tmp 35, .tmp 42]) rfl ?_); (try (refine gate_guard (by rfl) ?_; dsimp only)); at_builtin; refine Kd.R_append_rows (Kd.int .i64) (w0 := w) w.heap.size rfl (.tmp 35) (.tmp 42) 22 3 (.int .i64 0) 8 rfl Try.underlying22 info3 rfl (by decide) (by omega) u5 x5_3 t273 _ _ _ (fun k_ => some k_ ≠ (.slice Ao36 t273.length co36 : Value).ownBlock) (fun _ => False) rfl rfl ?aO ?aR (fun _ _ h => h) (fun _ h => h.elim) ?aF ?aB ?aS ?aL ?_; (case aR => repeat (first | exact (Kd.R_reads' HO275.out).2.2 | (with_reducible refine Kd.C_alloc ?_ _) | (with_reducible refine Kd.C_drewN ?_ _) | (with_reducible refine Kd.C_drew ?_))); (case aB => exact (by repeat (first | (with_reducible first | exact HB.out | apply bAl | apply bDn | apply bD1) | exact HB.out))); (case aF => exact (fun k_ hk => Kd.fresh' (Kd.R_lt (by (with_reducible repeat (first | apply Kd.R_alloc | apply Kd.R_drewN | apply Kd.R_drew)); exact HO275.out)) k_ hk)); (case aO => exact (by (with_reducible repeat (first | apply Kd.R_alloc | apply Kd.R_drewN | apply Kd.R_drew)); exact Kd.R_mono HO_5.out (fun _ hk => hk.2))); (case aS => exact (below_size (by repeat (first | (with_reducible first | exact HB.out | apply bAl | apply bDn | apply bD1) | exact HB.out)))); (case aL => have := LMc31.out; omega); intro v277 w35 ho hb hg hat; rw [← Ny276.out] at ho; have n0_ := aMk (Kd.R_after (ok := (fun _ => True)) (by (with_reducible repeat (first | apply Kd.R_alloc | apply Kd.R_drewN | apply Kd.R_drew)); exact HO275.out) hg hat); have n1_ := aMk (hb); have n2_ := aMk (ho); clear HO275; clear HB; clear HO_5; have HO275 := n0_; have HB := n1_; have HO278 := n2_; clear n0_ n1_ n2_; clear ho hb hg hat))
                         go_roundg k3
                         case measure => have := HJ2.out; have := HJ4.out; have := HK3.out; omega
                         case rel => exact ⟨(y276), (wrap64 (x20_3 + 1)), (wrap64 (x20_3 + 1)), (by first | rfl | (simp; done) | (simp [*]; done)), (by first | rfl | (simp; done) | (simp [*]; done)), H', ⟨by have := HJ2.out; have := HJ4.out; have := HK3.out; omega⟩, ⟨by (with_reducible repeat (first | apply Kd.R_alloc | apply Kd.R_drewN | apply Kd.R_drew)); exact Kd.R_mono HO278.out (fun _ hk => trivial)⟩, ⟨by repeat (first | (with_reducible first | exact HB.out | apply bAl | apply bDn | apply bD1) | exact HB.out)⟩⟩
                       · rw [if_neg c31] at H
                         exact absurd H (by simp)
                     · rw [if_neg c29] at H
                       exact absurd H (by simp)
                   · rw [if_neg c28] at H
                     exact absurd H (by simp)
                 · rw [if_neg c27] at H
                   exact absurd H (by simp)
               · rw [if_neg c26] at H
                 have c26b0 : ((wrap64 (x20_3 + 1)) == (l0.length : Int)) = false := beq_eq_false_iff_ne.mpr c26
                 have c26b1 : ((wrap64 (x20_3 + 1)) != (l0.length : Int)) = true := bne_iff_ne.mpr c26
                 have H' := aMk H
                 clear H
                 have p263 : 0 ≤ (x20_3 : Int) := oDt (by first | (with_reducible assumption) | assumption)
                 have q263 : x20_3 < (l0.length : Int) := oDt (by first | (with_reducible assumption) | assumption)
                 obtain ⟨ad263, e263, hx263_0⟩ := Kd.at_int HR0.out x20_3 p263 q263
                 cases e263
                 replace hx263_0 := (HB.out.cell (wBl w _ hx263_0)).trans hx263_0
                 replace p263 := eq_true p263
                 replace q263 := eq_true q263
                 go_wp2_with (first | ((with_reducible refine gate_callee (f := 77) rfl ?_); refine goesL_ (some 26) rfl rfl Try.func77 (by kernel_rfl) rfl #[.int .i64 (rd l0 x20_3)] rfl (by (try simp only [List.map_toArray, List.map_cons, List.map_nil]); first | done | rfl | (simp only [List.length_drop, List.length_take]; rfl)) ?_; (with_reducible refine (impl_DirClass.calls (rd l0 x20_3) t264 _ A14.out).mono ?_); rintro e w37 ⟨rfl, hb⟩; refine ⟨_, rfl, ?_⟩; have n0_ := aMk (Kd.R_below (by (with_reducible repeat (first | apply Kd.R_alloc | apply Kd.R_drewN | apply Kd.R_drew)); exact HO_5.out) hb); have n1_ := aMk (below_step (by repeat (first | (with_reducible first | exact HB.out | apply bAl | apply bDn | apply bD1) | exact HB.out)) hb); clear HO_5; clear HB; have HO_5 := n0_; have HB := n1_; clear n0_ n1_; (try clear hb); (try clear hb2); (try clear hk); (try clear hi)))
                 go_roundg k3
                 case measure => have := HJ2.out; have := HJ4.out; have := HK3.out; omega
                 case rel => exact ⟨(x5_3), (x6_3), (wrap64 (x20_3 + 1)), (by first | rfl | (simp; done) | (simp [*]; done)), (by first | rfl | (simp; done) | (simp [*]; done)), H', ⟨by have := HJ2.out; have := HJ4.out; have := HK3.out; omega⟩, ⟨by (with_reducible repeat (first | apply Kd.R_alloc | apply Kd.R_drewN | apply Kd.R_drew)); exact HO_5.out⟩, ⟨by repeat (first | (with_reducible first | exact HB.out | apply bAl | apply bDn | apply bD1) | exact HB.out)⟩⟩
           · rw [if_neg c13] at H
             exact absurd H (by simp)
         · rw [if_neg c12] at H
           exact absurd H (by simp)
       · rw [if_neg c11] at H
         have c11b0 : decide (x20_3 < (l0.length : Int)) = false := decide_eq_false c11
         clear c11
         obtain rfl := Option.some.inj H
         go_wp2
         go_ret
         exact ⟨_, by first | rfl | (simp [errW_none, errW_some] <;> rfl) | (simp [*, errW_none, errW_some] <;> rfl), by (with_reducible repeat (first | apply Kd.R_alloc | apply Kd.R_drewN | apply Kd.R_drew)); exact HO_5.out, by repeat (first | (with_reducible first | exact HB.out | apply bAl | apply bDn | apply bD1) | exact HB.out)⟩
/-- A state of type 122 at block g of W; what its slices lead to came in by w0. -/
def IsS122 (w0 W : World) (g : Nat) (f0 : List Int) (f1 : Int) (f2 : Int) : Prop := ∃ A0 c0, W.heap[g]? = some (.cells #[.slice A0 f0.length c0, .int .i64 f1, .int .i64 f2] 122 (0, 0)) ∧ w0.heap.size ≤ g ∧ Kd.C (Kd.int .u8) w0 A0 f0.length f0
theorem IsS122.grown {w0 W : World} {g : Nat} {f0 : List Int} {f1 : Int} {f2 : Int} {W1 : World} {row : Option Nat} (h : IsS122 w0 W g f0 f1 f2) (hw : W.grownBy W1 row) (hne : some g ≠ row) : IsS122 w0 W1 g f0 f1 f2 := by
 obtain ⟨A0, c0, hb, hg, hr0⟩ := h
 exact ⟨A0, c0, blk_grown hb hw hne, hg, hr0⟩
theorem IsS122.kept {w0 W : World} {g : Nat} {f0 : List Int} {f1 : Int} {f2 : Int} {W1 : World} {S : Nat → Prop} (h : IsS122 w0 W g f0 f1 f2) (hk : Kept W W1 S) (hne : ¬ S g) : IsS122 w0 W1 g f0 f1 f2 := by
 obtain ⟨A0, c0, hb, hg, hr0⟩ := h
 exact ⟨A0, c0, blk_kept hb hk hne, hg, hr0⟩
theorem IsS122.like {w0 W : World} {g : Nat} {f0 : List Int} {f1 : Int} {f2 : Int} {W1 : World} (h0 : IsS122 w0 W1 g f0 f1 f2) (h : IsS122 w0 W g f0 f1 f2) : IsS122 w0 W g f0 f1 f2 := h
theorem IsS122.below {w0 W : World} {g : Nat} {f0 : List Int} {f1 : Int} {f2 : Int} {W1 : World} (h : IsS122 w0 W g f0 f1 f2) (hw : Below W.heap.size W W1) : IsS122 w0 W1 g f0 f1 f2 := h.grown (grown_of_below hw none) (by simp)
theorem IsS122.alloc {w0 W : World} {g : Nat} {f0 : List Int} {f1 : Int} {f2 : Int} (h : IsS122 w0 W g f0 f1 f2) (o : Obj) : IsS122 w0 (W.alloc o) g f0 f1 f2 := h.below (bAl (Below.refl _ _) o)
theorem IsS122.drewN {w0 W : World} {g : Nat} {f0 : List Int} {f1 : Int} {f2 : Int} (h : IsS122 w0 W g f0 f1 f2) (m : Nat) : IsS122 w0 (W.drewN m) g f0 f1 f2 := h
theorem IsS122.drew {w0 W : World} {g : Nat} {f0 : List Int} {f1 : Int} {f2 : Int} (h : IsS122 w0 W g f0 f1 f2) : IsS122 w0 W.drew g f0 f1 f2 := h
theorem IsS122.at_ {w0 W : World} {g : Nat} {f0 : List Int} {f1 : Int} {f2 : Int} {w' : World} {m : Nat} (hq : W.drewN m = w') (h : IsS122 w0 W g f0 f1 f2) : IsS122 w0 w' g f0 f1 f2 := by subst hq; exact IsS122.drewN h m
theorem IsS122.apart {w0 W : World} {g : Nat} {f0 : List Int} {f1 : Int} {f2 : Int} {α : Type} {d : Kd α} {e : Nat} {base : Nat} {ok : Nat → Prop} {v : Value} {xs : List α} (h : IsS122 w0 W g f0 f1 f2) (ho : d.R e W base ok v xs) (ht : ∀ q, q ∈ e :: d.E → q ≠ 122) : d.R e W base (fun k => ok k ∧ k ≠ g) v xs := by
 obtain ⟨A0, c0, hb, hg, hr0⟩ := h
 exact Kd.R_types ho hb ht
theorem IsS122.own_ne {w0 W : World} {g : Nat} {f0 : List Int} {f1 : Int} {f2 : Int} {α : Type} {d : Kd α} {e : Nat} {base : Nat} {ok : Nat → Prop} {v : Value} {xs : List α} (h : IsS122 w0 W g f0 f1 f2) (ho : d.R e W base ok v xs) (ht : e ≠ 122) : some g ≠ v.ownBlock := by
 obtain ⟨A0, c0, hb, hg, hr0⟩ := h
 exact Kd.R_ne ho hb ht
theorem IsS122.lt {w0 W : World} {g : Nat} {f0 : List Int} {f1 : Int} {f2 : Int} (h : IsS122 w0 W g f0 f1 f2) : g < W.heap.size := by
 obtain ⟨A0, c0, hb, hg, hr0⟩ := h
 exact blk_lt hb
theorem IsS122.ge {w0 W : World} {g : Nat} {f0 : List Int} {f1 : Int} {f2 : Int} (h : IsS122 w0 W g f0 f1 f2) : w0.heap.size ≤ g := by
 obtain ⟨A0, c0, hb, hg, hr0⟩ := h
 exact hg
theorem cellS122_0 {W : World} {g : Nat} {A0 : Option Addr} {c0 : Nat} {f0 : List Int} {f1 : Int} {f2 : Int} (h : W.heap[g]? = some (.cells #[.slice A0 f0.length c0, .int .i64 f1, .int .i64 f2] 122 (0, 0))) : W.cell? ⟨g, 0, none⟩ = some (.slice A0 f0.length c0) := (bCe h 0).trans rfl
theorem cellS122_1 {W : World} {g : Nat} {A0 : Option Addr} {c0 : Nat} {f0 : List Int} {f1 : Int} {f2 : Int} (h : W.heap[g]? = some (.cells #[.slice A0 f0.length c0, .int .i64 f1, .int .i64 f2] 122 (0, 0))) : W.cell? ⟨g, 1, none⟩ = some (.int .i64 f1) := (bCe h 1).trans rfl
theorem IsS122.set_1 {w0 W : World} {g : Nat} {f0 : List Int} {f1 : Int} {f2 : Int} (h : IsS122 w0 W g f0 f1 f2) (x : Int) : IsS122 w0 (W.setCell ⟨g, 1, none⟩ (.int .i64 x)) g f0 x f2 := by
 obtain ⟨A0, c0, hb, hg, hr0⟩ := h
 exact ⟨A0, c0, by simpa using blk_set hb 1 (.int .i64 x), hg, hr0⟩
theorem cellS122_2 {W : World} {g : Nat} {A0 : Option Addr} {c0 : Nat} {f0 : List Int} {f1 : Int} {f2 : Int} (h : W.heap[g]? = some (.cells #[.slice A0 f0.length c0, .int .i64 f1, .int .i64 f2] 122 (0, 0))) : W.cell? ⟨g, 2, none⟩ = some (.int .i64 f2) := (bCe h 2).trans rfl
theorem IsS122.set_2 {w0 W : World} {g : Nat} {f0 : List Int} {f1 : Int} {f2 : Int} (h : IsS122 w0 W g f0 f1 f2) (x : Int) : IsS122 w0 (W.setCell ⟨g, 2, none⟩ (.int .i64 x)) g f0 f1 x := by
 obtain ⟨A0, c0, hb, hg, hr0⟩ := h
 exact ⟨A0, c0, by simpa using blk_set hb 2 (.int .i64 x), hg, hr0⟩
theorem IsS122.new (w0 W : World) (A0 : Option Addr) (c0 : Nat) (f0 : List Int) (f1 : Int) (f2 : Int) (hB : Below w0.heap.size w0 W) (hr0 : Kd.C (Kd.int .u8) w0 A0 f0.length f0) : IsS122 w0 (W.alloc (.cells #[.slice A0 f0.length c0, .int .i64 f1, .int .i64 f2] 122)) W.heap.size f0 f1 f2 := ⟨A0, c0, by simpa using heap_alloc_new W _, hB.size, hr0⟩
def spec_l1New.l0 : Nat → List Int → Int → Int → Option (List Int × Int × Int)
 | 0, _, _, _ => none
 | k + 1, x0, x3, x4 => if x4 < (x0.length : Int) then (if x4 < 4000 then (if 0 ≤ x4 then (spec_l1New.l0 k x0 (Go.bits .and .i64 (wrap64 ((wrap64 ((wrap64 (x3 * 131)) + (wrap64 (rd x0 x4)))) + 7)) 1073741823) (wrap64 (x4 + 1))) else (none)) else (some (x0, 0, x3))) else (some (x0, 0, x3))
def spec_l1New.f (k : Nat) (l0 : List Int) : Option (List Int × Int × Int) := spec_l1New.l0 k l0 (wrap64 (91231 + (l0.length : Int))) 0
set_option maxHeartbeats 8000000 in
set_option maxRecDepth 100000 in
theorem spec_l1New.calls (k : Nat) (A0 : Option Addr) (c0 : Nat) (l0 : List Int) (r1 : List Int) (r2 : Int) (r3 : Int) (w0 w : World) (hB : Below w0.heap.size w0 w) (hr0 : Kd.C (Kd.int .u8) w0 A0 l0.length l0) (hc0 : l0.length ≤ c0) (h : spec_l1New.f k l0 = some (r1, r2, r3)) :
 Calls Try.prog 65 #[.slice A0 l0.length c0] w fun e w' => ∃ g_ : Nat, e = .returned (.pointer (some ⟨g_, 0, none⟩)) ∧ IsS122 w0 w' g_ r1 r2 r3 ∧ Below w0.heap.size w0 w' ∧ Below w.heap.size w w' := by
 have hu122 := Try.underlying122
 have HR0 := aMk hr0
 have HC0 := aMk hc0
 clear hr0 hc0
 have HBW := aMk (Below.refl w.heap.size w)
 have HW0 := aMk hB.size
 have HB := aMk hB
 clear hB
 have H : (spec_l1New.l0 k l0 (wrap64 (91231 + (l0.length : Int))) 0) = some (r1, r2, r3) := h
 clear h
 have H' := aMk H
 clear H
 go_enter Try.func65, Try.ntmps65
 go_wp2
 go_loopg [3, 4] k (fun kq v3 v4 w' => ∃ (x3_1 : Int) (x4_1 : Int), v3 = .int .i64 x3_1 ∧ v4 = .int .i64 x4_1 ∧ Aside0 (spec_l1New.l0 kq l0 x3_1 x4_1 = some (r1, r2, r3)) ∧ Aside0 (kq ≤ k) ∧ Aside0 (Below w0.heap.size w0 w') ∧ Aside0 (Below w.heap.size w w'))
 case atStart => exact ⟨(wrap64 (91231 + (l0.length : Int))), (0), (by first | rfl | (simp; done) | (simp [*]; done)), (by first | rfl | (simp; done) | (simp [*]; done)), H', ⟨Nat.le_refl _⟩, ⟨by repeat (first | (with_reducible first | exact HB.out | apply bAl | apply bDn | apply bD1) | exact HB.out)⟩, ⟨by repeat (first | (with_reducible first | exact HBW.out | apply bAl | apply bDn | apply bD1) | exact HBW.out)⟩⟩
 case round =>
  clear H'
  obtain ⟨x3_1, x4_1, rfl, rfl, HA, HK1, HB, HBW⟩ := hrel
  cases gk with
  | zero => exact absurd HA.out (by simp [spec_l1New.l0])
  | succ k1 =>
   have H := HA.out
   clear HA
   simp only [spec_l1New.l0] at H
   by_cases c2 : x4_1 < (l0.length : Int)
   · rw [if_pos c2] at H
     have c2b0 : decide (x4_1 < (l0.length : Int)) = true := decide_eq_true c2
     clear c2
     by_cases c3 : x4_1 < 4000
     · rw [if_pos c3] at H
       have c3b0 : decide (x4_1 < 4000) = true := decide_eq_true c3
       clear c3
       by_cases c4 : 0 ≤ x4_1
       · rw [if_pos c4] at H
         have c4b0 : decide (0 ≤ x4_1) = true := decide_eq_true c4
         clear c4
         have H' := aMk H
         clear H
         have p279 : 0 ≤ (x4_1 : Int) := oDt (by first | (with_reducible assumption) | assumption)
         have q279 : x4_1 < (l0.length : Int) := oDt (by first | (with_reducible assumption) | assumption)
         obtain ⟨ad279, e279, hx279_0⟩ := Kd.at_int HR0.out x4_1 p279 q279
         cases e279
         replace hx279_0 := pw_cell_below HB.out hx279_0
         replace p279 := eq_true p279
         replace q279 := eq_true q279
         go_wp2
         go_roundg k1
         case measure => have := HK1.out; omega
         case rel => exact ⟨(Go.bits .and .i64 (wrap64 ((wrap64 ((wrap64 (x3_1 * 131)) + (wrap64 (rd l0 x4_1)))) + 7)) 1073741823), (wrap64 (x4_1 + 1)), (by first | rfl | (simp; done) | (simp [*]; done)), (by first | rfl | (simp; done) | (simp [*]; done)), H', ⟨by have := HK1.out; omega⟩, ⟨by repeat (first | (with_reducible first | exact HB.out | apply bAl | apply bDn | apply bD1) | exact HB.out)⟩, ⟨by repeat (first | (with_reducible first | exact HBW.out | apply bAl | apply bDn | apply bD1) | exact HBW.out)⟩⟩
       · rw [if_neg c4] at H
         exact absurd H (by simp)
     · rw [if_neg c3] at H
       have c3b0 : decide (x4_1 < 4000) = false := decide_eq_false c3
       clear c3
       simp only [Option.some.injEq, Prod.mk.injEq] at H
       obtain ⟨rfl, rfl, rfl⟩ := H
       go_wp2_with (first | ((with_reducible refine gate_dst (N := 31) rfl ?_); refine box_event ?hg (N := 31) ?hd (cs := #[.slice A0 l0.length c0, .int .i64 0, .int .i64 x3_1]) (t := 122) ?hr ?_; (case hd => rfl); (case hg => rfl); (case hr => first | (go_simp; done) | (go_simp; rfl)); intro gb280 hg w5 hbox hb; have n0_ := aMk (below_step HBW.out hb); have n1_ := aMk (below_step (by repeat (first | (with_reducible first | exact HB.out | apply bAl | apply bDn | apply bD1) | exact HB.out)) hb); have n2_ := aMk (hbox); have n3_ := aMk ((by rw [hg]; exact (below_size (by repeat (first | (with_reducible first | exact HBW.out | apply bAl | apply bDn | apply bD1) | exact HBW.out))) : w.heap.size ≤ gb280)); have n4_ := aMk ((Nat.le_trans HW0.out (by rw [hg]; exact (below_size (by repeat (first | (with_reducible first | exact HBW.out | apply bAl | apply bDn | apply bD1) | exact HBW.out))) : w.heap.size ≤ gb280) : w0.heap.size ≤ gb280)); clear HBW; clear HB; have HBW := n0_; have HB := n1_; have BK280 := n2_; have GW280 := n3_; have GE280 := n4_; clear n0_ n1_ n2_ n3_ n4_; clear hb hbox hg))
       go_ret
       exact ⟨_, rfl, (show IsS122 w0 _ gb280 l0 0 x3_1 from ⟨_, _, by (with_reducible repeat (first | refine bkD ?_ _ | refine blk_drew ?_ | refine bkA ?_ _)); exact BK280.out, GE280.out, HR0.out⟩), by repeat (first | (with_reducible first | exact HB.out | apply bAl | apply bDn | apply bD1 | refine bSe ?_ GE280.out) | exact HB.out), by repeat (first | (with_reducible first | exact HBW.out | apply bAl | apply bDn | apply bD1 | refine bSe ?_ GW280.out) | exact HBW.out)⟩
   · rw [if_neg c2] at H
     have c2b0 : decide (x4_1 < (l0.length : Int)) = false := decide_eq_false c2
     clear c2
     simp only [Option.some.injEq, Prod.mk.injEq] at H
     obtain ⟨rfl, rfl, rfl⟩ := H
     go_wp2_with (first | ((with_reducible refine gate_dst (N := 31) rfl ?_); refine box_event ?hg (N := 31) ?hd (cs := #[.slice A0 l0.length c0, .int .i64 0, .int .i64 x3_1]) (t := 122) ?hr ?_; (case hd => rfl); (case hg => rfl); (case hr => first | (go_simp; done) | (go_simp; rfl)); intro gb281 hg w6 hbox hb; have n0_ := aMk (below_step HBW.out hb); have n1_ := aMk (below_step (by repeat (first | (with_reducible first | exact HB.out | apply bAl | apply bDn | apply bD1) | exact HB.out)) hb); have n2_ := aMk (hbox); have n3_ := aMk ((by rw [hg]; exact (below_size (by repeat (first | (with_reducible first | exact HBW.out | apply bAl | apply bDn | apply bD1) | exact HBW.out))) : w.heap.size ≤ gb281)); have n4_ := aMk ((Nat.le_trans HW0.out (by rw [hg]; exact (below_size (by repeat (first | (with_reducible first | exact HBW.out | apply bAl | apply bDn | apply bD1) | exact HBW.out))) : w.heap.size ≤ gb281) : w0.heap.size ≤ gb281)); clear HBW; clear HB; have HBW := n0_; have HB := n1_; have BK281 := n2_; have GW281 := n3_; have GE281 := n4_; clear n0_ n1_ n2_ n3_ n4_; clear hb hbox hg))
     go_ret
     exact ⟨_, rfl, (show IsS122 w0 _ gb281 l0 0 x3_1 from ⟨_, _, by (with_reducible repeat (first | refine bkD ?_ _ | refine blk_drew ?_ | refine bkA ?_ _)); exact BK281.out, GE281.out, HR0.out⟩), by repeat (first | (with_reducible first | exact HB.out | apply bAl | apply bDn | apply bD1 | refine bSe ?_ GE281.out) | exact HB.out), by repeat (first | (with_reducible first | exact HBW.out | apply bAl | apply bDn | apply bD1 | refine bSe ?_ GW281.out) | exact HBW.out)⟩
def spec_l1Size.f (l0 : List Int) (a1 : Int) : Option (Int) := if (wrap64 (3 + (wrap64 ((l0.length : Int) / 20)))) > a1 then (some a1) else (some (wrap64 (3 + (wrap64 ((l0.length : Int) / 20)))))
set_option maxHeartbeats 8000000 in
set_option maxRecDepth 100000 in
theorem spec_l1Size.calls (A0 : Option Addr) (c0 : Nat) (l0 : List Int) (a1 : Int) (r : Int) (w : World) (hr0 : Kd.C (Kd.int .u8) w A0 l0.length l0) (hc0 : l0.length ≤ c0) (h : spec_l1Size.f l0 a1 = some r) :
 Calls Try.prog 66 #[.slice A0 l0.length c0, .int .i64 a1] w fun e w' => e = .returned (.int .i64 r) ∧ Drawn0 w w' := by
 have HR0 := aMk hr0
 have HC0 := aMk hc0
 clear hr0 hc0
 have H : (if (wrap64 (3 + (wrap64 ((l0.length : Int) / 20)))) > a1 then (some a1) else (some (wrap64 (3 + (wrap64 ((l0.length : Int) / 20)))))) = some r := h
 clear h
 by_cases c3 : (wrap64 (3 + (wrap64 ((l0.length : Int) / 20)))) > a1
 · rw [if_pos c3] at H
   have c3b0 : decide (a1 < (wrap64 (3 + (wrap64 ((l0.length : Int) / 20))))) = true := decide_eq_true c3
   clear c3
   obtain rfl := Option.some.inj H
   go_enter Try.func66, Try.ntmps66
   go_wp2
   go_ret
   exact ⟨by first | rfl | (simp; done) | (simp [*]; done), by repeat (first | exact Drawn0.refl _ | apply Drawn0.step)⟩
 · rw [if_neg c3] at H
   have c3b0 : decide (a1 < (wrap64 (3 + (wrap64 ((l0.length : Int) / 20))))) = false := decide_eq_false c3
   clear c3
   obtain rfl := Option.some.inj H
   go_enter Try.func66, Try.ntmps66
   go_wp2
   go_ret
   exact ⟨by first | rfl | (simp; done) | (simp [*]; done), by repeat (first | exact Drawn0.refl _ | apply Drawn0.step)⟩
def spec_l1Byte.f (s0_0 : List Int) (s0_1 : Int) (s0_2 : Int) : Option (Int × Int × Int) := if s0_1 < (s0_0.length : Int) then (if 0 ≤ s0_1 then (some (Go.bits .and .i64 (wrap64 ((Go.bits .and .i64 (Go.bits .xor .i64 ((wrap64 ((wrap64 (s0_2 * 6364136223846793005)) + 1442695040888963407)) / 8589934592) ((wrap64 ((wrap64 (s0_2 * 6364136223846793005)) + 1442695040888963407)) / 35184372088832)) 255) + (wrap64 (rd s0_0 s0_1)))) 255, wrap64 (s0_1 + 1), wrap64 ((wrap64 (s0_2 * 6364136223846793005)) + 1442695040888963407))) else (none)) else (some (Go.bits .and .i64 (Go.bits .xor .i64 ((wrap64 ((wrap64 (s0_2 * 6364136223846793005)) + 1442695040888963407)) / 8589934592) ((wrap64 ((wrap64 (s0_2 * 6364136223846793005)) + 1442695040888963407)) / 35184372088832)) 255, s0_1, wrap64 ((wrap64 (s0_2 * 6364136223846793005)) + 1442695040888963407)))
set_option maxHeartbeats 8000000 in
set_option maxRecDepth 100000 in
theorem spec_l1Byte.calls (g : Nat) (s0_0 : List Int) (s0_1 : Int) (s0_2 : Int) (r1 : Int) (r2 : Int) (r3 : Int) (w0 w : World) (hI : IsS122 w0 w g s0_0 s0_1 s0_2) (hB : Below w0.heap.size w0 w) (h : spec_l1Byte.f s0_0 s0_1 s0_2 = some (r1, r2, r3)) :
 Calls Try.prog 105 #[.pointer (some ⟨g, 0, none⟩)] w fun e w' => e = .returned (.int .i64 r1) ∧ IsS122 w0 w' g s0_0 r2 r3 ∧ Below w0.heap.size w0 w' ∧ KeepBut w w' g none := by
 have HI0 := aMk hI
 have HK := aMk (KeepBut.refl w g none)
 have HL := aMk hB.size
 clear hI
 have HW0 := aMk hB.size
 have HB := aMk hB
 clear hB
 have H : (if s0_1 < (s0_0.length : Int) then (if 0 ≤ s0_1 then (some (Go.bits .and .i64 (wrap64 ((Go.bits .and .i64 (Go.bits .xor .i64 ((wrap64 ((wrap64 (s0_2 * 6364136223846793005)) + 1442695040888963407)) / 8589934592) ((wrap64 ((wrap64 (s0_2 * 6364136223846793005)) + 1442695040888963407)) / 35184372088832)) 255) + (wrap64 (rd s0_0 s0_1)))) 255, wrap64 (s0_1 + 1), wrap64 ((wrap64 (s0_2 * 6364136223846793005)) + 1442695040888963407))) else (none)) else (some (Go.bits .and .i64 (Go.bits .xor .i64 ((wrap64 ((wrap64 (s0_2 * 6364136223846793005)) + 1442695040888963407)) / 8589934592) ((wrap64 ((wrap64 (s0_2 * 6364136223846793005)) + 1442695040888963407)) / 35184372088832)) 255, s0_1, wrap64 ((wrap64 (s0_2 * 6364136223846793005)) + 1442695040888963407)))) = some (r1, r2, r3) := h
 clear h
 by_cases c2 : s0_1 < (s0_0.length : Int)
 · rw [if_pos c2] at H
   have c2b0 : decide (s0_1 < (s0_0.length : Int)) = true := decide_eq_true c2
   clear c2
   by_cases c3 : 0 ≤ s0_1
   · rw [if_pos c3] at H
     have c3b0 : decide (0 ≤ s0_1) = true := decide_eq_true c3
     clear c3
     simp only [Option.some.injEq, Prod.mk.injEq] at H
     obtain ⟨rfl, rfl, rfl⟩ := H
     obtain ⟨ASz4_0, cSz4_0, HGz4, hgz4, HSz4_0⟩ := HI0.out
     have hcz4_0 := cellS122_0 HGz4
     have hcz4_1 := cellS122_1 HGz4
     have hcz4_2 := cellS122_2 HGz4
     have hfz4_1 := bFr HGz4 1
     have hfz4_2 := bFr HGz4 2
     clear HGz4 hgz4
     have p282 : 0 ≤ (s0_1 : Int) := oDt (by first | (with_reducible assumption) | assumption)
     have q282 : s0_1 < (s0_0.length : Int) := oDt (by first | (with_reducible assumption) | assumption)
     obtain ⟨ad282, e282, hx282_0⟩ := Kd.at_int HSz4_0 s0_1 p282 q282
     cases e282
     have hn282_0 : ad282.block ≠ g := Nat.ne_of_lt (Nat.lt_of_lt_of_le (by have := wBl _ _ hx282_0; first | rwa [add_block] at this | exact this) (IsS122.ge HI0.out))
     replace hx282_0 := pw_cell_below HB.out hx282_0
     replace hx282_0 := (cell_far (p := ⟨g, 2, none⟩) (by first | (rw [add_block]; exact hn282_0) | (show (Addr.add _ _).block ≠ _; rw [add_block]; exact hn282_0) | exact hn282_0) (.int .i64 (wrap64 ((wrap64 (s0_2 * 6364136223846793005)) + 1442695040888963407)))).trans hx282_0
     (try have hy282_0 := fun (n_ : Nat) => (show (((w.drewN n_).setCell ⟨g, 2, none⟩ (.int .i64 (wrap64 ((wrap64 (s0_2 * 6364136223846793005)) + 1442695040888963407))))).cell? _ = some _ from hx282_0))
     clear hn282_0
     replace p282 := eq_true p282
     replace q282 := eq_true q282
     go_enter Try.func105, Try.ntmps105
     go_wp2
     repeat (go_quiet (fail); try go_wp2)
     go_ret
     exact ⟨by first | rfl | (simp [errW_none, errW_some] <;> rfl) | (simp [*, errW_none, errW_some] <;> rfl), by repeat (first | (with_reducible first | exact HI0.out | apply IsS122.alloc | apply IsS122.drewN | apply IsS122.drew | apply IsS122.set_1 | apply IsS122.set_2) | exact HI0.out), by repeat (first | (with_reducible first | exact HB.out | apply bAl | apply bDn | apply bD1 | refine bSe ?_ (IsS122.ge HI0.out)) | exact HB.out), by repeat (first | (with_reducible first | exact HK.out | apply KeepBut.set_ | apply keep_drewN | apply keep_drew | apply keep_alloc) | exact HK.out)⟩
   · rw [if_neg c3] at H
     exact absurd H (by simp)
 · rw [if_neg c2] at H
   have c2b0 : decide (s0_1 < (s0_0.length : Int)) = false := decide_eq_false c2
   clear c2
   simp only [Option.some.injEq, Prod.mk.injEq] at H
   obtain ⟨rfl, rfl, rfl⟩ := H
   obtain ⟨ASz5_0, cSz5_0, HGz5, hgz5, HSz5_0⟩ := HI0.out
   have hcz5_0 := cellS122_0 HGz5
   have hcz5_1 := cellS122_1 HGz5
   have hcz5_2 := cellS122_2 HGz5
   have hfz5_1 := bFr HGz5 1
   have hfz5_2 := bFr HGz5 2
   clear HGz5 hgz5
   go_enter Try.func105, Try.ntmps105
   go_wp2
   repeat (go_quiet (fail); try go_wp2)
   go_ret
   exact ⟨by first | rfl | (simp [errW_none, errW_some] <;> rfl) | (simp [*, errW_none, errW_some] <;> rfl), by repeat (first | (with_reducible first | exact HI0.out | apply IsS122.alloc | apply IsS122.drewN | apply IsS122.drew | apply IsS122.set_1 | apply IsS122.set_2) | exact HI0.out), by repeat (first | (with_reducible first | exact HB.out | apply bAl | apply bDn | apply bD1 | refine bSe ?_ (IsS122.ge HI0.out)) | exact HB.out), by repeat (first | (with_reducible first | exact HK.out | apply KeepBut.set_ | apply keep_drewN | apply keep_drew | apply keep_alloc) | exact HK.out)⟩
def spec_l1Below.f (s0_0 : List Int) (s0_1 : Int) (s0_2 : Int) (a1 : Int) : Option (Int × Int × Int) := if a1 ≤ 0 then (some (0, s0_1, s0_2)) else (if a1 ≤ 256 then ((spec_l1Byte.f s0_0 s0_1 s0_2).bind fun bt283 => (if a1 = 0 then (none) else (some (Int.tmod bt283.1 a1, bt283.2.1, bt283.2.2)))) else ((spec_l1Byte.f s0_0 s0_1 s0_2).bind fun bt286 => ((spec_l1Byte.f s0_0 bt286.2.1 bt286.2.2).bind fun bt289 => ((spec_l1Byte.f s0_0 bt289.2.1 bt289.2.2).bind fun bt292 => (if a1 = 0 then (none) else (some (Int.tmod (wrap64 ((wrap64 ((wrap64 (bt286.1 * 65536)) + (wrap64 (bt289.1 * 256)))) + bt292.1)) a1, bt292.2.1, bt292.2.2)))))))
set_option maxHeartbeats 8000000 in
set_option maxRecDepth 100000 in
theorem spec_l1Below.calls (g : Nat) (s0_0 : List Int) (s0_1 : Int) (s0_2 : Int) (a1 : Int) (r1 : Int) (r2 : Int) (r3 : Int) (w0 w : World) (hI : IsS122 w0 w g s0_0 s0_1 s0_2) (hB : Below w0.heap.size w0 w) (h : spec_l1Below.f s0_0 s0_1 s0_2 a1 = some (r1, r2, r3)) :
 Calls Try.prog 67 #[.pointer (some ⟨g, 0, none⟩), .int .i64 a1] w fun e w' => e = .returned (.int .i64 r1) ∧ IsS122 w0 w' g s0_0 r2 r3 ∧ Below w0.heap.size w0 w' ∧ KeepBut w w' g none := by
 have HI0 := aMk hI
 have HK := aMk (KeepBut.refl w g none)
 have HL := aMk hB.size
 clear hI
 have HW0 := aMk hB.size
 have HB := aMk hB
 clear hB
 have H : (if a1 ≤ 0 then (some (0, s0_1, s0_2)) else (if a1 ≤ 256 then ((spec_l1Byte.f s0_0 s0_1 s0_2).bind fun bt283 => (if a1 = 0 then (none) else (some (Int.tmod bt283.1 a1, bt283.2.1, bt283.2.2)))) else ((spec_l1Byte.f s0_0 s0_1 s0_2).bind fun bt286 => ((spec_l1Byte.f s0_0 bt286.2.1 bt286.2.2).bind fun bt289 => ((spec_l1Byte.f s0_0 bt289.2.1 bt289.2.2).bind fun bt292 => (if a1 = 0 then (none) else (some (Int.tmod (wrap64 ((wrap64 ((wrap64 (bt286.1 * 65536)) + (wrap64 (bt289.1 * 256)))) + bt292.1)) a1, bt292.2.1, bt292.2.2)))))))) = some (r1, r2, r3) := h
 clear h
 by_cases c3 : a1 ≤ 0
 · rw [if_pos c3] at H
   have c3b0 : decide (a1 ≤ 0) = true := decide_eq_true c3
   clear c3
   simp only [Option.some.injEq, Prod.mk.injEq] at H
   obtain ⟨rfl, rfl, rfl⟩ := H
   go_enter Try.func67, Try.ntmps67
   go_wp2
   go_ret
   exact ⟨by first | rfl | (simp [errW_none, errW_some] <;> rfl) | (simp [*, errW_none, errW_some] <;> rfl), by repeat (first | (with_reducible first | exact HI0.out | apply IsS122.alloc | apply IsS122.drewN | apply IsS122.drew | apply IsS122.set_1 | apply IsS122.set_2) | exact HI0.out), by repeat (first | (with_reducible first | exact HB.out | apply bAl | apply bDn | apply bD1 | refine bSe ?_ (IsS122.ge HI0.out)) | exact HB.out), by repeat (first | (with_reducible first | exact HK.out | apply KeepBut.set_ | apply keep_drewN | apply keep_drew | apply keep_alloc) | exact HK.out)⟩
 · rw [if_neg c3] at H
   have c3b0 : decide (a1 ≤ 0) = false := decide_eq_false c3
   clear c3
   by_cases c4 : a1 ≤ 256
   · rw [if_pos c4] at H
     have c4b0 : decide (a1 ≤ 256) = true := decide_eq_true c4
     clear c4
     replace H := oBm H
     obtain ⟨⟨t283, t284, t285⟩, A50, H⟩ := H
     replace H : (if a1 = 0 then (none) else (some (Int.tmod t283 a1, t284, t285))) = some (r1, r2, r3) := H
     have A5 := aMk A50
     clear A50
     by_cases c6 : a1 = 0
     · rw [if_pos c6] at H
       exact absurd H (by simp)
     · rw [if_neg c6] at H
       have c6b0 : (a1 == 0) = false := beq_eq_false_iff_ne.mpr c6
       have c6b1 : (a1 != 0) = true := bne_iff_ne.mpr c6
       simp only [Option.some.injEq, Prod.mk.injEq] at H
       obtain ⟨rfl, rfl, rfl⟩ := H
       go_enter Try.func67, Try.ntmps67
       go_wp2_with (first | ((with_reducible refine gate_callee (f := 105) rfl ?_); refine goesL_ (some 13) rfl rfl Try.func105 (by kernel_rfl) rfl #[.pointer (some ⟨g, 0, none⟩)] rfl (by (try simp only [List.map_toArray, List.map_cons, List.map_nil]); first | done | rfl | (simp only [List.length_drop, List.length_take]; rfl)) ?_; (with_reducible refine (spec_l1Byte.calls g s0_0 s0_1 s0_2 t283 t284 t285 w0 _ ?side1 ?side2 A5.out).mono ?_); (case side1 => repeat (first | (with_reducible first | exact HI0.out | apply IsS122.alloc | apply IsS122.drewN | apply IsS122.drew | apply IsS122.set_1 | apply IsS122.set_2) | exact HI0.out)); (case side2 => repeat (first | (with_reducible first | exact HB.out | apply bAl | apply bDn | apply bD1 | refine bSe ?_ (IsS122.ge HI0.out)) | exact HB.out)); rintro e w7 ⟨rfl, hi, hb, hk⟩; refine ⟨_, rfl, ?_⟩; have n0_ := aMk (KeepBut.trans (by repeat (first | (with_reducible first | exact HK.out | apply KeepBut.set_ | apply keep_drewN | apply keep_drew | apply keep_alloc) | exact HK.out)) hk (.inl rfl)); have n1_ := aMk (hb); have n2_ := aMk (hi); clear HK; clear HB; clear HI0; have HK := n0_; have HB := n1_; have HI0 := n2_; clear n0_ n1_ n2_; (try clear hb); (try clear hb2); (try clear hk); (try clear hi)))
       go_ret
       exact ⟨by first | rfl | (simp [errW_none, errW_some] <;> rfl) | (simp [*, errW_none, errW_some] <;> rfl), by repeat (first | (with_reducible first | exact HI0.out | apply IsS122.alloc | apply IsS122.drewN | apply IsS122.drew | apply IsS122.set_1 | apply IsS122.set_2) | exact HI0.out), by repeat (first | (with_reducible first | exact HB.out | apply bAl | apply bDn | apply bD1 | refine bSe ?_ (IsS122.ge HI0.out)) | exact HB.out), by repeat (first | (with_reducible first | exact HK.out | apply KeepBut.set_ | apply keep_drewN | apply keep_drew | apply keep_alloc) | exact HK.out)⟩
   · rw [if_neg c4] at H
     have c4b0 : decide (a1 ≤ 256) = false := decide_eq_false c4
     clear c4
     replace H := oBm H
     obtain ⟨⟨t286, t287, t288⟩, A80, H⟩ := H
     replace H : ((spec_l1Byte.f s0_0 t287 t288).bind fun bt289 => ((spec_l1Byte.f s0_0 bt289.2.1 bt289.2.2).bind fun bt292 => (if a1 = 0 then (none) else (some (Int.tmod (wrap64 ((wrap64 ((wrap64 (t286 * 65536)) + (wrap64 (bt289.1 * 256)))) + bt292.1)) a1, bt292.2.1, bt292.2.2))))) = some (r1, r2, r3) := H
     have A8 := aMk A80
     clear A80
     replace H := oBm H
     obtain ⟨⟨t289, t290, t291⟩, A90, H⟩ := H
     replace H : ((spec_l1Byte.f s0_0 t290 t291).bind fun bt292 => (if a1 = 0 then (none) else (some (Int.tmod (wrap64 ((wrap64 ((wrap64 (t286 * 65536)) + (wrap64 (t289 * 256)))) + bt292.1)) a1, bt292.2.1, bt292.2.2)))) = some (r1, r2, r3) := H
     have A9 := aMk A90
     clear A90
     replace H := oBm H
     obtain ⟨⟨t292, t293, t294⟩, A100, H⟩ := H
     replace H : (if a1 = 0 then (none) else (some (Int.tmod (wrap64 ((wrap64 ((wrap64 (t286 * 65536)) + (wrap64 (t289 * 256)))) + t292)) a1, t293, t294))) = some (r1, r2, r3) := H
     have A10 := aMk A100
     clear A100
     by_cases c11 : a1 = 0
     · rw [if_pos c11] at H
       exact absurd H (by simp)
     · rw [if_neg c11] at H
       have c11b0 : (a1 == 0) = false := beq_eq_false_iff_ne.mpr c11
       have c11b1 : (a1 != 0) = true := bne_iff_ne.mpr c11
       simp only [Option.some.injEq, Prod.mk.injEq] at H
       obtain ⟨rfl, rfl, rfl⟩ := H
       go_enter Try.func67, Try.ntmps67
       go_wp2_with (first | ((with_reducible refine gate_callee (f := 105) rfl ?_); refine goesL_ (some 17) rfl rfl Try.func105 (by kernel_rfl) rfl #[.pointer (some ⟨g, 0, none⟩)] rfl (by (try simp only [List.map_toArray, List.map_cons, List.map_nil]); first | done | rfl | (simp only [List.length_drop, List.length_take]; rfl)) ?_; (with_reducible refine (spec_l1Byte.calls g s0_0 s0_1 s0_2 t286 t287 t288 w0 _ ?side1 ?side2 A8.out).mono ?_); (case side1 => repeat (first | (with_reducible first | exact HI0.out | apply IsS122.alloc | apply IsS122.drewN | apply IsS122.drew | apply IsS122.set_1 | apply IsS122.set_2) | exact HI0.out)); (case side2 => repeat (first | (with_reducible first | exact HB.out | apply bAl | apply bDn | apply bD1 | refine bSe ?_ (IsS122.ge HI0.out)) | exact HB.out)); rintro e w12 ⟨rfl, hi, hb, hk⟩; refine ⟨_, rfl, ?_⟩; have n0_ := aMk (KeepBut.trans (by repeat (first | (with_reducible first | exact HK.out | apply KeepBut.set_ | apply keep_drewN | apply keep_drew | apply keep_alloc) | exact HK.out)) hk (.inl rfl)); have n1_ := aMk (hb); have n2_ := aMk (hi); clear HK; clear HB; clear HI0; have HK := n0_; have HB := n1_; have HI0 := n2_; clear n0_ n1_ n2_; (try clear hb); (try clear hb2); (try clear hk); (try clear hi)) | ((with_reducible refine gate_callee (f := 105) rfl ?_); refine goesL_ (some 19) rfl rfl Try.func105 (by kernel_rfl) rfl #[.pointer (some ⟨g, 0, none⟩)] rfl (by (try simp only [List.map_toArray, List.map_cons, List.map_nil]); first | done | rfl | (simp only [List.length_drop, List.length_take]; rfl)) ?_; (with_reducible refine (spec_l1Byte.calls g s0_0 t287 t288 t289 t290 t291 w0 _ ?side1 ?side2 A9.out).mono ?_); (case side1 => repeat (first | (with_reducible first | exact HI0.out | apply IsS122.alloc | apply IsS122.drewN | apply IsS122.drew | apply IsS122.set_1 | apply IsS122.set_2) | exact HI0.out)); (case side2 => repeat (first | (with_reducible first | exact HB.out | apply bAl | apply bDn | apply bD1 | refine bSe ?_ (IsS122.ge HI0.out)) | exact HB.out)); rintro e w13 ⟨rfl, hi, hb, hk⟩; refine ⟨_, rfl, ?_⟩; have n0_ := aMk (KeepBut.trans (by repeat (first | (with_reducible first | exact HK.out | apply KeepBut.set_ | apply keep_drewN | apply keep_drew | apply keep_alloc) | exact HK.out)) hk (.inl rfl)); have n1_ := aMk (hb); have n2_ := aMk (hi); clear HK; clear HB; clear HI0; have HK := n0_; have HB := n1_; have HI0 := n2_; clear n0_ n1_ n2_; (try clear hb); (try clear hb2); (try clear hk); (try clear hi)) | ((with_reducible refine gate_callee (f := 105) rfl ?_); refine goesL_ (some 21) rfl rfl Try.func105 (by kernel_rfl) rfl #[.pointer (some ⟨g, 0, none⟩)] rfl (by (try simp only [List.map_toArray, List.map_cons, List.map_nil]); first | done | rfl | (simp only [List.length_drop, List.length_take]; rfl)) ?_; (with_reducible refine (spec_l1Byte.calls g s0_0 t290 t291 t292 t293 t294 w0 _ ?side1 ?side2 A10.out).mono ?_); (case side1 => repeat (first | (with_reducible first | exact HI0.out | apply IsS122.alloc | apply IsS122.drewN | apply IsS122.drew | apply IsS122.set_1 | apply IsS122.set_2) | exact HI0.out)); (case side2 => repeat (first | (with_reducible first | exact HB.out | apply bAl | apply bDn | apply bD1 | refine bSe ?_ (IsS122.ge HI0.out)) | exact HB.out)); rintro e w14 ⟨rfl, hi, hb, hk⟩; refine ⟨_, rfl, ?_⟩; have n0_ := aMk (KeepBut.trans (by repeat (first | (with_reducible first | exact HK.out | apply KeepBut.set_ | apply keep_drewN | apply keep_drew | apply keep_alloc) | exact HK.out)) hk (.inl rfl)); have n1_ := aMk (hb); have n2_ := aMk (hi); clear HK; clear HB; clear HI0; have HK := n0_; have HB := n1_; have HI0 := n2_; clear n0_ n1_ n2_; (try clear hb); (try clear hb2); (try clear hk); (try clear hi)))
       go_ret
       exact ⟨by first | rfl | (simp [errW_none, errW_some] <;> rfl) | (simp [*, errW_none, errW_some] <;> rfl), by repeat (first | (with_reducible first | exact HI0.out | apply IsS122.alloc | apply IsS122.drewN | apply IsS122.drew | apply IsS122.set_1 | apply IsS122.set_2) | exact HI0.out), by repeat (first | (with_reducible first | exact HB.out | apply bAl | apply bDn | apply bD1 | refine bSe ?_ (IsS122.ge HI0.out)) | exact HB.out), by repeat (first | (with_reducible first | exact HK.out | apply KeepBut.set_ | apply keep_drewN | apply keep_drew | apply keep_alloc) | exact HK.out)⟩
def spec_l14Text.l0 : Nat → Int → List Int → Int → List Int → Int → Int → Option (List Int × Int × Int)
 | 0, _, _, _, _, _, _ => none
 | k + 1, x1, x5, x6, x1000, x1001, x1002 => if x6 < x1 then ((some (([97, 98, 1488, 1489, 1575, 49, 50, 1633, 43, 45, 36, 37, 44, 58, 769, 32, 32, 9, 10, 33, 40, 41, 8206, 8207, 8364, 12, 160] : List Int) : List Int)).bind fun y298 => ((spec_l1Below.f x1000 x1001 x1002 27).bind fun bt301 => (if 0 ≤ bt301.1 then (if bt301.1 < (y298.length : Int) then (if x5.length < 17592186044416 then (spec_l14Text.l0 k x1 (x5 ++ [rd y298 bt301.1]) (wrap64 (x6 + 1)) x1000 bt301.2.1 bt301.2.2) else (none)) else (none)) else (none)))) else (some (x5, x1001, x1002))
def spec_l14Text.f (k : Nat) (s0_0 : List Int) (s0_1 : Int) (s0_2 : Int) (a1 : Int) : Option (List Int × Int × Int) := spec_l14Text.l0 k a1 (([] : List Int)) 0 s0_0 s0_1 s0_2
set_option maxHeartbeats 8000000 in
set_option maxRecDepth 100000 in
theorem spec_l14Text.calls (k : Nat) (g : Nat) (s0_0 : List Int) (s0_1 : Int) (s0_2 : Int) (a1 : Int) (r1 : List Int) (r2 : Int) (r3 : Int) (w0 w : World) (hI : IsS122 w0 w g s0_0 s0_1 s0_2) (hB : Below w0.heap.size w0 w) (h : spec_l14Text.f k s0_0 s0_1 s0_2 a1 = some (r1, r2, r3)) :
 Calls Try.prog 90 #[.pointer (some ⟨g, 0, none⟩), .int .i64 a1] w fun e w' => ∃ v0_ : Value, e = .returned (v0_) ∧ Kd.R (Kd.int .i64) 3 w' w.heap.size (fun _ => True) v0_ r1 ∧ IsS122 w0 w' g s0_0 r2 r3 ∧ Below w0.heap.size w0 w' ∧ KeepBut w w' g none := by
 have HI0 := aMk hI
 have HK := aMk (KeepBut.refl w g none)
 have HL := aMk hB.size
 clear hI
 have HW0 := aMk hB.size
 have HB := aMk hB
 clear hB
 have H : (spec_l14Text.l0 k a1 (([] : List Int)) 0 s0_0 s0_1 s0_2) = some (r1, r2, r3) := h
 clear h
 obtain ⟨y295, hy295⟩ : ∃ y_ : List Int, y_ = (([] : List Int)) := ⟨_, rfl⟩
 replace H : (spec_l14Text.l0 k a1 y295 0 s0_0 s0_1 s0_2) = some (r1, r2, r3) := by first | (rw [hy295]; with_reducible exact H) | (have H2_ := (Option.bind_some _ _).symm.trans H; rw [hy295]; with_reducible exact H2_) | (have H2_ := (Option.bind_some _ _).symm.trans H; with_reducible exact H2_) | with_reducible exact H | (rw [hy295]; exact H) | exact H
 have Ny295 := aMk hy295
 clear hy295
 have H' := aMk H
 clear H
 go_enter Try.func90, Try.ntmps90
 go_wp2_with (first | ((with_reducible refine gate_dst (N := 7) rfl ?_); refine Kd.R_lit (Kd.int .i64) _ 3 ?hg (N := 7) ?hd (xs := ([] : List Int)) (inner := []) (ok := fun _ => True) (okp := fun _ => True) ?hr ?hp (fun _ hk => hk) trivial (Below.refl _ _) (Nat.le_refl _) (by simp) ?_; (case hd => rfl); (case hg => rfl); (case hr => first | (go_simp; done) | (go_simp; rfl)); (case hp => exact (Reps.none _ _)); intro v296 w3 ho4 hb hg_ hnew_; clear hg_ hnew_; (first | rw [← Ny295.out] at ho4 | (simp only [Int.reduceToNat] at ho4; rw [← Ny295.out] at ho4)); have n0_ := aMk (Kd.R_lower ho4 (keep_size (w := w) (g := g) (row := none) (by repeat (first | (with_reducible first | exact HK.out | apply KeepBut.set_ | apply keep_drewN | apply keep_drew | apply keep_alloc) | exact HK.out)))); have n1_ := aMk (IsS122.below (by repeat (first | (with_reducible first | exact HI0.out | apply IsS122.alloc | apply IsS122.drewN | apply IsS122.drew | apply IsS122.set_1 | apply IsS122.set_2) | exact HI0.out)) hb); have n2_ := aMk (KeepBut.trans (by repeat (first | (with_reducible first | exact HK.out | apply KeepBut.set_ | apply keep_drewN | apply keep_drew | apply keep_alloc) | exact HK.out)) (KeepBut.of_below hb g none) (.inl rfl)); have n3_ := aMk (below_step (by repeat (first | (with_reducible first | exact HB.out | apply bAl | apply bDn | apply bD1 | refine bSe ?_ (IsS122.ge HI0.out)) | exact HB.out)) hb); clear HI0; clear HK; clear HB; have HO297 := n0_; have HI0 := n1_; have HK := n2_; have HB := n3_; clear n0_ n1_ n2_ n3_; clear hb ho4))
 go_loopg [5, 6] k (fun kq v5 v6 w' => ∃ (x5_1 : List Int) (x6_1 : Int) (x1001_1 : Int) (x1002_1 : Int), v6 = .int .i64 x6_1 ∧ Aside0 (spec_l14Text.l0 kq a1 x5_1 x6_1 s0_0 x1001_1 x1002_1 = some (r1, r2, r3)) ∧ Aside0 (kq ≤ k) ∧ Aside0 (Kd.R (Kd.int .i64) 3 w' w.heap.size (fun _ => True) v5 x5_1) ∧ Aside0 (IsS122 w0 w' g s0_0 x1001_1 x1002_1) ∧ Aside0 (KeepBut w w' g none) ∧ Aside0 (Below w0.heap.size w0 w'))
 case atStart => exact ⟨(y295), (0), (s0_1), (s0_2), (by first | rfl | (simp; done) | (simp [*]; done)), H', ⟨Nat.le_refl _⟩, ⟨by (with_reducible repeat (first | apply Kd.R_alloc | apply Kd.R_drewN | apply Kd.R_drew)); exact HO297.out⟩, ⟨by repeat (first | (with_reducible first | exact HI0.out | apply IsS122.alloc | apply IsS122.drewN | apply IsS122.drew | apply IsS122.set_1 | apply IsS122.set_2) | exact HI0.out)⟩, ⟨by repeat (first | (with_reducible first | exact HK.out | apply KeepBut.set_ | apply keep_drewN | apply keep_drew | apply keep_alloc) | exact HK.out)⟩, ⟨by repeat (first | (with_reducible first | exact HB.out | apply bAl | apply bDn | apply bD1 | refine bSe ?_ (IsS122.ge HI0.out)) | exact HB.out)⟩⟩
 case round =>
  clear H'
  (try clear p2)
  obtain ⟨x5_1, x6_1, x1001_1, x1002_1, rfl, HA, HK1, HO_5, HI0, HK, HB⟩ := hrel
  cases gk with
  | zero => exact absurd HA.out (by simp [spec_l14Text.l0])
  | succ k1 =>
   have H := HA.out
   clear HA
   simp only [spec_l14Text.l0] at H
   by_cases c5 : x6_1 < a1
   · rw [if_pos c5] at H
     have c5b0 : decide (x6_1 < a1) = true := decide_eq_true c5
     clear c5
     obtain ⟨y298, hy298⟩ : ∃ y_ : List Int, y_ = (([97, 98, 1488, 1489, 1575, 49, 50, 1633, 43, 45, 36, 37, 44, 58, 769, 32, 32, 9, 10, 33, 40, 41, 8206, 8207, 8364, 12, 160] : List Int)) := ⟨_, rfl⟩
     replace H : ((spec_l1Below.f s0_0 x1001_1 x1002_1 27).bind fun bt301 => (if 0 ≤ bt301.1 then (if bt301.1 < (y298.length : Int) then (if x5_1.length < 17592186044416 then (spec_l14Text.l0 k1 a1 (x5_1 ++ [rd y298 bt301.1]) (wrap64 (x6_1 + 1)) s0_0 bt301.2.1 bt301.2.2) else (none)) else (none)) else (none))) = some (r1, r2, r3) := by first | (rw [hy298]; with_reducible exact H) | (have H2_ := (Option.bind_some _ _).symm.trans H; rw [hy298]; with_reducible exact H2_) | (have H2_ := (Option.bind_some _ _).symm.trans H; with_reducible exact H2_) | with_reducible exact H | (rw [hy298]; exact H) | exact H
     have Ny298 := aMk hy298
     clear hy298
     replace H := oBm H
     obtain ⟨⟨t301, t302, t303⟩, A60, H⟩ := H
     replace H : (if 0 ≤ t301 then (if t301 < (y298.length : Int) then (if x5_1.length < 17592186044416 then (spec_l14Text.l0 k1 a1 (x5_1 ++ [rd y298 t301]) (wrap64 (x6_1 + 1)) s0_0 t302 t303) else (none)) else (none)) else (none)) = some (r1, r2, r3) := H
     have A6 := aMk A60
     clear A60
     by_cases c7 : 0 ≤ t301
     · rw [if_pos c7] at H
       have c7b0 : decide (0 ≤ t301) = true := decide_eq_true c7
       clear c7
       by_cases c8 : t301 < (y298.length : Int)
       · rw [if_pos c8] at H
         have c8b0 : decide (t301 < (y298.length : Int)) = true := decide_eq_true c8
         clear c8
         by_cases c9 : x5_1.length < 17592186044416
         · rw [if_pos c9] at H
           have LMc9 := aMk c9
           clear c9
           obtain ⟨y305, hy305⟩ : ∃ y_ : List Int, y_ = (x5_1 ++ [rd y298 t301]) := ⟨_, rfl⟩
           replace H : (spec_l14Text.l0 k1 a1 y305 (wrap64 (x6_1 + 1)) s0_0 t302 t303) = some (r1, r2, r3) := by first | (rw [hy305]; with_reducible exact H) | (have H2_ := (Option.bind_some _ _).symm.trans H; rw [hy305]; with_reducible exact H2_) | (have H2_ := (Option.bind_some _ _).symm.trans H; with_reducible exact H2_) | with_reducible exact H | (rw [hy305]; exact H) | exact H
           have Ny305 := aMk hy305
           clear hy305
           have H' := aMk H
           clear H
           go_wp2_with (first | ((with_reducible refine gate_dst (N := 14) rfl ?_); refine Kd.R_lit (Kd.int .i64) _ 3 ?hg (N := 14) ?hd (xs := ([97, 98, 1488, 1489, 1575, 49, 50, 1633, 43, 45, 36, 37, 44, 58, 769, 32, 32, 9, 10, 33, 40, 41, 8206, 8207, 8364, 12, 160] : List Int)) (inner := [.int .i64 97, .int .i64 98, .int .i64 1488, .int .i64 1489, .int .i64 1575, .int .i64 49, .int .i64 50, .int .i64 1633, .int .i64 43, .int .i64 45, .int .i64 36, .int .i64 37, .int .i64 44, .int .i64 58, .int .i64 769, .int .i64 32, .int .i64 32, .int .i64 9, .int .i64 10, .int .i64 33, .int .i64 40, .int .i64 41, .int .i64 8206, .int .i64 8207, .int .i64 8364, .int .i64 12, .int .i64 160]) (ok := fun _ => True) (okp := fun _ => True) ?hr ?hp (fun _ hk => hk) trivial (Below.refl _ _) (Nat.le_refl _) (by simp) ?_; (case hd => rfl); (case hg => rfl); (case hr => first | (go_simp; done) | (go_simp; rfl)); (case hp => exact (Reps.one (show Kd.M (Kd.int .i64) _ _ _ 97 [.int .i64 97] from rfl) (Reps.one (show Kd.M (Kd.int .i64) _ _ _ 98 [.int .i64 98] from rfl) (Reps.one (show Kd.M (Kd.int .i64) _ _ _ 1488 [.int .i64 1488] from rfl) (Reps.one (show Kd.M (Kd.int .i64) _ _ _ 1489 [.int .i64 1489] from rfl) (Reps.one (show Kd.M (Kd.int .i64) _ _ _ 1575 [.int .i64 1575] from rfl) (Reps.one (show Kd.M (Kd.int .i64) _ _ _ 49 [.int .i64 49] from rfl) (Reps.one (show Kd.M (Kd.int .i64) _ _ _ 50 [.int .i64 50] from rfl) (Reps.one (show Kd.M (Kd.int .i64) _ _ _ 1633 [.int .i64 1633] from rfl) (Reps.one (show Kd.M (Kd.int .i64) _ _ _ 43 [.int .i64 43] from rfl) (Reps.one (show Kd.M (Kd.int .i64) _ _ _ 45 [.int .i64 45] from rfl) (Reps.one (show Kd.M (Kd.int .i64) _ _ _ 36 [.int .i64 36] from rfl) (Reps.one (show Kd.M (Kd.int .i64) _ _ _ 37 [.int .i64 37] from rfl) (Reps.one (show Kd.M (Kd.int .i64) _ _ _ 44 [.int .i64 44] from rfl) (Reps.one (show Kd.M (Kd.int .i64) _ _ _ 58 [.int .i64 58] from rfl) (Reps.one (show Kd.M (Kd.int .i64) _ _ _ 769 [.int .i64 769] from rfl) (Reps.one (show Kd.M (Kd.int .i64) _ _ _ 32 [.int .i64 32] from rfl) (Reps.one (show Kd.M (Kd.int .i64) _ _ _ 32 [.int .i64 32] from rfl) (Reps.one (show Kd.M (Kd.int .i64) _ _ _ 9 [.int .i64 9] from rfl) (Reps.one (show Kd.M (Kd.int .i64) _ _ _ 10 [.int .i64 10] from rfl) (Reps.one (show Kd.M (Kd.int .i64) _ _ _ 33 [.int .i64 33] from rfl) (Reps.one (show Kd.M (Kd.int .i64) _ _ _ 40 [.int .i64 40] from rfl) (Reps.one (show Kd.M (Kd.int .i64) _ _ _ 41 [.int .i64 41] from rfl) (Reps.one (show Kd.M (Kd.int .i64) _ _ _ 8206 [.int .i64 8206] from rfl) (Reps.one (show Kd.M (Kd.int .i64) _ _ _ 8207 [.int .i64 8207] from rfl) (Reps.one (show Kd.M (Kd.int .i64) _ _ _ 8364 [.int .i64 8364] from rfl) (Reps.one (show Kd.M (Kd.int .i64) _ _ _ 12 [.int .i64 12] from rfl) (Reps.one (show Kd.M (Kd.int .i64) _ _ _ 160 [.int .i64 160] from rfl) (Reps.none _ _))))))))))))))))))))))))))))); intro v299 w10 ho11 hb hg_ hnew_; clear hg_ hnew_; (first | rw [← Ny298.out] at ho11 | (simp only [Int.reduceToNat] at ho11; rw [← Ny298.out] at ho11)); have n0_ := aMk (Kd.R_elder' (by (with_reducible repeat (first | apply Kd.R_alloc | apply Kd.R_drewN | apply Kd.R_drew)); exact HO_5.out) (Kd.R_base ho11) hb); have n1_ := aMk (Kd.R_lower (Kd.R_new' ho11 (Kd.R_lt (by (with_reducible repeat (first | apply Kd.R_alloc | apply Kd.R_drewN | apply Kd.R_drew)); exact HO_5.out))) (keep_size (w := w) (g := g) (row := none) (by repeat (first | (with_reducible first | exact HK.out | apply KeepBut.set_ | apply keep_drewN | apply keep_drew | apply keep_alloc) | exact HK.out)))); have n2_ := aMk (IsS122.below (by repeat (first | (with_reducible first | exact HI0.out | apply IsS122.alloc | apply IsS122.drewN | apply IsS122.drew | apply IsS122.set_1 | apply IsS122.set_2) | exact HI0.out)) hb); have n3_ := aMk (KeepBut.trans (by repeat (first | (with_reducible first | exact HK.out | apply KeepBut.set_ | apply keep_drewN | apply keep_drew | apply keep_alloc) | exact HK.out)) (KeepBut.of_below hb g none) (.inl rfl)); have n4_ := aMk (below_step (by repeat (first | (with_reducible first | exact HB.out | apply bAl | apply bDn | apply bD1 | refine bSe ?_ (IsS122.ge HI0.out)) | exact HB.out)) hb); clear HO_5; clear HI0; clear HK; clear HB; have HO_5 := n0_; have HO300 := n1_; have HI0 := n2_; have HK := n3_; have HB := n4_; clear n0_ n1_ n2_ n3_ n4_; clear hb ho11) | ((with_reducible refine gate_callee (f := 67) rfl ?_); refine goesL_ (some 16) rfl rfl Try.func67 (by kernel_rfl) rfl #[.pointer (some ⟨g, 0, none⟩), .int .i64 27] rfl (by (try simp only [List.map_toArray, List.map_cons, List.map_nil]); first | done | rfl | (simp only [List.length_drop, List.length_take]; rfl)) ?_; (with_reducible refine (spec_l1Below.calls g s0_0 x1001_1 x1002_1 27 t301 t302 t303 w0 _ ?side1 ?side2 A6.out).mono ?_); (case side1 => repeat (first | (with_reducible first | exact HI0.out | apply IsS122.alloc | apply IsS122.drewN | apply IsS122.drew | apply IsS122.set_1 | apply IsS122.set_2) | exact HI0.out)); (case side2 => repeat (first | (with_reducible first | exact HB.out | apply bAl | apply bDn | apply bD1 | refine bSe ?_ (IsS122.ge HI0.out)) | exact HB.out)); rintro e w12 ⟨rfl, hi, hb, hk⟩; refine ⟨_, rfl, ?_⟩; have n0_ := aMk (Kd.R_mono (Kd.R_keep (IsS122.apart (show IsS122 w0 _ g s0_0 x1001_1 x1002_1 from by repeat (first | (with_reducible first | exact HI0.out | apply IsS122.alloc | apply IsS122.drewN | apply IsS122.drew | apply IsS122.set_1 | apply IsS122.set_2) | exact HI0.out)) (by (with_reducible repeat (first | apply Kd.R_alloc | apply Kd.R_drewN | apply Kd.R_drew)); exact HO_5.out) (by decide)) hk (fun _ h => h.2)) (fun _ h => h.1)); have n1_ := aMk (Kd.R_mono (Kd.R_keep (IsS122.apart (show IsS122 w0 _ g s0_0 x1001_1 x1002_1 from by repeat (first | (with_reducible first | exact HI0.out | apply IsS122.alloc | apply IsS122.drewN | apply IsS122.drew | apply IsS122.set_1 | apply IsS122.set_2) | exact HI0.out)) (by (with_reducible repeat (first | apply Kd.R_alloc | apply Kd.R_drewN | apply Kd.R_drew)); exact HO300.out) (by decide)) hk (fun _ h => h.2)) (fun _ h => h.1)); have n2_ := aMk (KeepBut.trans (by repeat (first | (with_reducible first | exact HK.out | apply KeepBut.set_ | apply keep_drewN | apply keep_drew | apply keep_alloc) | exact HK.out)) hk (.inl rfl)); have n3_ := aMk (hb); have n4_ := aMk (hi); clear HO_5; clear HO300; clear HK; clear HB; clear HI0; have HO_5 := n0_; have HO300 := n1_; have HK := n2_; have HB := n3_; have HI0 := n4_; clear n0_ n1_ n2_ n3_ n4_; (try clear hb); (try clear hb2); (try clear hk); (try clear hi); obtain ⟨Ao13, co13, eo13⟩ := Kd.R_slice HO300.out; subst eo13; have p304 : 0 ≤ (t301 : Int) := oDt (by first | (with_reducible assumption) | assumption); have q304 : t301 < (y298.length : Int) := oDt (by first | (with_reducible assumption) | assumption); obtain ⟨ad304, e304, hx304_0⟩ := Kd.at_int (Kd.R_reads' HO300.out).2.2 t301 p304 q304; cases e304; replace p304 := eq_true p304; replace q304 := eq_true q304) | ((with_reducible refine gate_builtin (b := .append) (xs := #[.tmp 13, .tmp 19]) rfl ?_); at_builtin; refine Kd.R_append (Kd.int .i64) w.heap.size rfl (.tmp 13) (.tmp 19) 22 3 (.int .i64 0) 8 rfl Try.underlying22 info3 rfl (by decide) (by omega) u5 x5_1 (rd y298 t301) [.int .i64 (rd y298 t301)] (fun k_ => some k_ ≠ (.slice (some ad304) y298.length co13 : Value).ownBlock) (fun _ => False) rfl rfl ?aP (fun _ hk => hk.elim) ?aF ?aO (Below.refl _ _) ?aS ?aL ?_; (case aP => exact rfl); (case aF => exact (fun k_ hk => Kd.fresh' (Kd.R_lt (by (with_reducible repeat (first | apply Kd.R_alloc | apply Kd.R_drewN | apply Kd.R_drew)); exact HO300.out)) k_ hk)); (case aO => exact (by (with_reducible repeat (first | apply Kd.R_alloc | apply Kd.R_drewN | apply Kd.R_drew)); exact Kd.R_mono HO_5.out (fun _ hk => hk.2))); (case aS => exact (keep_size (w := w) (g := g) (row := none) (by repeat (first | (with_reducible first | exact HK.out | apply KeepBut.set_ | apply keep_drewN | apply keep_drew | apply keep_alloc) | exact HK.out)))); (case aL => have := LMc9.out; omega); intro v306 w14 ho hb hg hat; rw [← Ny305.out] at ho; have n0_ := aMk (IsS122.grown (IsS122.like HI0.out (by repeat (first | (with_reducible first | exact HI0.out | apply IsS122.alloc | apply IsS122.drewN | apply IsS122.drew | apply IsS122.set_1 | apply IsS122.set_2) | exact HI0.out))) hg (IsS122.own_ne HI0.out HO_5.out (by decide))); have n1_ := aMk (Kd.R_after (ok := (fun _ => True)) (by (with_reducible repeat (first | apply Kd.R_alloc | apply Kd.R_drewN | apply Kd.R_drew)); exact HO300.out) hg hat); have n2_ := aMk (below_weaken (by repeat (first | (with_reducible first | exact HB.out | apply bAl | apply bDn | apply bD1 | refine bSe ?_ (IsS122.ge HI0.out)) | exact HB.out)) HL.out hb); have n3_ := aMk (KeepBut.trans (by repeat (first | (with_reducible first | exact HK.out | apply KeepBut.set_ | apply keep_drewN | apply keep_drew | apply keep_alloc) | exact HK.out)) (KeepBut.of_grown hg g) (Kd.R_base2 HO_5.out)); have n4_ := aMk (ho); clear HI0; clear HO300; clear HB; clear HK; clear HO_5; have HI0 := n0_; have HO300 := n1_; have HB := n2_; have HK := n3_; have HO307 := n4_; clear n0_ n1_ n2_ n3_ n4_; clear ho hb hg hat))
           go_roundg k1
           case measure => have := HK1.out; omega
           case rel => exact ⟨(y305), (wrap64 (x6_1 + 1)), (t302), (t303), (by first | rfl | (simp; done) | (simp [*]; done)), H', ⟨by have := HK1.out; omega⟩, ⟨by (with_reducible repeat (first | apply Kd.R_alloc | apply Kd.R_drewN | apply Kd.R_drew)); exact Kd.R_mono HO307.out (fun _ hk => trivial)⟩, ⟨by repeat (first | (with_reducible first | exact HI0.out | apply IsS122.alloc | apply IsS122.drewN | apply IsS122.drew | apply IsS122.set_1 | apply IsS122.set_2) | exact HI0.out)⟩, ⟨by repeat (first | (with_reducible first | exact HK.out | apply KeepBut.set_ | apply keep_drewN | apply keep_drew | apply keep_alloc) | exact HK.out)⟩, ⟨by repeat (first | (with_reducible first | exact HB.out | apply bAl | apply bDn | apply bD1 | refine bSe ?_ (IsS122.ge HI0.out)) | exact HB.out)⟩⟩
         · rw [if_neg c9] at H
           exact absurd H (by simp)
       · rw [if_neg c8] at H
         exact absurd H (by simp)
     · rw [if_neg c7] at H
       exact absurd H (by simp)
   · rw [if_neg c5] at H
     have c5b0 : decide (x6_1 < a1) = false := decide_eq_false c5
     clear c5
     simp only [Option.some.injEq, Prod.mk.injEq] at H
     obtain ⟨rfl, rfl, rfl⟩ := H
     go_wp2
     go_ret
     exact ⟨_, by first | rfl | (simp [errW_none, errW_some] <;> rfl) | (simp [*, errW_none, errW_some] <;> rfl), by (with_reducible repeat (first | apply Kd.R_alloc | apply Kd.R_drewN | apply Kd.R_drew)); exact HO_5.out, by repeat (first | (with_reducible first | exact HI0.out | apply IsS122.alloc | apply IsS122.drewN | apply IsS122.drew | apply IsS122.set_1 | apply IsS122.set_2) | exact HI0.out), by repeat (first | (with_reducible first | exact HB.out | apply bAl | apply bDn | apply bD1 | refine bSe ?_ (IsS122.ge HI0.out)) | exact HB.out), by repeat (first | (with_reducible first | exact HK.out | apply KeepBut.set_ | apply keep_drewN | apply keep_drew | apply keep_alloc) | exact HK.out)⟩
def spec_DrawLevels.f (k : Nat) (l0 : List Int) : Option (List Int × Int) := (spec_l1New.f k l0).bind fun bt308 => ((spec_l1Size.f l0 60).bind fun t312 => ((spec_l14Text.f k bt308.1 bt308.2.1 bt308.2.2 t312).bind fun bt313 => ((spec_l1Below.f bt308.1 bt313.2.1 bt313.2.2 4).bind fun bt318 => (some (bt313.1, wrap64 (bt318.1 - 1))))))
set_option maxHeartbeats 8000000 in
set_option maxRecDepth 100000 in
theorem spec_DrawLevels.calls (k : Nat) (A0 : Option Addr) (c0 : Nat) (l0 : List Int) (r1 : List Int) (r2 : Int) (w : World) (hr0 : Kd.C (Kd.int .u8) w A0 l0.length l0) (hc0 : l0.length ≤ c0) (h : spec_DrawLevels.f k l0 = some (r1, r2)) :
 Calls Try.prog 43 #[.slice A0 l0.length c0] w fun e w' => ∃ v0_ : Value, e = .returned (.tuple #[v0_, .int .i64 r2]) ∧ Kd.R (Kd.int .i64) 3 w' w.heap.size (fun _ => True) v0_ r1 ∧ Below w.heap.size w w' := by
 have HR0 := aMk hr0
 have HC0 := aMk hc0
 clear hr0 hc0
 have HB := aMk (Below.refl w.heap.size w)
 have H : ((spec_l1New.f k l0).bind fun bt308 => ((spec_l1Size.f l0 60).bind fun t312 => ((spec_l14Text.f k bt308.1 bt308.2.1 bt308.2.2 t312).bind fun bt313 => ((spec_l1Below.f bt308.1 bt313.2.1 bt313.2.2 4).bind fun bt318 => (some (bt313.1, wrap64 (bt318.1 - 1))))))) = some (r1, r2) := h
 clear h
 replace H := oBm H
 obtain ⟨⟨t308, t309, t310⟩, A20, H⟩ := H
 replace H : ((spec_l1Size.f l0 60).bind fun t312 => ((spec_l14Text.f k t308 t309 t310 t312).bind fun bt313 => ((spec_l1Below.f t308 bt313.2.1 bt313.2.2 4).bind fun bt318 => (some (bt313.1, wrap64 (bt318.1 - 1)))))) = some (r1, r2) := H
 have A2 := aMk A20
 clear A20
 replace H := oBm H
 obtain ⟨t312, A30, H⟩ := H
 replace H : ((spec_l14Text.f k t308 t309 t310 t312).bind fun bt313 => ((spec_l1Below.f t308 bt313.2.1 bt313.2.2 4).bind fun bt318 => (some (bt313.1, wrap64 (bt318.1 - 1))))) = some (r1, r2) := H
 have A3 := aMk A30
 clear A30
 replace H := oBm H
 obtain ⟨⟨t313, t316, t317⟩, A40, H⟩ := H
 replace H : ((spec_l1Below.f t308 t316 t317 4).bind fun bt318 => (some (t313, wrap64 (bt318.1 - 1)))) = some (r1, r2) := H
 have A4 := aMk A40
 clear A40
 replace H := oBm H
 obtain ⟨⟨t318, t319, t320⟩, A50, H⟩ := H
 replace H : (some (t313, wrap64 (t318 - 1))) = some (r1, r2) := H
 have A5 := aMk A50
 clear A50
 simp only [Option.some.injEq, Prod.mk.injEq] at H
 obtain ⟨rfl, rfl⟩ := H
 go_enter Try.func43, Try.ntmps43
 go_wp2_with (first | ((with_reducible refine gate_callee (f := 65) rfl ?_); refine goesL_ (some 6) rfl rfl Try.func65 (by kernel_rfl) rfl #[.slice A0 l0.length c0] rfl (by (try simp only [List.map_toArray, List.map_cons, List.map_nil]); first | done | rfl | (simp only [List.length_drop, List.length_take]; rfl)) ?_; (with_reducible refine (spec_l1New.calls k _ _ l0 t308 t309 t310 w _ ?side1 ?side2 ?side3 A2.out).mono ?_); (case side1 => repeat (first | (with_reducible first | exact HB.out | apply bAl | apply bDn | apply bD1) | exact HB.out)); (case side2 => exact HR0.out); (case side3 => exact HC0.out); rintro e w6 ⟨g311, rfl, hi, hb, hb2⟩; refine ⟨_, rfl, ?_⟩; have n0_ := aMk (hb); have n1_ := aMk (hi); clear HB; have HB := n0_; have HI311 := n1_; clear n0_ n1_; (try clear hb); (try clear hb2); (try clear hk); (try clear hi)) | ((with_reducible refine gate_callee (f := 66) rfl ?_); refine goesL_ (some 9) rfl rfl Try.func66 (by kernel_rfl) rfl #[.slice A0 l0.length c0, .int .i64 60] rfl (by (try simp only [List.map_toArray, List.map_cons, List.map_nil]); first | done | rfl | (simp only [List.length_drop, List.length_take]; rfl)) ?_; (with_reducible refine (spec_l1Size.calls _ _ l0 60 t312 _ ?side1 ?side2 A3.out).mono ?_); (case side1 => repeat (first | exact (Kd.C_below HR0.out HB.out) | (with_reducible refine Kd.C_alloc ?_ _) | (with_reducible refine Kd.C_drewN ?_ _) | (with_reducible refine Kd.C_drew ?_))); (case side2 => exact HC0.out); rintro e w' ⟨rfl, ⟨nd, rfl⟩⟩; refine ⟨_, rfl, ?_⟩) | ((with_reducible refine gate_callee (f := 90) rfl ?_); refine goesL_ (some 10) rfl rfl Try.func90 (by kernel_rfl) rfl #[.pointer (some ⟨g311, 0, none⟩), .int .i64 t312] rfl (by (try simp only [List.map_toArray, List.map_cons, List.map_nil]); first | done | rfl | (simp only [List.length_drop, List.length_take]; rfl)) ?_; (with_reducible refine (spec_l14Text.calls k g311 t308 t309 t310 t312 t313 t316 t317 w _ ?side1 ?side2 A4.out).mono ?_); (case side1 => repeat (first | (with_reducible first | exact HI311.out | apply IsS122.alloc | apply IsS122.drewN | apply IsS122.drew | apply IsS122.set_1 | apply IsS122.set_2) | exact HI311.out)); (case side2 => repeat (first | (with_reducible first | exact HB.out | apply bAl | apply bDn | apply bD1 | refine bSe ?_ (IsS122.ge HI311.out)) | exact HB.out)); rintro e w7 ⟨v314, rfl, ho0, hi, hb, hk⟩; refine ⟨_, rfl, ?_⟩; have n0_ := aMk (Kd.R_lower ho0 (below_size (by repeat (first | (with_reducible first | exact HB.out | apply bAl | apply bDn | apply bD1 | refine bSe ?_ (IsS122.ge HI311.out)) | exact HB.out)))); have n1_ := aMk (hb); have n2_ := aMk (hi); clear HB; clear HI311; have HO315 := n0_; have HB := n1_; have HI311 := n2_; clear n0_ n1_ n2_; (try clear hb); (try clear hb2); (try clear hk); (try clear hi); (try clear ho0)) | ((with_reducible refine gate_callee (f := 67) rfl ?_); refine goesL_ (some 12) rfl rfl Try.func67 (by kernel_rfl) rfl #[.pointer (some ⟨g311, 0, none⟩), .int .i64 4] rfl (by (try simp only [List.map_toArray, List.map_cons, List.map_nil]); first | done | rfl | (simp only [List.length_drop, List.length_take]; rfl)) ?_; (with_reducible refine (spec_l1Below.calls g311 t308 t316 t317 4 t318 t319 t320 w _ ?side1 ?side2 A5.out).mono ?_); (case side1 => repeat (first | (with_reducible first | exact HI311.out | apply IsS122.alloc | apply IsS122.drewN | apply IsS122.drew | apply IsS122.set_1 | apply IsS122.set_2) | exact HI311.out)); (case side2 => repeat (first | (with_reducible first | exact HB.out | apply bAl | apply bDn | apply bD1 | refine bSe ?_ (IsS122.ge HI311.out)) | exact HB.out)); rintro e w8 ⟨rfl, hi, hb, hk⟩; refine ⟨_, rfl, ?_⟩; have n0_ := aMk (Kd.R_mono (Kd.R_keep (IsS122.apart (show IsS122 w _ g311 t308 t316 t317 from by repeat (first | (with_reducible first | exact HI311.out | apply IsS122.alloc | apply IsS122.drewN | apply IsS122.drew | apply IsS122.set_1 | apply IsS122.set_2) | exact HI311.out)) (by (with_reducible repeat (first | apply Kd.R_alloc | apply Kd.R_drewN | apply Kd.R_drew)); exact HO315.out) (by decide)) hk (fun _ h => h.2)) (fun _ h => h.1)); have n1_ := aMk (hb); have n2_ := aMk (hi); clear HO315; clear HB; clear HI311; have HO315 := n0_; have HB := n1_; have HI311 := n2_; clear n0_ n1_ n2_; (try clear hb); (try clear hb2); (try clear hk); (try clear hi)))
 go_ret2
 exact ⟨_, by first | rfl | (simp [errW_none, errW_some] <;> rfl) | (simp [*, errW_none, errW_some] <;> rfl), by (with_reducible repeat (first | apply Kd.R_alloc | apply Kd.R_drewN | apply Kd.R_drew)); exact HO315.out, by repeat (first | (with_reducible first | exact HB.out | apply bAl | apply bDn | apply bD1 | refine bSe ?_ (IsS122.ge HI311.out)) | exact HB.out)⟩
end Go.Proofs.Ytpknhndanbgkmaa.MFnLevels
