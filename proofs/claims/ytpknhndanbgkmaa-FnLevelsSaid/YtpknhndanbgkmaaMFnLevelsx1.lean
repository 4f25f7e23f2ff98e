-- Written by this session's own program (wip/gen/myprint.py).
import Derived.Test.YtpknhndanbgkmaaMFnLevelsx0
namespace Go.Proofs.Ytpknhndanbgkmaa.MFnLevels
open Go.RowKit Go.Proofs.YtpknhndanbgkmaaW.PrintWords Go.Proofs.YtpknhndanbgkmaaW.PrintLast Go.Proofs.YtpknhndanbgkmaaW.PrintMore
attribute [local go_sem] max2_int min2_int max_two min_two max_three min_three max_four min_four   -- for this text's walks alone
set_option linter.unusedVariables false
set_option linter.unusedSimpArgs false
def spec_l12In.f (a0 : Int) (a1 : Int) (a2 : Int) : Option (Bool) := if a0 ≥ a1 then (some (decide (a0 ≤ a2))) else (some false)
set_option maxHeartbeats 8000000 in
set_option maxRecDepth 100000 in
theorem spec_l12In.calls (a0 : Int) (a1 : Int) (a2 : Int) (r : Bool) (w : World) (h : spec_l12In.f a0 a1 a2 = some r) :
 Calls Try.prog 54 #[.int .i64 a0, .int .i64 a1, .int .i64 a2] w fun e w' => e = .returned (.bool r) ∧ Drawn0 w w' := by
 have H : (if a0 ≥ a1 then (some (decide (a0 ≤ a2))) else (some false)) = some r := h
 clear h
 by_cases c4 : a0 ≥ a1
 · rw [if_pos c4] at H
   have c4b0 : decide (a1 ≤ a0) = true := decide_eq_true c4
   clear c4
   obtain rfl := Option.some.inj H
   go_enter Try.func54, Try.ntmps54
   go_wp2
   go_ret
   exact ⟨by first | rfl | (simp; done) | (simp [*]; done), by repeat (first | exact Drawn0.refl _ | apply Drawn0.step)⟩
 · rw [if_neg c4] at H
   have c4b0 : decide (a1 ≤ a0) = false := decide_eq_false c4
   clear c4
   obtain rfl := Option.some.inj H
   go_enter Try.func54, Try.ntmps54
   go_wp2
   go_ret
   exact ⟨by first | rfl | (simp; done) | (simp [*]; done), by repeat (first | exact Drawn0.refl _ | apply Drawn0.step)⟩
mutual
def spec_Visual.l0 : Nat → List Int → List Int → Int → Int → Option (List Int)
 | 0, _, _, _, _ => none
 | k + 1, x0, x3, x4, x5 => if x5 < (x0.length : Int) then (if 0 ≤ x5 then ((spec_l12In.f (rd x0 x5) 0 125).bind fun t105 => (if t105 = true then (if (rd x0 x5) > x4 then (if x3.length < 17592186044416 then (spec_Visual.l0 k x0 (x3 ++ [x5]) (rd x0 x5) (wrap64 (x5 + 1))) else (none)) else (if x3.length < 17592186044416 then (spec_Visual.l0 k x0 (x3 ++ [x5]) x4 (wrap64 (x5 + 1))) else (none))) else (some (([] : List Int))))) else (none)) else (spec_Visual.l1 k x0 x3 x4)
def spec_Visual.l1 : Nat → List Int → List Int → Int → Option (List Int)
 | 0, _, _, _ => none
 | k + 1, x0, x3, x4 => if x4 > 0 then (spec_Visual.l2 k x0 x3 x4 0) else (some x3)
def spec_Visual.l2 : Nat → List Int → List Int → Int → Int → Option (List Int)
 | 0, _, _, _, _ => none
 | k + 1, x0, x3, x4, x6 => if x6 < (x3.length : Int) then (spec_Visual.l3 k x0 x3 x4 x6 x6) else (spec_Visual.l1 k x0 x3 (wrap64 (x4 - 1)))
def spec_Visual.j4 : Nat → List Int → List Int → Int → Int → Int → Option (List Int)
 | 0, _, _, _, _, _ => none
 | k + 1, x0, x3, x4, x6, x7 => spec_Visual.l4 k x0 x3 x4 x6 (wrap64 (x6 - 1)) x7
def spec_Visual.l4 : Nat → List Int → List Int → Int → Int → Int → Int → Option (List Int)
 | 0, _, _, _, _, _, _ => none
 | k + 1, x0, x3, x4, x6, x8, x9 => if x9 < x8 then (if 0 ≤ x9 then (if x9 < (x3.length : Int) then (if 0 ≤ x8 then (if x8 < (x3.length : Int) then (spec_Visual.l4 k x0 ((x3.set (x9 : Int).toNat (rd x3 x8)).set (x8 : Int).toNat (rd x3 x9)) x4 x6 (wrap64 (x8 - 1)) (wrap64 (x9 + 1))) else (none)) else (none)) else (none)) else (none)) else (spec_Visual.l2 k x0 x3 x4 (wrap64 (x6 + 1)))
def spec_Visual.l3 : Nat → List Int → List Int → Int → Int → Int → Option (List Int)
 | 0, _, _, _, _, _ => none
 | k + 1, x0, x3, x4, x6, x7 => if x6 < (x3.length : Int) then (if 0 ≤ x6 then (if 0 ≤ (rd x3 x6) then (if (rd x3 x6) < (x0.length : Int) then (if (rd x0 (rd x3 x6)) ≥ x4 then (spec_Visual.l3 k x0 x3 x4 (wrap64 (x6 + 1)) x7) else (spec_Visual.j4 k x0 x3 x4 x6 x7)) else (none)) else (none)) else (none)) else (spec_Visual.j4 k x0 x3 x4 x6 x7)
end
def spec_Visual.f (k : Nat) (l0 : List Int) : Option (List Int) := spec_Visual.l0 k l0 (([] : List Int)) 0 0
set_option maxHeartbeats 8000000 in
set_option maxRecDepth 100000 in
theorem spec_Visual.calls (k : Nat) (A0 : Option Addr) (c0 : Nat) (l0 : List Int) (r : List Int) (w : World) (hr0 : Kd.C (Kd.int .i64) w A0 l0.length l0) (hc0 : l0.length ≤ c0) (h : spec_Visual.f k l0 = some r) :
 Calls Try.prog 12 #[.slice A0 l0.length c0] w fun e w' => ∃ v0_ : Value, e = .returned (v0_) ∧ Kd.R (Kd.int .i64) 3 w' w.heap.size (fun _ => True) v0_ r ∧ Below w.heap.size w w' := by
 have HR0 := aMk hr0
 have HC0 := aMk hc0
 clear hr0 hc0
 have HB := aMk (Below.refl w.heap.size w)
 have H : (spec_Visual.l0 k l0 (([] : List Int)) 0 0) = some r := h
 clear h
 obtain ⟨y101, hy101⟩ : ∃ y_ : List Int, y_ = (([] : List Int)) := ⟨_, rfl⟩
 replace H : (spec_Visual.l0 k l0 y101 0 0) = some r := by first | (rw [hy101]; with_reducible exact H) | (have H2_ := (Option.bind_some _ _).symm.trans H; rw [hy101]; with_reducible exact H2_) | (have H2_ := (Option.bind_some _ _).symm.trans H; with_reducible exact H2_) | with_reducible exact H | (rw [hy101]; exact H) | exact H
 have Ny101 := aMk hy101
 clear hy101
 have H' := aMk H
 clear H
 go_enter Try.func12, Try.ntmps12
 go_wp2_with (first | ((with_reducible refine gate_dst (N := 11) rfl ?_); refine Kd.R_lit (Kd.int .i64) _ 3 ?hg (N := 11) ?hd (xs := ([] : List Int)) (inner := []) (ok := fun _ => True) (okp := fun _ => True) ?hr ?hp (fun _ hk => hk) trivial (Below.refl _ _) (Nat.le_refl _) (by simp) ?_; (case hd => rfl); (case hg => rfl); (case hr => first | (go_simp; done) | (go_simp; rfl)); (case hp => exact (Reps.none _ _)); intro v102 w2 ho3 hb hg_ hnew_; clear hg_ hnew_; (first | rw [← Ny101.out] at ho3 | (simp only [Int.reduceToNat] at ho3; rw [← Ny101.out] at ho3)); have n0_ := aMk (Kd.R_lower ho3 (below_size (by repeat (first | (with_reducible first | exact HB.out | apply bAl | apply bDn | apply bD1) | exact HB.out)))); have n1_ := aMk (below_step (by repeat (first | (with_reducible first | exact HB.out | apply bAl | apply bDn | apply bD1) | exact HB.out)) hb); clear HB; have HO103 := n0_; have HB := n1_; clear n0_ n1_; clear hb ho3))
 go_loopg [3, 4, 5] k (fun kq v3 v4 v5 w' => ∃ (x3_1 : List Int) (x4_1 : Int) (x5_1 : Int), v4 = .int .i64 x4_1 ∧ v5 = .int .i64 x5_1 ∧ Aside0 (spec_Visual.l0 kq l0 x3_1 x4_1 x5_1 = some r) ∧ Aside0 (kq ≤ k) ∧ Aside0 (Kd.R (Kd.int .i64) 3 w' w.heap.size (fun _ => True) v3 x3_1) ∧ Aside0 (Below w.heap.size w w'))
 case atStart => exact ⟨(y101), (0), (0), (by first | rfl | (simp; done) | (simp [*]; done)), (by first | rfl | (simp; done) | (simp [*]; done)), H', ⟨Nat.le_refl _⟩, ⟨by (with_reducible repeat (first | apply Kd.R_alloc | apply Kd.R_drewN | apply Kd.R_drew)); exact HO103.out⟩, ⟨by repeat (first | (with_reducible first | exact HB.out | apply bAl | apply bDn | apply bD1) | exact HB.out)⟩⟩
 case round =>
  clear H'
  (try clear c1); (try clear p2)
  obtain ⟨x3_1, x4_1, x5_1, rfl, rfl, HA, HK1, HO_3, HB⟩ := hrel
  cases gk with
  | zero => exact absurd HA.out (by simp [spec_Visual.l0])
  | succ k1 =>
   have H := HA.out
   clear HA
   simp only [spec_Visual.l0] at H
   by_cases c4 : x5_1 < (l0.length : Int)
   · rw [if_pos c4] at H
     have c4b0 : decide (x5_1 < (l0.length : Int)) = true := decide_eq_true c4
     clear c4
     by_cases c5 : 0 ≤ x5_1
     · rw [if_pos c5] at H
       have c5b0 : decide (0 ≤ x5_1) = true := decide_eq_true c5
       clear c5
       replace H := oBm H
       obtain ⟨t105, A60, H⟩ := H
       replace H : (if t105 = true then (if (rd l0 x5_1) > x4_1 then (if x3_1.length < 17592186044416 then (spec_Visual.l0 k1 l0 (x3_1 ++ [x5_1]) (rd l0 x5_1) (wrap64 (x5_1 + 1))) else (none)) else (if x3_1.length < 17592186044416 then (spec_Visual.l0 k1 l0 (x3_1 ++ [x5_1]) x4_1 (wrap64 (x5_1 + 1))) else (none))) else (some (([] : List Int)))) = some r := H
       have A6 := aMk A60
       clear A60
       by_cases c7 : t105 = true
       · subst c7
         have H1 : (if (rd l0 x5_1) > x4_1 then (if x3_1.length < 17592186044416 then (spec_Visual.l0 k1 l0 (x3_1 ++ [x5_1]) (rd l0 x5_1) (wrap64 (x5_1 + 1))) else (none)) else (if x3_1.length < 17592186044416 then (spec_Visual.l0 k1 l0 (x3_1 ++ [x5_1]) x4_1 (wrap64 (x5_1 + 1))) else (none))) = some r := by rw [if_pos rfl] at H; exact H
         clear H
         have H := H1
         clear H1
         by_cases c8 : (rd l0 x5_1) > x4_1
         · rw [if_pos c8] at H
           have c8b0 : decide (x4_1 < (rd l0 x5_1)) = true := decide_eq_true c8
           clear c8
           by_cases c9 : x3_1.length < 17592186044416
           · rw [if_pos c9] at H
             have LMc9 := aMk c9
             clear c9
             obtain ⟨y108, hy108⟩ : ∃ y_ : List Int, y_ = (x3_1 ++ [x5_1]) := ⟨_, rfl⟩
             replace H : (spec_Visual.l0 k1 l0 y108 (rd l0 x5_1) (wrap64 (x5_1 + 1))) = some r := by first | (rw [hy108]; with_reducible exact H) | (have H2_ := (Option.bind_some _ _).symm.trans H; rw [hy108]; with_reducible exact H2_) | (have H2_ := (Option.bind_some _ _).symm.trans H; with_reducible exact H2_) | with_reducible exact H | (rw [hy108]; exact H) | exact H
             have Ny108 := aMk hy108
             clear hy108
             have H' := aMk H
             clear H
             have p104 : 0 ≤ (x5_1 : Int) := oDt (by first | (with_reducible assumption) | assumption)
             have q104 : x5_1 < (l0.length : Int) := oDt (by first | (with_reducible assumption) | assumption)
             obtain ⟨ad104, e104, hx104_0⟩ := Kd.at_int HR0.out x5_1 p104 q104
             cases e104
             replace hx104_0 := (HB.out.cell (wBl w _ hx104_0)).trans hx104_0
             replace p104 := eq_true p104
             replace q104 := eq_true q104
             go_wp2_with (first | ((with_reducible refine gate_callee (f := 54) rfl ?_); refine goesL_ (some 22) rfl rfl Try.func54 (by kernel_rfl) rfl #[.int .i64 (rd l0 x5_1), .int .i64 0, .int .i64 125] rfl (by (try simp only [List.map_toArray, List.map_cons, List.map_nil]); first | done | rfl | (simp only [List.length_drop, List.length_take]; rfl)) ?_; (with_reducible refine (spec_l12In.calls (rd l0 x5_1) 0 125 true _ A6.out).mono ?_); rintro e w' ⟨rfl, ⟨nd, rfl⟩⟩; refine ⟨_, rfl, ?_⟩; have p106 : 0 ≤ (x5_1 : Int) := oDt (by first | (with_reducible assumption) | assumption); have q106 : x5_1 < (l0.length : Int) := oDt (by first | (with_reducible assumption) | assumption); obtain ⟨ad106, e106, hx106_0⟩ := Kd.at_int HR0.out x5_1 p106 q106; obtain rfl : ad104 = ad106 := (by injection e106); replace hx106_0 := (HB.out.cell (wBl w _ hx106_0)).trans hx106_0; replace p106 := eq_true p106; replace q106 := eq_true q106; have p107 : 0 ≤ (x5_1 : Int) := oDt (by first | (with_reducible assumption) | assumption); have q107 : x5_1 < (l0.length : Int) := oDt (by first | (with_reducible assumption) | assumption); obtain ⟨ad107, e107, hx107_0⟩ := Kd.at_int HR0.out x5_1 p107 q107; obtain rfl : ad104 = ad107 := (by injection e107); replace hx107_0 := (HB.out.cell (wBl w _ hx107_0)).trans hx107_0; replace p107 := eq_true p107; replace q107 := eq_true q107) | ((with_reducible refine gate_builtin (b := .append) (xs := #[.tmp 35, .tmp 37]) rfl ?_); at_builtin; refine Kd.R_append (Kd.int .i64) (w0 := w) w.heap.size rfl (.tmp 35) (.tmp 37) 22 3 (.int .i64 0) 8 rfl Try.underlying22 info3 rfl (by decide) (by omega) u3 x3_1 x5_1 [.int .i64 x5_1] (fun _ => True) (fun _ => False) rfl rfl ?aP (fun _ hk => hk.elim) ?aF ?aO ?aB ?aS ?aL ?_; (case aP => exact rfl); (case aB => exact (by repeat (first | (with_reducible first | exact HB.out | apply bAl | apply bDn | apply bD1) | exact HB.out))); (case aF => exact (fun _ _ => trivial)); (case aO => exact (by (with_reducible repeat (first | apply Kd.R_alloc | apply Kd.R_drewN | apply Kd.R_drew)); exact HO_3.out)); (case aS => exact (below_size (by repeat (first | (with_reducible first | exact HB.out | apply bAl | apply bDn | apply bD1) | exact HB.out)))); (case aL => have := LMc9.out; omega); intro v109 w10 ho hb hg hat; rw [← Ny108.out] at ho; have n0_ := aMk (hb); have n1_ := aMk (ho); clear HB; clear HO_3; have HB := n0_; have HO110 := n1_; clear n0_ n1_; clear ho hb hg hat))
             go_roundg k1
             case measure => have := HK1.out; omega
             case rel => exact ⟨(y108), (rd l0 x5_1), (wrap64 (x5_1 + 1)), (by first | rfl | (simp; done) | (simp [*]; done)), (by first | rfl | (simp; done) | (simp [*]; done)), H', ⟨by have := HK1.out; omega⟩, ⟨by (with_reducible repeat (first | apply Kd.R_alloc | apply Kd.R_drewN | apply Kd.R_drew)); exact HO110.out⟩, ⟨by repeat (first | (with_reducible first | exact HB.out | apply bAl | apply bDn | apply bD1) | exact HB.out)⟩⟩
           · rw [if_neg c9] at H
             exact absurd H (by simp)
         · rw [if_neg c8] at H
           have c8b0 : decide (x4_1 < (rd l0 x5_1)) = false := decide_eq_false c8
           clear c8
           by_cases c11 : x3_1.length < 17592186044416
           · rw [if_pos c11] at H
             have LMc11 := aMk c11
             clear c11
             obtain ⟨y111, hy111⟩ : ∃ y_ : List Int, y_ = (x3_1 ++ [x5_1]) := ⟨_, rfl⟩
             replace H : (spec_Visual.l0 k1 l0 y111 x4_1 (wrap64 (x5_1 + 1))) = some r := by first | (rw [hy111]; with_reducible exact H) | (have H2_ := (Option.bind_some _ _).symm.trans H; rw [hy111]; with_reducible exact H2_) | (have H2_ := (Option.bind_some _ _).symm.trans H; with_reducible exact H2_) | with_reducible exact H | (rw [hy111]; exact H) | exact H
             have Ny111 := aMk hy111
             clear hy111
             have H' := aMk H
             clear H
             have p104 : 0 ≤ (x5_1 : Int) := oDt (by first | (with_reducible assumption) | assumption)
             have q104 : x5_1 < (l0.length : Int) := oDt (by first | (with_reducible assumption) | assumption)
             obtain ⟨ad104, e104, hx104_0⟩ := Kd.at_int HR0.out x5_1 p104 q104
             cases e104
             replace hx104_0 := (HB.out.cell (wBl w _ hx104_0)).trans hx104_0
             replace p104 := eq_true p104
             replace q104 := eq_true q104
             go_wp2_with (first | ((with_reducible refine gate_callee (f := 54) rfl ?_); refine goesL_ (some 22) rfl rfl Try.func54 (by kernel_rfl) rfl #[.int .i64 (rd l0 x5_1), .int .i64 0, .int .i64 125] rfl (by (try simp only [List.map_toArray, List.map_cons, List.map_nil]); first | done | rfl | (simp only [List.length_drop, List.length_take]; rfl)) ?_; (with_reducible refine (spec_l12In.calls (rd l0 x5_1) 0 125 true _ A6.out).mono ?_); rintro e w' ⟨rfl, ⟨nd, rfl⟩⟩; refine ⟨_, rfl, ?_⟩; have p106 : 0 ≤ (x5_1 : Int) := oDt (by first | (with_reducible assumption) | assumption); have q106 : x5_1 < (l0.length : Int) := oDt (by first | (with_reducible assumption) | assumption); obtain ⟨ad106, e106, hx106_0⟩ := Kd.at_int HR0.out x5_1 p106 q106; obtain rfl : ad104 = ad106 := (by injection e106); replace hx106_0 := (HB.out.cell (wBl w _ hx106_0)).trans hx106_0; replace p106 := eq_true p106; replace q106 := eq_true q106) | ((with_reducible refine gate_builtin (b := .append) (xs := #[.tmp 35, .tmp 37]) rfl ?_); at_builtin; refine Kd.R_append (Kd.int .i64) (w0 := w) w.heap.size rfl (.tmp 35) (.tmp 37) 22 3 (.int .i64 0) 8 rfl Try.underlying22 info3 rfl (by decide) (by omega) u3 x3_1 x5_1 [.int .i64 x5_1] (fun _ => True) (fun _ => False) rfl rfl ?aP (fun _ hk => hk.elim) ?aF ?aO ?aB ?aS ?aL ?_; (case aP => exact rfl); (case aB => exact (by repeat (first | (with_reducible first | exact HB.out | apply bAl | apply bDn | apply bD1) | exact HB.out))); (case aF => exact (fun _ _ => trivial)); (case aO => exact (by (with_reducible repeat (first | apply Kd.R_alloc | apply Kd.R_drewN | apply Kd.R_drew)); exact HO_3.out)); (case aS => exact (below_size (by repeat (first | (with_reducible first | exact HB.out | apply bAl | apply bDn | apply bD1) | exact HB.out)))); (case aL => have := LMc11.out; omega); intro v112 w12 ho hb hg hat; rw [← Ny111.out] at ho; have n0_ := aMk (hb); have n1_ := aMk (ho); clear HB; clear HO_3; have HB := n0_; have HO113 := n1_; clear n0_ n1_; clear ho hb hg hat))
             go_roundg k1
             case measure => have := HK1.out; omega
             case rel => exact ⟨(y111), (x4_1), (wrap64 (x5_1 + 1)), (by first | rfl | (simp; done) | (simp [*]; done)), (by first | rfl | (simp; done) | (simp [*]; done)), H', ⟨by have := HK1.out; omega⟩, ⟨by (with_reducible repeat (first | apply Kd.R_alloc | apply Kd.R_drewN | apply Kd.R_drew)); exact HO113.out⟩, ⟨by repeat (first | (with_reducible first | exact HB.out | apply bAl | apply bDn | apply bD1) | exact HB.out)⟩⟩
           · rw [if_neg c11] at H
             exact absurd H (by simp)
       · replace c7 := Bool.eq_false_iff.mpr c7
         subst c7
         have H1 : (some (([] : List Int))) = some r := by rw [if_neg (show ¬ (false = true) by decide)] at H; exact H
         clear H
         have H := H1
         clear H1
         obtain ⟨y114, hy114⟩ : ∃ y_ : List Int, y_ = (([] : List Int)) := ⟨_, rfl⟩
         replace H : (some y114) = some r := by first | (rw [hy114]; with_reducible exact H) | (have H2_ := (Option.bind_some _ _).symm.trans H; rw [hy114]; with_reducible exact H2_) | (have H2_ := (Option.bind_some _ _).symm.trans H; with_reducible exact H2_) | with_reducible exact H | (rw [hy114]; exact H) | exact H
         have Ny114 := aMk hy114
         clear hy114
         obtain rfl := Option.some.inj H
         have p104 : 0 ≤ (x5_1 : Int) := oDt (by first | (with_reducible assumption) | assumption)
         have q104 : x5_1 < (l0.length : Int) := oDt (by first | (with_reducible assumption) | assumption)
         obtain ⟨ad104, e104, hx104_0⟩ := Kd.at_int HR0.out x5_1 p104 q104
         cases e104
         replace hx104_0 := (HB.out.cell (wBl w _ hx104_0)).trans hx104_0
         replace p104 := eq_true p104
         replace q104 := eq_true q104
         go_wp2_with (first | ((with_reducible refine gate_callee (f := 54) rfl ?_); refine goesL_ (some 22) rfl rfl Try.func54 (by kernel_rfl) rfl #[.int .i64 (rd l0 x5_1), .int .i64 0, .int .i64 125] rfl (by (try simp only [List.map_toArray, List.map_cons, List.map_nil]); first | done | rfl | (simp only [List.length_drop, List.length_take]; rfl)) ?_; (with_reducible refine (spec_l12In.calls (rd l0 x5_1) 0 125 false _ A6.out).mono ?_); rintro e w' ⟨rfl, ⟨nd, rfl⟩⟩; refine ⟨_, rfl, ?_⟩) | ((with_reducible refine gate_dst (N := 24) rfl ?_); refine Kd.R_lit (Kd.int .i64) _ 3 ?hg (N := 24) ?hd (xs := ([] : List Int)) (inner := []) (ok := fun _ => True) (okp := fun _ => True) ?hr ?hp (fun _ hk => hk) trivial (Below.refl _ _) (Nat.le_refl _) (by simp) ?_; (case hd => rfl); (case hg => rfl); (case hr => first | (go_simp; done) | (go_simp; rfl)); (case hp => exact (Reps.none _ _)); intro v115 w13 ho14 hb hg_ hnew_; clear hg_ hnew_; (first | rw [← Ny114.out] at ho14 | (simp only [Int.reduceToNat] at ho14; rw [← Ny114.out] at ho14)); have n0_ := aMk (Kd.R_elder' (by (with_reducible repeat (first | apply Kd.R_alloc | apply Kd.R_drewN | apply Kd.R_drew)); exact HO_3.out) (Kd.R_base ho14) hb); have n1_ := aMk (Kd.R_lower (Kd.R_new' ho14 (Kd.R_lt (by (with_reducible repeat (first | apply Kd.R_alloc | apply Kd.R_drewN | apply Kd.R_drew)); exact HO_3.out))) (below_size (by repeat (first | (with_reducible first | exact HB.out | apply bAl | apply bDn | apply bD1) | exact HB.out)))); have n2_ := aMk (below_step (by repeat (first | (with_reducible first | exact HB.out | apply bAl | apply bDn | apply bD1) | exact HB.out)) hb); clear HO_3; clear HB; have HO_3 := n0_; have HO116 := n1_; have HB := n2_; clear n0_ n1_ n2_; clear hb ho14))
         go_ret
         exact ⟨_, by first | rfl | (simp [errW_none, errW_some] <;> rfl) | (simp [*, errW_none, errW_some] <;> rfl), by (with_reducible repeat (first | apply Kd.R_alloc | apply Kd.R_drewN | apply Kd.R_drew)); exact Kd.R_mono HO116.out (fun _ hk => trivial), by repeat (first | (with_reducible first | exact HB.out | apply bAl | apply bDn | apply bD1) | exact HB.out)⟩
     · rw [if_neg c5] at H
       exact absurd H (by simp)
   · rw [if_neg c4] at H
     have c4b0 : decide (x5_1 < (l0.length : Int)) = false := decide_eq_false c4
     clear c4
     have H' := aMk H
     clear H
     go_wp2
     go_loopg [4] k1 (fun kq v4 w' => ∃ (x3_2 : List Int) (x4_2 : Int), v4 = .int .i64 x4_2 ∧ Aside0 (spec_Visual.l1 kq l0 x3_2 x4_2 = some r) ∧ Aside0 (kq ≤ k1) ∧ Aside0 (Kd.R (Kd.int .i64) 3 w' w.heap.size (fun _ => True) u3 x3_2) ∧ Aside0 (Below w.heap.size w w'))
     case atStart => exact ⟨(x3_1), (x4_1), (by first | rfl | (simp; done) | (simp [*]; done)), H', ⟨Nat.le_refl _⟩, ⟨by (with_reducible repeat (first | apply Kd.R_alloc | apply Kd.R_drewN | apply Kd.R_drew)); exact HO_3.out⟩, ⟨by repeat (first | (with_reducible first | exact HB.out | apply bAl | apply bDn | apply bD1) | exact HB.out)⟩⟩
     case round =>
      clear H'
      (try clear c1); (try clear p1); (try clear q1); (try clear hx1); (try clear p2); (try clear c4); (try clear c4b0); (try clear c5); (try clear c5b0); (try clear p6); (try clear c7); (try clear c8); (try clear c8b0); (try clear c9); (try clear p10); (try clear q10); (try clear hx10); (try clear c11); (try clear c12); (try clear hx104_0); (try clear hx106_0); (try clear hx107_0); (try clear p104); (try clear p106); (try clear p107); (try clear p2); (try clear q104); (try clear q106); (try clear q107)
      obtain ⟨x3_2, x4_2, rfl, HA, HK2, HO_3, HB⟩ := hrel
      cases gk with
      | zero => exact absurd HA.out (by simp [spec_Visual.l1])
      | succ k2 =>
       have H := HA.out
       clear HA
       simp only [spec_Visual.l1] at H
       by_cases c15 : x4_2 > 0
       · rw [if_pos c15] at H
         have c15b0 : decide (0 < x4_2) = true := decide_eq_true c15
         clear c15
         have H' := aMk H
         clear H
         go_wp2
         go_loopg [6] k2 (fun kq v6 w' => ∃ (x3_3 : List Int) (x6_3 : Int), v6 = .int .i64 x6_3 ∧ Aside0 (spec_Visual.l2 kq l0 x3_3 x4_2 x6_3 = some r) ∧ Aside0 (kq ≤ k2) ∧ Aside0 (Kd.R (Kd.int .i64) 3 w' w.heap.size (fun _ => True) u3 x3_3) ∧ Aside0 (Below w.heap.size w w'))
         case atStart => exact ⟨(x3_2), (0), (by first | rfl | (simp; done) | (simp [*]; done)), H', ⟨Nat.le_refl _⟩, ⟨by (with_reducible repeat (first | apply Kd.R_alloc | apply Kd.R_drewN | apply Kd.R_drew)); exact HO_3.out⟩, ⟨by repeat (first | (with_reducible first | exact HB.out | apply bAl | apply bDn | apply bD1) | exact HB.out)⟩⟩
         case round =>
          clear H'
          (try clear c1); (try clear p1); (try clear q1); (try clear hx1); (try clear p2); (try clear c4); (try clear c4b0); (try clear c5); (try clear c5b0); (try clear p6); (try clear c7); (try clear c8); (try clear c8b0); (try clear c9); (try clear p10); (try clear q10); (try clear hx10); (try clear c11); (try clear c12); (try clear c15); (try clear c15b0); (try clear hx104_0); (try clear hx106_0); (try clear hx107_0); (try clear p1); (try clear p10); (try clear p104); (try clear p106); (try clear p107); (try clear p2); (try clear p6); (try clear q1); (try clear q10); (try clear q104); (try clear q106); (try clear q107)
          obtain ⟨x3_3, x6_3, rfl, HA, HK3, HO_3, HB⟩ := hrel
          cases gk with
          | zero => exact absurd HA.out (by simp [spec_Visual.l2])
          | succ k3 =>
           have H := HA.out
           clear HA
           simp only [spec_Visual.l2] at H
           by_cases c16 : x6_3 < (x3_3.length : Int)
           · rw [if_pos c16] at H
             have c16b0 : decide (x6_3 < (x3_3.length : Int)) = true := decide_eq_true c16
             clear c16
             have HC17 := aMk H
             clear H
             obtain ⟨Ao18, co18, eo18⟩ := Kd.R_slice HO_3.out
             subst eo18
             go_upto_block 6 with (fail)
             go_cut [6] (fun v6 wc => ∃ (kq : Nat) (x6_16 : Int), v6 = .int .i64 x6_16 ∧ Aside0 (spec_Visual.j4 kq l0 x3_3 x4_2 x6_16 x6_3 = some r) ∧ Aside0 (kq ≤ k3) ∧ Aside0 (Kd.R (Kd.int .i64) 3 wc w.heap.size (fun _ => True) (.slice Ao18 x3_3.length co18) x3_3) ∧ Aside0 (Below w.heap.size w wc))
             case first =>
              have H := HC17.out
              clear HC17
              have H' := aMk H
              clear H
              go_wp2
              go_loopg [6] k3 (fun kq v6 w' => ∃ (x6_4 : Int), v6 = .int .i64 x6_4 ∧ Aside0 (spec_Visual.l3 kq l0 x3_3 x4_2 x6_4 x6_3 = some r) ∧ Aside0 (kq ≤ k3) ∧ Aside0 (Kd.R (Kd.int .i64) 3 w' w.heap.size (fun _ => True) (.slice Ao18 x3_3.length co18) x3_3) ∧ Aside0 (Below w.heap.size w w'))
              case atStart => exact ⟨(x6_3), (by first | rfl | (simp; done) | (simp [*]; done)), H', ⟨Nat.le_refl _⟩, ⟨by (with_reducible repeat (first | apply Kd.R_alloc | apply Kd.R_drewN | apply Kd.R_drew)); exact HO_3.out⟩, ⟨by repeat (first | (with_reducible first | exact HB.out | apply bAl | apply bDn | apply bD1) | exact HB.out)⟩⟩
              case round =>
               clear H'
               (try clear c1); (try clear p1); (try clear q1); (try clear hx1); (try clear p2); (try clear c4); (try clear c4b0); (try clear c5); (try clear c5b0); (try clear p6); (try clear c7); (try clear c8); (try clear c8b0); (try clear c9); (try clear p10); (try clear q10); (try clear hx10); (try clear c11); (try clear c12); (try clear c15); (try clear c15b0); (try clear c16); (try clear c16b0); (try clear hx104_0); (try clear hx106_0); (try clear hx107_0); (try clear p1); (try clear p10); (try clear p104); (try clear p106); (try clear p107); (try clear p2); (try clear p6); (try clear q1); (try clear q10); (try clear q104); (try clear q106); (try clear q107)
               obtain ⟨x6_4, rfl, HA, HK4, HO_3, HB⟩ := hrel
               cases gk with
               | zero => exact absurd HA.out (by simp [spec_Visual.l3])
               | succ k4 =>
                have H := HA.out
                clear HA
                simp only [spec_Visual.l3] at H
                by_cases c19 : x6_4 < (x3_3.length : Int)
                · rw [if_pos c19] at H
                  have c19b0 : decide (x6_4 < (x3_3.length : Int)) = true := decide_eq_true c19
                  clear c19
                  (first | rw [c19b0] | (simp only [i64_w, i32_w]; rw [c19b0]) | skip)
                  by_cases c20 : 0 ≤ x6_4
                  · rw [if_pos c20] at H
                    have c20b0 : decide (0 ≤ x6_4) = true := decide_eq_true c20
                    clear c20
                    by_cases c21 : 0 ≤ (rd x3_3 x6_4)
                    · rw [if_pos c21] at H
                      have c21b0 : decide (0 ≤ (rd x3_3 x6_4)) = true := decide_eq_true c21
                      clear c21
                      by_cases c22 : (rd x3_3 x6_4) < (l0.length : Int)
                      · rw [if_pos c22] at H
                        have c22b0 : decide ((rd x3_3 x6_4) < (l0.length : Int)) = true := decide_eq_true c22
                        clear c22
                        by_cases c23 : (rd l0 (rd x3_3 x6_4)) ≥ x4_2
                        · rw [if_pos c23] at H
                          have c23b0 : decide (x4_2 ≤ (rd l0 (rd x3_3 x6_4))) = true := decide_eq_true c23
                          clear c23
                          have H' := aMk H
                          clear H
                          have p117 : 0 ≤ (x6_4 : Int) := oDt (by first | (with_reducible assumption) | assumption)
                          have q117 : x6_4 < (x3_3.length : Int) := oDt (by first | (with_reducible assumption) | assumption)
                          obtain ⟨ad117, e117, hx117_0⟩ := Kd.at_int (Kd.R_reads' HO_3.out).2.2 x6_4 p117 q117
                          cases e117
                          replace p117 := eq_true p117
                          replace q117 := eq_true q117
                          have p118 : 0 ≤ ((rd x3_3 x6_4) : Int) := oDt (by first | (with_reducible assumption) | assumption)
                          have q118 : (rd x3_3 x6_4) < (l0.length : Int) := oDt (by first | (with_reducible assumption) | assumption)
                          obtain ⟨ad118, e118, hx118_0⟩ := Kd.at_int HR0.out (rd x3_3 x6_4) p118 q118
                          cases e118
                          replace hx118_0 := (HB.out.cell (wBl w _ hx118_0)).trans hx118_0
                          replace p118 := eq_true p118
                          replace q118 := eq_true q118
                          go_wp2
                          go_roundg k4
                          case measure => have := HK1.out; have := HK2.out; have := HK3.out; have := HK4.out; omega
                          case rel => exact ⟨(wrap64 (x6_4 + 1)), (by first | rfl | (simp; done) | (simp [*]; done)), H', ⟨by have := HK1.out; have := HK2.out; have := HK3.out; have := HK4.out; omega⟩, ⟨by (with_reducible repeat (first | apply Kd.R_alloc | apply Kd.R_drewN | apply Kd.R_drew)); exact HO_3.out⟩, ⟨by repeat (first | (with_reducible first | exact HB.out | apply bAl | apply bDn | apply bD1) | exact HB.out)⟩⟩
                        · rw [if_neg c23] at H
                          have c23b0 : decide (x4_2 ≤ (rd l0 (rd x3_3 x6_4))) = false := decide_eq_false c23
                          clear c23
                          have H' := aMk H
                          clear H
                          have p117 : 0 ≤ (x6_4 : Int) := oDt (by first | (with_reducible assumption) | assumption)
                          have q117 : x6_4 < (x3_3.length : Int) := oDt (by first | (with_reducible assumption) | assumption)
                          obtain ⟨ad117, e117, hx117_0⟩ := Kd.at_int (Kd.R_reads' HO_3.out).2.2 x6_4 p117 q117
                          cases e117
                          replace p117 := eq_true p117
                          replace q117 := eq_true q117
                          have p118 : 0 ≤ ((rd x3_3 x6_4) : Int) := oDt (by first | (with_reducible assumption) | assumption)
                          have q118 : (rd x3_3 x6_4) < (l0.length : Int) := oDt (by first | (with_reducible assumption) | assumption)
                          obtain ⟨ad118, e118, hx118_0⟩ := Kd.at_int HR0.out (rd x3_3 x6_4) p118 q118
                          cases e118
                          replace hx118_0 := (HB.out.cell (wBl w _ hx118_0)).trans hx118_0
                          replace p118 := eq_true p118
                          replace q118 := eq_true q118
                          go_wp2
                          go_meet
                          case rel => exact ⟨_, (x6_4), (by first | rfl | (simp; done) | (simp [*]; done)), H', ⟨by have := HK1.out; have := HK2.out; have := HK3.out; have := HK4.out; first | omega | exact Nat.le_refl _⟩, ⟨by (with_reducible repeat (first | apply Kd.R_alloc | apply Kd.R_drewN | apply Kd.R_drew)); exact HO_3.out⟩, ⟨by repeat (first | (with_reducible first | exact HB.out | apply bAl | apply bDn | apply bD1) | exact HB.out)⟩⟩
                      · rw [if_neg c22] at H
                        exact absurd H (by simp)
                    · rw [if_neg c21] at H
                      exact absurd H (by simp)
                  · rw [if_neg c20] at H
                    exact absurd H (by simp)
                · rw [if_neg c19] at H
                  have c19b0 : decide (x6_4 < (x3_3.length : Int)) = false := decide_eq_false c19
                  clear c19
                  (first | rw [c19b0] | (simp only [i64_w, i32_w]; rw [c19b0]) | skip)
                  have H' := aMk H
                  clear H
                  go_wp2
                  go_meet
                  case rel => exact ⟨_, (x6_4), (by first | rfl | (simp; done) | (simp [*]; done)), H', ⟨by have := HK1.out; have := HK2.out; have := HK3.out; have := HK4.out; first | omega | exact Nat.le_refl _⟩, ⟨by (with_reducible repeat (first | apply Kd.R_alloc | apply Kd.R_drewN | apply Kd.R_drew)); exact HO_3.out⟩, ⟨by repeat (first | (with_reducible first | exact HB.out | apply bAl | apply bDn | apply bD1) | exact HB.out)⟩⟩
             case rest =>
              clear HC17
              (try clear c1); (try clear p1); (try clear q1); (try clear hx1); (try clear c2); (try clear p2); (try clear c4); (try clear c4b0); (try clear c5); (try clear c5b0); (try clear p6); (try clear c7); (try clear c8); (try clear c8b0); (try clear c9); (try clear p10); (try clear q10); (try clear hx10); (try clear c11); (try clear p11); (try clear q11); (try clear hx11); (try clear c12); (try clear c15); (try clear c15b0); (try clear c16); (try clear c16b0); (try clear c19); (try clear c19b0); (try clear c20); (try clear c20b0); (try clear c21); (try clear c21b0); (try clear c22); (try clear c22b0); (try clear c23); (try clear c23b0); (try clear hx104_0); (try clear hx106_0); (try clear hx107_0); (try clear hx117_0); (try clear hx118_0); (try clear p1); (try clear p10); (try clear p104); (try clear p106); (try clear p107); (try clear p117); (try clear p118); (try clear p2); (try clear p6); (try clear q1); (try clear q10); (try clear q104); (try clear q106); (try clear q107); (try clear q117); (try clear q118)
              obtain ⟨kq, x6_16, rfl, HA, HJ16, HO_3, HB⟩ := hcut
              cases kq with
              | zero => exact absurd HA.out (by simp [spec_Visual.j4])
              | succ kj16 =>
               have H := HA.out
               clear HA
               simp only [spec_Visual.j4] at H
               have H' := aMk H
               clear H
               go_wp2
               go_loopg [8, 9] kj16 (fun kq v8 v9 w' => ∃ (x3_5 : List Int) (x8_5 : Int) (x9_5 : Int), v8 = .int .i64 x8_5 ∧ v9 = .int .i64 x9_5 ∧ Aside0 (spec_Visual.l4 kq l0 x3_5 x4_2 x6_16 x8_5 x9_5 = some r) ∧ Aside0 (kq ≤ kj16) ∧ Aside0 (Kd.R (Kd.int .i64) 3 w' w.heap.size (fun _ => True) (.slice Ao18 x3_3.length co18) x3_5) ∧ Aside0 (Below w.heap.size w w'))
               case atStart => exact ⟨(x3_3), (wrap64 (x6_16 - 1)), (x6_3), (by first | rfl | (simp; done) | (simp [*]; done)), (by first | rfl | (simp; done) | (simp [*]; done)), H', ⟨Nat.le_refl _⟩, ⟨by (with_reducible repeat (first | apply Kd.R_alloc | apply Kd.R_drewN | apply Kd.R_drew)); exact HO_3.out⟩, ⟨by repeat (first | (with_reducible first | exact HB.out | apply bAl | apply bDn | apply bD1) | exact HB.out)⟩⟩
               case round =>
                clear H'
                (try clear c1); (try clear p1); (try clear q1); (try clear hx1); (try clear c2); (try clear p2); (try clear c4); (try clear c4b0); (try clear c5); (try clear c5b0); (try clear p6); (try clear c7); (try clear c8); (try clear c8b0); (try clear c9); (try clear p10); (try clear q10); (try clear hx10); (try clear c11); (try clear p11); (try clear q11); (try clear hx11); (try clear c12); (try clear c15); (try clear c15b0); (try clear c16); (try clear c16b0); (try clear c19); (try clear c19b0); (try clear c20); (try clear c20b0); (try clear c21); (try clear c21b0); (try clear c22); (try clear c22b0); (try clear c23); (try clear c23b0); (try clear hx104_0); (try clear hx106_0); (try clear hx107_0); (try clear hx117_0); (try clear hx118_0); (try clear p1); (try clear p10); (try clear p104); (try clear p106); (try clear p107); (try clear p11); (try clear p117); (try clear p118); (try clear p2); (try clear p6); (try clear q1); (try clear q10); (try clear q104); (try clear q106); (try clear q107); (try clear q11); (try clear q117); (try clear q118)
                obtain ⟨x3_5, x8_5, x9_5, rfl, rfl, HA, HK5, HO_3, HB⟩ := hrel
                have hl3_5 := (Kd.R_reads' HO_3.out).1
                rw [hl3_5] at HO_3
                (try simp only [hl3_5])
                cases gk with
                | zero => exact absurd HA.out (by simp [spec_Visual.l4])
                | succ k5 =>
                 have H := HA.out
                 clear HA
                 simp only [spec_Visual.l4] at H
                 by_cases c24 : x9_5 < x8_5
                 · rw [if_pos c24] at H
                   have c24b0 : decide (x9_5 < x8_5) = true := decide_eq_true c24
                   clear c24
                   by_cases c25 : 0 ≤ x9_5
                   · rw [if_pos c25] at H
                     have c25b0 : decide (0 ≤ x9_5) = true := decide_eq_true c25
                     clear c25
                     by_cases c26 : x9_5 < (x3_5.length : Int)
                     · rw [if_pos c26] at H
                       have c26b0 : decide (x9_5 < (x3_5.length : Int)) = true := decide_eq_true c26
                       clear c26
                       by_cases c27 : 0 ≤ x8_5
                       · rw [if_pos c27] at H
                         have c27b0 : decide (0 ≤ x8_5) = true := decide_eq_true c27
                         clear c27
                         by_cases c28 : x8_5 < (x3_5.length : Int)
                         · rw [if_pos c28] at H
                           have c28b0 : decide (x8_5 < (x3_5.length : Int)) = true := decide_eq_true c28
                           clear c28
                           obtain ⟨y121, hy121⟩ : ∃ y_ : List Int, y_ = (x3_5.set (x9_5 : Int).toNat (rd x3_5 x8_5)) := ⟨_, rfl⟩
                           replace H : (spec_Visual.l4 k5 l0 (y121.set (x8_5 : Int).toNat (rd x3_5 x9_5)) x4_2 x6_16 (wrap64 (x8_5 - 1)) (wrap64 (x9_5 + 1))) = some r := by first | (rw [hy121]; with_reducible exact H) | (have H2_ := (Option.bind_some _ _).symm.trans H; rw [hy121]; with_reducible exact H2_) | (have H2_ := (Option.bind_some _ _).symm.trans H; with_reducible exact H2_) | with_reducible exact H | (rw [hy121]; exact H) | exact H
                           have Ny121 := aMk hy121
                           clear hy121
                           obtain ⟨y122, hy122⟩ : ∃ y_ : List Int, y_ = (y121.set (x8_5 : Int).toNat (rd x3_5 x9_5)) := ⟨_, rfl⟩
                           replace H : (spec_Visual.l4 k5 l0 y122 x4_2 x6_16 (wrap64 (x8_5 - 1)) (wrap64 (x9_5 + 1))) = some r := by first | (rw [hy122]; with_reducible exact H) | (have H2_ := (Option.bind_some _ _).symm.trans H; rw [hy122]; with_reducible exact H2_) | (have H2_ := (Option.bind_some _ _).symm.trans H; with_reducible exact H2_) | with_reducible exact H | (rw [hy122]; exact H) | exact H
                           have Ny122 := aMk hy122
                           clear hy122
                           have H' := aMk H
                           clear H
                           have p119 : 0 ≤ (x9_5 : Int) := oDt (by first | (with_reducible assumption) | assumption)
                           have q119 : x9_5 < (x3_5.length : Int) := oDt (by first | (with_reducible assumption) | assumption)
                           obtain ⟨ad119, e119, hx119_0⟩ := Kd.at_int (Kd.R_reads' HO_3.out).2.2 x9_5 p119 q119
                           cases e119
                           replace p119 := eq_true p119
                           replace q119 := eq_true q119
                           have p120 : 0 ≤ (x8_5 : Int) := oDt (by first | (with_reducible assumption) | assumption)
                           have q120 : x8_5 < (x3_5.length : Int) := oDt (by first | (with_reducible assumption) | assumption)
                           obtain ⟨ad120, e120, hx120_0⟩ := Kd.at_int (Kd.R_reads' HO_3.out).2.2 x8_5 p120 q120
                           obtain rfl : ad119 = ad120 := (by injection e120)
                           replace p120 := eq_true p120
                           replace q120 := eq_true q120
                           have p29 : 0 ≤ (x9_5 : Int) := oDt (by first | (with_reducible assumption) | assumption)
                           have q29 : (x9_5 : Int) < ((x3_5.length : Int) : Int) := oDt (by first | (with_reducible assumption) | assumption)
                           obtain ⟨go29, co29, eo29, gb29, gl29, cl29, HG29⟩ := Kd.R_form HO_3.out (by omega)
                           (first | cases eo29 | (injection eo29 with ea_ en_ ec_; (first | subst ea_ | (injection ea_ with ea_; subst ea_)); subst ec_; clear en_))
                           have GB29 := aMk gb29
                           have GG29 := aMk HG29
                           clear gb29 gl29 HG29
                           (first | simp only [add_plain] at hx119_0 | skip)
                           (first | simp only [add_plain] at hx120_0 | skip)
                           obtain ⟨hx29_0, hf29_0⟩ := Kd.R_celln 0 HO_3.out (x9_5 : Int) p29 q29
                           replace p29 := eq_true p29
                           replace q29 := eq_true q29
                           have HP31 := Kd.R_putg HO_3.out (x9_5 : Int) (rd x3_5 x8_5)
                           go_wp2_with (first | ((with_reducible refine gate_store (t := 3) (p := 85) rfl ?_); refine store_event (t := 3) (p := 85) (v := ?vo_w32) (w1 := (wr.setCell ⟨go29, (x9_5 : Int).toNat, none⟩ (.int .i64 (rd x3_5 x8_5)))) ?hg ?ho ?hn ?hr ?_; (case ho => rfl); (case hg => rfl); (case hn => rfl); (case hr => first | (go_simp; done) | (go_simp; rfl)); intro w32 hw; have hg : wr.grownBy w32 (some go29) := (by rw [hw]; exact HP31.2); have hp_ : Kd.R (Kd.int .i64) 3 w32 w.heap.size (fun _ => True) (.slice (some ⟨go29, 0, none⟩) x3_5.length co18) y121 := (by rw [hw, Ny121.out]; exact HP31.1); clear HP31; have n0_ := aMk (hp_); have n1_ := aMk ((by rw [hw]; exact bSe (HB.out) GB29.out : Below w.heap.size w w32)); clear HO_3; clear HB; have HO_3 := n0_; have HB := n1_; clear n0_ n1_; clear hg hw hp_; have p30 : 0 ≤ (x8_5 : Int) := oDt (by first | (with_reducible assumption) | assumption); have q30 : (x8_5 : Int) < ((x3_5.length : Int) : Int) := oDt (by first | (with_reducible assumption) | assumption); obtain ⟨hx30_0, hf30_0⟩ := Kd.R_celln 0 HO_3.out (x8_5 : Int) p30 q30; replace p30 := eq_true p30; replace q30 := eq_true q30; obtain ⟨hy33_, hz33_⟩ := Kd.R_celln 0 HO_3.out (x8_5 : Int) (oDt (by first | (with_reducible assumption) | assumption)) (oDt (by first | (with_reducible assumption) | assumption)); have HP33 := Kd.R_putg HO_3.out (x8_5 : Int) (rd x3_5 x9_5)) | ((with_reducible refine gate_store (t := 3) (p := 89) rfl ?_); refine store_event (t := 3) (p := 89) (v := ?vo_w34) (w1 := (w32.setCell ⟨go29, (x8_5 : Int).toNat, none⟩ (.int .i64 (rd x3_5 x9_5)))) ?hg ?ho ?hn ?hr ?_; (case ho => rfl); (case hg => rfl); (case hn => rfl); (case hr => first | (go_simp; done) | (go_simp; rfl)); intro w34 hw; have hg : w32.grownBy w34 (some go29) := (by rw [hw]; exact HP33.2); have hp_ : Kd.R (Kd.int .i64) 3 w34 w.heap.size (fun _ => True) (.slice (some ⟨go29, 0, none⟩) x3_5.length co18) y122 := (by rw [hw, Ny122.out]; exact HP33.1); clear HP33; have n0_ := aMk (hp_); have n1_ := aMk ((by rw [hw]; exact bSe (HB.out) GB29.out : Below w.heap.size w w34)); clear HO_3; clear HB; have HO_3 := n0_; have HB := n1_; clear n0_ n1_; clear hg hw hp_))
                           (try simp only [← hl3_5])
                           go_roundg k5
                           case measure => have := HK1.out; have := HK2.out; have := HK3.out; have := HJ16.out; have := HK5.out; omega
                           case rel => exact ⟨(y122), (wrap64 (x8_5 - 1)), (wrap64 (x9_5 + 1)), (by first | rfl | (simp; done) | (simp [*]; done)), (by first | rfl | (simp; done) | (simp [*]; done)), H', ⟨by have := HK1.out; have := HK2.out; have := HK3.out; have := HJ16.out; have := HK5.out; omega⟩, ⟨by (try simp only [hl3_5]); (with_reducible repeat (first | apply Kd.R_alloc | apply Kd.R_drewN | apply Kd.R_drew)); exact HO_3.out⟩, ⟨by repeat (first | (with_reducible first | exact HB.out | apply bAl | apply bDn | apply bD1) | exact HB.out)⟩⟩
                         · rw [if_neg c28] at H
                           exact absurd H (by simp)
                       · rw [if_neg c27] at H
                         exact absurd H (by simp)
                     · rw [if_neg c26] at H
                       exact absurd H (by simp)
                   · rw [if_neg c25] at H
                     exact absurd H (by simp)
                 · rw [if_neg c24] at H
                   have c24b0 : decide (x9_5 < x8_5) = false := decide_eq_false c24
                   clear c24
                   have H' := aMk H
                   clear H
                   go_wp2
                   (try simp only [← hl3_5])
                   go_roundg k5
                   case measure => have := HK1.out; have := HK2.out; have := HK3.out; have := HJ16.out; have := HK5.out; omega
                   case rel => exact ⟨(x3_5), (wrap64 (x6_16 + 1)), (by first | rfl | (simp; done) | (simp [*]; done)), H', ⟨by have := HK1.out; have := HK2.out; have := HK3.out; have := HJ16.out; have := HK5.out; omega⟩, ⟨by (try simp only [hl3_5]); (with_reducible repeat (first | apply Kd.R_alloc | apply Kd.R_drewN | apply Kd.R_drew)); exact HO_3.out⟩, ⟨by repeat (first | (with_reducible first | exact HB.out | apply bAl | apply bDn | apply bD1) | exact HB.out)⟩⟩
           · rw [if_neg c16] at H
             have c16b0 : decide (x6_3 < (x3_3.length : Int)) = false := decide_eq_false c16
             clear c16
             have H' := aMk H
             clear H
             obtain ⟨Ao35, co35, eo35⟩ := Kd.R_slice HO_3.out
             subst eo35
             go_wp2
             go_roundg k3
             case measure => have := HK1.out; have := HK2.out; have := HK3.out; omega
             case rel => exact ⟨(x3_3), (wrap64 (x4_2 - 1)), (by first | rfl | (simp; done) | (simp [*]; done)), H', ⟨by have := HK1.out; have := HK2.out; have := HK3.out; omega⟩, ⟨by (with_reducible repeat (first | apply Kd.R_alloc | apply Kd.R_drewN | apply Kd.R_drew)); exact HO_3.out⟩, ⟨by repeat (first | (with_reducible first | exact HB.out | apply bAl | apply bDn | apply bD1) | exact HB.out)⟩⟩
       · rw [if_neg c15] at H
         have c15b0 : decide (0 < x4_2) = false := decide_eq_false c15
         clear c15
         obtain rfl := Option.some.inj H
         go_wp2
         go_ret
         exact ⟨_, by first | rfl | (simp [errW_none, errW_some] <;> rfl) | (simp [*, errW_none, errW_some] <;> rfl), by (with_reducible repeat (first | apply Kd.R_alloc | apply Kd.R_drewN | apply Kd.R_drew)); exact HO_3.out, by repeat (first | (with_reducible first | exact HB.out | apply bAl | apply bDn | apply bD1) | exact HB.out)⟩
end Go.Proofs.Ytpknhndanbgkmaa.MFnLevels
