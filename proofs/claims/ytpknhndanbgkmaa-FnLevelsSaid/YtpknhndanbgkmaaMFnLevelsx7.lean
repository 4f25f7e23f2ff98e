-- Written by this session's own program (wip/gen/myprint.py).
import Derived.Test.YtpknhndanbgkmaaMFnLevelsx0
import Derived.Test.YtpknhndanbgkmaaMFnLevelsx3
import Derived.Test.YtpknhndanbgkmaaMFnLevelsx5
import Derived.Test.YtpknhndanbgkmaaMFnLevelsx6
namespace Go.Proofs.Ytpknhndanbgkmaa.MFnLevels
open Go.RowKit Go.Proofs.YtpknhndanbgkmaaW.PrintWords Go.Proofs.YtpknhndanbgkmaaW.PrintLast Go.Proofs.YtpknhndanbgkmaaW.PrintMore
attribute [local go_sem] max2_int min2_int max_two min_two max_three min_three max_four min_four   -- for this text's walks alone
set_option linter.unusedVariables false
set_option linter.unusedSimpArgs false
mutual
def spec_l14Piece.l0 : Nat → List Int → Int → List Int → Int → Option (List Int)
 | 0, _, _, _, _ => none
 | k + 1, x0, x1, x5, x6 => if x6 < (x0.length : Int) then (if 0 ≤ x6 then ((spec_DirClass.f k (rd x0 x6)).bind fun t191 => (if x5.length < 17592186044416 then (spec_l14Piece.l0 k x0 x1 (x5 ++ [t191]) (wrap64 (x6 + 1))) else (none))) else (none)) else ((spec_l14Weak.f k x5 x1).bind fun t195 => (spec_l14Piece.l1 k x1 x5 t195 (t195.length : Int) 0))
def spec_l14Piece.l1 : Nat → Int → List Int → List Int → Int → Int → Option (List Int)
 | 0, _, _, _, _, _ => none
 | k + 1, x1, x5, x7, x8, x9 => if x9 < x8 then (if 0 ≤ x9 then (if x9 < (x7.length : Int) then (if (rd x7 x9) < 9 then (spec_l14Piece.l1 k x1 x5 x7 x8 (wrap64 (x9 + 1))) else (spec_l14Piece.l2 k x1 x5 x7 x8 x9 x9)) else (none)) else (none)) else (spec_l14Piece.l4 k x1 x5 x7 x8 (([] : List Int)) 0)
def spec_l14Piece.j3 : Nat → Int → List Int → List Int → Int → Int → Int → Option (List Int)
 | 0, _, _, _, _, _, _ => none
 | k + 1, x1, x5, x7, x8, x9, x10 => if x10 > 0 then (if 0 ≤ (wrap64 (x10 - 1)) then (if (wrap64 (x10 - 1)) < (x7.length : Int) then ((spec_l14Side.f (rd x7 (wrap64 (x10 - 1)))).bind fun t201 => (spec_l14Piece.j4 k x1 x5 x7 x8 x9 x10 t201 x1)) else (none)) else (none)) else (spec_l14Piece.j4 k x1 x5 x7 x8 x9 x10 x1 x1)
def spec_l14Piece.j4 : Nat → Int → List Int → List Int → Int → Int → Int → Int → Int → Option (List Int)
 | 0, _, _, _, _, _, _, _, _ => none
 | k + 1, x1, x5, x7, x8, x9, x10, x11, x12 => if x9 < x8 then (if 0 ≤ x9 then (if x9 < (x7.length : Int) then ((spec_l14Side.f (rd x7 x9)).bind fun t203 => (spec_l14Piece.j5 k x1 x5 x7 x8 x9 x10 x11 t203)) else (none)) else (none)) else (spec_l14Piece.j5 k x1 x5 x7 x8 x9 x10 x11 x12)
def spec_l14Piece.j5 : Nat → Int → List Int → List Int → Int → Int → Int → Int → Int → Option (List Int)
 | 0, _, _, _, _, _, _, _, _ => none
 | k + 1, x1, x5, x7, x8, x9, x10, x11, x12 => if x11 = x12 then (spec_l14Piece.j6 k x1 x5 x7 x8 x9 x10 x11) else (spec_l14Piece.j6 k x1 x5 x7 x8 x9 x10 x1)
def spec_l14Piece.j6 : Nat → Int → List Int → List Int → Int → Int → Int → Int → Option (List Int)
 | 0, _, _, _, _, _, _, _ => none
 | k + 1, x1, x5, x7, x8, x9, x10, x11 => spec_l14Piece.l3 k x1 x5 x7 x8 x9 x11 x10
def spec_l14Piece.l3 : Nat → Int → List Int → List Int → Int → Int → Int → Int → Option (List Int)
 | 0, _, _, _, _, _, _, _ => none
 | k + 1, x1, x5, x7, x8, x9, x11, x13 => if x13 < x9 then (if 0 ≤ x13 then (if x13 < (x7.length : Int) then (spec_l14Piece.l3 k x1 x5 (x7.set (x13 : Int).toNat x11) x8 x9 x11 (wrap64 (x13 + 1))) else (none)) else (none)) else (spec_l14Piece.l1 k x1 x5 x7 x8 (wrap64 (x9 + 1)))
def spec_l14Piece.l2 : Nat → Int → List Int → List Int → Int → Int → Int → Option (List Int)
 | 0, _, _, _, _, _, _ => none
 | k + 1, x1, x5, x7, x8, x9, x10 => if x9 < x8 then (if 0 ≤ x9 then (if x9 < (x7.length : Int) then (if (rd x7 x9) ≥ 9 then (spec_l14Piece.l2 k x1 x5 x7 x8 (wrap64 (x9 + 1)) x10) else (spec_l14Piece.j3 k x1 x5 x7 x8 x9 x10)) else (none)) else (none)) else (spec_l14Piece.j3 k x1 x5 x7 x8 x9 x10)
def spec_l14Piece.l4 : Nat → Int → List Int → List Int → Int → List Int → Int → Option (List Int)
 | 0, _, _, _, _, _, _ => none
 | k + 1, x1, x5, x7, x8, x14, x15 => if x15 < x8 then (if x1 = 0 then (if 0 ≤ x15 then (if x15 < (x7.length : Int) then (spec_l14Piece.j9 k x1 x5 x7 x8 x14 x15 x1 ((rd x7 x15) == 1)) else (none)) else (none)) else (spec_l14Piece.j9 k x1 x5 x7 x8 x14 x15 x1 false)) else (spec_l14Piece.l5 k x1 x5 x14 true (wrap64 (x8 - 1)))
def spec_l14Piece.j9 : Nat → Int → List Int → List Int → Int → List Int → Int → Int → Bool → Option (List Int)
 | 0, _, _, _, _, _, _, _, _ => none
 | k + 1, x1, x5, x7, x8, x14, x15, x16, x109 => if x109 = true then (if x14.length < 17592186044416 then (spec_l14Piece.l4 k x1 x5 x7 x8 (x14 ++ [1]) (wrap64 (x15 + 1))) else (none)) else (if x1 = 0 then (if 0 ≤ x15 then (if x15 < (x7.length : Int) then (spec_l14Piece.j10 k x1 x5 x7 x8 x14 x15 x16 (decide ((rd x7 x15) ≥ 3))) else (none)) else (none)) else (spec_l14Piece.j10 k x1 x5 x7 x8 x14 x15 x16 false))
def spec_l14Piece.j10 : Nat → Int → List Int → List Int → Int → List Int → Int → Int → Bool → Option (List Int)
 | 0, _, _, _, _, _, _, _, _ => none
 | k + 1, x1, x5, x7, x8, x14, x15, x16, x118 => if x118 = true then (if x14.length < 17592186044416 then (spec_l14Piece.l4 k x1 x5 x7 x8 (x14 ++ [2]) (wrap64 (x15 + 1))) else (none)) else (if x1 = 1 then (if 0 ≤ x15 then (if x15 < (x7.length : Int) then (if (rd x7 x15) = 1 then (if x14.length < 17592186044416 then (spec_l14Piece.l4 k x1 x5 x7 x8 (x14 ++ [x16]) (wrap64 (x15 + 1))) else (none)) else (if x14.length < 17592186044416 then (spec_l14Piece.l4 k x1 x5 x7 x8 (x14 ++ [2]) (wrap64 (x15 + 1))) else (none))) else (none)) else (none)) else (if x14.length < 17592186044416 then (spec_l14Piece.l4 k x1 x5 x7 x8 (x14 ++ [x16]) (wrap64 (x15 + 1))) else (none)))
def spec_l14Piece.l5 : Nat → Int → List Int → List Int → Bool → Int → Option (List Int)
 | 0, _, _, _, _, _ => none
 | k + 1, x1, x5, x14, x17, x18 => if x18 ≥ 0 then (if 0 ≤ x18 then (if x18 < (x5.length : Int) then (if (rd x5 x18) = 10 then (spec_l14Piece.j12 k x1 x5 x14 x17 x18 true) else (spec_l14Piece.j12 k x1 x5 x14 x17 x18 ((rd x5 x18) == 11))) else (none)) else (none)) else (some x14)
def spec_l14Piece.j12 : Nat → Int → List Int → List Int → Bool → Int → Bool → Option (List Int)
 | 0, _, _, _, _, _, _ => none
 | k + 1, x1, x5, x14, x17, x18, x149 => if x149 = true then (if 0 ≤ x18 then (if x18 < (x14.length : Int) then (spec_l14Piece.l5 k x1 x5 (x14.set (x18 : Int).toNat x1) true (wrap64 (x18 - 1))) else (none)) else (none)) else (if 0 ≤ x18 then (if x18 < (x5.length : Int) then (if (rd x5 x18) = 9 then (if x17 = true then (if x18 < (x14.length : Int) then (spec_l14Piece.l5 k x1 x5 (x14.set (x18 : Int).toNat x1) x17 (wrap64 (x18 - 1))) else (none)) else (spec_l14Piece.l5 k x1 x5 x14 x17 (wrap64 (x18 - 1)))) else (spec_l14Piece.l5 k x1 x5 x14 false (wrap64 (x18 - 1)))) else (none)) else (none))
end
def spec_l14Piece.f (k : Nat) (l0 : List Int) (a1 : Int) : Option (List Int) := spec_l14Piece.l0 k l0 a1 (([] : List Int)) 0
set_option maxHeartbeats 8000000 in
set_option maxRecDepth 100000 in
theorem spec_l14Piece.calls (k : Nat) (A0 : Option Addr) (c0 : Nat) (l0 : List Int) (a1 : Int) (r : List Int) (w : World) (hr0 : Kd.C (Kd.int .i64) w A0 l0.length l0) (hc0 : l0.length ≤ c0) (h : spec_l14Piece.f k l0 a1 = some r) :
 Calls Try.prog 75 #[.slice A0 l0.length c0, .int .i64 a1] w fun e w' => ∃ v0_ : Value, e = .returned (v0_) ∧ Kd.R (Kd.int .i64) 3 w' w.heap.size (fun _ => True) v0_ r ∧ Below w.heap.size w w' := by
 have HR0 := aMk hr0
 have HC0 := aMk hc0
 clear hr0 hc0
 have HB := aMk (Below.refl w.heap.size w)
 have H : (spec_l14Piece.l0 k l0 a1 (([] : List Int)) 0) = some r := h
 clear h
 obtain ⟨y187, hy187⟩ : ∃ y_ : List Int, y_ = (([] : List Int)) := ⟨_, rfl⟩
 replace H : (spec_l14Piece.l0 k l0 a1 y187 0) = some r := by first | (rw [hy187]; with_reducible exact H) | (have H2_ := (Option.bind_some _ _).symm.trans H; rw [hy187]; with_reducible exact H2_) | (have H2_ := (Option.bind_some _ _).symm.trans H; with_reducible exact H2_) | with_reducible exact H | (rw [hy187]; exact H) | exact H
 have Ny187 := aMk hy187
 clear hy187
 have H' := aMk H
 clear H
 go_enter Try.func75, Try.ntmps75
 go_wp2_with (first | ((with_reducible refine gate_dst (N := 19) rfl ?_); refine Kd.R_lit (Kd.int .i64) _ 3 ?hg (N := 19) ?hd (xs := ([] : List Int)) (inner := []) (ok := fun _ => True) (okp := fun _ => True) ?hr ?hp (fun _ hk => hk) trivial (Below.refl _ _) (Nat.le_refl _) (by simp) ?_; (case hd => rfl); (case hg => rfl); (case hr => first | (go_simp; done) | (go_simp; rfl)); (case hp => exact (Reps.none _ _)); intro v188 w3 ho4 hb hg_ hnew_; clear hg_ hnew_; (first | rw [← Ny187.out] at ho4 | (simp only [Int.reduceToNat] at ho4; rw [← Ny187.out] at ho4)); have n0_ := aMk (Kd.R_lower ho4 (below_size (by repeat (first | (with_reducible first | exact HB.out | apply bAl | apply bDn | apply bD1) | exact HB.out)))); have n1_ := aMk (below_step (by repeat (first | (with_reducible first | exact HB.out | apply bAl | apply bDn | apply bD1) | exact HB.out)) hb); clear HB; have HO189 := n0_; have HB := n1_; clear n0_ n1_; clear hb ho4))
 go_loopg [5, 6] k (fun kq v5 v6 w' => ∃ (x5_1 : List Int) (x6_1 : Int), v6 = .int .i64 x6_1 ∧ Aside0 (spec_l14Piece.l0 kq l0 a1 x5_1 x6_1 = some r) ∧ Aside0 (kq ≤ k) ∧ Aside0 (Kd.R (Kd.int .i64) 3 w' w.heap.size (fun _ => True) v5 x5_1) ∧ Aside0 (Below w.heap.size w w'))
 case atStart => exact ⟨(y187), (0), (by first | rfl | (simp; done) | (simp [*]; done)), H', ⟨Nat.le_refl _⟩, ⟨by (with_reducible repeat (first | apply Kd.R_alloc | apply Kd.R_drewN | apply Kd.R_drew)); exact HO189.out⟩, ⟨by repeat (first | (with_reducible first | exact HB.out | apply bAl | apply bDn | apply bD1) | exact HB.out)⟩⟩
 case round =>
  clear H'
  (try clear p2)
  obtain ⟨x5_1, x6_1, rfl, HA, HK1, HO_5, HB⟩ := hrel
  cases gk with
  | zero => exact absurd HA.out (by simp [spec_l14Piece.l0])
  | succ k1 =>
   have H := HA.out
   clear HA
   simp only [spec_l14Piece.l0] at H
   by_cases c5 : x6_1 < (l0.length : Int)
   · rw [if_pos c5] at H
     have c5b0 : decide (x6_1 < (l0.length : Int)) = true := decide_eq_true c5
     (try rw [hl7_2] at c5b0)
     (try rw [hl7_7] at c5b0)
     clear c5
     by_cases c6 : 0 ≤ x6_1
     · rw [if_pos c6] at H
       have c6b0 : decide (0 ≤ x6_1) = true := decide_eq_true c6
       clear c6
       replace H := oBm H
       obtain ⟨t191, A70, H⟩ := H
       replace H : (if x5_1.length < 17592186044416 then (spec_l14Piece.l0 k1 l0 a1 (x5_1 ++ [t191]) (wrap64 (x6_1 + 1))) else (none)) = some r := H
       have A7 := aMk A70
       clear A70
       by_cases c8 : x5_1.length < 17592186044416
       · rw [if_pos c8] at H
         have LMc8 := aMk c8
         clear c8
         obtain ⟨y192, hy192⟩ : ∃ y_ : List Int, y_ = (x5_1 ++ [t191]) := ⟨_, rfl⟩
         replace H : (spec_l14Piece.l0 k1 l0 a1 y192 (wrap64 (x6_1 + 1))) = some r := by first | (rw [hy192]; with_reducible exact H) | (have H2_ := (Option.bind_some _ _).symm.trans H; rw [hy192]; with_reducible exact H2_) | (have H2_ := (Option.bind_some _ _).symm.trans H; with_reducible exact H2_) | with_reducible exact H | (rw [hy192]; exact H) | exact H
         have Ny192 := aMk hy192
         clear hy192
         have H' := aMk H
         clear H
         have p190 : 0 ≤ (x6_1 : Int) := oDt (by first | (with_reducible assumption) | assumption)
         have q190 : x6_1 < (l0.length : Int) := oDt (by first | (with_reducible assumption) | assumption)
         obtain ⟨ad190, e190, hx190_0⟩ := Kd.at_int HR0.out x6_1 p190 q190
         cases e190
         replace hx190_0 := (HB.out.cell (wBl w _ hx190_0)).trans hx190_0
         replace p190 := eq_true p190
         replace q190 := eq_true q190
         go_wp2_with (first | ((with_reducible refine gate_callee (f := 44) rfl ?_); refine goesL_ (some 31) rfl rfl Try.func44 (by kernel_rfl) rfl #[.int .i64 (rd l0 x6_1)] rfl (by (try simp only [List.map_toArray, List.map_cons, List.map_nil]); first | done | rfl | (simp only [List.length_drop, List.length_take]; rfl)) ?_; (with_reducible refine (spec_DirClass.calls k1 (rd l0 x6_1) t191 _ A7.out).mono ?_); rintro e w' ⟨rfl, ⟨nd, rfl⟩⟩; refine ⟨_, rfl, ?_⟩) | ((with_reducible refine gate_builtin (b := .append) (xs := #[.tmp 26, .tmp 32]) rfl ?_); at_builtin; refine Kd.R_append (Kd.int .i64) (w0 := w) w.heap.size rfl (.tmp 26) (.tmp 32) 22 3 (.int .i64 0) 8 rfl Try.underlying22 info3 rfl (by decide) (by omega) u5 x5_1 t191 [.int .i64 t191] (fun _ => True) (fun _ => False) rfl rfl ?aP (fun _ hk => hk.elim) ?aF ?aO ?aB ?aS ?aL ?_; (case aP => exact rfl); (case aB => exact (by repeat (first | (with_reducible first | exact HB.out | apply bAl | apply bDn | apply bD1) | exact HB.out))); (case aF => exact (fun _ _ => trivial)); (case aO => exact (by (with_reducible repeat (first | apply Kd.R_alloc | apply Kd.R_drewN | apply Kd.R_drew)); exact HO_5.out)); (case aS => exact (below_size (by repeat (first | (with_reducible first | exact HB.out | apply bAl | apply bDn | apply bD1) | exact HB.out)))); (case aL => have := LMc8.out; omega); intro v193 w9 ho hb hg hat; rw [← Ny192.out] at ho; have n0_ := aMk (hb); have n1_ := aMk (ho); clear HB; clear HO_5; have HB := n0_; have HO194 := n1_; clear n0_ n1_; clear ho hb hg hat))
         go_roundg k1
         case measure => have := HK1.out; omega
         case rel => exact ⟨(y192), (wrap64 (x6_1 + 1)), (by first | rfl | (simp; done) | (simp [*]; done)), H', ⟨by have := HK1.out; omega⟩, ⟨by (with_reducible repeat (first | apply Kd.R_alloc | apply Kd.R_drewN | apply Kd.R_drew)); exact HO194.out⟩, ⟨by repeat (first | (with_reducible first | exact HB.out | apply bAl | apply bDn | apply bD1) | exact HB.out)⟩⟩
       · rw [if_neg c8] at H
         exact absurd H (by simp)
     · rw [if_neg c6] at H
       exact absurd H (by simp)
   · rw [if_neg c5] at H
     have c5b0 : decide (x6_1 < (l0.length : Int)) = false := decide_eq_false c5
     (try rw [hl7_2] at c5b0)
     (try rw [hl7_7] at c5b0)
     clear c5
     replace H := oBm H
     obtain ⟨t195, A100, H⟩ := H
     replace H : (spec_l14Piece.l1 k1 a1 x5_1 t195 (t195.length : Int) 0) = some r := H
     have A10 := aMk A100
     clear A100
     have H' := aMk H
     clear H
     obtain ⟨Ao11, co11, eo11⟩ := Kd.R_slice HO_5.out
     subst eo11
     go_wp2_with (first | ((with_reducible refine gate_callee (f := 109) rfl ?_); refine goesL_ (some 36) rfl rfl Try.func109 (by kernel_rfl) rfl #[.slice Ao11 x5_1.length co11, .int .i64 a1] rfl (by (try simp only [List.map_toArray, List.map_cons, List.map_nil]); first | done | rfl | (simp only [List.length_drop, List.length_take]; rfl)) ?_; (with_reducible refine (spec_l14Weak.calls k1 _ _ x5_1 a1 t195 _ ?side1 ?side2 A10.out).mono ?_); (case side1 => repeat (first | exact (Kd.R_reads' HO_5.out).2.2 | (with_reducible refine Kd.C_alloc ?_ _) | (with_reducible refine Kd.C_drewN ?_ _) | (with_reducible refine Kd.C_drew ?_))); (case side2 => exact (Kd.R_reads' HO_5.out).2.1); rintro e w12 ⟨v196, rfl, ho0, hb⟩; refine ⟨_, rfl, ?_⟩; have n0_ := aMk (Kd.R_elder' (by (with_reducible repeat (first | apply Kd.R_alloc | apply Kd.R_drewN | apply Kd.R_drew)); exact HO_5.out) (Kd.R_base ho0) hb); have n1_ := aMk (Kd.R_lower (Kd.R_new' ho0 (Kd.R_lt (by (with_reducible repeat (first | apply Kd.R_alloc | apply Kd.R_drewN | apply Kd.R_drew)); exact HO_5.out))) (below_size (by repeat (first | (with_reducible first | exact HB.out | apply bAl | apply bDn | apply bD1) | exact HB.out)))); have n2_ := aMk (below_step (by repeat (first | (with_reducible first | exact HB.out | apply bAl | apply bDn | apply bD1) | exact HB.out)) hb); clear HO_5; clear HB; have HO_5 := n0_; have HO197 := n1_; have HB := n2_; clear n0_ n1_ n2_; (try clear hb); (try clear hb2); (try clear hk); (try clear hi); (try clear ho0); obtain ⟨Ao13, co13, eo13⟩ := Kd.R_slice HO197.out; subst eo13))
     go_loopg [9] k1 (fun kq v9 w' => ∃ (x7_2 : List Int) (x9_2 : Int), v9 = .int .i64 x9_2 ∧ Aside0 (spec_l14Piece.l1 kq a1 x5_1 x7_2 (t195.length : Int) x9_2 = some r) ∧ Aside0 (kq ≤ k1) ∧ Aside0 (Kd.R (Kd.int .i64) 3 w' w.heap.size (fun k_ => some k_ ≠ ((.slice Ao13 t195.length co13) : Value).ownBlock) (.slice Ao11 x5_1.length co11) x5_1) ∧ Aside0 (Kd.R (Kd.int .i64) 3 w' w.heap.size (fun k_ => some k_ ≠ ((.slice Ao11 x5_1.length co11) : Value).ownBlock) (.slice Ao13 t195.length co13) x7_2) ∧ Aside0 (Below w.heap.size w w'))
     case atStart => exact ⟨(t195), (0), (by first | rfl | (simp; done) | (simp [*]; done)), H', ⟨Nat.le_refl _⟩, ⟨by (with_reducible repeat (first | apply Kd.R_alloc | apply Kd.R_drewN | apply Kd.R_drew)); exact Kd.R_mono HO_5.out (fun _ hk => hk.2)⟩, ⟨by (with_reducible repeat (first | apply Kd.R_alloc | apply Kd.R_drewN | apply Kd.R_drew)); exact Kd.R_mono HO197.out (fun _ hk => hk.2)⟩, ⟨by repeat (first | (with_reducible first | exact HB.out | apply bAl | apply bDn | apply bD1) | exact HB.out)⟩⟩
     case round =>
      clear H'
      (try clear c1); (try clear p1); (try clear q1); (try clear hx1); (try clear p2); (try clear c4); (try clear c5); (try clear c5b0); (try clear c6); (try clear c6b0); (try clear p6); (try clear c7); (try clear c8); (try clear c10); (try clear hx190_0); (try clear p190); (try clear p2); (try clear q190)
      obtain ⟨x7_2, x9_2, rfl, HA, HK2, HO_5, HO_7, HB⟩ := hrel
      have hl7_2 := (Kd.R_reads' HO_7.out).1
      rw [hl7_2] at HO_7
      (try simp only [hl7_2])
      (try simp only [hl7_2] at HO_5)
      cases gk with
      | zero => exact absurd HA.out (by simp [spec_l14Piece.l1])
      | succ k2 =>
       have H := HA.out
       clear HA
       simp only [spec_l14Piece.l1] at H
       by_cases c14 : x9_2 < (t195.length : Int)
       · rw [if_pos c14] at H
         have c14b0 : decide (x9_2 < (t195.length : Int)) = true := decide_eq_true c14
         (try rw [hl7_2] at c14b0)
         (try rw [hl7_7] at c14b0)
         clear c14
         by_cases c15 : 0 ≤ x9_2
         · rw [if_pos c15] at H
           have c15b0 : decide (0 ≤ x9_2) = true := decide_eq_true c15
           clear c15
           by_cases c16 : x9_2 < (x7_2.length : Int)
           · rw [if_pos c16] at H
             have c16b0 : decide (x9_2 < (x7_2.length : Int)) = true := decide_eq_true c16
             (try rw [hl7_2] at c16b0)
             (try rw [hl7_7] at c16b0)
             clear c16
             by_cases c17 : (rd x7_2 x9_2) < 9
             · rw [if_pos c17] at H
               have c17b0 : decide ((rd x7_2 x9_2) < 9) = true := decide_eq_true c17
               clear c17
               have H' := aMk H
               clear H
               have p198 : 0 ≤ (x9_2 : Int) := oDt (by first | (with_reducible assumption) | assumption)
               have q198 : x9_2 < (x7_2.length : Int) := oDt (by first | (with_reducible assumption) | assumption)
               obtain ⟨ad198, e198, hx198_0⟩ := Kd.at_int (Kd.R_reads' HO_7.out).2.2 x9_2 p198 q198
               cases e198
               replace p198 := eq_true p198
               replace q198 := eq_true q198
               go_wp2
               (try simp only [← hl7_2])
               go_roundg k2
               case measure => have := HK1.out; have := HK2.out; omega
               case rel => exact ⟨(x7_2), (wrap64 (x9_2 + 1)), (by first | rfl | (simp; done) | (simp [*]; done)), H', ⟨by have := HK1.out; have := HK2.out; omega⟩, ⟨by (try simp only [hl7_2]); (with_reducible repeat (first | apply Kd.R_alloc | apply Kd.R_drewN | apply Kd.R_drew)); exact HO_5.out⟩, ⟨by (try simp only [hl7_2]); (with_reducible repeat (first | apply Kd.R_alloc | apply Kd.R_drewN | apply Kd.R_drew)); exact HO_7.out⟩, ⟨by repeat (first | (with_reducible first | exact HB.out | apply bAl | apply bDn | apply bD1) | exact HB.out)⟩⟩
             · rw [if_neg c17] at H
               have c17b0 : decide ((rd x7_2 x9_2) < 9) = false := decide_eq_false c17
               clear c17
               have HC18 := aMk H
               clear H
               have p198 : 0 ≤ (x9_2 : Int) := oDt (by first | (with_reducible assumption) | assumption)
               have q198 : x9_2 < (x7_2.length : Int) := oDt (by first | (with_reducible assumption) | assumption)
               obtain ⟨ad198, e198, hx198_0⟩ := Kd.at_int (Kd.R_reads' HO_7.out).2.2 x9_2 p198 q198
               cases e198
               replace p198 := eq_true p198
               replace q198 := eq_true q198
               go_upto_block 4 with (fail)
               go_cut [9] (fun v9 wc => ∃ (kq : Nat) (x9_17 : Int), v9 = .int .i64 x9_17 ∧ Aside0 (spec_l14Piece.j3 kq a1 x5_1 x7_2 (t195.length : Int) x9_17 x9_2 = some r) ∧ Aside0 (kq ≤ k2) ∧ Aside0 (Kd.R (Kd.int .i64) 3 wc w.heap.size (fun k_ => some k_ ≠ ((.slice (some ad198) x7_2.length co13) : Value).ownBlock) (.slice Ao11 x5_1.length co11) x5_1) ∧ Aside0 (Kd.R (Kd.int .i64) 3 wc w.heap.size (fun k_ => some k_ ≠ ((.slice Ao11 x5_1.length co11) : Value).ownBlock) (.slice (some ad198) x7_2.length co13) x7_2) ∧ Aside0 (Below w.heap.size w wc))
               case first =>
                have H := HC18.out
                clear HC18
                have H' := aMk H
                clear H
                go_wp2
                go_loopg [9] k2 (fun kq v9 w' => ∃ (x9_3 : Int), v9 = .int .i64 x9_3 ∧ Aside0 (spec_l14Piece.l2 kq a1 x5_1 x7_2 (t195.length : Int) x9_3 x9_2 = some r) ∧ Aside0 (kq ≤ k2) ∧ Aside0 (Kd.R (Kd.int .i64) 3 w' w.heap.size (fun k_ => some k_ ≠ ((.slice (some ad198) x7_2.length co13) : Value).ownBlock) (.slice Ao11 x5_1.length co11) x5_1) ∧ Aside0 (Kd.R (Kd.int .i64) 3 w' w.heap.size (fun k_ => some k_ ≠ ((.slice Ao11 x5_1.length co11) : Value).ownBlock) (.slice (some ad198) x7_2.length co13) x7_2) ∧ Aside0 (Below w.heap.size w w'))
                case atStart => exact ⟨(x9_2), (by first | rfl | (simp; done) | (simp [*]; done)), H', ⟨Nat.le_refl _⟩, ⟨by (try simp only [hl7_2]); (with_reducible repeat (first | apply Kd.R_alloc | apply Kd.R_drewN | apply Kd.R_drew)); exact HO_5.out⟩, ⟨by (try simp only [hl7_2]); (with_reducible repeat (first | apply Kd.R_alloc | apply Kd.R_drewN | apply Kd.R_drew)); exact HO_7.out⟩, ⟨by repeat (first | (with_reducible first | exact HB.out | apply bAl | apply bDn | apply bD1) | exact HB.out)⟩⟩
                case round =>
                 clear H'
                 (try clear c1); (try clear p1); (try clear q1); (try clear hx1); (try clear p2); (try clear c4); (try clear c5); (try clear c5b0); (try clear c6); (try clear c6b0); (try clear p6); (try clear c7); (try clear c8); (try clear c10); (try clear c14); (try clear c14b0); (try clear c15); (try clear c15b0); (try clear c16); (try clear c16b0); (try clear c17); (try clear c17b0); (try clear hx190_0); (try clear hx198_0); (try clear p1); (try clear p190); (try clear p198); (try clear p2); (try clear p6); (try clear q1); (try clear q190); (try clear q198)
                 obtain ⟨x9_3, rfl, HA, HK3, HO_5, HO_7, HB⟩ := hrel
                 cases gk with
                 | zero => exact absurd HA.out (by simp [spec_l14Piece.l2])
                 | succ k3 =>
                  have H := HA.out
                  clear HA
                  simp only [spec_l14Piece.l2] at H
                  by_cases c19 : x9_3 < (t195.length : Int)
                  · rw [if_pos c19] at H
                    have c19b0 : decide (x9_3 < (t195.length : Int)) = true := decide_eq_true c19
                    (try rw [hl7_2] at c19b0)
                    (try rw [hl7_7] at c19b0)
                    clear c19
                    (first | rw [c19b0] | (simp only [i64_w, i32_w]; rw [c19b0]) | skip)
                    by_cases c20 : 0 ≤ x9_3
                    · rw [if_pos c20] at H
                      have c20b0 : decide (0 ≤ x9_3) = true := decide_eq_true c20
                      clear c20
                      by_cases c21 : x9_3 < (x7_2.length : Int)
                      · rw [if_pos c21] at H
                        have c21b0 : decide (x9_3 < (x7_2.length : Int)) = true := decide_eq_true c21
                        (try rw [hl7_2] at c21b0)
                        (try rw [hl7_7] at c21b0)
                        clear c21
                        by_cases c22 : (rd x7_2 x9_3) ≥ 9
                        · rw [if_pos c22] at H
                          have c22b0 : decide (9 ≤ (rd x7_2 x9_3)) = true := decide_eq_true c22
                          clear c22
                          have H' := aMk H
                          clear H
                          have p199 : 0 ≤ (x9_3 : Int) := oDt (by first | (with_reducible assumption) | assumption)
                          have q199 : x9_3 < (x7_2.length : Int) := oDt (by first | (with_reducible assumption) | assumption)
                          obtain ⟨ad199, e199, hx199_0⟩ := Kd.at_int (Kd.R_reads' HO_7.out).2.2 x9_3 p199 q199
                          obtain rfl : ad198 = ad199 := (by injection e199)
                          replace p199 := eq_true p199
                          replace q199 := eq_true q199
                          go_wp2
                          go_roundg k3
                          case measure => have := HK1.out; have := HK2.out; have := HK3.out; omega
                          case rel => exact ⟨(wrap64 (x9_3 + 1)), (by first | rfl | (simp; done) | (simp [*]; done)), H', ⟨by have := HK1.out; have := HK2.out; have := HK3.out; omega⟩, ⟨by (try simp only [hl7_2]); (with_reducible repeat (first | apply Kd.R_alloc | apply Kd.R_drewN | apply Kd.R_drew)); exact HO_5.out⟩, ⟨by (try simp only [hl7_2]); (with_reducible repeat (first | apply Kd.R_alloc | apply Kd.R_drewN | apply Kd.R_drew)); exact HO_7.out⟩, ⟨by repeat (first | (with_reducible first | exact HB.out | apply bAl | apply bDn | apply bD1) | exact HB.out)⟩⟩
                        · rw [if_neg c22] at H
                          have c22b0 : decide (9 ≤ (rd x7_2 x9_3)) = false := decide_eq_false c22
                          clear c22
                          have H' := aMk H
                          clear H
                          have p199 : 0 ≤ (x9_3 : Int) := oDt (by first | (with_reducible assumption) | assumption)
                          have q199 : x9_3 < (x7_2.length : Int) := oDt (by first | (with_reducible assumption) | assumption)
                          obtain ⟨ad199, e199, hx199_0⟩ := Kd.at_int (Kd.R_reads' HO_7.out).2.2 x9_3 p199 q199
                          obtain rfl : ad198 = ad199 := (by injection e199)
                          replace p199 := eq_true p199
                          replace q199 := eq_true q199
                          go_wp2
                          go_meet
                          case rel => exact ⟨_, (x9_3), (by first | rfl | (simp; done) | (simp [*]; done)), H', ⟨by have := HK1.out; have := HK2.out; have := HK3.out; first | omega | exact Nat.le_refl _⟩, ⟨by (try simp only [hl7_2]); (with_reducible repeat (first | apply Kd.R_alloc | apply Kd.R_drewN | apply Kd.R_drew)); exact HO_5.out⟩, ⟨by (try simp only [hl7_2]); (with_reducible repeat (first | apply Kd.R_alloc | apply Kd.R_drewN | apply Kd.R_drew)); exact HO_7.out⟩, ⟨by repeat (first | (with_reducible first | exact HB.out | apply bAl | apply bDn | apply bD1) | exact HB.out)⟩⟩
                      · rw [if_neg c21] at H
                        exact absurd H (by simp)
                    · rw [if_neg c20] at H
                      exact absurd H (by simp)
                  · rw [if_neg c19] at H
                    have c19b0 : decide (x9_3 < (t195.length : Int)) = false := decide_eq_false c19
                    (try rw [hl7_2] at c19b0)
                    (try rw [hl7_7] at c19b0)
                    clear c19
                    (first | rw [c19b0] | (simp only [i64_w, i32_w]; rw [c19b0]) | skip)
                    have H' := aMk H
                    clear H
                    go_wp2
                    go_meet
                    case rel => exact ⟨_, (x9_3), (by first | rfl | (simp; done) | (simp [*]; done)), H', ⟨by have := HK1.out; have := HK2.out; have := HK3.out; first | omega | exact Nat.le_refl _⟩, ⟨by (try simp only [hl7_2]); (with_reducible repeat (first | apply Kd.R_alloc | apply Kd.R_drewN | apply Kd.R_drew)); exact HO_5.out⟩, ⟨by (try simp only [hl7_2]); (with_reducible repeat (first | apply Kd.R_alloc | apply Kd.R_drewN | apply Kd.R_drew)); exact HO_7.out⟩, ⟨by repeat (first | (with_reducible first | exact HB.out | apply bAl | apply bDn | apply bD1) | exact HB.out)⟩⟩
               case rest =>
                clear HC18
                (try clear c1); (try clear p1); (try clear q1); (try clear hx1); (try clear c2); (try clear p2); (try clear c4); (try clear c5); (try clear c5b0); (try clear c6); (try clear c6b0); (try clear p6); (try clear c7); (try clear c8); (try clear c10); (try clear c14); (try clear c14b0); (try clear c15); (try clear c15b0); (try clear c16); (try clear c16b0); (try clear c17); (try clear c17b0); (try clear c19); (try clear c19b0); (try clear p19); (try clear q19); (try clear hx19); (try clear c20); (try clear c20b0); (try clear c21); (try clear c21b0); (try clear c22); (try clear c22b0); (try clear hx190_0); (try clear hx198_0); (try clear hx199_0); (try clear p1); (try clear p190); (try clear p198); (try clear p199); (try clear p2); (try clear p6); (try clear q1); (try clear q190); (try clear q198); (try clear q199)
                obtain ⟨kq, x9_17, rfl, HA, HJ17, HO_5, HO_7, HB⟩ := hcut
                cases kq with
                | zero => exact absurd HA.out (by simp [spec_l14Piece.j3])
                | succ kj17 =>
                 have H := HA.out
                 clear HA
                 simp only [spec_l14Piece.j3] at H
                 have HC23 := aMk H
                 clear H
                 go_upto_if 65 with (fail)
                 go_cut [11] (fun v11 wc => ∃ (kq : Nat) (x11_22 : Int), v11 = .int .i64 x11_22 ∧ Aside0 (spec_l14Piece.j4 kq a1 x5_1 x7_2 (t195.length : Int) x9_17 x9_2 x11_22 a1 = some r) ∧ Aside0 (kq ≤ kj17) ∧ Aside0 (Kd.R (Kd.int .i64) 3 wc w.heap.size (fun k_ => some k_ ≠ ((.slice (some ad198) x7_2.length co13) : Value).ownBlock) (.slice Ao11 x5_1.length co11) x5_1) ∧ Aside0 (Kd.R (Kd.int .i64) 3 wc w.heap.size (fun k_ => some k_ ≠ ((.slice Ao11 x5_1.length co11) : Value).ownBlock) (.slice (some ad198) x7_2.length co13) x7_2) ∧ Aside0 (Below w.heap.size w wc))
                 case first =>
                  have H := HC23.out
                  clear HC23
                  by_cases c24 : x9_2 > 0
                  · rw [if_pos c24] at H
                    have c24b0 : decide (0 < x9_2) = true := decide_eq_true c24
                    clear c24
                    (first | rw [c24b0] | (simp only [i64_w, i32_w]; rw [c24b0]) | skip)
                    obtain ⟨ji25, hji25⟩ : ∃ j_ : Int, (wrap64 (x9_2 - 1)) = j_ := ⟨_, rfl⟩
                    replace H : (if 0 ≤ (ji25) then (if (ji25) < (x7_2.length : Int) then ((spec_l14Side.f (rd x7_2 (ji25))).bind fun t201 => (spec_l14Piece.j4 kj17 a1 x5_1 x7_2 (t195.length : Int) x9_17 x9_2 t201 a1)) else (none)) else (none)) = some r := by first | (rw [hji25] at H; exact H) | (simp only [hji25] at H ⊢; exact H)
                    have hji25w : (IntKind.i64.wrap (x9_2 - 1)) = ji25 := (i64_w _).trans hji25
                    by_cases c26 : 0 ≤ (ji25)
                    · rw [if_pos c26] at H
                      have c26b0 : decide (0 ≤ (ji25)) = true := decide_eq_true c26
                      clear c26
                      by_cases c27 : (ji25) < (x7_2.length : Int)
                      · rw [if_pos c27] at H
                        have c27b0 : decide ((ji25) < (x7_2.length : Int)) = true := decide_eq_true c27
                        (try rw [hl7_2] at c27b0)
                        (try rw [hl7_7] at c27b0)
                        clear c27
                        replace H := oBm H
                        obtain ⟨t201, A280, H⟩ := H
                        replace H : (spec_l14Piece.j4 kj17 a1 x5_1 x7_2 (t195.length : Int) x9_17 x9_2 t201 a1) = some r := H
                        have A28 := aMk A280
                        clear A280
                        have H' := aMk H
                        clear H
                        have p200 : 0 ≤ ((ji25) : Int) := oDt (by first | (with_reducible assumption) | assumption)
                        have q200 : (ji25) < (x7_2.length : Int) := oDt (by first | (with_reducible assumption) | assumption)
                        obtain ⟨ad200, e200, hx200_0⟩ := Kd.at_int (Kd.R_reads' HO_7.out).2.2 (ji25) p200 q200
                        obtain rfl : ad198 = ad200 := (by injection e200)
                        replace p200 := eq_true p200
                        replace q200 := eq_true q200
                        go_wp2_with (first | ((with_reducible refine gate_callee (f := 110) rfl ?_); refine goesL_ (some 71) rfl rfl Try.func110 (by kernel_rfl) rfl #[.int .i64 (rd x7_2 (ji25))] rfl (by (try simp only [List.map_toArray, List.map_cons, List.map_nil]); first | done | (simp only [hji25]; rfl) | rfl | (simp only [List.length_drop, List.length_take]; rfl)) ?_; (with_reducible refine (spec_l14Side.calls (rd x7_2 (ji25)) t201 _ A28.out).mono ?_); rintro e w' ⟨rfl, ⟨nd, rfl⟩⟩; refine ⟨_, rfl, ?_⟩))
                        go_meet
                        case rel => exact ⟨_, (t201), (by first | rfl | (simp; done) | (simp [*]; done)), H', ⟨by have := HK1.out; have := HK2.out; have := HJ17.out; first | omega | exact Nat.le_refl _⟩, ⟨by (try simp only [hl7_2]); (with_reducible repeat (first | apply Kd.R_alloc | apply Kd.R_drewN | apply Kd.R_drew)); exact HO_5.out⟩, ⟨by (try simp only [hl7_2]); (with_reducible repeat (first | apply Kd.R_alloc | apply Kd.R_drewN | apply Kd.R_drew)); exact HO_7.out⟩, ⟨by repeat (first | (with_reducible first | exact HB.out | apply bAl | apply bDn | apply bD1) | exact HB.out)⟩⟩
                      · rw [if_neg c27] at H
                        exact absurd H (by simp)
                    · rw [if_neg c26] at H
                      exact absurd H (by simp)
                  · rw [if_neg c24] at H
                    have c24b0 : decide (0 < x9_2) = false := decide_eq_false c24
                    clear c24
                    (first | rw [c24b0] | (simp only [i64_w, i32_w]; rw [c24b0]) | skip)
                    have H' := aMk H
                    clear H
                    go_wp2
                    go_meet
                    case rel => exact ⟨_, (a1), (by first | rfl | (simp; done) | (simp [*]; done)), H', ⟨by have := HK1.out; have := HK2.out; have := HJ17.out; first | omega | exact Nat.le_refl _⟩, ⟨by (try simp only [hl7_2]); (with_reducible repeat (first | apply Kd.R_alloc | apply Kd.R_drewN | apply Kd.R_drew)); exact HO_5.out⟩, ⟨by (try simp only [hl7_2]); (with_reducible repeat (first | apply Kd.R_alloc | apply Kd.R_drewN | apply Kd.R_drew)); exact HO_7.out⟩, ⟨by repeat (first | (with_reducible first | exact HB.out | apply bAl | apply bDn | apply bD1) | exact HB.out)⟩⟩
                 case rest =>
                  clear HC23
                  (try clear c1); (try clear p1); (try clear q1); (try clear hx1); (try clear c2); (try clear p2); (try clear q2); (try clear hx2); (try clear c4); (try clear c5); (try clear c5b0); (try clear c6); (try clear c6b0); (try clear p6); (try clear c7); (try clear c8); (try clear c10); (try clear c11); (try clear c14); (try clear c14b0); (try clear c15); (try clear c15b0); (try clear c16); (try clear c16b0); (try clear c17); (try clear c17b0); (try clear c19); (try clear c19b0); (try clear p19); (try clear q19); (try clear hx19); (try clear c20); (try clear c20b0); (try clear p20); (try clear q20); (try clear hx20); (try clear c21); (try clear c21b0); (try clear c22); (try clear c22b0); (try clear c24); (try clear c24b0); (try clear c26); (try clear c26b0); (try clear c27); (try clear c27b0); (try clear hx190_0); (try clear hx198_0); (try clear hx199_0); (try clear hx200_0); (try clear p1); (try clear p19); (try clear p190); (try clear p198); (try clear p199); (try clear p2); (try clear p200); (try clear p6); (try clear q1); (try clear q19); (try clear q190); (try clear q198); (try clear q199); (try clear q200)
                  obtain ⟨kq, x11_22, rfl, HA, HJ22, HO_5, HO_7, HB⟩ := hcut
                  cases kq with
                  | zero => exact absurd HA.out (by simp [spec_l14Piece.j4])
                  | succ kj22 =>
                   have H := HA.out
                   clear HA
                   simp only [spec_l14Piece.j4] at H
                   have HC29 := aMk H
                   clear H
                   go_upto_if 74 with (fail)
                   go_cut [12] (fun v12 wc => ∃ (kq : Nat) (x12_28 : Int), v12 = .int .i64 x12_28 ∧ Aside0 (spec_l14Piece.j5 kq a1 x5_1 x7_2 (t195.length : Int) x9_17 x9_2 x11_22 x12_28 = some r) ∧ Aside0 (kq ≤ kj22) ∧ Aside0 (Kd.R (Kd.int .i64) 3 wc w.heap.size (fun k_ => some k_ ≠ ((.slice (some ad198) x7_2.length co13) : Value).ownBlock) (.slice Ao11 x5_1.length co11) x5_1) ∧ Aside0 (Kd.R (Kd.int .i64) 3 wc w.heap.size (fun k_ => some k_ ≠ ((.slice Ao11 x5_1.length co11) : Value).ownBlock) (.slice (some ad198) x7_2.length co13) x7_2) ∧ Aside0 (Below w.heap.size w wc))
                   case first =>
                    have H := HC29.out
                    clear HC29
                    by_cases c30 : x9_17 < (t195.length : Int)
                    · rw [if_pos c30] at H
                      have c30b0 : decide (x9_17 < (t195.length : Int)) = true := decide_eq_true c30
                      (try rw [hl7_2] at c30b0)
                      (try rw [hl7_7] at c30b0)
                      clear c30
                      (first | rw [c30b0] | (simp only [i64_w, i32_w]; rw [c30b0]) | skip)
                      by_cases c31 : 0 ≤ x9_17
                      · rw [if_pos c31] at H
                        have c31b0 : decide (0 ≤ x9_17) = true := decide_eq_true c31
                        clear c31
                        by_cases c32 : x9_17 < (x7_2.length : Int)
                        · rw [if_pos c32] at H
                          have c32b0 : decide (x9_17 < (x7_2.length : Int)) = true := decide_eq_true c32
                          (try rw [hl7_2] at c32b0)
                          (try rw [hl7_7] at c32b0)
                          clear c32
                          replace H := oBm H
                          obtain ⟨t203, A330, H⟩ := H
                          replace H : (spec_l14Piece.j5 kj22 a1 x5_1 x7_2 (t195.length : Int) x9_17 x9_2 x11_22 t203) = some r := H
                          have A33 := aMk A330
                          clear A330
                          have H' := aMk H
                          clear H
                          have p202 : 0 ≤ (x9_17 : Int) := oDt (by first | (with_reducible assumption) | assumption)
                          have q202 : x9_17 < (x7_2.length : Int) := oDt (by first | (with_reducible assumption) | assumption)
                          obtain ⟨ad202, e202, hx202_0⟩ := Kd.at_int (Kd.R_reads' HO_7.out).2.2 x9_17 p202 q202
                          obtain rfl : ad198 = ad202 := (by injection e202)
                          replace p202 := eq_true p202
                          replace q202 := eq_true q202
                          go_wp2_with (first | ((with_reducible refine gate_callee (f := 110) rfl ?_); refine goesL_ (some 79) rfl rfl Try.func110 (by kernel_rfl) rfl #[.int .i64 (rd x7_2 x9_17)] rfl (by (try simp only [List.map_toArray, List.map_cons, List.map_nil]); first | done | rfl | (simp only [List.length_drop, List.length_take]; rfl)) ?_; (with_reducible refine (spec_l14Side.calls (rd x7_2 x9_17) t203 _ A33.out).mono ?_); rintro e w' ⟨rfl, ⟨nd, rfl⟩⟩; refine ⟨_, rfl, ?_⟩))
                          go_meet
                          case rel => exact ⟨_, (t203), (by first | rfl | (simp; done) | (simp [*]; done)), H', ⟨by have := HK1.out; have := HK2.out; have := HJ17.out; have := HJ22.out; first | omega | exact Nat.le_refl _⟩, ⟨by (try simp only [hl7_2]); (with_reducible repeat (first | apply Kd.R_alloc | apply Kd.R_drewN | apply Kd.R_drew)); exact HO_5.out⟩, ⟨by (try simp only [hl7_2]); (with_reducible repeat (first | apply Kd.R_alloc | apply Kd.R_drewN | apply Kd.R_drew)); exact HO_7.out⟩, ⟨by repeat (first | (with_reducible first | exact HB.out | apply bAl | apply bDn | apply bD1) | exact HB.out)⟩⟩
                        · rw [if_neg c32] at H
                          exact absurd H (by simp)
                      · rw [if_neg c31] at H
                        exact absurd H (by simp)
                    · rw [if_neg c30] at H
                      have c30b0 : decide (x9_17 < (t195.length : Int)) = false := decide_eq_false c30
                      (try rw [hl7_2] at c30b0)
                      (try rw [hl7_7] at c30b0)
                      clear c30
                      (first | rw [c30b0] | (simp only [i64_w, i32_w]; rw [c30b0]) | skip)
                      have H' := aMk H
                      clear H
                      go_wp2
                      go_meet
                      case rel => exact ⟨_, (a1), (by first | rfl | (simp; done) | (simp [*]; done)), H', ⟨by have := HK1.out; have := HK2.out; have := HJ17.out; have := HJ22.out; first | omega | exact Nat.le_refl _⟩, ⟨by (try simp only [hl7_2]); (with_reducible repeat (first | apply Kd.R_alloc | apply Kd.R_drewN | apply Kd.R_drew)); exact HO_5.out⟩, ⟨by (try simp only [hl7_2]); (with_reducible repeat (first | apply Kd.R_alloc | apply Kd.R_drewN | apply Kd.R_drew)); exact HO_7.out⟩, ⟨by repeat (first | (with_reducible first | exact HB.out | apply bAl | apply bDn | apply bD1) | exact HB.out)⟩⟩
                   case rest =>
                    clear HC29
                    (try clear c1); (try clear p1); (try clear q1); (try clear hx1); (try clear c2); (try clear p2); (try clear q2); (try clear hx2); (try clear c3); (try clear c4); (try clear c5); (try clear c5b0); (try clear c6); (try clear c6b0); (try clear p6); (try clear c7); (try clear c8); (try clear c10); (try clear c11); (try clear c14); (try clear c14b0); (try clear c15); (try clear c15b0); (try clear c16); (try clear c16b0); (try clear c17); (try clear c17b0); (try clear c19); (try clear c19b0); (try clear p19); (try clear q19); (try clear hx19); (try clear c20); (try clear c20b0); (try clear p20); (try clear q20); (try clear hx20); (try clear c21); (try clear c21b0); (try clear c22); (try clear c22b0); (try clear c24); (try clear c24b0); (try clear c26); (try clear c26b0); (try clear c27); (try clear c27b0); (try clear c30); (try clear c30b0); (try clear c31); (try clear c31b0); (try clear c32); (try clear c32b0); (try clear hx190_0); (try clear hx198_0); (try clear hx199_0); (try clear hx200_0); (try clear hx202_0); (try clear p1); (try clear p19); (try clear p190); (try clear p198); (try clear p199); (try clear p2); (try clear p20); (try clear p200); (try clear p202); (try clear p6); (try clear q1); (try clear q19); (try clear q190); (try clear q198); (try clear q199); (try clear q2); (try clear q20); (try clear q200); (try clear q202)
                    obtain ⟨kq, x12_28, rfl, HA, HJ28, HO_5, HO_7, HB⟩ := hcut
                    cases kq with
                    | zero => exact absurd HA.out (by simp [spec_l14Piece.j5])
                    | succ kj28 =>
                     have H := HA.out
                     clear HA
                     simp only [spec_l14Piece.j5] at H
                     have HC34 := aMk H
                     clear H
                     go_upto_if 82 with (fail)
                     go_cut [11] (fun v11 wc => ∃ (kq : Nat) (x11_33 : Int), v11 = .int .i64 x11_33 ∧ Aside0 (spec_l14Piece.j6 kq a1 x5_1 x7_2 (t195.length : Int) x9_17 x9_2 x11_33 = some r) ∧ Aside0 (kq ≤ kj28) ∧ Aside0 (Kd.R (Kd.int .i64) 3 wc w.heap.size (fun k_ => some k_ ≠ ((.slice (some ad198) x7_2.length co13) : Value).ownBlock) (.slice Ao11 x5_1.length co11) x5_1) ∧ Aside0 (Kd.R (Kd.int .i64) 3 wc w.heap.size (fun k_ => some k_ ≠ ((.slice Ao11 x5_1.length co11) : Value).ownBlock) (.slice (some ad198) x7_2.length co13) x7_2) ∧ Aside0 (Below w.heap.size w wc))
                     case first =>
                      have H := HC34.out
                      clear HC34
                      by_cases c35 : x11_22 = x12_28
                      · rw [if_pos c35] at H
                        have c35b0 : (x11_22 == x12_28) = true := beq_iff_eq.mpr c35
                        have c35b1 : (x11_22 != x12_28) = false := bne_eq_false_iff_eq.mpr c35
                        clear c35
                        (first | rw [c35b0] | (simp only [i64_w, i32_w]; rw [c35b0]) | skip)
                        have H' := aMk H
                        clear H
                        go_wp2
                        go_meet
                        case rel => exact ⟨_, (x11_22), (by first | rfl | (simp; done) | (simp [*]; done)), H', ⟨by have := HK1.out; have := HK2.out; have := HJ17.out; have := HJ22.out; have := HJ28.out; first | omega | exact Nat.le_refl _⟩, ⟨by (try simp only [hl7_2]); (with_reducible repeat (first | apply Kd.R_alloc | apply Kd.R_drewN | apply Kd.R_drew)); exact HO_5.out⟩, ⟨by (try simp only [hl7_2]); (with_reducible repeat (first | apply Kd.R_alloc | apply Kd.R_drewN | apply Kd.R_drew)); exact HO_7.out⟩, ⟨by repeat (first | (with_reducible first | exact HB.out | apply bAl | apply bDn | apply bD1) | exact HB.out)⟩⟩
                      · rw [if_neg c35] at H
                        have c35b0 : (x11_22 == x12_28) = false := beq_eq_false_iff_ne.mpr c35
                        have c35b1 : (x11_22 != x12_28) = true := bne_iff_ne.mpr c35
                        (first | rw [c35b0] | (simp only [i64_w, i32_w]; rw [c35b0]) | skip)
                        have H' := aMk H
                        clear H
                        go_wp2
                        go_meet
                        case rel => exact ⟨_, (a1), (by first | rfl | (simp; done) | (simp [*]; done)), H', ⟨by have := HK1.out; have := HK2.out; have := HJ17.out; have := HJ22.out; have := HJ28.out; first | omega | exact Nat.le_refl _⟩, ⟨by (try simp only [hl7_2]); (with_reducible repeat (first | apply Kd.R_alloc | apply Kd.R_drewN | apply Kd.R_drew)); exact HO_5.out⟩, ⟨by (try simp only [hl7_2]); (with_reducible repeat (first | apply Kd.R_alloc | apply Kd.R_drewN | apply Kd.R_drew)); exact HO_7.out⟩, ⟨by repeat (first | (with_reducible first | exact HB.out | apply bAl | apply bDn | apply bD1) | exact HB.out)⟩⟩
                     case rest =>
                      clear HC34
                      (try clear c1); (try clear p1); (try clear q1); (try clear hx1); (try clear c2); (try clear p2); (try clear q2); (try clear hx2); (try clear c3); (try clear c4); (try clear c5); (try clear c5b0); (try clear c6); (try clear c6b0); (try clear p6); (try clear c7); (try clear c8); (try clear c10); (try clear c11); (try clear c14); (try clear c14b0); (try clear c15); (try clear c15b0); (try clear c16); (try clear c16b0); (try clear c17); (try clear c17b0); (try clear c19); (try clear c19b0); (try clear p19); (try clear q19); (try clear hx19); (try clear c20); (try clear c20b0); (try clear p20); (try clear q20); (try clear hx20); (try clear c21); (try clear c21b0); (try clear c22); (try clear c22b0); (try clear c24); (try clear c24b0); (try clear c26); (try clear c26b0); (try clear c27); (try clear c27b0); (try clear c30); (try clear c30b0); (try clear c31); (try clear c31b0); (try clear c32); (try clear c32b0); (try clear c35); (try clear c35b0); (try clear c35b1); (try clear hx190_0); (try clear hx198_0); (try clear hx199_0); (try clear hx200_0); (try clear hx202_0); (try clear p1); (try clear p19); (try clear p190); (try clear p198); (try clear p199); (try clear p2); (try clear p20); (try clear p200); (try clear p202); (try clear p6); (try clear q1); (try clear q19); (try clear q190); (try clear q198); (try clear q199); (try clear q2); (try clear q20); (try clear q200); (try clear q202)
                      obtain ⟨kq, x11_33, rfl, HA, HJ33, HO_5, HO_7, HB⟩ := hcut
                      cases kq with
                      | zero => exact absurd HA.out (by simp [spec_l14Piece.j6])
                      | succ kj33 =>
                       have H := HA.out
                       clear HA
                       simp only [spec_l14Piece.j6] at H
                       have H' := aMk H
                       clear H
                       go_wp2
                       go_loopg [13] kj33 (fun kq v13 w' => ∃ (x7_7 : List Int) (x13_7 : Int), v13 = .int .i64 x13_7 ∧ Aside0 (spec_l14Piece.l3 kq a1 x5_1 x7_7 (t195.length : Int) x9_17 x11_33 x13_7 = some r) ∧ Aside0 (kq ≤ kj33) ∧ Aside0 (Kd.R (Kd.int .i64) 3 w' w.heap.size (fun k_ => some k_ ≠ ((.slice (some ad198) x7_2.length co13) : Value).ownBlock) (.slice Ao11 x5_1.length co11) x5_1) ∧ Aside0 (Kd.R (Kd.int .i64) 3 w' w.heap.size (fun k_ => some k_ ≠ ((.slice Ao11 x5_1.length co11) : Value).ownBlock) (.slice (some ad198) x7_2.length co13) x7_7) ∧ Aside0 (Below w.heap.size w w'))
                       case atStart => exact ⟨(x7_2), (x9_2), (by first | rfl | (simp; done) | (simp [*]; done)), H', ⟨Nat.le_refl _⟩, ⟨by (try simp only [hl7_2]); (with_reducible repeat (first | apply Kd.R_alloc | apply Kd.R_drewN | apply Kd.R_drew)); exact HO_5.out⟩, ⟨by (try simp only [hl7_2]); (with_reducible repeat (first | apply Kd.R_alloc | apply Kd.R_drewN | apply Kd.R_drew)); exact HO_7.out⟩, ⟨by repeat (first | (with_reducible first | exact HB.out | apply bAl | apply bDn | apply bD1) | exact HB.out)⟩⟩
                       case round =>
                        clear H'
                        (try clear c1); (try clear p1); (try clear q1); (try clear hx1); (try clear c2); (try clear p2); (try clear q2); (try clear hx2); (try clear c3); (try clear c4); (try clear c5); (try clear c5b0); (try clear c6); (try clear c6b0); (try clear p6); (try clear c7); (try clear c8); (try clear c10); (try clear c11); (try clear c14); (try clear c14b0); (try clear c15); (try clear c15b0); (try clear c16); (try clear c16b0); (try clear c17); (try clear c17b0); (try clear c19); (try clear c19b0); (try clear p19); (try clear q19); (try clear hx19); (try clear c20); (try clear c20b0); (try clear p20); (try clear q20); (try clear hx20); (try clear c21); (try clear c21b0); (try clear c22); (try clear c22b0); (try clear c24); (try clear c24b0); (try clear c26); (try clear c26b0); (try clear c27); (try clear c27b0); (try clear c30); (try clear c30b0); (try clear c31); (try clear c31b0); (try clear c32); (try clear c32b0); (try clear c35); (try clear c35b0); (try clear c35b1); (try clear hx190_0); (try clear hx198_0); (try clear hx199_0); (try clear hx200_0); (try clear hx202_0); (try clear p1); (try clear p19); (try clear p190); (try clear p198); (try clear p199); (try clear p2); (try clear p20); (try clear p200); (try clear p202); (try clear p6); (try clear q1); (try clear q19); (try clear q190); (try clear q198); (try clear q199); (try clear q2); (try clear q20); (try clear q200); (try clear q202)
                        obtain ⟨x7_7, x13_7, rfl, HA, HK7, HO_5, HO_7, HB⟩ := hrel
                        have hl7_7 := (Kd.R_reads' HO_7.out).1
                        rw [hl7_7] at HO_7
                        (try simp only [hl7_7])
                        (try simp only [hl7_7] at HO_5)
                        cases gk with
                        | zero => exact absurd HA.out (by simp [spec_l14Piece.l3])
                        | succ k7 =>
                         have H := HA.out
                         clear HA
                         simp only [spec_l14Piece.l3] at H
                         by_cases c36 : x13_7 < x9_17
                         · rw [if_pos c36] at H
                           have c36b0 : decide (x13_7 < x9_17) = true := decide_eq_true c36
                           clear c36
                           by_cases c37 : 0 ≤ x13_7
                           · rw [if_pos c37] at H
                             have c37b0 : decide (0 ≤ x13_7) = true := decide_eq_true c37
                             clear c37
                             by_cases c38 : x13_7 < (x7_7.length : Int)
                             · rw [if_pos c38] at H
                               have c38b0 : decide (x13_7 < (x7_7.length : Int)) = true := decide_eq_true c38
                               (try rw [hl7_2] at c38b0)
                               (try rw [hl7_7] at c38b0)
                               clear c38
                               obtain ⟨y204, hy204⟩ : ∃ y_ : List Int, y_ = (x7_7.set (x13_7 : Int).toNat x11_33) := ⟨_, rfl⟩
                               replace H : (spec_l14Piece.l3 k7 a1 x5_1 y204 (t195.length : Int) x9_17 x11_33 (wrap64 (x13_7 + 1))) = some r := by first | (rw [hy204]; with_reducible exact H) | (have H2_ := (Option.bind_some _ _).symm.trans H; rw [hy204]; with_reducible exact H2_) | (have H2_ := (Option.bind_some _ _).symm.trans H; with_reducible exact H2_) | with_reducible exact H | (rw [hy204]; exact H) | exact H
                               have Ny204 := aMk hy204
                               clear hy204
                               have H' := aMk H
                               clear H
                               have p39 : 0 ≤ (x13_7 : Int) := oDt (by first | (with_reducible assumption) | assumption)
                               have q39 : (x13_7 : Int) < ((x7_7.length : Int) : Int) := oDt (by first | (with_reducible assumption) | assumption)
                               obtain ⟨go39, co39, eo39, gb39, gl39, cl39, HG39⟩ := Kd.R_form HO_7.out (by omega)
                               (first | cases eo39 | (injection eo39 with ea_ en_ ec_; (first | subst ea_ | (injection ea_ with ea_; subst ea_)); subst ec_; clear en_))
                               have GB39 := aMk gb39
                               have GG39 := aMk HG39
                               clear gb39 gl39 HG39
                               (first | simp only [add_plain] at hx198_0 | skip)
                               (first | simp only [add_plain] at hx199_0 | skip)
                               (first | simp only [add_plain] at hx200_0 | skip)
                               (first | simp only [add_plain] at hx202_0 | skip)
                               obtain ⟨hx39_0, hf39_0⟩ := Kd.R_celln 0 HO_7.out (x13_7 : Int) p39 q39
                               replace p39 := eq_true p39
                               replace q39 := eq_true q39
                               have HP40 := Kd.R_putg HO_7.out (x13_7 : Int) x11_33
                               go_wp2_with (first | ((with_reducible refine gate_store (t := 3) (p := 93) rfl ?_); refine store_event (t := 3) (p := 93) (v := ?vo_w41) (w1 := (wr.setCell ⟨go39, (x13_7 : Int).toNat, none⟩ (.int .i64 x11_33))) ?hg ?ho ?hn ?hr ?_; (case ho => rfl); (case hg => rfl); (case hn => rfl); (case hr => first | (go_simp; done) | (go_simp; rfl)); intro w41 hw; have hg : wr.grownBy w41 (some go39) := (by rw [hw]; exact HP40.2); have hp_ : Kd.R (Kd.int .i64) 3 w41 w.heap.size (fun k_ => some k_ ≠ (.slice Ao11 x5_1.length co11 : Value).ownBlock) (.slice (some ⟨go39, 0, none⟩) x7_7.length co13) y204 := (by rw [hw, Ny204.out]; exact HP40.1); clear HP40; have n0_ := aMk (Kd.R_after (v := (.slice (some ⟨go39, 0, none⟩) x7_7.length co13)) (v1 := (.slice (some ⟨go39, 0, none⟩) x7_7.length co13)) (ok := (fun _ => True)) (by (with_reducible repeat (first | apply Kd.R_alloc | apply Kd.R_drewN | apply Kd.R_drew)); exact Kd.R_mono HO_5.out (fun _ hk => ⟨trivial, hk⟩)) hg (.inl rfl)); have n1_ := aMk (hp_); have n2_ := aMk ((by rw [hw]; exact bSe (HB.out) GB39.out : Below w.heap.size w w41)); clear HO_5; clear HO_7; clear HB; have HO_5 := n0_; have HO_7 := n1_; have HB := n2_; clear n0_ n1_ n2_; clear hg hw hp_))
                               (try simp only [← hl7_7])
                               go_roundg k7
                               case measure => have := HK1.out; have := HK2.out; have := HJ17.out; have := HJ22.out; have := HJ28.out; have := HJ33.out; have := HK7.out; omega
                               case rel => exact ⟨(y204), (wrap64 (x13_7 + 1)), (by first | rfl | (simp; done) | (simp [*]; done)), H', ⟨by have := HK1.out; have := HK2.out; have := HJ17.out; have := HJ22.out; have := HJ28.out; have := HJ33.out; have := HK7.out; omega⟩, ⟨by (try simp only [hl7_2]); (try simp only [hl7_7]); (with_reducible repeat (first | apply Kd.R_alloc | apply Kd.R_drewN | apply Kd.R_drew)); exact Kd.R_mono HO_5.out (fun _ hk => hk.2)⟩, ⟨by (try simp only [hl7_2]); (try simp only [hl7_7]); (with_reducible repeat (first | apply Kd.R_alloc | apply Kd.R_drewN | apply Kd.R_drew)); exact HO_7.out⟩, ⟨by repeat (first | (with_reducible first | exact HB.out | apply bAl | apply bDn | apply bD1) | exact HB.out)⟩⟩
                             · rw [if_neg c38] at H
                               exact absurd H (by simp)
                           · rw [if_neg c37] at H
                             exact absurd H (by simp)
                         · rw [if_neg c36] at H
                           have c36b0 : decide (x13_7 < x9_17) = false := decide_eq_false c36
                           clear c36
                           have H' := aMk H
                           clear H
                           go_wp2
                           (try simp only [← hl7_2, ← hl7_7])
                           go_roundg k7
                           case measure => have := HK1.out; have := HK2.out; have := HJ17.out; have := HJ22.out; have := HJ28.out; have := HJ33.out; have := HK7.out; omega
                           case rel => exact ⟨(x7_7), (wrap64 (x9_17 + 1)), (by first | rfl | (simp; done) | (simp [*]; done)), H', ⟨by have := HK1.out; have := HK2.out; have := HJ17.out; have := HJ22.out; have := HJ28.out; have := HJ33.out; have := HK7.out; omega⟩, ⟨by (try simp only [hl7_2]); (try simp only [hl7_7]); (with_reducible repeat (first | apply Kd.R_alloc | apply Kd.R_drewN | apply Kd.R_drew)); exact HO_5.out⟩, ⟨by (try simp only [hl7_2]); (try simp only [hl7_7]); (with_reducible repeat (first | apply Kd.R_alloc | apply Kd.R_drewN | apply Kd.R_drew)); exact HO_7.out⟩, ⟨by repeat (first | (with_reducible first | exact HB.out | apply bAl | apply bDn | apply bD1) | exact HB.out)⟩⟩
           · rw [if_neg c16] at H
             exact absurd H (by simp)
         · rw [if_neg c15] at H
           exact absurd H (by simp)
       · rw [if_neg c14] at H
         have c14b0 : decide (x9_2 < (t195.length : Int)) = false := decide_eq_false c14
         (try rw [hl7_2] at c14b0)
         (try rw [hl7_7] at c14b0)
         clear c14
         obtain ⟨y205, hy205⟩ : ∃ y_ : List Int, y_ = (([] : List Int)) := ⟨_, rfl⟩
         replace H : (spec_l14Piece.l4 k2 a1 x5_1 x7_2 (t195.length : Int) y205 0) = some r := by first | (rw [hy205]; with_reducible exact H) | (have H2_ := (Option.bind_some _ _).symm.trans H; rw [hy205]; with_reducible exact H2_) | (have H2_ := (Option.bind_some _ _).symm.trans H; with_reducible exact H2_) | with_reducible exact H | (rw [hy205]; exact H) | exact H
         have Ny205 := aMk hy205
         clear hy205
         have H' := aMk H
         clear H
         go_wp2_with (first | ((with_reducible refine gate_dst (N := 94) rfl ?_); refine Kd.R_lit (Kd.int .i64) _ 3 ?hg (N := 94) ?hd (xs := ([] : List Int)) (inner := []) (ok := fun _ => True) (okp := fun _ => True) ?hr ?hp (fun _ hk => hk) trivial (Below.refl _ _) (Nat.le_refl _) (by simp) ?_; (case hd => rfl); (case hg => rfl); (case hr => first | (go_simp; done) | (go_simp; rfl)); (case hp => exact (Reps.none _ _)); intro v206 w42 ho43 hb hg_ hnew_; clear hg_ hnew_; (first | rw [← Ny205.out] at ho43 | (simp only [Int.reduceToNat] at ho43; rw [← Ny205.out] at ho43)); have n0_ := aMk (Kd.R_elder' (by (with_reducible repeat (first | apply Kd.R_alloc | apply Kd.R_drewN | apply Kd.R_drew)); exact HO_5.out) (Kd.R_base ho43) hb); have n1_ := aMk (Kd.R_elder' (by (with_reducible repeat (first | apply Kd.R_alloc | apply Kd.R_drewN | apply Kd.R_drew)); exact HO_7.out) (Kd.R_base ho43) hb); have n2_ := aMk (Kd.R_lower (Kd.R_new' (Kd.R_new' ho43 (Kd.R_lt (by (with_reducible repeat (first | apply Kd.R_alloc | apply Kd.R_drewN | apply Kd.R_drew)); exact HO_5.out))) (Kd.R_lt (by (with_reducible repeat (first | apply Kd.R_alloc | apply Kd.R_drewN | apply Kd.R_drew)); exact HO_7.out))) (below_size (by repeat (first | (with_reducible first | exact HB.out | apply bAl | apply bDn | apply bD1) | exact HB.out)))); have n3_ := aMk (below_step (by repeat (first | (with_reducible first | exact HB.out | apply bAl | apply bDn | apply bD1) | exact HB.out)) hb); clear HO_5; clear HO_7; clear HB; have HO_5 := n0_; have HO_7 := n1_; have HO207 := n2_; have HB := n3_; clear n0_ n1_ n2_ n3_; clear hb ho43))
         go_loopg [14, 15] k2 (fun kq v14 v15 w' => ∃ (x14_3 : List Int) (x15_3 : Int), v15 = .int .i64 x15_3 ∧ Aside0 (spec_l14Piece.l4 kq a1 x5_1 x7_2 (t195.length : Int) x14_3 x15_3 = some r) ∧ Aside0 (kq ≤ k2) ∧ Aside0 (Kd.R (Kd.int .i64) 3 w' w.heap.size (fun k_ => some k_ ≠ ((.slice Ao13 x7_2.length co13) : Value).ownBlock ∧ some k_ ≠ (v14 : Value).ownBlock) (.slice Ao11 x5_1.length co11) x5_1) ∧ Aside0 (Kd.R (Kd.int .i64) 3 w' w.heap.size (fun k_ => some k_ ≠ ((.slice Ao11 x5_1.length co11) : Value).ownBlock ∧ some k_ ≠ (v14 : Value).ownBlock) (.slice Ao13 x7_2.length co13) x7_2) ∧ Aside0 (Kd.R (Kd.int .i64) 3 w' w.heap.size (fun k_ => some k_ ≠ ((.slice Ao11 x5_1.length co11) : Value).ownBlock ∧ some k_ ≠ ((.slice Ao13 x7_2.length co13) : Value).ownBlock) v14 x14_3) ∧ Aside0 (Below w.heap.size w w'))
         case atStart => exact ⟨(y205), (0), (by first | rfl | (simp; done) | (simp [*]; done)), H', ⟨Nat.le_refl _⟩, ⟨by (try simp only [hl7_2]); (with_reducible repeat (first | apply Kd.R_alloc | apply Kd.R_drewN | apply Kd.R_drew)); exact HO_5.out⟩, ⟨by (try simp only [hl7_2]); (with_reducible repeat (first | apply Kd.R_alloc | apply Kd.R_drewN | apply Kd.R_drew)); exact HO_7.out⟩, ⟨by (try simp only [hl7_2]); (with_reducible repeat (first | apply Kd.R_alloc | apply Kd.R_drewN | apply Kd.R_drew)); exact Kd.R_mono HO207.out (fun _ hk => ⟨hk.1.2, hk.2⟩)⟩, ⟨by repeat (first | (with_reducible first | exact HB.out | apply bAl | apply bDn | apply bD1) | exact HB.out)⟩⟩
         case round =>
          clear H'
          (try clear c1); (try clear p1); (try clear q1); (try clear hx1); (try clear c2); (try clear p2); (try clear q2); (try clear hx2); (try clear c3); (try clear p3); (try clear q3); (try clear hx3); (try clear hf3); (try clear c4); (try clear c5); (try clear c5b0); (try clear c6); (try clear c6b0); (try clear p6); (try clear c7); (try clear c8); (try clear c10); (try clear c11); (try clear c14); (try clear c14b0); (try clear c15); (try clear c15b0); (try clear c16); (try clear c16b0); (try clear c17); (try clear c17b0); (try clear c19); (try clear c19b0); (try clear p19); (try clear q19); (try clear hx19); (try clear c20); (try clear c20b0); (try clear p20); (try clear q20); (try clear hx20); (try clear c21); (try clear c21b0); (try clear c22); (try clear c22b0); (try clear c24); (try clear c24b0); (try clear c26); (try clear c26b0); (try clear c27); (try clear c27b0); (try clear c30); (try clear c30b0); (try clear c31); (try clear c31b0); (try clear c32); (try clear c32b0); (try clear c35); (try clear c35b0); (try clear c35b1); (try clear c36); (try clear c36b0); (try clear c37); (try clear c37b0); (try clear c38); (try clear c38b0); (try clear p39); (try clear q39); (try clear hx39); (try clear hf39); (try clear hx190_0); (try clear hx198_0); (try clear hx199_0); (try clear hx200_0); (try clear hx202_0); (try clear hx39_0); (try clear p1); (try clear p19); (try clear p190); (try clear p198); (try clear p199); (try clear p2); (try clear p20); (try clear p200); (try clear p202); (try clear p39); (try clear p6); (try clear q1); (try clear q19); (try clear q190); (try clear q198); (try clear q199); (try clear q2); (try clear q20); (try clear q200); (try clear q202); (try clear q39)
          obtain ⟨x14_3, x15_3, rfl, HA, HK3, HO_5, HO_7, HO_14, HB⟩ := hrel
          cases gk with
          | zero => exact absurd HA.out (by simp [spec_l14Piece.l4])
          | succ k3 =>
           have H := HA.out
           clear HA
           simp only [spec_l14Piece.l4] at H
           by_cases c44 : x15_3 < (t195.length : Int)
           · rw [if_pos c44] at H
             have c44b0 : decide (x15_3 < (t195.length : Int)) = true := decide_eq_true c44
             (try rw [hl7_2] at c44b0)
             (try rw [hl7_7] at c44b0)
             clear c44
             have HC45 := aMk H
             clear H
             go_upto_region 32 with (fail)
             go_cut [109] (fun v109 wc => ∃ (kq : Nat) (x109_44 : Bool), v109 = .bool x109_44 ∧ Aside0 (spec_l14Piece.j9 kq a1 x5_1 x7_2 (t195.length : Int) x14_3 x15_3 a1 x109_44 = some r) ∧ Aside0 (kq ≤ k3) ∧ Aside0 (Kd.R (Kd.int .i64) 3 wc w.heap.size (fun k_ => some k_ ≠ ((.slice Ao13 x7_2.length co13) : Value).ownBlock ∧ some k_ ≠ (u14 : Value).ownBlock) (.slice Ao11 x5_1.length co11) x5_1) ∧ Aside0 (Kd.R (Kd.int .i64) 3 wc w.heap.size (fun k_ => some k_ ≠ ((.slice Ao11 x5_1.length co11) : Value).ownBlock ∧ some k_ ≠ (u14 : Value).ownBlock) (.slice Ao13 x7_2.length co13) x7_2) ∧ Aside0 (Kd.R (Kd.int .i64) 3 wc w.heap.size (fun k_ => some k_ ≠ ((.slice Ao11 x5_1.length co11) : Value).ownBlock ∧ some k_ ≠ ((.slice Ao13 x7_2.length co13) : Value).ownBlock) u14 x14_3) ∧ Aside0 (Below w.heap.size w wc))
             case first =>
              have H := HC45.out
              clear HC45
              by_cases c46 : a1 = 0
              · rw [if_pos c46] at H
                have c46b0 : (a1 == 0) = true := beq_iff_eq.mpr c46
                have c46b1 : (a1 != 0) = false := bne_eq_false_iff_eq.mpr c46
                clear c46
                (first | rw [c46b0] | (simp only [i64_w, i32_w]; rw [c46b0]) | skip)
                by_cases c47 : 0 ≤ x15_3
                · rw [if_pos c47] at H
                  have c47b0 : decide (0 ≤ x15_3) = true := decide_eq_true c47
                  clear c47
                  by_cases c48 : x15_3 < (x7_2.length : Int)
                  · rw [if_pos c48] at H
                    have c48b0 : decide (x15_3 < (x7_2.length : Int)) = true := decide_eq_true c48
                    (try rw [hl7_2] at c48b0)
                    (try rw [hl7_7] at c48b0)
                    clear c48
                    have H' := aMk H
                    clear H
                    have p208 : 0 ≤ (x15_3 : Int) := oDt (by first | (with_reducible assumption) | assumption)
                    have q208 : x15_3 < (x7_2.length : Int) := oDt (by first | (with_reducible assumption) | assumption)
                    obtain ⟨ad208, e208, hx208_0⟩ := Kd.at_int (Kd.R_reads' HO_7.out).2.2 x15_3 p208 q208
                    cases e208
                    replace p208 := eq_true p208
                    replace q208 := eq_true q208
                    go_wp2
                    go_meet
                    case rel => exact ⟨_, (((rd x7_2 x15_3) == 1)), (by first | rfl | (simp; done) | (simp [*]; done)), H', ⟨by have := HK1.out; have := HK2.out; have := HK3.out; first | omega | exact Nat.le_refl _⟩, ⟨by (try simp only [hl7_2]); (with_reducible repeat (first | apply Kd.R_alloc | apply Kd.R_drewN | apply Kd.R_drew)); exact HO_5.out⟩, ⟨by (try simp only [hl7_2]); (with_reducible repeat (first | apply Kd.R_alloc | apply Kd.R_drewN | apply Kd.R_drew)); exact HO_7.out⟩, ⟨by (try simp only [hl7_2]); (with_reducible repeat (first | apply Kd.R_alloc | apply Kd.R_drewN | apply Kd.R_drew)); exact HO_14.out⟩, ⟨by repeat (first | (with_reducible first | exact HB.out | apply bAl | apply bDn | apply bD1) | exact HB.out)⟩⟩
                  · rw [if_neg c48] at H
                    exact absurd H (by simp)
                · rw [if_neg c47] at H
                  exact absurd H (by simp)
              · rw [if_neg c46] at H
                have c46b0 : (a1 == 0) = false := beq_eq_false_iff_ne.mpr c46
                have c46b1 : (a1 != 0) = true := bne_iff_ne.mpr c46
                (first | rw [c46b0] | (simp only [i64_w, i32_w]; rw [c46b0]) | skip)
                have H' := aMk H
                clear H
                go_wp2
                go_meet
                case rel => exact ⟨_, (false), (by first | rfl | (simp; done) | (simp [*]; done)), H', ⟨by have := HK1.out; have := HK2.out; have := HK3.out; first | omega | exact Nat.le_refl _⟩, ⟨by (try simp only [hl7_2]); (with_reducible repeat (first | apply Kd.R_alloc | apply Kd.R_drewN | apply Kd.R_drew)); exact HO_5.out⟩, ⟨by (try simp only [hl7_2]); (with_reducible repeat (first | apply Kd.R_alloc | apply Kd.R_drewN | apply Kd.R_drew)); exact HO_7.out⟩, ⟨by (try simp only [hl7_2]); (with_reducible repeat (first | apply Kd.R_alloc | apply Kd.R_drewN | apply Kd.R_drew)); exact HO_14.out⟩, ⟨by repeat (first | (with_reducible first | exact HB.out | apply bAl | apply bDn | apply bD1) | exact HB.out)⟩⟩
             case rest =>
              clear HC45
              (try clear c1); (try clear p1); (try clear q1); (try clear hx1); (try clear c2); (try clear p2); (try clear q2); (try clear hx2); (try clear c3); (try clear p3); (try clear q3); (try clear hx3); (try clear hf3); (try clear c4); (try clear c5); (try clear c5b0); (try clear c6); (try clear c6b0); (try clear p6); (try clear c7); (try clear c8); (try clear c10); (try clear c11); (try clear c14); (try clear c14b0); (try clear c15); (try clear c15b0); (try clear c16); (try clear c16b0); (try clear c17); (try clear c17b0); (try clear c19); (try clear c19b0); (try clear p19); (try clear q19); (try clear hx19); (try clear c20); (try clear c20b0); (try clear p20); (try clear q20); (try clear hx20); (try clear c21); (try clear c21b0); (try clear c22); (try clear c22b0); (try clear c24); (try clear c24b0); (try clear c26); (try clear c26b0); (try clear c27); (try clear c27b0); (try clear c30); (try clear c30b0); (try clear c31); (try clear c31b0); (try clear c32); (try clear c32b0); (try clear c35); (try clear c35b0); (try clear c35b1); (try clear c36); (try clear c36b0); (try clear c37); (try clear c37b0); (try clear c38); (try clear c38b0); (try clear p39); (try clear q39); (try clear hx39); (try clear hf39); (try clear c44); (try clear c44b0); (try clear c46); (try clear c46b0); (try clear c46b1); (try clear c47); (try clear c47b0); (try clear c48); (try clear c48b0); (try clear hx190_0); (try clear hx198_0); (try clear hx199_0); (try clear hx200_0); (try clear hx202_0); (try clear hx208_0); (try clear hx39_0); (try clear p1); (try clear p19); (try clear p190); (try clear p198); (try clear p199); (try clear p2); (try clear p20); (try clear p200); (try clear p202); (try clear p208); (try clear p3); (try clear p39); (try clear p6); (try clear q1); (try clear q19); (try clear q190); (try clear q198); (try clear q199); (try clear q2); (try clear q20); (try clear q200); (try clear q202); (try clear q208); (try clear q3); (try clear q39)
              obtain ⟨kq, x109_44, rfl, HA, HJ44, HO_5, HO_7, HO_14, HB⟩ := hcut
              cases kq with
              | zero => exact absurd HA.out (by simp [spec_l14Piece.j9])
              | succ kj44 =>
               have H := HA.out
               clear HA
               simp only [spec_l14Piece.j9] at H
               by_cases c49 : x109_44 = true
               · subst c49
                 have H1 : (if x14_3.length < 17592186044416 then (spec_l14Piece.l4 kj44 a1 x5_1 x7_2 (t195.length : Int) (x14_3 ++ [1]) (wrap64 (x15_3 + 1))) else (none)) = some r := by rw [if_pos rfl] at H; exact H
                 clear H
                 have H := H1
                 clear H1
                 by_cases c50 : x14_3.length < 17592186044416
                 · rw [if_pos c50] at H
                   have LMc50 := aMk c50
                   clear c50
                   obtain ⟨y209, hy209⟩ : ∃ y_ : List Int, y_ = (x14_3 ++ [1]) := ⟨_, rfl⟩
                   replace H : (spec_l14Piece.l4 kj44 a1 x5_1 x7_2 (t195.length : Int) y209 (wrap64 (x15_3 + 1))) = some r := by first | (rw [hy209]; with_reducible exact H) | (have H2_ := (Option.bind_some _ _).symm.trans H; rw [hy209]; with_reducible exact H2_) | (have H2_ := (Option.bind_some _ _).symm.trans H; with_reducible exact H2_) | with_reducible exact H | (rw [hy209]; exact H) | exact H
                   have Ny209 := aMk hy209
                   clear hy209
                   have H' := aMk H
                   clear H
                   go_wp2_with (first | ((with_reducible refine gate_builtin (b := .append) (xs := #[.tmp 128, .tmp 130]) rfl ?_); at_builtin; refine Kd.R_append (Kd.int .i64) (w0 := w) w.heap.size rfl (.tmp 128) (.tmp 130) 22 3 (.int .i64 0) 8 rfl Try.underlying22 info3 rfl (by decide) (by omega) u14 x14_3 1 [.int .i64 1] (fun k_ => some k_ ≠ (.slice Ao11 x5_1.length co11 : Value).ownBlock ∧ some k_ ≠ (.slice Ao13 x7_2.length co13 : Value).ownBlock) (fun _ => False) rfl rfl ?aP (fun _ hk => hk.elim) ?aF ?aO ?aB ?aS ?aL ?_; (case aP => exact rfl); (case aB => exact (by repeat (first | (with_reducible first | exact HB.out | apply bAl | apply bDn | apply bD1) | exact HB.out))); (case aF => exact (fun k_ hk => ⟨Kd.fresh' (Kd.R_lt (by (with_reducible repeat (first | apply Kd.R_alloc | apply Kd.R_drewN | apply Kd.R_drew)); exact HO_5.out)) k_ hk, Kd.fresh' (Kd.R_lt (by (with_reducible repeat (first | apply Kd.R_alloc | apply Kd.R_drewN | apply Kd.R_drew)); exact HO_7.out)) k_ hk⟩)); (case aO => exact (by (with_reducible repeat (first | apply Kd.R_alloc | apply Kd.R_drewN | apply Kd.R_drew)); exact HO_14.out)); (case aS => exact (below_size (by repeat (first | (with_reducible first | exact HB.out | apply bAl | apply bDn | apply bD1) | exact HB.out)))); (case aL => have := LMc50.out; omega); intro v210 w51 ho hb hg hat; rw [← Ny209.out] at ho; have n0_ := aMk (Kd.R_after (ok := (fun k_ => some k_ ≠ (.slice Ao13 x7_2.length co13 : Value).ownBlock)) (by (with_reducible repeat (first | apply Kd.R_alloc | apply Kd.R_drewN | apply Kd.R_drew)); exact HO_5.out) hg hat); have n1_ := aMk (Kd.R_after (ok := (fun k_ => some k_ ≠ (.slice Ao11 x5_1.length co11 : Value).ownBlock)) (by (with_reducible repeat (first | apply Kd.R_alloc | apply Kd.R_drewN | apply Kd.R_drew)); exact HO_7.out) hg hat); have n2_ := aMk (hb); have n3_ := aMk (ho); clear HO_5; clear HO_7; clear HB; clear HO_14; have HO_5 := n0_; have HO_7 := n1_; have HB := n2_; have HO211 := n3_; clear n0_ n1_ n2_ n3_; clear ho hb hg hat))
                   go_roundg kj44
                   case measure => have := HK1.out; have := HK2.out; have := HK3.out; have := HJ44.out; omega
                   case rel => exact ⟨(y209), (wrap64 (x15_3 + 1)), (by first | rfl | (simp; done) | (simp [*]; done)), H', ⟨by have := HK1.out; have := HK2.out; have := HK3.out; have := HJ44.out; omega⟩, ⟨by (try simp only [hl7_2]); (with_reducible repeat (first | apply Kd.R_alloc | apply Kd.R_drewN | apply Kd.R_drew)); exact HO_5.out⟩, ⟨by (try simp only [hl7_2]); (with_reducible repeat (first | apply Kd.R_alloc | apply Kd.R_drewN | apply Kd.R_drew)); exact HO_7.out⟩, ⟨by (try simp only [hl7_2]); (with_reducible repeat (first | apply Kd.R_alloc | apply Kd.R_drewN | apply Kd.R_drew)); exact HO211.out⟩, ⟨by repeat (first | (with_reducible first | exact HB.out | apply bAl | apply bDn | apply bD1) | exact HB.out)⟩⟩
                 · rw [if_neg c50] at H
                   exact absurd H (by simp)
               · replace c49 := Bool.eq_false_iff.mpr c49
                 subst c49
                 have H1 : (if a1 = 0 then (if 0 ≤ x15_3 then (if x15_3 < (x7_2.length : Int) then (spec_l14Piece.j10 kj44 a1 x5_1 x7_2 (t195.length : Int) x14_3 x15_3 a1 (decide ((rd x7_2 x15_3) ≥ 3))) else (none)) else (none)) else (spec_l14Piece.j10 kj44 a1 x5_1 x7_2 (t195.length : Int) x14_3 x15_3 a1 false)) = some r := by rw [if_neg (show ¬ (false = true) by decide)] at H; exact H
                 clear H
                 have H := H1
                 clear H1
                 have HC52 := aMk H
                 clear H
                 go_upto_region 34 with (fail)
                 go_cut [118] (fun v118 wc => ∃ (kq : Nat) (x118_51 : Bool), v118 = .bool x118_51 ∧ Aside0 (spec_l14Piece.j10 kq a1 x5_1 x7_2 (t195.length : Int) x14_3 x15_3 a1 x118_51 = some r) ∧ Aside0 (kq ≤ kj44) ∧ Aside0 (Kd.R (Kd.int .i64) 3 wc w.heap.size (fun k_ => some k_ ≠ ((.slice Ao13 x7_2.length co13) : Value).ownBlock ∧ some k_ ≠ (u14 : Value).ownBlock) (.slice Ao11 x5_1.length co11) x5_1) ∧ Aside0 (Kd.R (Kd.int .i64) 3 wc w.heap.size (fun k_ => some k_ ≠ ((.slice Ao11 x5_1.length co11) : Value).ownBlock ∧ some k_ ≠ (u14 : Value).ownBlock) (.slice Ao13 x7_2.length co13) x7_2) ∧ Aside0 (Kd.R (Kd.int .i64) 3 wc w.heap.size (fun k_ => some k_ ≠ ((.slice Ao11 x5_1.length co11) : Value).ownBlock ∧ some k_ ≠ ((.slice Ao13 x7_2.length co13) : Value).ownBlock) u14 x14_3) ∧ Aside0 (Below w.heap.size w wc))
                 case first =>
                  have H := HC52.out
                  clear HC52
                  by_cases c53 : a1 = 0
                  · rw [if_pos c53] at H
                    have c53b0 : (a1 == 0) = true := beq_iff_eq.mpr c53
                    have c53b1 : (a1 != 0) = false := bne_eq_false_iff_eq.mpr c53
                    clear c53
                    (first | rw [c53b0] | (simp only [i64_w, i32_w]; rw [c53b0]) | skip)
                    by_cases c54 : 0 ≤ x15_3
                    · rw [if_pos c54] at H
                      have c54b0 : decide (0 ≤ x15_3) = true := decide_eq_true c54
                      clear c54
                      by_cases c55 : x15_3 < (x7_2.length : Int)
                      · rw [if_pos c55] at H
                        have c55b0 : decide (x15_3 < (x7_2.length : Int)) = true := decide_eq_true c55
                        (try rw [hl7_2] at c55b0)
                        (try rw [hl7_7] at c55b0)
                        clear c55
                        have H' := aMk H
                        clear H
                        have p212 : 0 ≤ (x15_3 : Int) := oDt (by first | (with_reducible assumption) | assumption)
                        have q212 : x15_3 < (x7_2.length : Int) := oDt (by first | (with_reducible assumption) | assumption)
                        obtain ⟨ad212, e212, hx212_0⟩ := Kd.at_int (Kd.R_reads' HO_7.out).2.2 x15_3 p212 q212
                        cases e212
                        replace p212 := eq_true p212
                        replace q212 := eq_true q212
                        go_wp2
                        go_meet
                        case rel => exact ⟨_, (decide ((rd x7_2 x15_3) ≥ 3)), (by first | rfl | (simp; done) | (simp [*]; done)), H', ⟨by have := HK1.out; have := HK2.out; have := HK3.out; have := HJ44.out; first | omega | exact Nat.le_refl _⟩, ⟨by (try simp only [hl7_2]); (with_reducible repeat (first | apply Kd.R_alloc | apply Kd.R_drewN | apply Kd.R_drew)); exact HO_5.out⟩, ⟨by (try simp only [hl7_2]); (with_reducible repeat (first | apply Kd.R_alloc | apply Kd.R_drewN | apply Kd.R_drew)); exact HO_7.out⟩, ⟨by (try simp only [hl7_2]); (with_reducible repeat (first | apply Kd.R_alloc | apply Kd.R_drewN | apply Kd.R_drew)); exact HO_14.out⟩, ⟨by repeat (first | (with_reducible first | exact HB.out | apply bAl | apply bDn | apply bD1) | exact HB.out)⟩⟩
                      · rw [if_neg c55] at H
                        exact absurd H (by simp)
                    · rw [if_neg c54] at H
                      exact absurd H (by simp)
                  · rw [if_neg c53] at H
                    have c53b0 : (a1 == 0) = false := beq_eq_false_iff_ne.mpr c53
                    have c53b1 : (a1 != 0) = true := bne_iff_ne.mpr c53
                    (first | rw [c53b0] | (simp only [i64_w, i32_w]; rw [c53b0]) | skip)
                    have H' := aMk H
                    clear H
                    go_wp2
                    go_meet
                    case rel => exact ⟨_, (false), (by first | rfl | (simp; done) | (simp [*]; done)), H', ⟨by have := HK1.out; have := HK2.out; have := HK3.out; have := HJ44.out; first | omega | exact Nat.le_refl _⟩, ⟨by (try simp only [hl7_2]); (with_reducible repeat (first | apply Kd.R_alloc | apply Kd.R_drewN | apply Kd.R_drew)); exact HO_5.out⟩, ⟨by (try simp only [hl7_2]); (with_reducible repeat (first | apply Kd.R_alloc | apply Kd.R_drewN | apply Kd.R_drew)); exact HO_7.out⟩, ⟨by (try simp only [hl7_2]); (with_reducible repeat (first | apply Kd.R_alloc | apply Kd.R_drewN | apply Kd.R_drew)); exact HO_14.out⟩, ⟨by repeat (first | (with_reducible first | exact HB.out | apply bAl | apply bDn | apply bD1) | exact HB.out)⟩⟩
                 case rest =>
                  clear HC52
                  (try clear c1); (try clear p1); (try clear q1); (try clear hx1); (try clear c2); (try clear p2); (try clear q2); (try clear hx2); (try clear c3); (try clear p3); (try clear q3); (try clear hx3); (try clear hf3); (try clear c4); (try clear c5); (try clear c5b0); (try clear c6); (try clear c6b0); (try clear p6); (try clear c7); (try clear c8); (try clear c10); (try clear c11); (try clear c14); (try clear c14b0); (try clear c15); (try clear c15b0); (try clear c16); (try clear c16b0); (try clear c17); (try clear c17b0); (try clear c19); (try clear c19b0); (try clear p19); (try clear q19); (try clear hx19); (try clear c20); (try clear c20b0); (try clear p20); (try clear q20); (try clear hx20); (try clear c21); (try clear c21b0); (try clear p21); (try clear q21); (try clear hx21); (try clear c22); (try clear c22b0); (try clear c24); (try clear c24b0); (try clear c26); (try clear c26b0); (try clear c27); (try clear c27b0); (try clear c30); (try clear c30b0); (try clear c31); (try clear c31b0); (try clear c32); (try clear c32b0); (try clear c35); (try clear c35b0); (try clear c35b1); (try clear c36); (try clear c36b0); (try clear c37); (try clear c37b0); (try clear c38); (try clear c38b0); (try clear p39); (try clear q39); (try clear hx39); (try clear hf39); (try clear c44); (try clear c44b0); (try clear c46); (try clear c46b0); (try clear c46b1); (try clear c47); (try clear c47b0); (try clear c48); (try clear c48b0); (try clear c49); (try clear c50); (try clear c53); (try clear c53b0); (try clear c53b1); (try clear c54); (try clear c54b0); (try clear c55); (try clear c55b0); (try clear hx190_0); (try clear hx198_0); (try clear hx199_0); (try clear hx200_0); (try clear hx202_0); (try clear hx208_0); (try clear hx212_0); (try clear hx39_0); (try clear p1); (try clear p19); (try clear p190); (try clear p198); (try clear p199); (try clear p2); (try clear p20); (try clear p200); (try clear p202); (try clear p208); (try clear p212); (try clear p3); (try clear p39); (try clear p6); (try clear q1); (try clear q19); (try clear q190); (try clear q198); (try clear q199); (try clear q2); (try clear q20); (try clear q200); (try clear q202); (try clear q208); (try clear q212); (try clear q3); (try clear q39)
                  obtain ⟨kq, x118_51, rfl, HA, HJ51, HO_5, HO_7, HO_14, HB⟩ := hcut
                  cases kq with
                  | zero => exact absurd HA.out (by simp [spec_l14Piece.j10])
                  | succ kj51 =>
                   have H := HA.out
                   clear HA
                   simp only [spec_l14Piece.j10] at H
                   by_cases c56 : x118_51 = true
                   · subst c56
                     have H1 : (if x14_3.length < 17592186044416 then (spec_l14Piece.l4 kj51 a1 x5_1 x7_2 (t195.length : Int) (x14_3 ++ [2]) (wrap64 (x15_3 + 1))) else (none)) = some r := by rw [if_pos rfl] at H; exact H
                     clear H
                     have H := H1
                     clear H1
                     by_cases c57 : x14_3.length < 17592186044416
                     · rw [if_pos c57] at H
                       have LMc57 := aMk c57
                       clear c57
                       obtain ⟨y213, hy213⟩ : ∃ y_ : List Int, y_ = (x14_3 ++ [2]) := ⟨_, rfl⟩
                       replace H : (spec_l14Piece.l4 kj51 a1 x5_1 x7_2 (t195.length : Int) y213 (wrap64 (x15_3 + 1))) = some r := by first | (rw [hy213]; with_reducible exact H) | (have H2_ := (Option.bind_some _ _).symm.trans H; rw [hy213]; with_reducible exact H2_) | (have H2_ := (Option.bind_some _ _).symm.trans H; with_reducible exact H2_) | with_reducible exact H | (rw [hy213]; exact H) | exact H
                       have Ny213 := aMk hy213
                       clear hy213
                       have H' := aMk H
                       clear H
                       go_wp2_with (first | ((with_reducible refine gate_builtin (b := .append) (xs := #[.tmp 128, .tmp 130]) rfl ?_); at_builtin; refine Kd.R_append (Kd.int .i64) (w0 := w) w.heap.size rfl (.tmp 128) (.tmp 130) 22 3 (.int .i64 0) 8 rfl Try.underlying22 info3 rfl (by decide) (by omega) u14 x14_3 2 [.int .i64 2] (fun k_ => some k_ ≠ (.slice Ao11 x5_1.length co11 : Value).ownBlock ∧ some k_ ≠ (.slice Ao13 x7_2.length co13 : Value).ownBlock) (fun _ => False) rfl rfl ?aP (fun _ hk => hk.elim) ?aF ?aO ?aB ?aS ?aL ?_; (case aP => exact rfl); (case aB => exact (by repeat (first | (with_reducible first | exact HB.out | apply bAl | apply bDn | apply bD1) | exact HB.out))); (case aF => exact (fun k_ hk => ⟨Kd.fresh' (Kd.R_lt (by (with_reducible repeat (first | apply Kd.R_alloc | apply Kd.R_drewN | apply Kd.R_drew)); exact HO_5.out)) k_ hk, Kd.fresh' (Kd.R_lt (by (with_reducible repeat (first | apply Kd.R_alloc | apply Kd.R_drewN | apply Kd.R_drew)); exact HO_7.out)) k_ hk⟩)); (case aO => exact (by (with_reducible repeat (first | apply Kd.R_alloc | apply Kd.R_drewN | apply Kd.R_drew)); exact HO_14.out)); (case aS => exact (below_size (by repeat (first | (with_reducible first | exact HB.out | apply bAl | apply bDn | apply bD1) | exact HB.out)))); (case aL => have := LMc57.out; omega); intro v214 w58 ho hb hg hat; rw [← Ny213.out] at ho; have n0_ := aMk (Kd.R_after (ok := (fun k_ => some k_ ≠ (.slice Ao13 x7_2.length co13 : Value).ownBlock)) (by (with_reducible repeat (first | apply Kd.R_alloc | apply Kd.R_drewN | apply Kd.R_drew)); exact HO_5.out) hg hat); have n1_ := aMk (Kd.R_after (ok := (fun k_ => some k_ ≠ (.slice Ao11 x5_1.length co11 : Value).ownBlock)) (by (with_reducible repeat (first | apply Kd.R_alloc | apply Kd.R_drewN | apply Kd.R_drew)); exact HO_7.out) hg hat); have n2_ := aMk (hb); have n3_ := aMk (ho); clear HO_5; clear HO_7; clear HB; clear HO_14; have HO_5 := n0_; have HO_7 := n1_; have HB := n2_; have HO215 := n3_; clear n0_ n1_ n2_ n3_; clear ho hb hg hat))
                       go_roundg kj51
                       case measure => have := HK1.out; have := HK2.out; have := HK3.out; have := HJ44.out; have := HJ51.out; omega
                       case rel => exact ⟨(y213), (wrap64 (x15_3 + 1)), (by first | rfl | (simp; done) | (simp [*]; done)), H', ⟨by have := HK1.out; have := HK2.out; have := HK3.out; have := HJ44.out; have := HJ51.out; omega⟩, ⟨by (try simp only [hl7_2]); (with_reducible repeat (first | apply Kd.R_alloc | apply Kd.R_drewN | apply Kd.R_drew)); exact HO_5.out⟩, ⟨by (try simp only [hl7_2]); (with_reducible repeat (first | apply Kd.R_alloc | apply Kd.R_drewN | apply Kd.R_drew)); exact HO_7.out⟩, ⟨by (try simp only [hl7_2]); (with_reducible repeat (first | apply Kd.R_alloc | apply Kd.R_drewN | apply Kd.R_drew)); exact HO215.out⟩, ⟨by repeat (first | (with_reducible first | exact HB.out | apply bAl | apply bDn | apply bD1) | exact HB.out)⟩⟩
                     · rw [if_neg c57] at H
                       exact absurd H (by simp)
                   · replace c56 := Bool.eq_false_iff.mpr c56
                     subst c56
                     have H1 : (if a1 = 1 then (if 0 ≤ x15_3 then (if x15_3 < (x7_2.length : Int) then (if (rd x7_2 x15_3) = 1 then (if x14_3.length < 17592186044416 then (spec_l14Piece.l4 kj51 a1 x5_1 x7_2 (t195.length : Int) (x14_3 ++ [a1]) (wrap64 (x15_3 + 1))) else (none)) else (if x14_3.length < 17592186044416 then (spec_l14Piece.l4 kj51 a1 x5_1 x7_2 (t195.length : Int) (x14_3 ++ [2]) (wrap64 (x15_3 + 1))) else (none))) else (none)) else (none)) else (if x14_3.length < 17592186044416 then (spec_l14Piece.l4 kj51 a1 x5_1 x7_2 (t195.length : Int) (x14_3 ++ [a1]) (wrap64 (x15_3 + 1))) else (none))) = some r := by rw [if_neg (show ¬ (false = true) by decide)] at H; exact H
                     clear H
                     have H := H1
                     clear H1
                     by_cases c59 : a1 = 1
                     · rw [if_pos c59] at H
                       have c59b0 : (a1 == 1) = true := beq_iff_eq.mpr c59
                       have c59b1 : (a1 != 1) = false := bne_eq_false_iff_eq.mpr c59
                       clear c59
                       by_cases c60 : 0 ≤ x15_3
                       · rw [if_pos c60] at H
                         have c60b0 : decide (0 ≤ x15_3) = true := decide_eq_true c60
                         clear c60
                         by_cases c61 : x15_3 < (x7_2.length : Int)
                         · rw [if_pos c61] at H
                           have c61b0 : decide (x15_3 < (x7_2.length : Int)) = true := decide_eq_true c61
                           (try rw [hl7_2] at c61b0)
                           (try rw [hl7_7] at c61b0)
                           clear c61
                           by_cases c62 : (rd x7_2 x15_3) = 1
                           · rw [if_pos c62] at H
                             have c62b0 : ((rd x7_2 x15_3) == 1) = true := beq_iff_eq.mpr c62
                             have c62b1 : ((rd x7_2 x15_3) != 1) = false := bne_eq_false_iff_eq.mpr c62
                             clear c62
                             by_cases c63 : x14_3.length < 17592186044416
                             · rw [if_pos c63] at H
                               have LMc63 := aMk c63
                               clear c63
                               obtain ⟨y217, hy217⟩ : ∃ y_ : List Int, y_ = (x14_3 ++ [a1]) := ⟨_, rfl⟩
                               replace H : (spec_l14Piece.l4 kj51 a1 x5_1 x7_2 (t195.length : Int) y217 (wrap64 (x15_3 + 1))) = some r := by first | (rw [hy217]; with_reducible exact H) | (have H2_ := (Option.bind_some _ _).symm.trans H; rw [hy217]; with_reducible exact H2_) | (have H2_ := (Option.bind_some _ _).symm.trans H; with_reducible exact H2_) | with_reducible exact H | (rw [hy217]; exact H) | exact H
                               have Ny217 := aMk hy217
                               clear hy217
                               have H' := aMk H
                               clear H
                               have p216 : 0 ≤ (x15_3 : Int) := oDt (by first | (with_reducible assumption) | assumption)
                               have q216 : x15_3 < (x7_2.length : Int) := oDt (by first | (with_reducible assumption) | assumption)
                               obtain ⟨ad216, e216, hx216_0⟩ := Kd.at_int (Kd.R_reads' HO_7.out).2.2 x15_3 p216 q216
                               cases e216
                               replace p216 := eq_true p216
                               replace q216 := eq_true q216
                               go_wp2_with (first | ((with_reducible refine gate_builtin (b := .append) (xs := #[.tmp 128, .tmp 130]) rfl ?_); at_builtin; refine Kd.R_append (Kd.int .i64) (w0 := w) w.heap.size rfl (.tmp 128) (.tmp 130) 22 3 (.int .i64 0) 8 rfl Try.underlying22 info3 rfl (by decide) (by omega) u14 x14_3 a1 [.int .i64 a1] (fun k_ => some k_ ≠ (.slice Ao11 x5_1.length co11 : Value).ownBlock ∧ some k_ ≠ (.slice (some ad216) x7_2.length co13 : Value).ownBlock) (fun _ => False) rfl rfl ?aP (fun _ hk => hk.elim) ?aF ?aO ?aB ?aS ?aL ?_; (case aP => exact rfl); (case aB => exact (by repeat (first | (with_reducible first | exact HB.out | apply bAl | apply bDn | apply bD1) | exact HB.out))); (case aF => exact (fun k_ hk => ⟨Kd.fresh' (Kd.R_lt (by (with_reducible repeat (first | apply Kd.R_alloc | apply Kd.R_drewN | apply Kd.R_drew)); exact HO_5.out)) k_ hk, Kd.fresh' (Kd.R_lt (by (with_reducible repeat (first | apply Kd.R_alloc | apply Kd.R_drewN | apply Kd.R_drew)); exact HO_7.out)) k_ hk⟩)); (case aO => exact (by (with_reducible repeat (first | apply Kd.R_alloc | apply Kd.R_drewN | apply Kd.R_drew)); exact HO_14.out)); (case aS => exact (below_size (by repeat (first | (with_reducible first | exact HB.out | apply bAl | apply bDn | apply bD1) | exact HB.out)))); (case aL => have := LMc63.out; omega); intro v218 w64 ho hb hg hat; rw [← Ny217.out] at ho; have n0_ := aMk (Kd.R_after (ok := (fun k_ => some k_ ≠ (.slice (some ad216) x7_2.length co13 : Value).ownBlock)) (by (with_reducible repeat (first | apply Kd.R_alloc | apply Kd.R_drewN | apply Kd.R_drew)); exact HO_5.out) hg hat); have n1_ := aMk (Kd.R_after (ok := (fun k_ => some k_ ≠ (.slice Ao11 x5_1.length co11 : Value).ownBlock)) (by (with_reducible repeat (first | apply Kd.R_alloc | apply Kd.R_drewN | apply Kd.R_drew)); exact HO_7.out) hg hat); have n2_ := aMk (hb); have n3_ := aMk (ho); clear HO_5; clear HO_7; clear HB; clear HO_14; have HO_5 := n0_; have HO_7 := n1_; have HB := n2_; have HO219 := n3_; clear n0_ n1_ n2_ n3_; clear ho hb hg hat))
                               go_roundg kj51
                               case measure => have := HK1.out; have := HK2.out; have := HK3.out; have := HJ44.out; have := HJ51.out; omega
                               case rel => exact ⟨(y217), (wrap64 (x15_3 + 1)), (by first | rfl | (simp; done) | (simp [*]; done)), H', ⟨by have := HK1.out; have := HK2.out; have := HK3.out; have := HJ44.out; have := HJ51.out; omega⟩, ⟨by (try simp only [hl7_2]); (with_reducible repeat (first | apply Kd.R_alloc | apply Kd.R_drewN | apply Kd.R_drew)); exact HO_5.out⟩, ⟨by (try simp only [hl7_2]); (with_reducible repeat (first | apply Kd.R_alloc | apply Kd.R_drewN | apply Kd.R_drew)); exact HO_7.out⟩, ⟨by (try simp only [hl7_2]); (with_reducible repeat (first | apply Kd.R_alloc | apply Kd.R_drewN | apply Kd.R_drew)); exact HO219.out⟩, ⟨by repeat (first | (with_reducible first | exact HB.out | apply bAl | apply bDn | apply bD1) | exact HB.out)⟩⟩
                             · rw [if_neg c63] at H
                               exact absurd H (by simp)
                           · rw [if_neg c62] at H
                             have c62b0 : ((rd x7_2 x15_3) == 1) = false := beq_eq_false_iff_ne.mpr c62
                             have c62b1 : ((rd x7_2 x15_3) != 1) = true := bne_iff_ne.mpr c62
                             by_cases c65 : x14_3.length < 17592186044416
                             · rw [if_pos c65] at H
                               have LMc65 := aMk c65
                               clear c65
                               obtain ⟨y220, hy220⟩ : ∃ y_ : List Int, y_ = (x14_3 ++ [2]) := ⟨_, rfl⟩
                               replace H : (spec_l14Piece.l4 kj51 a1 x5_1 x7_2 (t195.length : Int) y220 (wrap64 (x15_3 + 1))) = some r := by first | (rw [hy220]; with_reducible exact H) | (have H2_ := (Option.bind_some _ _).symm.trans H; rw [hy220]; with_reducible exact H2_) | (have H2_ := (Option.bind_some _ _).symm.trans H; with_reducible exact H2_) | with_reducible exact H | (rw [hy220]; exact H) | exact H
                               have Ny220 := aMk hy220
                               clear hy220
                               have H' := aMk H
                               clear H
                               have p216 : 0 ≤ (x15_3 : Int) := oDt (by first | (with_reducible assumption) | assumption)
                               have q216 : x15_3 < (x7_2.length : Int) := oDt (by first | (with_reducible assumption) | assumption)
                               obtain ⟨ad216, e216, hx216_0⟩ := Kd.at_int (Kd.R_reads' HO_7.out).2.2 x15_3 p216 q216
                               cases e216
                               replace p216 := eq_true p216
                               replace q216 := eq_true q216
                               go_wp2_with (first | ((with_reducible refine gate_builtin (b := .append) (xs := #[.tmp 128, .tmp 130]) rfl ?_); at_builtin; refine Kd.R_append (Kd.int .i64) (w0 := w) w.heap.size rfl (.tmp 128) (.tmp 130) 22 3 (.int .i64 0) 8 rfl Try.underlying22 info3 rfl (by decide) (by omega) u14 x14_3 2 [.int .i64 2] (fun k_ => some k_ ≠ (.slice Ao11 x5_1.length co11 : Value).ownBlock ∧ some k_ ≠ (.slice (some ad216) x7_2.length co13 : Value).ownBlock) (fun _ => False) rfl rfl ?aP (fun _ hk => hk.elim) ?aF ?aO ?aB ?aS ?aL ?_; (case aP => exact rfl); (case aB => exact (by repeat (first | (with_reducible first | exact HB.out | apply bAl | apply bDn | apply bD1) | exact HB.out))); (case aF => exact (fun k_ hk => ⟨Kd.fresh' (Kd.R_lt (by (with_reducible repeat (first | apply Kd.R_alloc | apply Kd.R_drewN | apply Kd.R_drew)); exact HO_5.out)) k_ hk, Kd.fresh' (Kd.R_lt (by (with_reducible repeat (first | apply Kd.R_alloc | apply Kd.R_drewN | apply Kd.R_drew)); exact HO_7.out)) k_ hk⟩)); (case aO => exact (by (with_reducible repeat (first | apply Kd.R_alloc | apply Kd.R_drewN | apply Kd.R_drew)); exact HO_14.out)); (case aS => exact (below_size (by repeat (first | (with_reducible first | exact HB.out | apply bAl | apply bDn | apply bD1) | exact HB.out)))); (case aL => have := LMc65.out; omega); intro v221 w66 ho hb hg hat; rw [← Ny220.out] at ho; have n0_ := aMk (Kd.R_after (ok := (fun k_ => some k_ ≠ (.slice (some ad216) x7_2.length co13 : Value).ownBlock)) (by (with_reducible repeat (first | apply Kd.R_alloc | apply Kd.R_drewN | apply Kd.R_drew)); exact HO_5.out) hg hat); have n1_ := aMk (Kd.R_after (ok := (fun k_ => some k_ ≠ (.slice Ao11 x5_1.length co11 : Value).ownBlock)) (by (with_reducible repeat (first | apply Kd.R_alloc | apply Kd.R_drewN | apply Kd.R_drew)); exact HO_7.out) hg hat); have n2_ := aMk (hb); have n3_ := aMk (ho); clear HO_5; clear HO_7; clear HB; clear HO_14; have HO_5 := n0_; have HO_7 := n1_; have HB := n2_; have HO222 := n3_; clear n0_ n1_ n2_ n3_; clear ho hb hg hat))
                               go_roundg kj51
                               case measure => have := HK1.out; have := HK2.out; have := HK3.out; have := HJ44.out; have := HJ51.out; omega
                               case rel => exact ⟨(y220), (wrap64 (x15_3 + 1)), (by first | rfl | (simp; done) | (simp [*]; done)), H', ⟨by have := HK1.out; have := HK2.out; have := HK3.out; have := HJ44.out; have := HJ51.out; omega⟩, ⟨by (try simp only [hl7_2]); (with_reducible repeat (first | apply Kd.R_alloc | apply Kd.R_drewN | apply Kd.R_drew)); exact HO_5.out⟩, ⟨by (try simp only [hl7_2]); (with_reducible repeat (first | apply Kd.R_alloc | apply Kd.R_drewN | apply Kd.R_drew)); exact HO_7.out⟩, ⟨by (try simp only [hl7_2]); (with_reducible repeat (first | apply Kd.R_alloc | apply Kd.R_drewN | apply Kd.R_drew)); exact HO222.out⟩, ⟨by repeat (first | (with_reducible first | exact HB.out | apply bAl | apply bDn | apply bD1) | exact HB.out)⟩⟩
                             · rw [if_neg c65] at H
                               exact absurd H (by simp)
                         · rw [if_neg c61] at H
                           exact absurd H (by simp)
                       · rw [if_neg c60] at H
                         exact absurd H (by simp)
                     · rw [if_neg c59] at H
                       have c59b0 : (a1 == 1) = false := beq_eq_false_iff_ne.mpr c59
                       have c59b1 : (a1 != 1) = true := bne_iff_ne.mpr c59
                       by_cases c67 : x14_3.length < 17592186044416
                       · rw [if_pos c67] at H
                         have LMc67 := aMk c67
                         clear c67
                         obtain ⟨y223, hy223⟩ : ∃ y_ : List Int, y_ = (x14_3 ++ [a1]) := ⟨_, rfl⟩
                         replace H : (spec_l14Piece.l4 kj51 a1 x5_1 x7_2 (t195.length : Int) y223 (wrap64 (x15_3 + 1))) = some r := by first | (rw [hy223]; with_reducible exact H) | (have H2_ := (Option.bind_some _ _).symm.trans H; rw [hy223]; with_reducible exact H2_) | (have H2_ := (Option.bind_some _ _).symm.trans H; with_reducible exact H2_) | with_reducible exact H | (rw [hy223]; exact H) | exact H
                         have Ny223 := aMk hy223
                         clear hy223
                         have H' := aMk H
                         clear H
                         go_wp2_with (first | ((with_reducible refine gate_builtin (b := .append) (xs := #[.tmp 128, .tmp 130]) rfl ?_); at_builtin; refine Kd.R_append (Kd.int .i64) (w0 := w) w.heap.size rfl (.tmp 128) (.tmp 130) 22 3 (.int .i64 0) 8 rfl Try.underlying22 info3 rfl (by decide) (by omega) u14 x14_3 a1 [.int .i64 a1] (fun k_ => some k_ ≠ (.slice Ao11 x5_1.length co11 : Value).ownBlock ∧ some k_ ≠ (.slice Ao13 x7_2.length co13 : Value).ownBlock) (fun _ => False) rfl rfl ?aP (fun _ hk => hk.elim) ?aF ?aO ?aB ?aS ?aL ?_; (case aP => exact rfl); (case aB => exact (by repeat (first | (with_reducible first | exact HB.out | apply bAl | apply bDn | apply bD1) | exact HB.out))); (case aF => exact (fun k_ hk => ⟨Kd.fresh' (Kd.R_lt (by (with_reducible repeat (first | apply Kd.R_alloc | apply Kd.R_drewN | apply Kd.R_drew)); exact HO_5.out)) k_ hk, Kd.fresh' (Kd.R_lt (by (with_reducible repeat (first | apply Kd.R_alloc | apply Kd.R_drewN | apply Kd.R_drew)); exact HO_7.out)) k_ hk⟩)); (case aO => exact (by (with_reducible repeat (first | apply Kd.R_alloc | apply Kd.R_drewN | apply Kd.R_drew)); exact HO_14.out)); (case aS => exact (below_size (by repeat (first | (with_reducible first | exact HB.out | apply bAl | apply bDn | apply bD1) | exact HB.out)))); (case aL => have := LMc67.out; omega); intro v224 w68 ho hb hg hat; rw [← Ny223.out] at ho; have n0_ := aMk (Kd.R_after (ok := (fun k_ => some k_ ≠ (.slice Ao13 x7_2.length co13 : Value).ownBlock)) (by (with_reducible repeat (first | apply Kd.R_alloc | apply Kd.R_drewN | apply Kd.R_drew)); exact HO_5.out) hg hat); have n1_ := aMk (Kd.R_after (ok := (fun k_ => some k_ ≠ (.slice Ao11 x5_1.length co11 : Value).ownBlock)) (by (with_reducible repeat (first | apply Kd.R_alloc | apply Kd.R_drewN | apply Kd.R_drew)); exact HO_7.out) hg hat); have n2_ := aMk (hb); have n3_ := aMk (ho); clear HO_5; clear HO_7; clear HB; clear HO_14; have HO_5 := n0_; have HO_7 := n1_; have HB := n2_; have HO225 := n3_; clear n0_ n1_ n2_ n3_; clear ho hb hg hat))
                         go_roundg kj51
                         case measure => have := HK1.out; have := HK2.out; have := HK3.out; have := HJ44.out; have := HJ51.out; omega
                         case rel => exact ⟨(y223), (wrap64 (x15_3 + 1)), (by first | rfl | (simp; done) | (simp [*]; done)), H', ⟨by have := HK1.out; have := HK2.out; have := HK3.out; have := HJ44.out; have := HJ51.out; omega⟩, ⟨by (try simp only [hl7_2]); (with_reducible repeat (first | apply Kd.R_alloc | apply Kd.R_drewN | apply Kd.R_drew)); exact HO_5.out⟩, ⟨by (try simp only [hl7_2]); (with_reducible repeat (first | apply Kd.R_alloc | apply Kd.R_drewN | apply Kd.R_drew)); exact HO_7.out⟩, ⟨by (try simp only [hl7_2]); (with_reducible repeat (first | apply Kd.R_alloc | apply Kd.R_drewN | apply Kd.R_drew)); exact HO225.out⟩, ⟨by repeat (first | (with_reducible first | exact HB.out | apply bAl | apply bDn | apply bD1) | exact HB.out)⟩⟩
                       · rw [if_neg c67] at H
                         exact absurd H (by simp)
           · rw [if_neg c44] at H
             have c44b0 : decide (x15_3 < (t195.length : Int)) = false := decide_eq_false c44
             (try rw [hl7_2] at c44b0)
             (try rw [hl7_7] at c44b0)
             clear c44
             have H' := aMk H
             clear H
             go_wp2
             go_loopg [17, 18] k3 (fun kq v17 v18 w' => ∃ (x14_4 : List Int) (x17_4 : Bool) (x18_4 : Int), v17 = .bool x17_4 ∧ v18 = .int .i64 x18_4 ∧ Aside0 (spec_l14Piece.l5 kq a1 x5_1 x14_4 x17_4 x18_4 = some r) ∧ Aside0 (kq ≤ k3) ∧ Aside0 (Kd.R (Kd.int .i64) 3 w' w.heap.size (fun k_ => some k_ ≠ (u14 : Value).ownBlock) (.slice Ao11 x5_1.length co11) x5_1) ∧ Aside0 (Kd.R (Kd.int .i64) 3 w' w.heap.size (fun k_ => some k_ ≠ ((.slice Ao11 x5_1.length co11) : Value).ownBlock) u14 x14_4) ∧ Aside0 (Below w.heap.size w w'))
             case atStart => exact ⟨(x14_3), (true), (wrap64 ((t195.length : Int) - 1)), (by first | rfl | (simp; done) | (simp [*]; done)), (by first | rfl | (simp; done) | (simp [*]; done)), H', ⟨Nat.le_refl _⟩, ⟨by (try simp only [hl7_2]); (with_reducible repeat (first | apply Kd.R_alloc | apply Kd.R_drewN | apply Kd.R_drew)); exact Kd.R_mono HO_5.out (fun _ hk => hk.2)⟩, ⟨by (try simp only [hl7_2]); (with_reducible repeat (first | apply Kd.R_alloc | apply Kd.R_drewN | apply Kd.R_drew)); exact Kd.R_mono HO_14.out (fun _ hk => hk.1)⟩, ⟨by repeat (first | (with_reducible first | exact HB.out | apply bAl | apply bDn | apply bD1) | exact HB.out)⟩⟩
             case round =>
              clear H'
              (try clear c1); (try clear p1); (try clear q1); (try clear hx1); (try clear c2); (try clear p2); (try clear q2); (try clear hx2); (try clear c3); (try clear p3); (try clear q3); (try clear hx3); (try clear hf3); (try clear c4); (try clear c5); (try clear c5b0); (try clear c6); (try clear c6b0); (try clear p6); (try clear c7); (try clear c8); (try clear c10); (try clear c11); (try clear c14); (try clear c14b0); (try clear c15); (try clear c15b0); (try clear c16); (try clear c16b0); (try clear c17); (try clear c17b0); (try clear c19); (try clear c19b0); (try clear p19); (try clear q19); (try clear hx19); (try clear c20); (try clear c20b0); (try clear p20); (try clear q20); (try clear hx20); (try clear c21); (try clear c21b0); (try clear p21); (try clear q21); (try clear hx21); (try clear c22); (try clear c22b0); (try clear c24); (try clear c24b0); (try clear c26); (try clear c26b0); (try clear c27); (try clear c27b0); (try clear c30); (try clear c30b0); (try clear c31); (try clear c31b0); (try clear c32); (try clear c32b0); (try clear c35); (try clear c35b0); (try clear c35b1); (try clear c36); (try clear c36b0); (try clear c37); (try clear c37b0); (try clear c38); (try clear c38b0); (try clear p39); (try clear q39); (try clear hx39); (try clear hf39); (try clear c44); (try clear c44b0); (try clear c46); (try clear c46b0); (try clear c46b1); (try clear c47); (try clear c47b0); (try clear c48); (try clear c48b0); (try clear c49); (try clear c50); (try clear c53); (try clear c53b0); (try clear c53b1); (try clear c54); (try clear c54b0); (try clear c55); (try clear c55b0); (try clear c56); (try clear c57); (try clear c59); (try clear c59b0); (try clear c59b1); (try clear c60); (try clear c60b0); (try clear c61); (try clear c61b0); (try clear c62); (try clear c62b0); (try clear c62b1); (try clear c63); (try clear p64); (try clear c65); (try clear c67); (try clear hx190_0); (try clear hx198_0); (try clear hx199_0); (try clear hx200_0); (try clear hx202_0); (try clear hx208_0); (try clear hx212_0); (try clear hx216_0); (try clear hx39_0); (try clear p1); (try clear p19); (try clear p190); (try clear p198); (try clear p199); (try clear p2); (try clear p20); (try clear p200); (try clear p202); (try clear p208); (try clear p21); (try clear p212); (try clear p216); (try clear p3); (try clear p39); (try clear p6); (try clear q1); (try clear q19); (try clear q190); (try clear q198); (try clear q199); (try clear q2); (try clear q20); (try clear q200); (try clear q202); (try clear q208); (try clear q21); (try clear q212); (try clear q216); (try clear q3); (try clear q39)
              obtain ⟨x14_4, x17_4, x18_4, rfl, rfl, HA, HK4, HO_5, HO_14, HB⟩ := hrel
              cases gk with
              | zero => exact absurd HA.out (by simp [spec_l14Piece.l5])
              | succ k4 =>
               have H := HA.out
               clear HA
               simp only [spec_l14Piece.l5] at H
               by_cases c69 : x18_4 ≥ 0
               · rw [if_pos c69] at H
                 have c69b0 : decide (0 ≤ x18_4) = true := decide_eq_true c69
                 clear c69
                 have HC70 := aMk H
                 clear H
                 go_upto_region 43 with (fail)
                 go_cut [149] (fun v149 wc => ∃ (kq : Nat) (x149_69 : Bool), v149 = .bool x149_69 ∧ Aside0 (spec_l14Piece.j12 kq a1 x5_1 x14_4 x17_4 x18_4 x149_69 = some r) ∧ Aside0 (kq ≤ k4) ∧ Aside0 (Kd.R (Kd.int .i64) 3 wc w.heap.size (fun k_ => some k_ ≠ (u14 : Value).ownBlock) (.slice Ao11 x5_1.length co11) x5_1) ∧ Aside0 (Kd.R (Kd.int .i64) 3 wc w.heap.size (fun k_ => some k_ ≠ ((.slice Ao11 x5_1.length co11) : Value).ownBlock) u14 x14_4) ∧ Aside0 (Below w.heap.size w wc))
                 case first =>
                  have H := HC70.out
                  clear HC70
                  by_cases c71 : 0 ≤ x18_4
                  · rw [if_pos c71] at H
                    have c71b0 : decide (0 ≤ x18_4) = true := decide_eq_true c71
                    clear c71
                    (first | rw [c71b0] | (simp only [i64_w, i32_w]; rw [c71b0]) | skip)
                    by_cases c72 : x18_4 < (x5_1.length : Int)
                    · rw [if_pos c72] at H
                      have c72b0 : decide (x18_4 < (x5_1.length : Int)) = true := decide_eq_true c72
                      (try rw [hl7_2] at c72b0)
                      (try rw [hl7_7] at c72b0)
                      clear c72
                      by_cases c73 : (rd x5_1 x18_4) = 10
                      · rw [if_pos c73] at H
                        have c73b0 : ((rd x5_1 x18_4) == 10) = true := beq_iff_eq.mpr c73
                        have c73b1 : ((rd x5_1 x18_4) != 10) = false := bne_eq_false_iff_eq.mpr c73
                        clear c73
                        have H' := aMk H
                        clear H
                        have p226 : 0 ≤ (x18_4 : Int) := oDt (by first | (with_reducible assumption) | assumption)
                        have q226 : x18_4 < (x5_1.length : Int) := oDt (by first | (with_reducible assumption) | assumption)
                        obtain ⟨ad226, e226, hx226_0⟩ := Kd.at_int (Kd.R_reads' HO_5.out).2.2 x18_4 p226 q226
                        cases e226
                        replace p226 := eq_true p226
                        replace q226 := eq_true q226
                        go_wp2
                        go_meet
                        case rel => exact ⟨_, (true), (by first | rfl | (simp; done) | (simp [*]; done)), H', ⟨by have := HK1.out; have := HK2.out; have := HK3.out; have := HK4.out; first | omega | exact Nat.le_refl _⟩, ⟨by (try simp only [hl7_2]); (with_reducible repeat (first | apply Kd.R_alloc | apply Kd.R_drewN | apply Kd.R_drew)); exact HO_5.out⟩, ⟨by (try simp only [hl7_2]); (with_reducible repeat (first | apply Kd.R_alloc | apply Kd.R_drewN | apply Kd.R_drew)); exact HO_14.out⟩, ⟨by repeat (first | (with_reducible first | exact HB.out | apply bAl | apply bDn | apply bD1) | exact HB.out)⟩⟩
                      · rw [if_neg c73] at H
                        have c73b0 : ((rd x5_1 x18_4) == 10) = false := beq_eq_false_iff_ne.mpr c73
                        have c73b1 : ((rd x5_1 x18_4) != 10) = true := bne_iff_ne.mpr c73
                        have H' := aMk H
                        clear H
                        have p226 : 0 ≤ (x18_4 : Int) := oDt (by first | (with_reducible assumption) | assumption)
                        have q226 : x18_4 < (x5_1.length : Int) := oDt (by first | (with_reducible assumption) | assumption)
                        obtain ⟨ad226, e226, hx226_0⟩ := Kd.at_int (Kd.R_reads' HO_5.out).2.2 x18_4 p226 q226
                        cases e226
                        replace p226 := eq_true p226
                        replace q226 := eq_true q226
                        have p227 : 0 ≤ (x18_4 : Int) := oDt (by first | (with_reducible assumption) | assumption)
                        have q227 : x18_4 < (x5_1.length : Int) := oDt (by first | (with_reducible assumption) | assumption)
                        obtain ⟨ad227, e227, hx227_0⟩ := Kd.at_int (Kd.R_reads' HO_5.out).2.2 x18_4 p227 q227
                        obtain rfl : ad226 = ad227 := (by injection e227)
                        replace p227 := eq_true p227
                        replace q227 := eq_true q227
                        go_wp2
                        go_meet
                        case rel => exact ⟨_, (((rd x5_1 x18_4) == 11)), (by first | rfl | (simp; done) | (simp [*]; done)), H', ⟨by have := HK1.out; have := HK2.out; have := HK3.out; have := HK4.out; first | omega | exact Nat.le_refl _⟩, ⟨by (try simp only [hl7_2]); (with_reducible repeat (first | apply Kd.R_alloc | apply Kd.R_drewN | apply Kd.R_drew)); exact HO_5.out⟩, ⟨by (try simp only [hl7_2]); (with_reducible repeat (first | apply Kd.R_alloc | apply Kd.R_drewN | apply Kd.R_drew)); exact HO_14.out⟩, ⟨by repeat (first | (with_reducible first | exact HB.out | apply bAl | apply bDn | apply bD1) | exact HB.out)⟩⟩
                    · rw [if_neg c72] at H
                      exact absurd H (by simp)
                  · rw [if_neg c71] at H
                    exact absurd H (by simp)
                 case rest =>
                  clear HC70
                  (try clear c1); (try clear p1); (try clear q1); (try clear hx1); (try clear c2); (try clear p2); (try clear q2); (try clear hx2); (try clear c3); (try clear p3); (try clear q3); (try clear hx3); (try clear hf3); (try clear c4); (try clear c5); (try clear c5b0); (try clear c6); (try clear c6b0); (try clear p6); (try clear c7); (try clear c8); (try clear c10); (try clear c11); (try clear c14); (try clear c14b0); (try clear c15); (try clear c15b0); (try clear c16); (try clear c16b0); (try clear c17); (try clear c17b0); (try clear c19); (try clear c19b0); (try clear p19); (try clear q19); (try clear hx19); (try clear c20); (try clear c20b0); (try clear p20); (try clear q20); (try clear hx20); (try clear c21); (try clear c21b0); (try clear p21); (try clear q21); (try clear hx21); (try clear c22); (try clear c22b0); (try clear p22); (try clear q22); (try clear hx22); (try clear c24); (try clear c24b0); (try clear c26); (try clear c26b0); (try clear c27); (try clear c27b0); (try clear c30); (try clear c30b0); (try clear c31); (try clear c31b0); (try clear c32); (try clear c32b0); (try clear c35); (try clear c35b0); (try clear c35b1); (try clear c36); (try clear c36b0); (try clear c37); (try clear c37b0); (try clear c38); (try clear c38b0); (try clear p39); (try clear q39); (try clear hx39); (try clear hf39); (try clear c44); (try clear c44b0); (try clear c46); (try clear c46b0); (try clear c46b1); (try clear c47); (try clear c47b0); (try clear c48); (try clear c48b0); (try clear c49); (try clear c50); (try clear c53); (try clear c53b0); (try clear c53b1); (try clear c54); (try clear c54b0); (try clear c55); (try clear c55b0); (try clear c56); (try clear c57); (try clear c59); (try clear c59b0); (try clear c59b1); (try clear c60); (try clear c60b0); (try clear c61); (try clear c61b0); (try clear c62); (try clear c62b0); (try clear c62b1); (try clear c63); (try clear p64); (try clear c65); (try clear c67); (try clear c69); (try clear c69b0); (try clear c71); (try clear c71b0); (try clear c72); (try clear c72b0); (try clear c73); (try clear c73b0); (try clear c73b1); (try clear hx190_0); (try clear hx198_0); (try clear hx199_0); (try clear hx200_0); (try clear hx202_0); (try clear hx208_0); (try clear hx212_0); (try clear hx216_0); (try clear hx226_0); (try clear hx227_0); (try clear hx39_0); (try clear p1); (try clear p19); (try clear p190); (try clear p198); (try clear p199); (try clear p2); (try clear p20); (try clear p200); (try clear p202); (try clear p208); (try clear p21); (try clear p212); (try clear p216); (try clear p226); (try clear p227); (try clear p3); (try clear p39); (try clear p6); (try clear p64); (try clear q1); (try clear q19); (try clear q190); (try clear q198); (try clear q199); (try clear q2); (try clear q20); (try clear q200); (try clear q202); (try clear q208); (try clear q21); (try clear q212); (try clear q216); (try clear q226); (try clear q227); (try clear q3); (try clear q39)
                  obtain ⟨kq, x149_69, rfl, HA, HJ69, HO_5, HO_14, HB⟩ := hcut
                  cases kq with
                  | zero => exact absurd HA.out (by simp [spec_l14Piece.j12])
                  | succ kj69 =>
                   have H := HA.out
                   clear HA
                   simp only [spec_l14Piece.j12] at H
                   by_cases c74 : x149_69 = true
                   · subst c74
                     have H1 : (if 0 ≤ x18_4 then (if x18_4 < (x14_4.length : Int) then (spec_l14Piece.l5 kj69 a1 x5_1 (x14_4.set (x18_4 : Int).toNat a1) true (wrap64 (x18_4 - 1))) else (none)) else (none)) = some r := by rw [if_pos rfl] at H; exact H
                     clear H
                     have H := H1
                     clear H1
                     by_cases c75 : 0 ≤ x18_4
                     · rw [if_pos c75] at H
                       have c75b0 : decide (0 ≤ x18_4) = true := decide_eq_true c75
                       clear c75
                       by_cases c76 : x18_4 < (x14_4.length : Int)
                       · rw [if_pos c76] at H
                         have c76b0 : decide (x18_4 < (x14_4.length : Int)) = true := decide_eq_true c76
                         (try rw [hl7_2] at c76b0)
                         (try rw [hl7_7] at c76b0)
                         clear c76
                         obtain ⟨y228, hy228⟩ : ∃ y_ : List Int, y_ = (x14_4.set (x18_4 : Int).toNat a1) := ⟨_, rfl⟩
                         replace H : (spec_l14Piece.l5 kj69 a1 x5_1 y228 true (wrap64 (x18_4 - 1))) = some r := by first | (rw [hy228]; with_reducible exact H) | (have H2_ := (Option.bind_some _ _).symm.trans H; rw [hy228]; with_reducible exact H2_) | (have H2_ := (Option.bind_some _ _).symm.trans H; with_reducible exact H2_) | with_reducible exact H | (rw [hy228]; exact H) | exact H
                         have Ny228 := aMk hy228
                         clear hy228
                         have H' := aMk H
                         clear H
                         have p77 : 0 ≤ (x18_4 : Int) := oDt (by first | (with_reducible assumption) | assumption)
                         have q77 : (x18_4 : Int) < ((x14_4.length : Int) : Int) := oDt (by first | (with_reducible assumption) | assumption)
                         obtain ⟨go77, co77, eo77, gb77, gl77, cl77, HG77⟩ := Kd.R_form HO_14.out (by omega)
                         (first | cases eo77 | (injection eo77 with ea_ en_ ec_; (first | subst ea_ | (injection ea_ with ea_; subst ea_)); subst ec_; clear en_))
                         have GB77 := aMk gb77
                         have GG77 := aMk HG77
                         clear gb77 gl77 HG77
                         obtain ⟨hx77_0, hf77_0⟩ := Kd.R_celln 0 HO_14.out (x18_4 : Int) p77 q77
                         replace p77 := eq_true p77
                         replace q77 := eq_true q77
                         have HP78 := Kd.R_putg HO_14.out (x18_4 : Int) a1
                         go_wp2_with (first | ((with_reducible refine gate_store (t := 3) (p := 159) rfl ?_); refine store_event (t := 3) (p := 159) (v := ?vo_w79) (w1 := (wc.setCell ⟨go77, (x18_4 : Int).toNat, none⟩ (.int .i64 a1))) ?hg ?ho ?hn ?hr ?_; (case ho => rfl); (case hg => rfl); (case hn => rfl); (case hr => first | (go_simp; done) | (go_simp; rfl)); intro w79 hw; have hg : wc.grownBy w79 (some go77) := (by rw [hw]; exact HP78.2); have hp_ : Kd.R (Kd.int .i64) 3 w79 w.heap.size (fun k_ => some k_ ≠ (.slice Ao11 x5_1.length co11 : Value).ownBlock) (.slice (some ⟨go77, 0, none⟩) x14_4.length co77) y228 := (by rw [hw, Ny228.out]; exact HP78.1); clear HP78; have n0_ := aMk (Kd.R_after (v := (.slice (some ⟨go77, 0, none⟩) x14_4.length co77)) (v1 := (.slice (some ⟨go77, 0, none⟩) x14_4.length co77)) (ok := (fun _ => True)) (by (with_reducible repeat (first | apply Kd.R_alloc | apply Kd.R_drewN | apply Kd.R_drew)); exact Kd.R_mono HO_5.out (fun _ hk => ⟨trivial, hk⟩)) hg (.inl rfl)); have n1_ := aMk (hp_); have n2_ := aMk ((by rw [hw]; exact bSe (HB.out) GB77.out : Below w.heap.size w w79)); clear HO_5; clear HO_14; clear HB; have HO_5 := n0_; have HO_14 := n1_; have HB := n2_; clear n0_ n1_ n2_; clear hg hw hp_))
                         go_roundg kj69
                         case measure => have := HK1.out; have := HK2.out; have := HK3.out; have := HK4.out; have := HJ69.out; omega
                         case rel => exact ⟨(y228), (true), (wrap64 (x18_4 - 1)), (by first | rfl | (simp; done) | (simp [*]; done)), (by first | rfl | (simp; done) | (simp [*]; done)), H', ⟨by have := HK1.out; have := HK2.out; have := HK3.out; have := HK4.out; have := HJ69.out; omega⟩, ⟨by (try simp only [hl7_2]); (with_reducible repeat (first | apply Kd.R_alloc | apply Kd.R_drewN | apply Kd.R_drew)); exact Kd.R_mono HO_5.out (fun _ hk => hk.2)⟩, ⟨by (try simp only [hl7_2]); (with_reducible repeat (first | apply Kd.R_alloc | apply Kd.R_drewN | apply Kd.R_drew)); exact HO_14.out⟩, ⟨by repeat (first | (with_reducible first | exact HB.out | apply bAl | apply bDn | apply bD1) | exact HB.out)⟩⟩
                       · rw [if_neg c76] at H
                         exact absurd H (by simp)
                     · rw [if_neg c75] at H
                       exact absurd H (by simp)
                   · replace c74 := Bool.eq_false_iff.mpr c74
                     subst c74
                     have H1 : (if 0 ≤ x18_4 then (if x18_4 < (x5_1.length : Int) then (if (rd x5_1 x18_4) = 9 then (if x17_4 = true then (if x18_4 < (x14_4.length : Int) then (spec_l14Piece.l5 kj69 a1 x5_1 (x14_4.set (x18_4 : Int).toNat a1) x17_4 (wrap64 (x18_4 - 1))) else (none)) else (spec_l14Piece.l5 kj69 a1 x5_1 x14_4 x17_4 (wrap64 (x18_4 - 1)))) else (spec_l14Piece.l5 kj69 a1 x5_1 x14_4 false (wrap64 (x18_4 - 1)))) else (none)) else (none)) = some r := by rw [if_neg (show ¬ (false = true) by decide)] at H; exact H
                     clear H
                     have H := H1
                     clear H1
                     by_cases c80 : 0 ≤ x18_4
                     · rw [if_pos c80] at H
                       have c80b0 : decide (0 ≤ x18_4) = true := decide_eq_true c80
                       clear c80
                       by_cases c81 : x18_4 < (x5_1.length : Int)
                       · rw [if_pos c81] at H
                         have c81b0 : decide (x18_4 < (x5_1.length : Int)) = true := decide_eq_true c81
                         (try rw [hl7_2] at c81b0)
                         (try rw [hl7_7] at c81b0)
                         clear c81
                         by_cases c82 : (rd x5_1 x18_4) = 9
                         · rw [if_pos c82] at H
                           have c82b0 : ((rd x5_1 x18_4) == 9) = true := beq_iff_eq.mpr c82
                           have c82b1 : ((rd x5_1 x18_4) != 9) = false := bne_eq_false_iff_eq.mpr c82
                           clear c82
                           by_cases c83 : x17_4 = true
                           · subst c83
                             have H1 : (if x18_4 < (x14_4.length : Int) then (spec_l14Piece.l5 kj69 a1 x5_1 (x14_4.set (x18_4 : Int).toNat a1) true (wrap64 (x18_4 - 1))) else (none)) = some r := by rw [if_pos rfl] at H; exact H
                             clear H
                             have H := H1
                             clear H1
                             by_cases c84 : x18_4 < (x14_4.length : Int)
                             · rw [if_pos c84] at H
                               have c84b0 : decide (x18_4 < (x14_4.length : Int)) = true := decide_eq_true c84
                               (try rw [hl7_2] at c84b0)
                               (try rw [hl7_7] at c84b0)
                               clear c84
                               obtain ⟨y230, hy230⟩ : ∃ y_ : List Int, y_ = (x14_4.set (x18_4 : Int).toNat a1) := ⟨_, rfl⟩
                               replace H : (spec_l14Piece.l5 kj69 a1 x5_1 y230 true (wrap64 (x18_4 - 1))) = some r := by first | (rw [hy230]; with_reducible exact H) | (have H2_ := (Option.bind_some _ _).symm.trans H; rw [hy230]; with_reducible exact H2_) | (have H2_ := (Option.bind_some _ _).symm.trans H; with_reducible exact H2_) | with_reducible exact H | (rw [hy230]; exact H) | exact H
                               have Ny230 := aMk hy230
                               clear hy230
                               have H' := aMk H
                               clear H
                               have p229 : 0 ≤ (x18_4 : Int) := oDt (by first | (with_reducible assumption) | assumption)
                               have q229 : x18_4 < (x5_1.length : Int) := oDt (by first | (with_reducible assumption) | assumption)
                               obtain ⟨ad229, e229, hx229_0⟩ := Kd.at_int (Kd.R_reads' HO_5.out).2.2 x18_4 p229 q229
                               cases e229
                               replace p229 := eq_true p229
                               replace q229 := eq_true q229
                               have p85 : 0 ≤ (x18_4 : Int) := oDt (by first | (with_reducible assumption) | assumption)
                               have q85 : (x18_4 : Int) < ((x14_4.length : Int) : Int) := oDt (by first | (with_reducible assumption) | assumption)
                               obtain ⟨go85, co85, eo85, gb85, gl85, cl85, HG85⟩ := Kd.R_form HO_14.out (by omega)
                               (first | cases eo85 | (injection eo85 with ea_ en_ ec_; (first | subst ea_ | (injection ea_ with ea_; subst ea_)); subst ec_; clear en_))
                               have GB85 := aMk gb85
                               have GG85 := aMk HG85
                               clear gb85 gl85 HG85
                               obtain ⟨hx85_0, hf85_0⟩ := Kd.R_celln 0 HO_14.out (x18_4 : Int) p85 q85
                               replace p85 := eq_true p85
                               replace q85 := eq_true q85
                               have HP86 := Kd.R_putg HO_14.out (x18_4 : Int) a1
                               go_wp2_with (first | ((with_reducible refine gate_store (t := 3) (p := 159) rfl ?_); refine store_event (t := 3) (p := 159) (v := ?vo_w87) (w1 := (wc.setCell ⟨go85, (x18_4 : Int).toNat, none⟩ (.int .i64 a1))) ?hg ?ho ?hn ?hr ?_; (case ho => rfl); (case hg => rfl); (case hn => rfl); (case hr => first | (go_simp; done) | (go_simp; rfl)); intro w87 hw; have hg : wc.grownBy w87 (some go85) := (by rw [hw]; exact HP86.2); have hp_ : Kd.R (Kd.int .i64) 3 w87 w.heap.size (fun k_ => some k_ ≠ (.slice (some ad229) x5_1.length co11 : Value).ownBlock) (.slice (some ⟨go85, 0, none⟩) x14_4.length co85) y230 := (by rw [hw, Ny230.out]; exact HP86.1); clear HP86; have n0_ := aMk (Kd.R_after (v := (.slice (some ⟨go85, 0, none⟩) x14_4.length co85)) (v1 := (.slice (some ⟨go85, 0, none⟩) x14_4.length co85)) (ok := (fun _ => True)) (by (with_reducible repeat (first | apply Kd.R_alloc | apply Kd.R_drewN | apply Kd.R_drew)); exact Kd.R_mono HO_5.out (fun _ hk => ⟨trivial, hk⟩)) hg (.inl rfl)); have n1_ := aMk (hp_); have n2_ := aMk ((by rw [hw]; exact bSe (HB.out) GB85.out : Below w.heap.size w w87)); clear HO_5; clear HO_14; clear HB; have HO_5 := n0_; have HO_14 := n1_; have HB := n2_; clear n0_ n1_ n2_; clear hg hw hp_))
                               go_roundg kj69
                               case measure => have := HK1.out; have := HK2.out; have := HK3.out; have := HK4.out; have := HJ69.out; omega
                               case rel => exact ⟨(y230), (true), (wrap64 (x18_4 - 1)), (by first | rfl | (simp; done) | (simp [*]; done)), (by first | rfl | (simp; done) | (simp [*]; done)), H', ⟨by have := HK1.out; have := HK2.out; have := HK3.out; have := HK4.out; have := HJ69.out; omega⟩, ⟨by (try simp only [hl7_2]); (with_reducible repeat (first | apply Kd.R_alloc | apply Kd.R_drewN | apply Kd.R_drew)); exact Kd.R_mono HO_5.out (fun _ hk => hk.2)⟩, ⟨by (try simp only [hl7_2]); (with_reducible repeat (first | apply Kd.R_alloc | apply Kd.R_drewN | apply Kd.R_drew)); exact HO_14.out⟩, ⟨by repeat (first | (with_reducible first | exact HB.out | apply bAl | apply bDn | apply bD1) | exact HB.out)⟩⟩
                             · rw [if_neg c84] at H
                               exact absurd H (by simp)
                           · replace c83 := Bool.eq_false_iff.mpr c83
                             subst c83
                             have H1 : (spec_l14Piece.l5 kj69 a1 x5_1 x14_4 false (wrap64 (x18_4 - 1))) = some r := by rw [if_neg (show ¬ (false = true) by decide)] at H; exact H
                             clear H
                             have H := H1
                             clear H1
                             have H' := aMk H
                             clear H
                             have p229 : 0 ≤ (x18_4 : Int) := oDt (by first | (with_reducible assumption) | assumption)
                             have q229 : x18_4 < (x5_1.length : Int) := oDt (by first | (with_reducible assumption) | assumption)
                             obtain ⟨ad229, e229, hx229_0⟩ := Kd.at_int (Kd.R_reads' HO_5.out).2.2 x18_4 p229 q229
                             cases e229
                             replace p229 := eq_true p229
                             replace q229 := eq_true q229
                             go_wp2
                             go_roundg kj69
                             case measure => have := HK1.out; have := HK2.out; have := HK3.out; have := HK4.out; have := HJ69.out; omega
                             case rel => exact ⟨(x14_4), (false), (wrap64 (x18_4 - 1)), (by first | rfl | (simp; done) | (simp [*]; done)), (by first | rfl | (simp; done) | (simp [*]; done)), H', ⟨by have := HK1.out; have := HK2.out; have := HK3.out; have := HK4.out; have := HJ69.out; omega⟩, ⟨by (try simp only [hl7_2]); (with_reducible repeat (first | apply Kd.R_alloc | apply Kd.R_drewN | apply Kd.R_drew)); exact HO_5.out⟩, ⟨by (try simp only [hl7_2]); (with_reducible repeat (first | apply Kd.R_alloc | apply Kd.R_drewN | apply Kd.R_drew)); exact HO_14.out⟩, ⟨by repeat (first | (with_reducible first | exact HB.out | apply bAl | apply bDn | apply bD1) | exact HB.out)⟩⟩
                         · rw [if_neg c82] at H
                           have c82b0 : ((rd x5_1 x18_4) == 9) = false := beq_eq_false_iff_ne.mpr c82
                           have c82b1 : ((rd x5_1 x18_4) != 9) = true := bne_iff_ne.mpr c82
                           have H' := aMk H
                           clear H
                           have p229 : 0 ≤ (x18_4 : Int) := oDt (by first | (with_reducible assumption) | assumption)
                           have q229 : x18_4 < (x5_1.length : Int) := oDt (by first | (with_reducible assumption) | assumption)
                           obtain ⟨ad229, e229, hx229_0⟩ := Kd.at_int (Kd.R_reads' HO_5.out).2.2 x18_4 p229 q229
                           cases e229
                           replace p229 := eq_true p229
                           replace q229 := eq_true q229
                           go_wp2
                           go_roundg kj69
                           case measure => have := HK1.out; have := HK2.out; have := HK3.out; have := HK4.out; have := HJ69.out; omega
                           case rel => exact ⟨(x14_4), (false), (wrap64 (x18_4 - 1)), (by first | rfl | (simp; done) | (simp [*]; done)), (by first | rfl | (simp; done) | (simp [*]; done)), H', ⟨by have := HK1.out; have := HK2.out; have := HK3.out; have := HK4.out; have := HJ69.out; omega⟩, ⟨by (try simp only [hl7_2]); (with_reducible repeat (first | apply Kd.R_alloc | apply Kd.R_drewN | apply Kd.R_drew)); exact HO_5.out⟩, ⟨by (try simp only [hl7_2]); (with_reducible repeat (first | apply Kd.R_alloc | apply Kd.R_drewN | apply Kd.R_drew)); exact HO_14.out⟩, ⟨by repeat (first | (with_reducible first | exact HB.out | apply bAl | apply bDn | apply bD1) | exact HB.out)⟩⟩
                       · rw [if_neg c81] at H
                         exact absurd H (by simp)
                     · rw [if_neg c80] at H
                       exact absurd H (by simp)
               · rw [if_neg c69] at H
                 have c69b0 : decide (0 ≤ x18_4) = false := decide_eq_false c69
                 clear c69
                 obtain rfl := Option.some.inj H
                 go_wp2
                 go_ret
                 exact ⟨_, by first | rfl | (simp [errW_none, errW_some] <;> rfl) | (simp [*, errW_none, errW_some] <;> rfl), by (with_reducible repeat (first | apply Kd.R_alloc | apply Kd.R_drewN | apply Kd.R_drew)); exact Kd.R_mono HO_14.out (fun _ hk => trivial), by repeat (first | (with_reducible first | exact HB.out | apply bAl | apply bDn | apply bD1) | exact HB.out)⟩
end Go.Proofs.Ytpknhndanbgkmaa.MFnLevels
