-- Written by this session's own program (wip/gen/myprint.py).
import Derived.Test.YtmffcjjodkggcaaMFnExactFeedMorex0
import Derived.Test.YtmffcjjodkggcaaMFnExactFeedMorex6
import Derived.Test.YtmffcjjodkggcaaMFnExactFeedMorex7
namespace Go.Proofs.Ytmffcjjodkggcaa.MFnExactFeedMore
open Go.RowKit Go.Proofs.YtmffcjjodkggcaaW.PrintWords Go.Proofs.YtmffcjjodkggcaaW.PrintLast Go.Proofs.YtmffcjjodkggcaaW.PrintMore
attribute [local go_sem] max2_int min2_int max_two min_two max_three min_three max_four min_four   -- for this text's walks alone
set_option linter.unusedVariables false
set_option linter.unusedSimpArgs false
def spec_l1ReadUtf8.l0 : Nat → List Int → List Int → Int → Option (List Int)
 | 0, _, _, _ => none
 | k + 1, x0, x3, x4 => if x4 < (x0.length : Int) then ((spec_l1Seq.f k x0 x4).bind fun bt199 => (if bt199.2 = true then (if 0 ≤ x4 then (if x4 ≤ (wrap64 (x4 + bt199.1)) then (if (wrap64 (x4 + bt199.1)) ≤ (x0.length : Int) then (if x3.length + ((x0.take ((wrap64 (x4 + bt199.1)) : Int).toNat).drop (x4 : Int).toNat).length < 140737488355328 then (spec_l1ReadUtf8.l0 k x0 (x3 ++ ((x0.take ((wrap64 (x4 + bt199.1)) : Int).toNat).drop (x4 : Int).toNat)) (wrap64 (x4 + bt199.1))) else (none)) else (none)) else (none)) else (none)) else (if bt199.1 = 0 then ((spec_l1Put.f k x3 65533).bind fun t205 => (spec_l1ReadUtf8.l0 k x0 t205 (wrap64 (x4 + 1)))) else ((spec_l1Put.f k x3 65533).bind fun t208 => (spec_l1ReadUtf8.l0 k x0 t208 (wrap64 (x4 + bt199.1))))))) else (some x3)
def spec_l1ReadUtf8.f (k : Nat) (l0 : List Int) : Option (List Int) := spec_l1ReadUtf8.l0 k l0 (([] : List Int)) 0
set_option maxHeartbeats 8000000 in
set_option maxRecDepth 100000 in
theorem spec_l1ReadUtf8.calls (k : Nat) (A0 : Option Addr) (c0 : Nat) (l0 : List Int) (r : List Int) (w : World) (hr0 : Kd.C (Kd.int .u8) w A0 l0.length l0) (hc0 : l0.length ≤ c0) (h : spec_l1ReadUtf8.f k l0 = some r) :
 Calls Try.prog 62 #[.slice A0 l0.length c0] w fun e w' => ∃ v0_ : Value, e = .returned (v0_) ∧ Kd.R (Kd.int .u8) 5 w' w.heap.size (fun _ => True) v0_ r ∧ Below w.heap.size w w' := by
 have HR0 := aMk hr0
 have HC0 := aMk hc0
 clear hr0 hc0
 have HB := aMk (Below.refl w.heap.size w)
 have H : (spec_l1ReadUtf8.l0 k l0 (([] : List Int)) 0) = some r := h
 clear h
 obtain ⟨y196, hy196⟩ : ∃ y_ : List Int, y_ = (([] : List Int)) := ⟨_, rfl⟩
 replace H : (spec_l1ReadUtf8.l0 k l0 y196 0) = some r := by first | (rw [hy196]; with_reducible exact H) | (have H2_ := (Option.bind_some _ _).symm.trans H; rw [hy196]; with_reducible exact H2_) | (have H2_ := (Option.bind_some _ _).symm.trans H; with_reducible exact H2_) | with_reducible exact H | (rw [hy196]; exact H) | exact H
 have Ny196 := aMk hy196
 clear hy196
 have H' := aMk H
 clear H
 go_enter Try.func62, Try.ntmps62
 go_wp2_with (first | ((with_reducible refine gate_dst (N := 7) rfl ?_); refine Kd.R_lit (Kd.int .u8) _ 5 ?hg (N := 7) ?hd (xs := ([] : List Int)) (inner := []) (ok := fun _ => True) (okp := fun _ => True) ?hr ?hp (fun _ hk => hk) trivial (Below.refl _ _) (Nat.le_refl _) (by simp) ?_; (case hd => rfl); (case hg => rfl); (case hr => first | (go_simp; done) | (go_simp; rfl)); (case hp => exact (Reps.none _ _)); intro v197 w2 ho3 hb hg_ hnew_; clear hg_ hnew_; (first | rw [← Ny196.out] at ho3 | (simp only [Int.reduceToNat] at ho3; rw [← Ny196.out] at ho3)); have n0_ := aMk (Kd.R_lower ho3 (below_size (by repeat (first | (with_reducible first | exact HB.out | apply bAl | apply bDn | apply bD1) | exact HB.out)))); have n1_ := aMk (below_step (by repeat (first | (with_reducible first | exact HB.out | apply bAl | apply bDn | apply bD1) | exact HB.out)) hb); clear HB; have HO198 := n0_; have HB := n1_; clear n0_ n1_; clear hb ho3))
 go_loopg [3, 4] k (fun kq v3 v4 w' => ∃ (x3_1 : List Int) (x4_1 : Int), v4 = .int .i64 x4_1 ∧ Aside0 (spec_l1ReadUtf8.l0 kq l0 x3_1 x4_1 = some r) ∧ Aside0 (kq ≤ k) ∧ Aside0 (Kd.R (Kd.int .u8) 5 w' w.heap.size (fun _ => True) v3 x3_1) ∧ Aside0 (Below w.heap.size w w'))
 case atStart => exact ⟨(y196), (0), (by first | rfl | (simp; done) | (simp [*]; done)), H', ⟨Nat.le_refl _⟩, ⟨by (with_reducible repeat (first | apply Kd.R_alloc | apply Kd.R_drewN | apply Kd.R_drew)); exact HO198.out⟩, ⟨by repeat (first | (with_reducible first | exact HB.out | apply bAl | apply bDn | apply bD1) | exact HB.out)⟩⟩
 case round =>
  clear H'
  try clear p2
  obtain ⟨x3_1, x4_1, rfl, HA, HK1, HO_3, HB⟩ := hrel
  cases gk with
  | zero => exact absurd HA.out (by simp [spec_l1ReadUtf8.l0])
  | succ k1 =>
   have H := HA.out
   clear HA
   simp only [spec_l1ReadUtf8.l0] at H
   by_cases c4 : x4_1 < (l0.length : Int)
   · rw [if_pos c4] at H
     have c4b0 : decide (x4_1 < (l0.length : Int)) = true := decide_eq_true c4
     clear c4
     replace H := oBm H
     obtain ⟨⟨t199, t200⟩, A50, H⟩ := H
     replace H : (if t200 = true then (if 0 ≤ x4_1 then (if x4_1 ≤ (wrap64 (x4_1 + t199)) then (if (wrap64 (x4_1 + t199)) ≤ (l0.length : Int) then (if x3_1.length + ((l0.take ((wrap64 (x4_1 + t199)) : Int).toNat).drop (x4_1 : Int).toNat).length < 140737488355328 then (spec_l1ReadUtf8.l0 k1 l0 (x3_1 ++ ((l0.take ((wrap64 (x4_1 + t199)) : Int).toNat).drop (x4_1 : Int).toNat)) (wrap64 (x4_1 + t199))) else (none)) else (none)) else (none)) else (none)) else (if t199 = 0 then ((spec_l1Put.f k1 x3_1 65533).bind fun t205 => (spec_l1ReadUtf8.l0 k1 l0 t205 (wrap64 (x4_1 + 1)))) else ((spec_l1Put.f k1 x3_1 65533).bind fun t208 => (spec_l1ReadUtf8.l0 k1 l0 t208 (wrap64 (x4_1 + t199)))))) = some r := H
     have A5 := aMk A50
     clear A50
     by_cases c6 : t200 = true
     · subst c6
       have H1 : (if 0 ≤ x4_1 then (if x4_1 ≤ (wrap64 (x4_1 + t199)) then (if (wrap64 (x4_1 + t199)) ≤ (l0.length : Int) then (if x3_1.length + ((l0.take ((wrap64 (x4_1 + t199)) : Int).toNat).drop (x4_1 : Int).toNat).length < 140737488355328 then (spec_l1ReadUtf8.l0 k1 l0 (x3_1 ++ ((l0.take ((wrap64 (x4_1 + t199)) : Int).toNat).drop (x4_1 : Int).toNat)) (wrap64 (x4_1 + t199))) else (none)) else (none)) else (none)) else (none)) = some r := by rw [if_pos rfl] at H; exact H
       clear H
       have H := H1
       clear H1
       by_cases c7 : 0 ≤ x4_1
       · rw [if_pos c7] at H
         have c7b0 := eq_true c7
         have c7b1 : decide (0 ≤ x4_1) = true := decide_eq_true c7
         clear c7
         by_cases c8 : x4_1 ≤ (wrap64 (x4_1 + t199))
         · rw [if_pos c8] at H
           have c8b0 := eq_true c8
           have c8b1 : decide (x4_1 ≤ (wrap64 (x4_1 + t199))) = true := decide_eq_true c8
           by_cases c9 : (wrap64 (x4_1 + t199)) ≤ (l0.length : Int)
           · rw [if_pos c9] at H
             have c9b0 := eq_true c9
             have c9b1 : decide ((wrap64 (x4_1 + t199)) ≤ (l0.length : Int)) = true := decide_eq_true c9
             by_cases c10 : x3_1.length + ((l0.take ((wrap64 (x4_1 + t199)) : Int).toNat).drop (x4_1 : Int).toNat).length < 140737488355328
             · rw [if_pos c10] at H
               have LMc10 := aMk c10
               clear c10
               obtain ⟨y202, hy202⟩ : ∃ y_ : List Int, y_ = (x3_1 ++ ((l0.take ((wrap64 (x4_1 + t199)) : Int).toNat).drop (x4_1 : Int).toNat)) := ⟨_, rfl⟩
               replace H : (spec_l1ReadUtf8.l0 k1 l0 y202 (wrap64 (x4_1 + t199))) = some r := by first | (rw [hy202]; with_reducible exact H) | (have H2_ := (Option.bind_some _ _).symm.trans H; rw [hy202]; with_reducible exact H2_) | (have H2_ := (Option.bind_some _ _).symm.trans H; with_reducible exact H2_) | with_reducible exact H | (rw [hy202]; exact H) | exact H
               have Ny202 := aMk hy202
               clear hy202
               have H' := aMk H
               clear H
               go_wp2_with (first | ((with_reducible refine gate_callee (f := 67) rfl ?_); refine goesL_ (some 15) rfl rfl Try.func67 (by kernel_rfl) rfl #[.slice A0 l0.length c0, .int .i64 x4_1] rfl (by (try simp only [List.map_toArray, List.map_cons, List.map_nil]); first | done | rfl | (simp only [List.length_drop, List.length_take]; rfl)) ?_; (with_reducible refine (spec_l1Seq.calls k1 _ _ l0 x4_1 t199 true _ ?side1 ?side2 A5.out).mono ?_); (case side1 => repeat (first | exact (Kd.C_below HR0.out HB.out) | (with_reducible refine Kd.C_alloc ?_ _) | (with_reducible refine Kd.C_drewN ?_ _) | (with_reducible refine Kd.C_drew ?_))); (case side2 => exact HC0.out); rintro e w' ⟨rfl, ⟨nd, rfl⟩⟩; refine ⟨_, rfl, ?_⟩; obtain ⟨i011, hi011, _, hsz11, _⟩ := info_parts info5; obtain ⟨A11, hcut11, hA11, hC11⟩ := print_mid_of (P := Try.prog) (Value.int .u8) 0 22 5 .i64 .i64 Try.underlying22 hi011 hsz11 A0 c0 l0 x4_1 (wrap64 (x4_1 + t199)) (oDt (by first | (with_reducible assumption) | assumption)) (by first | omega | exact oDt (by first | (with_reducible assumption) | assumption)) (oDt (by first | (with_reducible assumption) | assumption)) HC0.out; have HR201 := aMk (Kd.C_of_reads (h1 := fun _ => rfl) (hA11 _ (Kd.reads_of_C HR0.out))); have HC201 := aMk hC11; clear hA11 hC11 hi011 hsz11) | ((with_reducible refine gate_builtin (b := .append) (xs := #[.tmp 19, .tmp 25]) rfl ?_); at_builtin; refine Kd.R_append_rows (Kd.int .u8) (w0 := w) w.heap.size rfl (.tmp 19) (.tmp 25) 22 5 (.int .u8 0) 1 rfl Try.underlying22 info5 rfl (by decide) (by omega) u3 x3_1 ((l0.take ((wrap64 (x4_1 + t199)) : Int).toNat).drop (x4_1 : Int).toNat) _ _ _ (fun _ => True) (fun _ => False) rfl rfl ?aO ?aR (fun _ _ h => h) (fun _ h => h.elim) ?aF ?aB ?aS ?aL ?_; (case aR => first | (rw [← show ((l0.take ((wrap64 (x4_1 + t199)) : Int).toNat).drop (x4_1 : Int).toNat).length = ((wrap64 (x4_1 + t199)).toNat - x4_1.toNat) from (by rw [List.length_drop, List.length_take]; have h_ : ((wrap64 (x4_1 + t199)) : Int) ≤ (l0.length : Int) := oDt (by first | (with_reducible assumption) | assumption); omega)]; repeat (first | exact (Kd.C_below HR201.out (by repeat (first | (with_reducible first | exact HB.out | apply bAl | apply bDn | apply bD1) | exact HB.out))) | (with_reducible refine Kd.C_alloc ?_ _) | (with_reducible refine Kd.C_drewN ?_ _) | (with_reducible refine Kd.C_drew ?_))) | (repeat (first | exact (Kd.C_below HR201.out (by repeat (first | (with_reducible first | exact HB.out | apply bAl | apply bDn | apply bD1) | exact HB.out))) | (with_reducible refine Kd.C_alloc ?_ _) | (with_reducible refine Kd.C_drewN ?_ _) | (with_reducible refine Kd.C_drew ?_)))); (case aB => exact (by repeat (first | (with_reducible first | exact HB.out | apply bAl | apply bDn | apply bD1) | exact HB.out))); (case aF => exact (fun _ _ => trivial)); (case aO => exact (by (with_reducible repeat (first | apply Kd.R_alloc | apply Kd.R_drewN | apply Kd.R_drew)); exact HO_3.out)); (case aS => exact (below_size (by repeat (first | (with_reducible first | exact HB.out | apply bAl | apply bDn | apply bD1) | exact HB.out)))); (case aL => have := LMc10.out; have hlx_ := (show ((l0.take ((wrap64 (x4_1 + t199)) : Int).toNat).drop (x4_1 : Int).toNat).length = ((wrap64 (x4_1 + t199)).toNat - x4_1.toNat) from (by rw [List.length_drop, List.length_take]; have h_ : ((wrap64 (x4_1 + t199)) : Int) ≤ (l0.length : Int) := oDt (by first | (with_reducible assumption) | assumption); omega)); omega); intro v203 w12 ho hb hg hat; rw [← Ny202.out] at ho; have n0_ := aMk (hb); have n1_ := aMk (ho); clear HB; clear HO_3; have HB := n0_; have HO204 := n1_; clear n0_ n1_; clear ho hb hg hat))
               go_roundg k1
               case measure => have := HK1.out; omega
               case rel => exact ⟨(y202), (wrap64 (x4_1 + t199)), (by first | rfl | (simp; done) | (simp [*]; done)), H', ⟨by have := HK1.out; omega⟩, ⟨by (with_reducible repeat (first | apply Kd.R_alloc | apply Kd.R_drewN | apply Kd.R_drew)); exact HO204.out⟩, ⟨by repeat (first | (with_reducible first | exact HB.out | apply bAl | apply bDn | apply bD1) | exact HB.out)⟩⟩
             · rw [if_neg c10] at H
               exact absurd H (by simp)
           · rw [if_neg c9] at H
             exact absurd H (by simp)
         · rw [if_neg c8] at H
           exact absurd H (by simp)
       · rw [if_neg c7] at H
         exact absurd H (by simp)
     · replace c6 := Bool.eq_false_iff.mpr c6
       subst c6
       have H1 : (if t199 = 0 then ((spec_l1Put.f k1 x3_1 65533).bind fun t205 => (spec_l1ReadUtf8.l0 k1 l0 t205 (wrap64 (x4_1 + 1)))) else ((spec_l1Put.f k1 x3_1 65533).bind fun t208 => (spec_l1ReadUtf8.l0 k1 l0 t208 (wrap64 (x4_1 + t199))))) = some r := by rw [if_neg (show ¬ (false = true) by decide)] at H; exact H
       clear H
       have H := H1
       clear H1
       by_cases c13 : t199 = 0
       · rw [if_pos c13] at H
         have c13b0 : (t199 == 0) = true := beq_iff_eq.mpr c13
         have c13b1 : (t199 != 0) = false := bne_eq_false_iff_eq.mpr c13
         clear c13
         replace H := oBm H
         obtain ⟨t205, A140, H⟩ := H
         replace H : (spec_l1ReadUtf8.l0 k1 l0 t205 (wrap64 (x4_1 + 1))) = some r := H
         have A14 := aMk A140
         clear A140
         have H' := aMk H
         clear H
         go_wp2_with (first | ((with_reducible refine gate_callee (f := 67) rfl ?_); refine goesL_ (some 15) rfl rfl Try.func67 (by kernel_rfl) rfl #[.slice A0 l0.length c0, .int .i64 x4_1] rfl (by (try simp only [List.map_toArray, List.map_cons, List.map_nil]); first | done | rfl | (simp only [List.length_drop, List.length_take]; rfl)) ?_; (with_reducible refine (spec_l1Seq.calls k1 _ _ l0 x4_1 t199 false _ ?side1 ?side2 A5.out).mono ?_); (case side1 => repeat (first | exact (Kd.C_below HR0.out HB.out) | (with_reducible refine Kd.C_alloc ?_ _) | (with_reducible refine Kd.C_drewN ?_ _) | (with_reducible refine Kd.C_drew ?_))); (case side2 => exact HC0.out); rintro e w' ⟨rfl, ⟨nd, rfl⟩⟩; refine ⟨_, rfl, ?_⟩; obtain ⟨Ao15, co15, eo15⟩ := Kd.R_slice HO_3.out; subst eo15) | ((with_reducible refine gate_callee (f := 38) rfl ?_); refine goesL_ (some 33) rfl rfl Try.func38 (by kernel_rfl) rfl #[.slice Ao15 x3_1.length co15, .int .i64 65533] rfl (by (try simp only [List.map_toArray, List.map_cons, List.map_nil]); first | done | rfl | (simp only [List.length_drop, List.length_take]; rfl)) ?_; (with_reducible refine (spec_l1Put.calls k1 (fun k_ => some k_ = (.slice Ao15 x3_1.length co15 : Value).ownBlock) (.slice Ao15 x3_1.length co15) x3_1 65533 t205 w _ ?side1 ?side2 A14.out).mono ?_); (case side1 => repeat (first | (with_reducible first | exact HB.out | apply bAl | apply bDn | apply bD1) | exact HB.out)); (case side2 => exact Kd.R_tight rfl HO_3.out); rintro e w16 ⟨v206, rfl, ho0, hb, hkp⟩; refine ⟨_, rfl, ?_⟩; have n0_ := aMk (Kd.R_mono (ok' := fun k_ => True) ho0 (fun k_ hk_ => trivial)); have n1_ := aMk (hb); clear HB; clear HO_3; have HO207 := n0_; have HB := n1_; clear n0_ n1_; (try clear hb); (try clear hkp); (try clear ho0)))
         go_roundg k1
         case measure => have := HK1.out; omega
         case rel => exact ⟨(t205), (wrap64 (x4_1 + 1)), (by first | rfl | (simp; done) | (simp [*]; done)), H', ⟨by have := HK1.out; omega⟩, ⟨by (with_reducible repeat (first | apply Kd.R_alloc | apply Kd.R_drewN | apply Kd.R_drew)); exact HO207.out⟩, ⟨by repeat (first | (with_reducible first | exact HB.out | apply bAl | apply bDn | apply bD1) | exact HB.out)⟩⟩
       · rw [if_neg c13] at H
         have c13b0 : (t199 == 0) = false := beq_eq_false_iff_ne.mpr c13
         have c13b1 : (t199 != 0) = true := bne_iff_ne.mpr c13
         replace H := oBm H
         obtain ⟨t208, A170, H⟩ := H
         replace H : (spec_l1ReadUtf8.l0 k1 l0 t208 (wrap64 (x4_1 + t199))) = some r := H
         have A17 := aMk A170
         clear A170
         have H' := aMk H
         clear H
         go_wp2_with (first | ((with_reducible refine gate_callee (f := 67) rfl ?_); refine goesL_ (some 15) rfl rfl Try.func67 (by kernel_rfl) rfl #[.slice A0 l0.length c0, .int .i64 x4_1] rfl (by (try simp only [List.map_toArray, List.map_cons, List.map_nil]); first | done | rfl | (simp only [List.length_drop, List.length_take]; rfl)) ?_; (with_reducible refine (spec_l1Seq.calls k1 _ _ l0 x4_1 t199 false _ ?side1 ?side2 A5.out).mono ?_); (case side1 => repeat (first | exact (Kd.C_below HR0.out HB.out) | (with_reducible refine Kd.C_alloc ?_ _) | (with_reducible refine Kd.C_drewN ?_ _) | (with_reducible refine Kd.C_drew ?_))); (case side2 => exact HC0.out); rintro e w' ⟨rfl, ⟨nd, rfl⟩⟩; refine ⟨_, rfl, ?_⟩; obtain ⟨Ao18, co18, eo18⟩ := Kd.R_slice HO_3.out; subst eo18) | ((with_reducible refine gate_callee (f := 38) rfl ?_); refine goesL_ (some 33) rfl rfl Try.func38 (by kernel_rfl) rfl #[.slice Ao18 x3_1.length co18, .int .i64 65533] rfl (by (try simp only [List.map_toArray, List.map_cons, List.map_nil]); first | done | rfl | (simp only [List.length_drop, List.length_take]; rfl)) ?_; (with_reducible refine (spec_l1Put.calls k1 (fun k_ => some k_ = (.slice Ao18 x3_1.length co18 : Value).ownBlock) (.slice Ao18 x3_1.length co18) x3_1 65533 t208 w _ ?side1 ?side2 A17.out).mono ?_); (case side1 => repeat (first | (with_reducible first | exact HB.out | apply bAl | apply bDn | apply bD1) | exact HB.out)); (case side2 => exact Kd.R_tight rfl HO_3.out); rintro e w19 ⟨v209, rfl, ho0, hb, hkp⟩; refine ⟨_, rfl, ?_⟩; have n0_ := aMk (Kd.R_mono (ok' := fun k_ => True) ho0 (fun k_ hk_ => trivial)); have n1_ := aMk (hb); clear HB; clear HO_3; have HO210 := n0_; have HB := n1_; clear n0_ n1_; (try clear hb); (try clear hkp); (try clear ho0)))
         go_roundg k1
         case measure => have := HK1.out; omega
         case rel => exact ⟨(t208), (wrap64 (x4_1 + t199)), (by first | rfl | (simp; done) | (simp [*]; done)), H', ⟨by have := HK1.out; omega⟩, ⟨by (with_reducible repeat (first | apply Kd.R_alloc | apply Kd.R_drewN | apply Kd.R_drew)); exact HO210.out⟩, ⟨by repeat (first | (with_reducible first | exact HB.out | apply bAl | apply bDn | apply bD1) | exact HB.out)⟩⟩
   · rw [if_neg c4] at H
     have c4b0 : decide (x4_1 < (l0.length : Int)) = false := decide_eq_false c4
     clear c4
     obtain rfl := Option.some.inj H
     go_wp2
     go_ret
     exact ⟨_, by first | rfl | (simp [errW_none, errW_some] <;> rfl) | (simp [*, errW_none, errW_some] <;> rfl), by (with_reducible repeat (first | apply Kd.R_alloc | apply Kd.R_drewN | apply Kd.R_drew)); exact HO_3.out, by repeat (first | (with_reducible first | exact HB.out | apply bAl | apply bDn | apply bD1) | exact HB.out)⟩
def spec_l1High.f (a0 : Int) : Option (Bool) := if a0 ≥ 55296 then (some (decide (a0 ≤ 56319))) else (some false)
set_option maxHeartbeats 8000000 in
set_option maxRecDepth 100000 in
theorem spec_l1High.calls (a0 : Int) (r : Bool) (w : World) (h : spec_l1High.f a0 = some r) :
 Calls Try.prog 68 #[.int .i64 a0] w fun e w' => e = .returned (.bool r) ∧ Drawn0 w w' := by
 have H : (if a0 ≥ 55296 then (some (decide (a0 ≤ 56319))) else (some false)) = some r := h
 clear h
 by_cases c2 : a0 ≥ 55296
 · rw [if_pos c2] at H
   have c2b0 : decide (55296 ≤ a0) = true := decide_eq_true c2
   clear c2
   obtain rfl := Option.some.inj H
   go_enter Try.func68, Try.ntmps68
   go_wp2
   go_ret
   exact ⟨by first | rfl | (simp; done) | (simp [*]; done), by repeat (first | exact Drawn0.refl _ | apply Drawn0.step)⟩
 · rw [if_neg c2] at H
   have c2b0 : decide (55296 ≤ a0) = false := decide_eq_false c2
   clear c2
   obtain rfl := Option.some.inj H
   go_enter Try.func68, Try.ntmps68
   go_wp2
   go_ret
   exact ⟨by first | rfl | (simp; done) | (simp [*]; done), by repeat (first | exact Drawn0.refl _ | apply Drawn0.step)⟩
def spec_l1Pair.f (l0 : List Int) (a1 : Int) (a2 : Int) : Option (Int) := if a2 = 1 then (if 0 ≤ a1 then (if a1 < (l0.length : Int) then (if 0 ≤ (wrap64 (a1 + 1)) then (if (wrap64 (a1 + 1)) < (l0.length : Int) then (some (wrap64 ((wrap64 (rd l0 a1)) + (wrap64 (256 * (wrap64 (rd l0 (wrap64 (a1 + 1))))))))) else (none)) else (none)) else (none)) else (none)) else (if 0 ≤ (wrap64 (a1 + 1)) then (if (wrap64 (a1 + 1)) < (l0.length : Int) then (if 0 ≤ a1 then (if a1 < (l0.length : Int) then (some (wrap64 ((wrap64 (rd l0 (wrap64 (a1 + 1)))) + (wrap64 (256 * (wrap64 (rd l0 a1))))))) else (none)) else (none)) else (none)) else (none))
set_option maxHeartbeats 8000000 in
set_option maxRecDepth 100000 in
theorem spec_l1Pair.calls (A0 : Option Addr) (c0 : Nat) (l0 : List Int) (a1 : Int) (a2 : Int) (r : Int) (w : World) (hr0 : Kd.C (Kd.int .u8) w A0 l0.length l0) (hc0 : l0.length ≤ c0) (h : spec_l1Pair.f l0 a1 a2 = some r) :
 Calls Try.prog 69 #[.slice A0 l0.length c0, .int .i64 a1, .int .i64 a2] w fun e w' => e = .returned (.int .i64 r) ∧ Drawn0 w w' := by
 have HR0 := aMk hr0
 have HC0 := aMk hc0
 clear hr0 hc0
 have H : (if a2 = 1 then (if 0 ≤ a1 then (if a1 < (l0.length : Int) then (if 0 ≤ (wrap64 (a1 + 1)) then (if (wrap64 (a1 + 1)) < (l0.length : Int) then (some (wrap64 ((wrap64 (rd l0 a1)) + (wrap64 (256 * (wrap64 (rd l0 (wrap64 (a1 + 1))))))))) else (none)) else (none)) else (none)) else (none)) else (if 0 ≤ (wrap64 (a1 + 1)) then (if (wrap64 (a1 + 1)) < (l0.length : Int) then (if 0 ≤ a1 then (if a1 < (l0.length : Int) then (some (wrap64 ((wrap64 (rd l0 (wrap64 (a1 + 1)))) + (wrap64 (256 * (wrap64 (rd l0 a1))))))) else (none)) else (none)) else (none)) else (none))) = some r := h
 clear h
 by_cases c4 : a2 = 1
 · rw [if_pos c4] at H
   have c4b0 : (a2 == 1) = true := beq_iff_eq.mpr c4
   have c4b1 : (a2 != 1) = false := bne_eq_false_iff_eq.mpr c4
   clear c4
   by_cases c5 : 0 ≤ a1
   · rw [if_pos c5] at H
     have c5b0 : decide (0 ≤ a1) = true := decide_eq_true c5
     clear c5
     by_cases c6 : a1 < (l0.length : Int)
     · rw [if_pos c6] at H
       have c6b0 : decide (a1 < (l0.length : Int)) = true := decide_eq_true c6
       clear c6
       obtain ⟨ji7, hji7⟩ : ∃ j_ : Int, (wrap64 (a1 + 1)) = j_ := ⟨_, rfl⟩
       replace H : (if 0 ≤ (ji7) then (if (ji7) < (l0.length : Int) then (some (wrap64 ((wrap64 (rd l0 a1)) + (wrap64 (256 * (wrap64 (rd l0 (ji7)))))))) else (none)) else (none)) = some r := by first | (rw [hji7] at H; exact H) | (simp only [hji7] at H ⊢; exact H)
       have hji7w : (IntKind.i64.wrap (a1 + 1)) = ji7 := (i64_w _).trans hji7
       by_cases c8 : 0 ≤ (ji7)
       · rw [if_pos c8] at H
         have c8b0 : decide (0 ≤ (ji7)) = true := decide_eq_true c8
         clear c8
         by_cases c9 : (ji7) < (l0.length : Int)
         · rw [if_pos c9] at H
           have c9b0 : decide ((ji7) < (l0.length : Int)) = true := decide_eq_true c9
           clear c9
           obtain rfl := Option.some.inj H
           have p211 : 0 ≤ (a1 : Int) := oDt (by first | (with_reducible assumption) | assumption)
           have q211 : a1 < (l0.length : Int) := oDt (by first | (with_reducible assumption) | assumption)
           obtain ⟨ad211, e211, hx211_0⟩ := Kd.at_int HR0.out a1 p211 q211
           cases e211
           replace p211 := eq_true p211
           replace q211 := eq_true q211
           have p212 : 0 ≤ ((ji7) : Int) := oDt (by first | (with_reducible assumption) | assumption)
           have q212 : (ji7) < (l0.length : Int) := oDt (by first | (with_reducible assumption) | assumption)
           obtain ⟨ad212, e212, hx212_0⟩ := Kd.at_int HR0.out (ji7) p212 q212
           obtain rfl : ad211 = ad212 := (by injection e212)
           replace p212 := eq_true p212
           replace q212 := eq_true q212
           go_enter Try.func69, Try.ntmps69
           go_wp2
           repeat (go_quiet (fail); try go_wp2)
           go_ret
           exact ⟨by first | rfl | (simp; done) | (simp only [← hji7] <;> (first | rfl | simp)) | (simp [*]; done), by repeat (first | exact Drawn0.refl _ | apply Drawn0.step)⟩
         · rw [if_neg c9] at H
           exact absurd H (by simp)
       · rw [if_neg c8] at H
         exact absurd H (by simp)
     · rw [if_neg c6] at H
       exact absurd H (by simp)
   · rw [if_neg c5] at H
     exact absurd H (by simp)
 · rw [if_neg c4] at H
   have c4b0 : (a2 == 1) = false := beq_eq_false_iff_ne.mpr c4
   have c4b1 : (a2 != 1) = true := bne_iff_ne.mpr c4
   obtain ⟨ji10, hji10⟩ : ∃ j_ : Int, (wrap64 (a1 + 1)) = j_ := ⟨_, rfl⟩
   replace H : (if 0 ≤ (ji10) then (if (ji10) < (l0.length : Int) then (if 0 ≤ a1 then (if a1 < (l0.length : Int) then (some (wrap64 ((wrap64 (rd l0 (ji10))) + (wrap64 (256 * (wrap64 (rd l0 a1))))))) else (none)) else (none)) else (none)) else (none)) = some r := by first | (rw [hji10] at H; exact H) | (simp only [hji10] at H ⊢; exact H)
   have hji10w : (IntKind.i64.wrap (a1 + 1)) = ji10 := (i64_w _).trans hji10
   by_cases c11 : 0 ≤ (ji10)
   · rw [if_pos c11] at H
     have c11b0 : decide (0 ≤ (ji10)) = true := decide_eq_true c11
     clear c11
     by_cases c12 : (ji10) < (l0.length : Int)
     · rw [if_pos c12] at H
       have c12b0 : decide ((ji10) < (l0.length : Int)) = true := decide_eq_true c12
       clear c12
       by_cases c13 : 0 ≤ a1
       · rw [if_pos c13] at H
         have c13b0 : decide (0 ≤ a1) = true := decide_eq_true c13
         clear c13
         by_cases c14 : a1 < (l0.length : Int)
         · rw [if_pos c14] at H
           have c14b0 : decide (a1 < (l0.length : Int)) = true := decide_eq_true c14
           clear c14
           obtain rfl := Option.some.inj H
           have p213 : 0 ≤ ((ji10) : Int) := oDt (by first | (with_reducible assumption) | assumption)
           have q213 : (ji10) < (l0.length : Int) := oDt (by first | (with_reducible assumption) | assumption)
           obtain ⟨ad213, e213, hx213_0⟩ := Kd.at_int HR0.out (ji10) p213 q213
           cases e213
           replace p213 := eq_true p213
           replace q213 := eq_true q213
           have p214 : 0 ≤ (a1 : Int) := oDt (by first | (with_reducible assumption) | assumption)
           have q214 : a1 < (l0.length : Int) := oDt (by first | (with_reducible assumption) | assumption)
           obtain ⟨ad214, e214, hx214_0⟩ := Kd.at_int HR0.out a1 p214 q214
           obtain rfl : ad213 = ad214 := (by injection e214)
           replace p214 := eq_true p214
           replace q214 := eq_true q214
           go_enter Try.func69, Try.ntmps69
           go_wp2
           repeat (go_quiet (fail); try go_wp2)
           go_ret
           exact ⟨by first | rfl | (simp; done) | (simp only [← hji10] <;> (first | rfl | simp)) | (simp [*]; done), by repeat (first | exact Drawn0.refl _ | apply Drawn0.step)⟩
         · rw [if_neg c14] at H
           exact absurd H (by simp)
       · rw [if_neg c13] at H
         exact absurd H (by simp)
     · rw [if_neg c12] at H
       exact absurd H (by simp)
   · rw [if_neg c11] at H
     exact absurd H (by simp)
mutual
def spec_l1ReadPairs.l0 : Nat → List Int → Int → List Int → Int → Option (List Int)
 | 0, _, _, _, _ => none
 | k + 1, x0, x1, x5, x6 => if (wrap64 (x6 + 1)) < (x0.length : Int) then ((spec_l1Pair.f x0 x6 x1).bind fun t221 => ((spec_l1High.f t221).bind fun t222 => (if t222 = true then (spec_l1ReadPairs.j1 k x0 x1 x5 (wrap64 (x6 + 2)) t221 (decide ((wrap64 ((wrap64 (x6 + 2)) + 1)) < (x0.length : Int)))) else (spec_l1ReadPairs.j1 k x0 x1 x5 (wrap64 (x6 + 2)) t221 false)))) else (if x6 < (x0.length : Int) then ((spec_l1Put.f k x5 65533).bind fun t218 => (some t218)) else (some x5))
def spec_l1ReadPairs.j1 : Nat → List Int → Int → List Int → Int → Int → Bool → Option (List Int)
 | 0, _, _, _, _, _, _ => none
 | k + 1, x0, x1, x5, x6, x7, x29 => if x29 = true then ((spec_l1Pair.f x0 x6 x1).bind fun t223 => (if t223 ≥ 56320 then (spec_l1ReadPairs.j2 k x0 x1 x5 x6 x7 t223 (decide (t223 ≤ 57343))) else (spec_l1ReadPairs.j2 k x0 x1 x5 x6 x7 t223 false))) else ((spec_l1Put.f k x5 x7).bind fun t230 => (spec_l1ReadPairs.l0 k x0 x1 t230 x6))
def spec_l1ReadPairs.j2 : Nat → List Int → Int → List Int → Int → Int → Int → Bool → Option (List Int)
 | 0, _, _, _, _, _, _, _ => none
 | k + 1, x0, x1, x5, x6, x7, x8, x39 => if x39 = true then ((spec_l1Put.f k x5 (wrap64 ((wrap64 ((wrap64 (65536 + (wrap64 (1024 * (wrap64 (x7 - 55296)))))) + x8)) - 56320))).bind fun t224 => (spec_l1ReadPairs.l0 k x0 x1 t224 (wrap64 (x6 + 2)))) else ((spec_l1Put.f k x5 x7).bind fun t227 => (spec_l1ReadPairs.l0 k x0 x1 t227 x6))
end
def spec_l1ReadPairs.f (k : Nat) (l0 : List Int) (a1 : Int) : Option (List Int) := spec_l1ReadPairs.l0 k l0 a1 (([] : List Int)) 0
set_option maxHeartbeats 8000000 in
set_option maxRecDepth 100000 in
theorem spec_l1ReadPairs.calls (k : Nat) (A0 : Option Addr) (c0 : Nat) (l0 : List Int) (a1 : Int) (r : List Int) (w : World) (hr0 : Kd.C (Kd.int .u8) w A0 l0.length l0) (hc0 : l0.length ≤ c0) (h : spec_l1ReadPairs.f k l0 a1 = some r) :
 Calls Try.prog 63 #[.slice A0 l0.length c0, .int .i64 a1] w fun e w' => ∃ v0_ : Value, e = .returned (v0_) ∧ Kd.R (Kd.int .u8) 5 w' w.heap.size (fun _ => True) v0_ r ∧ Below w.heap.size w w' := by
 have HR0 := aMk hr0
 have HC0 := aMk hc0
 clear hr0 hc0
 have HB := aMk (Below.refl w.heap.size w)
 have H : (spec_l1ReadPairs.l0 k l0 a1 (([] : List Int)) 0) = some r := h
 clear h
 obtain ⟨y215, hy215⟩ : ∃ y_ : List Int, y_ = (([] : List Int)) := ⟨_, rfl⟩
 replace H : (spec_l1ReadPairs.l0 k l0 a1 y215 0) = some r := by first | (rw [hy215]; with_reducible exact H) | (have H2_ := (Option.bind_some _ _).symm.trans H; rw [hy215]; with_reducible exact H2_) | (have H2_ := (Option.bind_some _ _).symm.trans H; with_reducible exact H2_) | with_reducible exact H | (rw [hy215]; exact H) | exact H
 have Ny215 := aMk hy215
 clear hy215
 have H' := aMk H
 clear H
 go_enter Try.func63, Try.ntmps63
 go_wp2_with (first | ((with_reducible refine gate_dst (N := 9) rfl ?_); (try (refine gate_guard (by rfl) ?_; dsimp only)); refine Kd.R_lit (Kd.int .u8) _ 5 ?hg (N := 9) ?hd (xs := ([] : List Int)) (inner := []) (ok := fun _ => True) (okp := fun _ => True) ?hr ?hp (fun _ hk => hk) trivial (Below.refl _ _) (Nat.le_refl _) (by simp) ?_; (case hd => rfl); (case hg => rfl); (case hr => first | (go_simp; done) | (go_simp; rfl)); (case hp => exact (Reps.none _ _)); intro v216 w3 ho4 hb hg_ hnew_; clear hg_ hnew_; (first | rw [← Ny215.out] at ho4 | (simp only [Int.reduceToNat] at ho4; rw [← Ny215.out] at ho4)); have n0_ := aMk (Kd.R_lower ho4 (below_size (by repeat (first | (with_reducible first | exact HB.out | apply bAl | apply bDn | apply bD1) | exact HB.out)))); have n1_ := aMk (below_step (by repeat (first | (with_reducible first | exact HB.out | apply bAl | apply bDn | apply bD1) | exact HB.out)) hb); clear HB; have HO217 := n0_; have HB := n1_; clear n0_ n1_; clear hb ho4))
 go_loopg [5, 6] k (fun kq v5 v6 w' => ∃ (x5_1 : List Int) (x6_1 : Int), v6 = .int .i64 x6_1 ∧ Aside0 (spec_l1ReadPairs.l0 kq l0 a1 x5_1 x6_1 = some r) ∧ Aside0 (kq ≤ k) ∧ Aside0 (Kd.R (Kd.int .u8) 5 w' w.heap.size (fun _ => True) v5 x5_1) ∧ Aside0 (Below w.heap.size w w'))
 case atStart => exact ⟨(y215), (0), (by first | rfl | (simp; done) | (simp [*]; done)), H', ⟨Nat.le_refl _⟩, ⟨by (with_reducible repeat (first | apply Kd.R_alloc | apply Kd.R_drewN | apply Kd.R_drew)); exact HO217.out⟩, ⟨by repeat (first | (with_reducible first | exact HB.out | apply bAl | apply bDn | apply bD1) | exact HB.out)⟩⟩
 case round =>
  clear H'
  try clear p2
  obtain ⟨x5_1, x6_1, rfl, HA, HK1, HO_5, HB⟩ := hrel
  cases gk with
  | zero => exact absurd HA.out (by simp [spec_l1ReadPairs.l0])
  | succ k1 =>
   have H := HA.out
   clear HA
   simp only [spec_l1ReadPairs.l0] at H
   by_cases c5 : (wrap64 (x6_1 + 1)) < (l0.length : Int)
   · rw [if_pos c5] at H
     have c5b0 : decide ((wrap64 (x6_1 + 1)) < (l0.length : Int)) = true := decide_eq_true c5
     clear c5
     replace H := oBm H
     obtain ⟨t221, A60, H⟩ := H
     replace H : ((spec_l1High.f t221).bind fun t222 => (if t222 = true then (spec_l1ReadPairs.j1 k1 l0 a1 x5_1 (wrap64 (x6_1 + 2)) t221 (decide ((wrap64 ((wrap64 (x6_1 + 2)) + 1)) < (l0.length : Int)))) else (spec_l1ReadPairs.j1 k1 l0 a1 x5_1 (wrap64 (x6_1 + 2)) t221 false))) = some r := H
     have A6 := aMk A60
     clear A60
     have HC7 := aMk H
     clear H
     go_upto_region 6 with (first | ((with_reducible refine gate_callee (f := 69) rfl ?_); refine goesL_ (some 18) rfl rfl Try.func69 (by kernel_rfl) rfl #[.slice A0 l0.length c0, .int .i64 x6_1, .int .i64 a1] rfl (by (try simp only [List.map_toArray, List.map_cons, List.map_nil]); first | done | rfl | (simp only [List.length_drop, List.length_take]; rfl)) ?_; (with_reducible refine (spec_l1Pair.calls _ _ l0 x6_1 a1 t221 _ ?side1 ?side2 A6.out).mono ?_); (case side1 => repeat (first | exact (Kd.C_below HR0.out HB.out) | (with_reducible refine Kd.C_alloc ?_ _) | (with_reducible refine Kd.C_drewN ?_ _) | (with_reducible refine Kd.C_drew ?_))); (case side2 => exact HC0.out); rintro e w' ⟨rfl, ⟨nd, rfl⟩⟩; refine ⟨_, rfl, ?_⟩))
     (try simp only [Act.put, lSa, lSz, lSs])
     go_cut [29] (fun v29 wc => ∃ (kq : Nat) (x29_6 : Bool), v29 = .bool x29_6 ∧ Aside0 (spec_l1ReadPairs.j1 kq l0 a1 x5_1 (wrap64 (x6_1 + 2)) t221 x29_6 = some r) ∧ Aside0 (kq ≤ k1) ∧ Aside0 (Kd.R (Kd.int .u8) 5 wc w.heap.size (fun _ => True) u5 x5_1) ∧ Aside0 (Below w.heap.size w wc))
     case first =>
      have H := HC7.out
      clear HC7
      replace H := oBm H
      obtain ⟨t222, A80, H⟩ := H
      replace H : (if t222 = true then (spec_l1ReadPairs.j1 k1 l0 a1 x5_1 (wrap64 (x6_1 + 2)) t221 (decide ((wrap64 ((wrap64 (x6_1 + 2)) + 1)) < (l0.length : Int)))) else (spec_l1ReadPairs.j1 k1 l0 a1 x5_1 (wrap64 (x6_1 + 2)) t221 false)) = some r := H
      have A8 := aMk A80
      clear A80
      by_cases c9 : t222 = true
      · subst c9
        have H1 : (spec_l1ReadPairs.j1 k1 l0 a1 x5_1 (wrap64 (x6_1 + 2)) t221 (decide ((wrap64 ((wrap64 (x6_1 + 2)) + 1)) < (l0.length : Int)))) = some r := by rw [if_pos rfl] at H; exact H
        clear H
        have H := H1
        clear H1
        have H' := aMk H
        clear H
        go_wp2_with (first | ((with_reducible refine gate_callee (f := 68) rfl ?_); refine goesL_ (some 22) rfl rfl Try.func68 (by kernel_rfl) rfl #[.int .i64 t221] rfl (by (try simp only [List.map_toArray, List.map_cons, List.map_nil]); first | done | rfl | (simp only [List.length_drop, List.length_take]; rfl)) ?_; (with_reducible refine (spec_l1High.calls t221 true _ A8.out).mono ?_); rintro e w' ⟨rfl, ⟨nd, rfl⟩⟩; refine ⟨_, rfl, ?_⟩))
        go_meet
        case rel => exact ⟨_, (decide ((wrap64 ((wrap64 (x6_1 + 2)) + 1)) < (l0.length : Int))), (by first | rfl | (simp; done) | (simp [*]; done)), H', ⟨by have := HK1.out; first | omega | exact Nat.le_refl _⟩, ⟨by (with_reducible repeat (first | apply Kd.R_alloc | apply Kd.R_drewN | apply Kd.R_drew)); exact HO_5.out⟩, ⟨by repeat (first | (with_reducible first | exact HB.out | apply bAl | apply bDn | apply bD1) | exact HB.out)⟩⟩
      · replace c9 := Bool.eq_false_iff.mpr c9
        subst c9
        have H1 : (spec_l1ReadPairs.j1 k1 l0 a1 x5_1 (wrap64 (x6_1 + 2)) t221 false) = some r := by rw [if_neg (show ¬ (false = true) by decide)] at H; exact H
        clear H
        have H := H1
        clear H1
        have H' := aMk H
        clear H
        go_wp2_with (first | ((with_reducible refine gate_callee (f := 68) rfl ?_); refine goesL_ (some 22) rfl rfl Try.func68 (by kernel_rfl) rfl #[.int .i64 t221] rfl (by (try simp only [List.map_toArray, List.map_cons, List.map_nil]); first | done | rfl | (simp only [List.length_drop, List.length_take]; rfl)) ?_; (with_reducible refine (spec_l1High.calls t221 false _ A8.out).mono ?_); rintro e w' ⟨rfl, ⟨nd, rfl⟩⟩; refine ⟨_, rfl, ?_⟩))
        go_meet
        case rel => exact ⟨_, (false), (by first | rfl | (simp; done) | (simp [*]; done)), H', ⟨by have := HK1.out; first | omega | exact Nat.le_refl _⟩, ⟨by (with_reducible repeat (first | apply Kd.R_alloc | apply Kd.R_drewN | apply Kd.R_drew)); exact HO_5.out⟩, ⟨by repeat (first | (with_reducible first | exact HB.out | apply bAl | apply bDn | apply bD1) | exact HB.out)⟩⟩
     case rest =>
      clear HC7
      try clear p2
      try clear c5
      try clear c5b0
      try clear c6
      try clear p6
      try clear c9
      try clear p2
      obtain ⟨kq, x29_6, rfl, HA, HJ6, HO_5, HB⟩ := hcut
      cases kq with
      | zero => exact absurd HA.out (by simp [spec_l1ReadPairs.j1])
      | succ kj6 =>
       have H := HA.out
       clear HA
       simp only [spec_l1ReadPairs.j1] at H
       by_cases c10 : x29_6 = true
       · subst c10
         have H1 : ((spec_l1Pair.f l0 (wrap64 (x6_1 + 2)) a1).bind fun t223 => (if t223 ≥ 56320 then (spec_l1ReadPairs.j2 kj6 l0 a1 x5_1 (wrap64 (x6_1 + 2)) t221 t223 (decide (t223 ≤ 57343))) else (spec_l1ReadPairs.j2 kj6 l0 a1 x5_1 (wrap64 (x6_1 + 2)) t221 t223 false))) = some r := by rw [if_pos rfl] at H; exact H
         clear H
         have H := H1
         clear H1
         replace H := oBm H
         obtain ⟨t223, A110, H⟩ := H
         replace H : (if t223 ≥ 56320 then (spec_l1ReadPairs.j2 kj6 l0 a1 x5_1 (wrap64 (x6_1 + 2)) t221 t223 (decide (t223 ≤ 57343))) else (spec_l1ReadPairs.j2 kj6 l0 a1 x5_1 (wrap64 (x6_1 + 2)) t221 t223 false)) = some r := H
         have A11 := aMk A110
         clear A110
         have HC12 := aMk H
         clear H
         go_upto_region 8 with (first | ((with_reducible refine gate_callee (f := 69) rfl ?_); refine goesL_ (some 33) rfl rfl Try.func69 (by kernel_rfl) rfl #[.slice A0 l0.length c0, .int .i64 (wrap64 (x6_1 + 2)), .int .i64 a1] rfl (by (try simp only [List.map_toArray, List.map_cons, List.map_nil]); first | done | rfl | (simp only [List.length_drop, List.length_take]; rfl)) ?_; (with_reducible refine (spec_l1Pair.calls _ _ l0 (wrap64 (x6_1 + 2)) a1 t223 _ ?side1 ?side2 A11.out).mono ?_); (case side1 => repeat (first | exact (Kd.C_below HR0.out HB.out) | (with_reducible refine Kd.C_alloc ?_ _) | (with_reducible refine Kd.C_drewN ?_ _) | (with_reducible refine Kd.C_drew ?_))); (case side2 => exact HC0.out); rintro e w' ⟨rfl, ⟨nd, rfl⟩⟩; refine ⟨_, rfl, ?_⟩))
         (try simp only [Act.put, lSa, lSz, lSs])
         go_cut [39] (fun v39 wc => ∃ (kq : Nat) (x39_11 : Bool), v39 = .bool x39_11 ∧ Aside0 (spec_l1ReadPairs.j2 kq l0 a1 x5_1 (wrap64 (x6_1 + 2)) t221 t223 x39_11 = some r) ∧ Aside0 (kq ≤ kj6) ∧ Aside0 (Kd.R (Kd.int .u8) 5 wc w.heap.size (fun _ => True) u5 x5_1) ∧ Aside0 (Below w.heap.size w wc))
         case first =>
          have H := HC12.out
          clear HC12
          by_cases c13 : t223 ≥ 56320
          · rw [if_pos c13] at H
            have c13b0 : decide (56320 ≤ t223) = true := decide_eq_true c13
            clear c13
            (first | rw [c13b0] | (simp only [i64_w, i32_w]; rw [c13b0]) | skip)
            have H' := aMk H
            clear H
            go_wp2
            go_meet
            case rel => exact ⟨_, (decide (t223 ≤ 57343)), (by first | rfl | (simp; done) | (simp [*]; done)), H', ⟨by have := HK1.out; have := HJ6.out; first | omega | exact Nat.le_refl _⟩, ⟨by (with_reducible repeat (first | apply Kd.R_alloc | apply Kd.R_drewN | apply Kd.R_drew)); exact HO_5.out⟩, ⟨by repeat (first | (with_reducible first | exact HB.out | apply bAl | apply bDn | apply bD1) | exact HB.out)⟩⟩
          · rw [if_neg c13] at H
            have c13b0 : decide (56320 ≤ t223) = false := decide_eq_false c13
            clear c13
            (first | rw [c13b0] | (simp only [i64_w, i32_w]; rw [c13b0]) | skip)
            have H' := aMk H
            clear H
            go_wp2
            go_meet
            case rel => exact ⟨_, (false), (by first | rfl | (simp; done) | (simp [*]; done)), H', ⟨by have := HK1.out; have := HJ6.out; first | omega | exact Nat.le_refl _⟩, ⟨by (with_reducible repeat (first | apply Kd.R_alloc | apply Kd.R_drewN | apply Kd.R_drew)); exact HO_5.out⟩, ⟨by repeat (first | (with_reducible first | exact HB.out | apply bAl | apply bDn | apply bD1) | exact HB.out)⟩⟩
         case rest =>
          clear HC12
          try clear c1
          try clear p2
          try clear c5
          try clear c5b0
          try clear c6
          try clear p6
          try clear c9
          try clear c10
          try clear c13
          try clear c13b0
          try clear p2
          try clear p6
          obtain ⟨kq, x39_11, rfl, HA, HJ11, HO_5, HB⟩ := hcut
          cases kq with
          | zero => exact absurd HA.out (by simp [spec_l1ReadPairs.j2])
          | succ kj11 =>
           have H := HA.out
           clear HA
           simp only [spec_l1ReadPairs.j2] at H
           by_cases c14 : x39_11 = true
           · subst c14
             have H1 : ((spec_l1Put.f kj11 x5_1 (wrap64 ((wrap64 ((wrap64 (65536 + (wrap64 (1024 * (wrap64 (t221 - 55296)))))) + t223)) - 56320))).bind fun t224 => (spec_l1ReadPairs.l0 kj11 l0 a1 t224 (wrap64 ((wrap64 (x6_1 + 2)) + 2)))) = some r := by rw [if_pos rfl] at H; exact H
             clear H
             have H := H1
             clear H1
             replace H := oBm H
             obtain ⟨t224, A150, H⟩ := H
             replace H : (spec_l1ReadPairs.l0 kj11 l0 a1 t224 (wrap64 ((wrap64 (x6_1 + 2)) + 2))) = some r := H
             have A15 := aMk A150
             clear A150
             have H' := aMk H
             clear H
             obtain ⟨Ao16, co16, eo16⟩ := Kd.R_slice HO_5.out
             subst eo16
             go_wp2_with (first | ((with_reducible refine gate_callee (f := 38) rfl ?_); refine goesL_ (some 48) rfl rfl Try.func38 (by kernel_rfl) rfl #[.slice Ao16 x5_1.length co16, .int .i64 (wrap64 ((wrap64 ((wrap64 (65536 + (wrap64 (1024 * (wrap64 (t221 - 55296)))))) + t223)) - 56320))] rfl (by (try simp only [List.map_toArray, List.map_cons, List.map_nil]); first | done | rfl | (simp only [List.length_drop, List.length_take]; rfl)) ?_; (with_reducible refine (spec_l1Put.calls kj11 (fun k_ => some k_ = (.slice Ao16 x5_1.length co16 : Value).ownBlock) (.slice Ao16 x5_1.length co16) x5_1 (wrap64 ((wrap64 ((wrap64 (65536 + (wrap64 (1024 * (wrap64 (t221 - 55296)))))) + t223)) - 56320)) t224 w _ ?side1 ?side2 A15.out).mono ?_); (case side1 => repeat (first | (with_reducible first | exact HB.out | apply bAl | apply bDn | apply bD1) | exact HB.out)); (case side2 => exact Kd.R_tight rfl HO_5.out); rintro e w17 ⟨v225, rfl, ho0, hb, hkp⟩; refine ⟨_, rfl, ?_⟩; have n0_ := aMk (Kd.R_mono (ok' := fun k_ => True) ho0 (fun k_ hk_ => trivial)); have n1_ := aMk (hb); clear HB; clear HO_5; have HO226 := n0_; have HB := n1_; clear n0_ n1_; (try clear hb); (try clear hkp); (try clear ho0)))
             go_roundg kj11
             case measure => have := HK1.out; have := HJ6.out; have := HJ11.out; omega
             case rel => exact ⟨(t224), (wrap64 ((wrap64 (x6_1 + 2)) + 2)), (by first | rfl | (simp; done) | (simp [*]; done)), H', ⟨by have := HK1.out; have := HJ6.out; have := HJ11.out; omega⟩, ⟨by (with_reducible repeat (first | apply Kd.R_alloc | apply Kd.R_drewN | apply Kd.R_drew)); exact HO226.out⟩, ⟨by repeat (first | (with_reducible first | exact HB.out | apply bAl | apply bDn | apply bD1) | exact HB.out)⟩⟩
           · replace c14 := Bool.eq_false_iff.mpr c14
             subst c14
             have H1 : ((spec_l1Put.f kj11 x5_1 t221).bind fun t227 => (spec_l1ReadPairs.l0 kj11 l0 a1 t227 (wrap64 (x6_1 + 2)))) = some r := by rw [if_neg (show ¬ (false = true) by decide)] at H; exact H
             clear H
             have H := H1
             clear H1
             replace H := oBm H
             obtain ⟨t227, A180, H⟩ := H
             replace H : (spec_l1ReadPairs.l0 kj11 l0 a1 t227 (wrap64 (x6_1 + 2))) = some r := H
             have A18 := aMk A180
             clear A180
             have H' := aMk H
             clear H
             obtain ⟨Ao19, co19, eo19⟩ := Kd.R_slice HO_5.out
             subst eo19
             go_wp2_with (first | ((with_reducible refine gate_callee (f := 38) rfl ?_); refine goesL_ (some 53) rfl rfl Try.func38 (by kernel_rfl) rfl #[.slice Ao19 x5_1.length co19, .int .i64 t221] rfl (by (try simp only [List.map_toArray, List.map_cons, List.map_nil]); first | done | rfl | (simp only [List.length_drop, List.length_take]; rfl)) ?_; (with_reducible refine (spec_l1Put.calls kj11 (fun k_ => some k_ = (.slice Ao19 x5_1.length co19 : Value).ownBlock) (.slice Ao19 x5_1.length co19) x5_1 t221 t227 w _ ?side1 ?side2 A18.out).mono ?_); (case side1 => repeat (first | (with_reducible first | exact HB.out | apply bAl | apply bDn | apply bD1) | exact HB.out)); (case side2 => exact Kd.R_tight rfl HO_5.out); rintro e w20 ⟨v228, rfl, ho0, hb, hkp⟩; refine ⟨_, rfl, ?_⟩; have n0_ := aMk (Kd.R_mono (ok' := fun k_ => True) ho0 (fun k_ hk_ => trivial)); have n1_ := aMk (hb); clear HB; clear HO_5; have HO229 := n0_; have HB := n1_; clear n0_ n1_; (try clear hb); (try clear hkp); (try clear ho0)))
             go_roundg kj11
             case measure => have := HK1.out; have := HJ6.out; have := HJ11.out; omega
             case rel => exact ⟨(t227), ((wrap64 (x6_1 + 2))), (by first | rfl | (simp; done) | (simp [*]; done)), H', ⟨by have := HK1.out; have := HJ6.out; have := HJ11.out; omega⟩, ⟨by (with_reducible repeat (first | apply Kd.R_alloc | apply Kd.R_drewN | apply Kd.R_drew)); exact HO229.out⟩, ⟨by repeat (first | (with_reducible first | exact HB.out | apply bAl | apply bDn | apply bD1) | exact HB.out)⟩⟩
       · replace c10 := Bool.eq_false_iff.mpr c10
         subst c10
         have H1 : ((spec_l1Put.f kj6 x5_1 t221).bind fun t230 => (spec_l1ReadPairs.l0 kj6 l0 a1 t230 (wrap64 (x6_1 + 2)))) = some r := by rw [if_neg (show ¬ (false = true) by decide)] at H; exact H
         clear H
         have H := H1
         clear H1
         replace H := oBm H
         obtain ⟨t230, A210, H⟩ := H
         replace H : (spec_l1ReadPairs.l0 kj6 l0 a1 t230 (wrap64 (x6_1 + 2))) = some r := H
         have A21 := aMk A210
         clear A210
         have H' := aMk H
         clear H
         obtain ⟨Ao22, co22, eo22⟩ := Kd.R_slice HO_5.out
         subst eo22
         go_wp2_with (first | ((with_reducible refine gate_callee (f := 38) rfl ?_); refine goesL_ (some 53) rfl rfl Try.func38 (by kernel_rfl) rfl #[.slice Ao22 x5_1.length co22, .int .i64 t221] rfl (by (try simp only [List.map_toArray, List.map_cons, List.map_nil]); first | done | rfl | (simp only [List.length_drop, List.length_take]; rfl)) ?_; (with_reducible refine (spec_l1Put.calls kj6 (fun k_ => some k_ = (.slice Ao22 x5_1.length co22 : Value).ownBlock) (.slice Ao22 x5_1.length co22) x5_1 t221 t230 w _ ?side1 ?side2 A21.out).mono ?_); (case side1 => repeat (first | (with_reducible first | exact HB.out | apply bAl | apply bDn | apply bD1) | exact HB.out)); (case side2 => exact Kd.R_tight rfl HO_5.out); rintro e w23 ⟨v231, rfl, ho0, hb, hkp⟩; refine ⟨_, rfl, ?_⟩; have n0_ := aMk (Kd.R_mono (ok' := fun k_ => True) ho0 (fun k_ hk_ => trivial)); have n1_ := aMk (hb); clear HB; clear HO_5; have HO232 := n0_; have HB := n1_; clear n0_ n1_; (try clear hb); (try clear hkp); (try clear ho0)))
         go_roundg kj6
         case measure => have := HK1.out; have := HJ6.out; omega
         case rel => exact ⟨(t230), ((wrap64 (x6_1 + 2))), (by first | rfl | (simp; done) | (simp [*]; done)), H', ⟨by have := HK1.out; have := HJ6.out; omega⟩, ⟨by (with_reducible repeat (first | apply Kd.R_alloc | apply Kd.R_drewN | apply Kd.R_drew)); exact HO232.out⟩, ⟨by repeat (first | (with_reducible first | exact HB.out | apply bAl | apply bDn | apply bD1) | exact HB.out)⟩⟩
   · rw [if_neg c5] at H
     have c5b0 : decide ((wrap64 (x6_1 + 1)) < (l0.length : Int)) = false := decide_eq_false c5
     clear c5
     by_cases c24 : x6_1 < (l0.length : Int)
     · rw [if_pos c24] at H
       have c24b0 : decide (x6_1 < (l0.length : Int)) = true := decide_eq_true c24
       clear c24
       replace H := oBm H
       obtain ⟨t218, A250, H⟩ := H
       replace H : (some t218) = some r := H
       have A25 := aMk A250
       clear A250
       obtain rfl := Option.some.inj H
       obtain ⟨Ao26, co26, eo26⟩ := Kd.R_slice HO_5.out
       subst eo26
       go_wp2_with (first | ((with_reducible refine gate_callee (f := 38) rfl ?_); refine goesL_ (some 59) rfl rfl Try.func38 (by kernel_rfl) rfl #[.slice Ao26 x5_1.length co26, .int .i64 65533] rfl (by (try simp only [List.map_toArray, List.map_cons, List.map_nil]); first | done | rfl | (simp only [List.length_drop, List.length_take]; rfl)) ?_; (with_reducible refine (spec_l1Put.calls k1 (fun k_ => some k_ = (.slice Ao26 x5_1.length co26 : Value).ownBlock) (.slice Ao26 x5_1.length co26) x5_1 65533 t218 w _ ?side1 ?side2 A25.out).mono ?_); (case side1 => repeat (first | (with_reducible first | exact HB.out | apply bAl | apply bDn | apply bD1) | exact HB.out)); (case side2 => exact Kd.R_tight rfl HO_5.out); rintro e w27 ⟨v219, rfl, ho0, hb, hkp⟩; refine ⟨_, rfl, ?_⟩; have n0_ := aMk (Kd.R_mono (ok' := fun k_ => True) ho0 (fun k_ hk_ => trivial)); have n1_ := aMk (hb); clear HB; clear HO_5; have HO220 := n0_; have HB := n1_; clear n0_ n1_; (try clear hb); (try clear hkp); (try clear ho0)))
       go_ret
       exact ⟨_, by first | rfl | (simp [errW_none, errW_some] <;> rfl) | (simp [*, errW_none, errW_some] <;> rfl), by (with_reducible repeat (first | apply Kd.R_alloc | apply Kd.R_drewN | apply Kd.R_drew)); exact HO220.out, by repeat (first | (with_reducible first | exact HB.out | apply bAl | apply bDn | apply bD1) | exact HB.out)⟩
     · rw [if_neg c24] at H
       have c24b0 : decide (x6_1 < (l0.length : Int)) = false := decide_eq_false c24
       clear c24
       obtain rfl := Option.some.inj H
       go_wp2
       go_ret
       exact ⟨_, by first | rfl | (simp [errW_none, errW_some] <;> rfl) | (simp [*, errW_none, errW_some] <;> rfl), by (with_reducible repeat (first | apply Kd.R_alloc | apply Kd.R_drewN | apply Kd.R_drew)); exact HO_5.out, by repeat (first | (with_reducible first | exact HB.out | apply bAl | apply bDn | apply bD1) | exact HB.out)⟩
def spec_l1Read.l0 : Nat → List Int → List Int → Int → Option (List Int)
 | 0, _, _, _ => none
 | k + 1, x0, x5, x6 => if x6 < (x0.length : Int) then (if 0 ≤ x6 then ((spec_l1Put.f k x5 (wrap64 (rd x0 x6))).bind fun t243 => (spec_l1Read.l0 k x0 t243 (wrap64 (x6 + 1)))) else (none)) else (some x5)
def spec_l1Read.f (k : Nat) (l0 : List Int) (a1 : Int) : Option (List Int) := if a1 = 0 then ((spec_l1ReadUtf8.f k l0).bind fun t233 => (some t233)) else (if a1 = 3 then (spec_l1Read.l0 k l0 (([] : List Int)) 0) else ((spec_l1ReadPairs.f k l0 a1).bind fun t236 => (some t236)))
set_option maxHeartbeats 8000000 in
set_option maxRecDepth 100000 in
theorem spec_l1Read.calls (k : Nat) (A0 : Option Addr) (c0 : Nat) (l0 : List Int) (a1 : Int) (r : List Int) (w : World) (hr0 : Kd.C (Kd.int .u8) w A0 l0.length l0) (hc0 : l0.length ≤ c0) (h : spec_l1Read.f k l0 a1 = some r) :
 Calls Try.prog 43 #[.slice A0 l0.length c0, .int .i64 a1] w fun e w' => ∃ v0_ : Value, e = .returned (v0_) ∧ Kd.R (Kd.int .u8) 5 w' w.heap.size (fun _ => True) v0_ r ∧ Below w.heap.size w w' := by
 have HR0 := aMk hr0
 have HC0 := aMk hc0
 clear hr0 hc0
 have HB := aMk (Below.refl w.heap.size w)
 have H : (if a1 = 0 then ((spec_l1ReadUtf8.f k l0).bind fun t233 => (some t233)) else (if a1 = 3 then (spec_l1Read.l0 k l0 (([] : List Int)) 0) else ((spec_l1ReadPairs.f k l0 a1).bind fun t236 => (some t236)))) = some r := h
 clear h
 by_cases c3 : a1 = 0
 · rw [if_pos c3] at H
   have c3b0 : (a1 == 0) = true := beq_iff_eq.mpr c3
   have c3b1 : (a1 != 0) = false := bne_eq_false_iff_eq.mpr c3
   clear c3
   replace H := oBm H
   obtain ⟨t233, A40, H⟩ := H
   replace H : (some t233) = some r := H
   have A4 := aMk A40
   clear A40
   obtain rfl := Option.some.inj H
   go_enter Try.func43, Try.ntmps43
   go_wp2_with (first | ((with_reducible refine gate_callee (f := 62) rfl ?_); refine goesL_ (some 10) rfl rfl Try.func62 (by kernel_rfl) rfl #[.slice A0 l0.length c0] rfl (by (try simp only [List.map_toArray, List.map_cons, List.map_nil]); first | done | rfl | (simp only [List.length_drop, List.length_take]; rfl)) ?_; (with_reducible refine (spec_l1ReadUtf8.calls k _ _ l0 t233 _ ?side1 ?side2 A4.out).mono ?_); (case side1 => repeat (first | exact HR0.out | (with_reducible refine Kd.C_alloc ?_ _) | (with_reducible refine Kd.C_drewN ?_ _) | (with_reducible refine Kd.C_drew ?_))); (case side2 => exact HC0.out); rintro e w5 ⟨v234, rfl, ho0, hb⟩; refine ⟨_, rfl, ?_⟩; have n0_ := aMk (Kd.R_lower ho0 (below_size (by repeat (first | (with_reducible first | exact HB.out | apply bAl | apply bDn | apply bD1) | exact HB.out)))); have n1_ := aMk (below_step (by repeat (first | (with_reducible first | exact HB.out | apply bAl | apply bDn | apply bD1) | exact HB.out)) hb); clear HB; have HO235 := n0_; have HB := n1_; clear n0_ n1_; (try clear hb); (try clear hb2); (try clear hk); (try clear hi); (try clear ho0)))
   go_ret
   exact ⟨_, by first | rfl | (simp [errW_none, errW_some] <;> rfl) | (simp [*, errW_none, errW_some] <;> rfl), by (with_reducible repeat (first | apply Kd.R_alloc | apply Kd.R_drewN | apply Kd.R_drew)); exact HO235.out, by repeat (first | (with_reducible first | exact HB.out | apply bAl | apply bDn | apply bD1) | exact HB.out)⟩
 · rw [if_neg c3] at H
   have c3b0 : (a1 == 0) = false := beq_eq_false_iff_ne.mpr c3
   have c3b1 : (a1 != 0) = true := bne_iff_ne.mpr c3
   by_cases c6 : a1 = 3
   · rw [if_pos c6] at H
     have c6b0 : (a1 == 3) = true := beq_iff_eq.mpr c6
     have c6b1 : (a1 != 3) = false := bne_eq_false_iff_eq.mpr c6
     clear c6
     obtain ⟨y239, hy239⟩ : ∃ y_ : List Int, y_ = (([] : List Int)) := ⟨_, rfl⟩
     replace H : (spec_l1Read.l0 k l0 y239 0) = some r := by first | (rw [hy239]; with_reducible exact H) | (have H2_ := (Option.bind_some _ _).symm.trans H; rw [hy239]; with_reducible exact H2_) | (have H2_ := (Option.bind_some _ _).symm.trans H; with_reducible exact H2_) | with_reducible exact H | (rw [hy239]; exact H) | exact H
     have Ny239 := aMk hy239
     clear hy239
     have H' := aMk H
     clear H
     go_enter Try.func43, Try.ntmps43
     go_wp2_with (first | ((with_reducible refine gate_dst (N := 16) rfl ?_); refine Kd.R_lit (Kd.int .u8) _ 5 ?hg (N := 16) ?hd (xs := ([] : List Int)) (inner := []) (ok := fun _ => True) (okp := fun _ => True) ?hr ?hp (fun _ hk => hk) trivial (Below.refl _ _) (Nat.le_refl _) (by simp) ?_; (case hd => rfl); (case hg => rfl); (case hr => first | (go_simp; done) | (go_simp; rfl)); (case hp => exact (Reps.none _ _)); intro v240 w7 ho8 hb hg_ hnew_; clear hg_ hnew_; (first | rw [← Ny239.out] at ho8 | (simp only [Int.reduceToNat] at ho8; rw [← Ny239.out] at ho8)); have n0_ := aMk (Kd.R_lower ho8 (below_size (by repeat (first | (with_reducible first | exact HB.out | apply bAl | apply bDn | apply bD1) | exact HB.out)))); have n1_ := aMk (below_step (by repeat (first | (with_reducible first | exact HB.out | apply bAl | apply bDn | apply bD1) | exact HB.out)) hb); clear HB; have HO241 := n0_; have HB := n1_; clear n0_ n1_; clear hb ho8))
     go_loopg [5, 6] k (fun kq v5 v6 w' => ∃ (x5_1 : List Int) (x6_1 : Int), v6 = .int .i64 x6_1 ∧ Aside0 (spec_l1Read.l0 kq l0 x5_1 x6_1 = some r) ∧ Aside0 (kq ≤ k) ∧ Aside0 (Kd.R (Kd.int .u8) 5 w' w.heap.size (fun _ => True) v5 x5_1) ∧ Aside0 (Below w.heap.size w w'))
     case atStart => exact ⟨(y239), (0), (by first | rfl | (simp; done) | (simp [*]; done)), H', ⟨Nat.le_refl _⟩, ⟨by (with_reducible repeat (first | apply Kd.R_alloc | apply Kd.R_drewN | apply Kd.R_drew)); exact HO241.out⟩, ⟨by repeat (first | (with_reducible first | exact HB.out | apply bAl | apply bDn | apply bD1) | exact HB.out)⟩⟩
     case round =>
      clear H'
      try clear p2
      try clear c3
      try clear c3b0
      try clear c3b1
      try clear c4
      try clear c6
      try clear c6b0
      try clear c6b1
      obtain ⟨x5_1, x6_1, rfl, HA, HK1, HO_5, HB⟩ := hrel
      cases gk with
      | zero => exact absurd HA.out (by simp [spec_l1Read.l0])
      | succ k1 =>
       have H := HA.out
       clear HA
       simp only [spec_l1Read.l0] at H
       by_cases c9 : x6_1 < (l0.length : Int)
       · rw [if_pos c9] at H
         have c9b0 : decide (x6_1 < (l0.length : Int)) = true := decide_eq_true c9
         clear c9
         by_cases c10 : 0 ≤ x6_1
         · rw [if_pos c10] at H
           have c10b0 : decide (0 ≤ x6_1) = true := decide_eq_true c10
           clear c10
           replace H := oBm H
           obtain ⟨t243, A110, H⟩ := H
           replace H : (spec_l1Read.l0 k1 l0 t243 (wrap64 (x6_1 + 1))) = some r := H
           have A11 := aMk A110
           clear A110
           have H' := aMk H
           clear H
           have p242 : 0 ≤ (x6_1 : Int) := oDt (by first | (with_reducible assumption) | assumption)
           have q242 : x6_1 < (l0.length : Int) := oDt (by first | (with_reducible assumption) | assumption)
           obtain ⟨ad242, e242, hx242_0⟩ := Kd.at_int HR0.out x6_1 p242 q242
           cases e242
           replace hx242_0 := (HB.out.cell (wBl w _ hx242_0)).trans hx242_0
           replace p242 := eq_true p242
           replace q242 := eq_true q242
           obtain ⟨Ao12, co12, eo12⟩ := Kd.R_slice HO_5.out
           subst eo12
           go_wp2_with (first | ((with_reducible refine gate_callee (f := 38) rfl ?_); refine goesL_ (some 29) rfl rfl Try.func38 (by kernel_rfl) rfl #[.slice Ao12 x5_1.length co12, .int .i64 (wrap64 (rd l0 x6_1))] rfl (by (try simp only [List.map_toArray, List.map_cons, List.map_nil]); first | done | rfl | (simp only [List.length_drop, List.length_take]; rfl)) ?_; (with_reducible refine (spec_l1Put.calls k1 (fun k_ => some k_ = (.slice Ao12 x5_1.length co12 : Value).ownBlock) (.slice Ao12 x5_1.length co12) x5_1 (wrap64 (rd l0 x6_1)) t243 w _ ?side1 ?side2 A11.out).mono ?_); (case side1 => repeat (first | (with_reducible first | exact HB.out | apply bAl | apply bDn | apply bD1) | exact HB.out)); (case side2 => exact Kd.R_tight rfl HO_5.out); rintro e w13 ⟨v244, rfl, ho0, hb, hkp⟩; refine ⟨_, rfl, ?_⟩; have n0_ := aMk (Kd.R_mono (ok' := fun k_ => True) ho0 (fun k_ hk_ => trivial)); have n1_ := aMk (hb); clear HB; clear HO_5; have HO245 := n0_; have HB := n1_; clear n0_ n1_; (try clear hb); (try clear hkp); (try clear ho0)))
           go_roundg k1
           case measure => have := HK1.out; omega
           case rel => exact ⟨(t243), (wrap64 (x6_1 + 1)), (by first | rfl | (simp; done) | (simp [*]; done)), H', ⟨by have := HK1.out; omega⟩, ⟨by (with_reducible repeat (first | apply Kd.R_alloc | apply Kd.R_drewN | apply Kd.R_drew)); exact HO245.out⟩, ⟨by repeat (first | (with_reducible first | exact HB.out | apply bAl | apply bDn | apply bD1) | exact HB.out)⟩⟩
         · rw [if_neg c10] at H
           exact absurd H (by simp)
       · rw [if_neg c9] at H
         have c9b0 : decide (x6_1 < (l0.length : Int)) = false := decide_eq_false c9
         clear c9
         obtain rfl := Option.some.inj H
         go_wp2
         go_ret
         exact ⟨_, by first | rfl | (simp [errW_none, errW_some] <;> rfl) | (simp [*, errW_none, errW_some] <;> rfl), by (with_reducible repeat (first | apply Kd.R_alloc | apply Kd.R_drewN | apply Kd.R_drew)); exact HO_5.out, by repeat (first | (with_reducible first | exact HB.out | apply bAl | apply bDn | apply bD1) | exact HB.out)⟩
   · rw [if_neg c6] at H
     have c6b0 : (a1 == 3) = false := beq_eq_false_iff_ne.mpr c6
     have c6b1 : (a1 != 3) = true := bne_iff_ne.mpr c6
     replace H := oBm H
     obtain ⟨t236, A140, H⟩ := H
     replace H : (some t236) = some r := H
     have A14 := aMk A140
     clear A140
     obtain rfl := Option.some.inj H
     go_enter Try.func43, Try.ntmps43
     go_wp2_with (first | ((with_reducible refine gate_callee (f := 63) rfl ?_); refine goesL_ (some 15) rfl rfl Try.func63 (by kernel_rfl) rfl #[.slice A0 l0.length c0, .int .i64 a1] rfl (by (try simp only [List.map_toArray, List.map_cons, List.map_nil]); first | done | rfl | (simp only [List.length_drop, List.length_take]; rfl)) ?_; (with_reducible refine (spec_l1ReadPairs.calls k _ _ l0 a1 t236 _ ?side1 ?side2 A14.out).mono ?_); (case side1 => repeat (first | exact HR0.out | (with_reducible refine Kd.C_alloc ?_ _) | (with_reducible refine Kd.C_drewN ?_ _) | (with_reducible refine Kd.C_drew ?_))); (case side2 => exact HC0.out); rintro e w15 ⟨v237, rfl, ho0, hb⟩; refine ⟨_, rfl, ?_⟩; have n0_ := aMk (Kd.R_lower ho0 (below_size (by repeat (first | (with_reducible first | exact HB.out | apply bAl | apply bDn | apply bD1) | exact HB.out)))); have n1_ := aMk (below_step (by repeat (first | (with_reducible first | exact HB.out | apply bAl | apply bDn | apply bD1) | exact HB.out)) hb); clear HB; have HO238 := n0_; have HB := n1_; clear n0_ n1_; (try clear hb); (try clear hb2); (try clear hk); (try clear hi); (try clear ho0)))
     go_ret
     exact ⟨_, by first | rfl | (simp [errW_none, errW_some] <;> rfl) | (simp [*, errW_none, errW_some] <;> rfl), by (with_reducible repeat (first | apply Kd.R_alloc | apply Kd.R_drewN | apply Kd.R_drew)); exact HO238.out, by repeat (first | (with_reducible first | exact HB.out | apply bAl | apply bDn | apply bD1) | exact HB.out)⟩
end Go.Proofs.Ytmffcjjodkggcaa.MFnExactFeedMore
