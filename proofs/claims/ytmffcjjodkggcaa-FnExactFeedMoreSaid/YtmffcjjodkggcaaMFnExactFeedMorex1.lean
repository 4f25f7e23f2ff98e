-- Written by this session's own program (wip/gen/myprint.py).
import Derived.Test.YtmffcjjodkggcaaMFnExactFeedMorex0
namespace Go.Proofs.Ytmffcjjodkggcaa.MFnExactFeedMore
open Go.RowKit Go.Proofs.YtmffcjjodkggcaaW.PrintWords Go.Proofs.YtmffcjjodkggcaaW.PrintLast Go.Proofs.YtmffcjjodkggcaaW.PrintMore
attribute [local go_sem] max2_int min2_int max_two min_two max_three min_three max_four min_four   -- for this text's walks alone
set_option linter.unusedVariables false
set_option linter.unusedSimpArgs false
def laws_toByteS.l0 : Nat → List Int → List Int → Int → Option (List Int)
 | 0, _, _, _ => none
 | k + 1, x0, x3, x4 => if x4 < (x0.length : Int) then (if 0 ≤ x4 then (if x4 < (x3.length : Int) then (laws_toByteS.l0 k x0 (x3.set (x4 : Int).toNat (rd x0 x4)) (wrap64 (x4 + 1))) else (none)) else (none)) else (some x3)
def laws_toByteS.f (k : Nat) (l0 : List Int) : Option (List Int) := if 0 ≤ (l0.length : Int) then (if ((l0.length : Int) : Int).toNat ≤ 281474976710656 then (laws_toByteS.l0 k l0 (List.replicate ((l0.length : Int) : Int).toNat 0) 0) else (none)) else (none)
set_option maxHeartbeats 8000000 in
set_option maxRecDepth 100000 in
theorem laws_toByteS.calls (k : Nat) (A0 : Option Addr) (c0 : Nat) (l0 : List Int) (r : List Int) (w : World) (hr0 : Kd.C (Kd.int .u8) w A0 l0.length l0) (hc0 : l0.length ≤ c0) (h : laws_toByteS.f k l0 = some r) :
 Calls Try.prog 19 #[.slice A0 l0.length c0] w fun e w' => ∃ v0_ : Value, e = .returned (v0_) ∧ Kd.R (Kd.int .u8) 5 w' w.heap.size (fun _ => True) v0_ r ∧ Below w.heap.size w w' := by
 have HR0 := aMk hr0
 have HC0 := aMk hc0
 clear hr0 hc0
 have HB := aMk (Below.refl w.heap.size w)
 have H : (if 0 ≤ (l0.length : Int) then (if ((l0.length : Int) : Int).toNat ≤ 281474976710656 then (laws_toByteS.l0 k l0 (List.replicate ((l0.length : Int) : Int).toNat 0) 0) else (none)) else (none)) = some r := h
 clear h
 by_cases c2 : 0 ≤ (l0.length : Int)
 · rw [if_pos c2] at H
   have c2b0 := eq_true c2
   have c2b1 : decide (0 ≤ (l0.length : Int)) = true := decide_eq_true c2
   clear c2
   by_cases c3 : ((l0.length : Int) : Int).toNat ≤ 281474976710656
   · rw [if_pos c3] at H
     have c3b0 := eq_true c3
     have c3b1 : decide (((l0.length : Int) : Int).toNat ≤ 281474976710656) = true := decide_eq_true c3
     clear c3
     obtain ⟨y101, hy101⟩ : ∃ y_ : List Int, y_ = (List.replicate ((l0.length : Int) : Int).toNat 0) := ⟨_, rfl⟩
     replace H : (laws_toByteS.l0 k l0 y101 0) = some r := by first | (rw [hy101]; with_reducible exact H) | (have H2_ := (Option.bind_some _ _).symm.trans H; rw [hy101]; with_reducible exact H2_) | (have H2_ := (Option.bind_some _ _).symm.trans H; with_reducible exact H2_) | with_reducible exact H | (rw [hy101]; exact H) | exact H
     have Ny101 := aMk hy101
     clear hy101
     have H' := aMk H
     clear H
     go_enter Try.func19, Try.ntmps19
     go_wp2_with (first | ((with_reducible refine gate_dst (N := 7) rfl ?_); refine Kd.R_make (Kd.int .u8) _ 5 rfl (N := 7) rfl 22 _ _ rfl (l0.length : Int) rfl rfl Try.underlying22 (.int .u8 0) 1 info5 rfl (by decide) (by omega) 0 (ok := fun _ => True) (okp := fun _ => True) rfl (fun _ hk => hk) trivial (oDt (by first | (with_reducible assumption) | assumption)) (Nat.le_trans (Nat.mul_le_mul_right _ (oDt (by first | (with_reducible assumption) | assumption) : (l0.length : Int).toNat ≤ 281474976710656)) (by omega)) (Below.refl _ _) (Nat.le_refl _) ?_; intro v102 w4 ho5 hb hg_ hnew_; clear hg_ hnew_; (first | rw [← Ny101.out] at ho5 | (simp only [Int.reduceToNat] at ho5; rw [← Ny101.out] at ho5)); have n0_ := aMk (Kd.R_lower ho5 (below_size (by repeat (first | (with_reducible first | exact HB.out | apply bAl | apply bDn | apply bD1) | exact HB.out)))); have n1_ := aMk (below_step (by repeat (first | (with_reducible first | exact HB.out | apply bAl | apply bDn | apply bD1) | exact HB.out)) hb); clear HB; have HO103 := n0_; have HB := n1_; clear n0_ n1_; clear hb ho5))
     go_loopg [4] k (fun kq v4 w' => ∃ (x3_1 : List Int) (x4_1 : Int), v4 = .int .i64 x4_1 ∧ Aside0 (laws_toByteS.l0 kq l0 x3_1 x4_1 = some r) ∧ Aside0 (kq ≤ k) ∧ Aside0 (Kd.R (Kd.int .u8) 5 w' w.heap.size (fun _ => True) v102 x3_1) ∧ Aside0 (Below w.heap.size w w'))
     case atStart => exact ⟨(y101), (0), (by first | rfl | (simp; done) | (simp [*]; done)), H', ⟨Nat.le_refl _⟩, ⟨by (with_reducible repeat (first | apply Kd.R_alloc | apply Kd.R_drewN | apply Kd.R_drew)); exact HO103.out⟩, ⟨by repeat (first | (with_reducible first | exact HB.out | apply bAl | apply bDn | apply bD1) | exact HB.out)⟩⟩
     case round =>
      clear H'
      try clear c1
      try clear c2
      try clear c2b0
      try clear c2b1
      try clear p2
      try clear c3
      try clear c3b0
      try clear c3b1
      obtain ⟨x3_1, x4_1, rfl, HA, HK1, HO_3, HB⟩ := hrel
      cases gk with
      | zero => exact absurd HA.out (by simp [laws_toByteS.l0])
      | succ k1 =>
       have H := HA.out
       clear HA
       simp only [laws_toByteS.l0] at H
       by_cases c6 : x4_1 < (l0.length : Int)
       · rw [if_pos c6] at H
         have c6b0 : decide (x4_1 < (l0.length : Int)) = true := decide_eq_true c6
         clear c6
         by_cases c7 : 0 ≤ x4_1
         · rw [if_pos c7] at H
           have c7b0 : decide (0 ≤ x4_1) = true := decide_eq_true c7
           clear c7
           by_cases c8 : x4_1 < (x3_1.length : Int)
           · rw [if_pos c8] at H
             have c8b0 : decide (x4_1 < (x3_1.length : Int)) = true := decide_eq_true c8
             clear c8
             obtain ⟨y105, hy105⟩ : ∃ y_ : List Int, y_ = (x3_1.set (x4_1 : Int).toNat (rd l0 x4_1)) := ⟨_, rfl⟩
             replace H : (laws_toByteS.l0 k1 l0 y105 (wrap64 (x4_1 + 1))) = some r := by first | (rw [hy105]; with_reducible exact H) | (have H2_ := (Option.bind_some _ _).symm.trans H; rw [hy105]; with_reducible exact H2_) | (have H2_ := (Option.bind_some _ _).symm.trans H; with_reducible exact H2_) | with_reducible exact H | (rw [hy105]; exact H) | exact H
             have Ny105 := aMk hy105
             clear hy105
             have H' := aMk H
             clear H
             have p104 : 0 ≤ (x4_1 : Int) := oDt (by first | (with_reducible assumption) | assumption)
             have q104 : x4_1 < (l0.length : Int) := oDt (by first | (with_reducible assumption) | assumption)
             obtain ⟨ad104, e104, hx104_0⟩ := Kd.at_int HR0.out x4_1 p104 q104
             cases e104
             replace hx104_0 := (HB.out.cell (wBl w _ hx104_0)).trans hx104_0
             replace p104 := eq_true p104
             replace q104 := eq_true q104
             have p9 : 0 ≤ (x4_1 : Int) := oDt (by first | (with_reducible assumption) | assumption)
             have q9 : (x4_1 : Int) < ((x3_1.length : Int) : Int) := oDt (by first | (with_reducible assumption) | assumption)
             obtain ⟨go9, co9, eo9, gb9, gl9, cl9, HG9⟩ := Kd.R_form HO_3.out (by omega)
             (first | cases eo9 | (injection eo9 with ea_ en_ ec_; (first | subst ea_ | (injection ea_ with ea_; subst ea_)); subst ec_; clear en_))
             have GB9 := aMk gb9
             have GG9 := aMk HG9
             clear gb9 gl9 HG9
             obtain ⟨hx9_0, hf9_0⟩ := Kd.R_celln 0 HO_3.out (x4_1 : Int) p9 q9
             replace p9 := eq_true p9
             replace q9 := eq_true q9
             have HP10 := Kd.R_putg HO_3.out (x4_1 : Int) (rd l0 x4_1)
             go_wp2_with (first | ((with_reducible refine gate_store (t := 5) (p := 20) rfl ?_); refine store_event (t := 5) (p := 20) (v := ?vo_w11) (w1 := (wr.setCell ⟨go9, (x4_1 : Int).toNat, none⟩ (.int .u8 (rd l0 x4_1)))) ?hg ?ho ?hn ?hr ?_; (case ho => rfl); (case hg => rfl); (case hn => rfl); (case hr => first | (go_simp; done) | (go_simp; rfl)); intro w11 hw; have hg : wr.grownBy w11 (some go9) := (by rw [hw]; exact HP10.2); have hp_ : Kd.R (Kd.int .u8) 5 w11 w.heap.size (fun _ => True) (.slice (some ⟨go9, 0, none⟩) x3_1.length co9) y105 := (by rw [hw, Ny105.out]; exact HP10.1); clear HP10; have n0_ := aMk (hp_); have n1_ := aMk ((by rw [hw]; exact bSe (HB.out) GB9.out : Below w.heap.size w w11)); clear HO_3; clear HB; have HO_3 := n0_; have HB := n1_; clear n0_ n1_; clear hg hw hp_))
             go_roundg k1
             case measure => have := HK1.out; omega
             case rel => exact ⟨(y105), (wrap64 (x4_1 + 1)), (by first | rfl | (simp; done) | (simp [*]; done)), H', ⟨by have := HK1.out; omega⟩, ⟨by (with_reducible repeat (first | apply Kd.R_alloc | apply Kd.R_drewN | apply Kd.R_drew)); exact HO_3.out⟩, ⟨by repeat (first | (with_reducible first | exact HB.out | apply bAl | apply bDn | apply bD1) | exact HB.out)⟩⟩
           · rw [if_neg c8] at H
             exact absurd H (by simp)
         · rw [if_neg c7] at H
           exact absurd H (by simp)
       · rw [if_neg c6] at H
         have c6b0 : decide (x4_1 < (l0.length : Int)) = false := decide_eq_false c6
         clear c6
         obtain rfl := Option.some.inj H
         go_wp2
         go_ret
         exact ⟨_, by first | rfl | (simp [errW_none, errW_some] <;> rfl) | (simp [*, errW_none, errW_some] <;> rfl), by (with_reducible repeat (first | apply Kd.R_alloc | apply Kd.R_drewN | apply Kd.R_drew)); exact HO_3.out, by repeat (first | (with_reducible first | exact HB.out | apply bAl | apply bDn | apply bD1) | exact HB.out)⟩
   · rw [if_neg c3] at H
     exact absurd H (by simp)
 · rw [if_neg c2] at H
   exact absurd H (by simp)
def laws_eqByteS.l0 : Nat → List Int → List Int → Int → Option (Bool)
 | 0, _, _, _ => none
 | k + 1, x0, x1, x5 => if x5 < (x0.length : Int) then (if 0 ≤ x5 then (if x5 < (x1.length : Int) then (if (rd x0 x5) = (rd x1 x5) then (laws_eqByteS.l0 k x0 x1 (wrap64 (x5 + 1))) else (some false)) else (none)) else (none)) else (some true)
def laws_eqByteS.f (k : Nat) (l0 : List Int) (l1 : List Int) : Option (Bool) := if (l0.length : Int) = (l1.length : Int) then (laws_eqByteS.l0 k l0 l1 0) else (some false)
set_option maxHeartbeats 8000000 in
set_option maxRecDepth 100000 in
theorem laws_eqByteS.calls (k : Nat) (A0 : Option Addr) (c0 : Nat) (l0 : List Int) (A1 : Option Addr) (c1 : Nat) (l1 : List Int) (r : Bool) (w : World) (hr0 : Kd.C (Kd.int .u8) w A0 l0.length l0) (hc0 : l0.length ≤ c0) (hr1 : Kd.C (Kd.int .u8) w A1 l1.length l1) (hc1 : l1.length ≤ c1) (h : laws_eqByteS.f k l0 l1 = some r) :
 Calls Try.prog 20 #[.slice A0 l0.length c0, .slice A1 l1.length c1] w fun e w' => e = .returned (.bool r) ∧ Drawn0 w w' := by
 have HR0 := aMk hr0
 have HC0 := aMk hc0
 clear hr0 hc0
 have HR1 := aMk hr1
 have HC1 := aMk hc1
 clear hr1 hc1
 have H : (if (l0.length : Int) = (l1.length : Int) then (laws_eqByteS.l0 k l0 l1 0) else (some false)) = some r := h
 clear h
 by_cases c3 : (l0.length : Int) = (l1.length : Int)
 · rw [if_pos c3] at H
   have c3b0 : ((l0.length : Int) == (l1.length : Int)) = true := beq_iff_eq.mpr c3
   have c3b1 : ((l0.length : Int) != (l1.length : Int)) = false := bne_eq_false_iff_eq.mpr c3
   have c3b2 : (l0.length == l1.length) = true := by first | simpa using c3 | (simp at c3 ⊢; omega)
   clear c3
   have H' := aMk H
   clear H
   go_enter Try.func20, Try.ntmps20
   go_wp2
   repeat (go_quiet (fail); try go_wp2)
   go_loopg [5] k (fun kq v5 w' => ∃ (x5_1 : Int), v5 = .int .i64 x5_1 ∧ Aside0 (laws_eqByteS.l0 kq l0 l1 x5_1 = some r) ∧ Aside0 (kq ≤ k) ∧ Drawn0 w w')
   case atStart => exact ⟨(0), (by first | rfl | (simp; done) | (simp [*]; done)), H', ⟨Nat.le_refl _⟩, by repeat (first | exact Drawn0.refl _ | apply Drawn0.step)⟩
   case round =>
    clear H'
    try clear c1
    try clear c2
    try clear p2
    try clear c3
    try clear c3b0
    try clear c3b1
    try clear c3b2
    obtain ⟨x5_1, rfl, HA, HK1, ⟨m1, rfl⟩⟩ := hrel
    cases gk with
    | zero => exact absurd HA.out (by simp [laws_eqByteS.l0])
    | succ k1 =>
     have H := HA.out
     clear HA
     simp only [laws_eqByteS.l0] at H
     by_cases c4 : x5_1 < (l0.length : Int)
     · rw [if_pos c4] at H
       have c4b0 : decide (x5_1 < (l0.length : Int)) = true := decide_eq_true c4
       clear c4
       by_cases c5 : 0 ≤ x5_1
       · rw [if_pos c5] at H
         have c5b0 : decide (0 ≤ x5_1) = true := decide_eq_true c5
         clear c5
         by_cases c6 : x5_1 < (l1.length : Int)
         · rw [if_pos c6] at H
           have c6b0 : decide (x5_1 < (l1.length : Int)) = true := decide_eq_true c6
           clear c6
           by_cases c7 : (rd l0 x5_1) = (rd l1 x5_1)
           · rw [if_pos c7] at H
             have c7b0 : ((rd l0 x5_1) == (rd l1 x5_1)) = true := beq_iff_eq.mpr c7
             have c7b1 : ((rd l0 x5_1) != (rd l1 x5_1)) = false := bne_eq_false_iff_eq.mpr c7
             clear c7
             have H' := aMk H
             clear H
             have p106 : 0 ≤ (x5_1 : Int) := oDt (by first | (with_reducible assumption) | assumption)
             have q106 : x5_1 < (l0.length : Int) := oDt (by first | (with_reducible assumption) | assumption)
             obtain ⟨ad106, e106, hx106_0⟩ := Kd.at_int HR0.out x5_1 p106 q106
             cases e106
             replace p106 := eq_true p106
             replace q106 := eq_true q106
             have p107 : 0 ≤ (x5_1 : Int) := oDt (by first | (with_reducible assumption) | assumption)
             have q107 : x5_1 < (l1.length : Int) := oDt (by first | (with_reducible assumption) | assumption)
             obtain ⟨ad107, e107, hx107_0⟩ := Kd.at_int HR1.out x5_1 p107 q107
             cases e107
             replace p107 := eq_true p107
             replace q107 := eq_true q107
             go_wp2
             repeat (go_quiet (fail); try go_wp2)
             go_roundg k1
             case measure => have := HK1.out; omega
             case rel => exact ⟨(wrap64 (x5_1 + 1)), (by first | rfl | (simp; done) | (simp [*]; done)), H', ⟨by have := HK1.out; omega⟩, by repeat (first | exact Drawn0.refl _ | apply Drawn0.step)⟩
           · rw [if_neg c7] at H
             have c7b0 : ((rd l0 x5_1) == (rd l1 x5_1)) = false := beq_eq_false_iff_ne.mpr c7
             have c7b1 : ((rd l0 x5_1) != (rd l1 x5_1)) = true := bne_iff_ne.mpr c7
             obtain rfl := Option.some.inj H
             have p106 : 0 ≤ (x5_1 : Int) := oDt (by first | (with_reducible assumption) | assumption)
             have q106 : x5_1 < (l0.length : Int) := oDt (by first | (with_reducible assumption) | assumption)
             obtain ⟨ad106, e106, hx106_0⟩ := Kd.at_int HR0.out x5_1 p106 q106
             cases e106
             replace p106 := eq_true p106
             replace q106 := eq_true q106
             have p107 : 0 ≤ (x5_1 : Int) := oDt (by first | (with_reducible assumption) | assumption)
             have q107 : x5_1 < (l1.length : Int) := oDt (by first | (with_reducible assumption) | assumption)
             obtain ⟨ad107, e107, hx107_0⟩ := Kd.at_int HR1.out x5_1 p107 q107
             cases e107
             replace p107 := eq_true p107
             replace q107 := eq_true q107
             go_wp2
             repeat (go_quiet (fail); try go_wp2)
             go_ret
             exact ⟨by first | rfl | (simp; done) | (simp [*]; done), by repeat (first | exact Drawn0.refl _ | apply Drawn0.step)⟩
         · rw [if_neg c6] at H
           exact absurd H (by simp)
       · rw [if_neg c5] at H
         exact absurd H (by simp)
     · rw [if_neg c4] at H
       have c4b0 : decide (x5_1 < (l0.length : Int)) = false := decide_eq_false c4
       clear c4
       obtain rfl := Option.some.inj H
       go_wp2
       repeat (go_quiet (fail); try go_wp2)
       go_ret
       exact ⟨by first | rfl | (simp; done) | (simp [*]; done), by repeat (first | exact Drawn0.refl _ | apply Drawn0.step)⟩
 · rw [if_neg c3] at H
   have c3b0 : ((l0.length : Int) == (l1.length : Int)) = false := beq_eq_false_iff_ne.mpr c3
   have c3b1 : ((l0.length : Int) != (l1.length : Int)) = true := bne_iff_ne.mpr c3
   have c3b2 : (l0.length == l1.length) = false := by first | simpa using c3 | (simp at c3 ⊢; omega)
   obtain rfl := Option.some.inj H
   go_enter Try.func20, Try.ntmps20
   go_wp2
   repeat (go_quiet (fail); try go_wp2)
   go_ret
   exact ⟨by first | rfl | (simp; done) | (simp [*]; done), by repeat (first | exact Drawn0.refl _ | apply Drawn0.step)⟩
def laws_szByteS.f (l0 : List Int) (a1 : Int) : Option (Int) := if (wrap64 (a1 - (l0.length : Int))) < 0 then (some (-1)) else (some (wrap64 (a1 - (l0.length : Int))))
set_option maxHeartbeats 8000000 in
set_option maxRecDepth 100000 in
theorem laws_szByteS.calls (A0 : Option Addr) (c0 : Nat) (l0 : List Int) (a1 : Int) (r : Int) (w : World) (hr0 : Kd.C (Kd.int .u8) w A0 l0.length l0) (hc0 : l0.length ≤ c0) (h : laws_szByteS.f l0 a1 = some r) :
 Calls Try.prog 45 #[.slice A0 l0.length c0, .int .i64 a1] w fun e w' => e = .returned (.int .i64 r) ∧ Drawn0 w w' := by
 have HR0 := aMk hr0
 have HC0 := aMk hc0
 clear hr0 hc0
 have H : (if (wrap64 (a1 - (l0.length : Int))) < 0 then (some (-1)) else (some (wrap64 (a1 - (l0.length : Int))))) = some r := h
 clear h
 by_cases c3 : (wrap64 (a1 - (l0.length : Int))) < 0
 · rw [if_pos c3] at H
   have c3b0 : decide ((wrap64 (a1 - (l0.length : Int))) < 0) = true := decide_eq_true c3
   clear c3
   obtain rfl := Option.some.inj H
   go_enter Try.func45, Try.ntmps45
   go_wp2
   go_ret
   exact ⟨by first | rfl | (simp; done) | (simp [*]; done), by repeat (first | exact Drawn0.refl _ | apply Drawn0.step)⟩
 · rw [if_neg c3] at H
   have c3b0 : decide ((wrap64 (a1 - (l0.length : Int))) < 0) = false := decide_eq_false c3
   clear c3
   obtain rfl := Option.some.inj H
   go_enter Try.func45, Try.ntmps45
   go_wp2
   go_ret
   exact ⟨by first | rfl | (simp; done) | (simp [*]; done), by repeat (first | exact Drawn0.refl _ | apply Drawn0.step)⟩
def laws_szFeed.f (a0_0 : Int) (a0_1 : Bool) (l0_2 : List Int) (a1 : Int) : Option (Int) := (laws_szByteS.f l0_2 a1).bind fun t109 => (if t109 < 0 then (some (-1)) else (some t109))
set_option maxHeartbeats 8000000 in
set_option maxRecDepth 100000 in
theorem laws_szFeed.calls (a0_0 : Int) (a0_1 : Bool) (A0_2 : Option Addr) (c0_2 : Nat) (l0_2 : List Int) (a1 : Int) (r : Int) (w : World) (hr0_2 : Kd.C (Kd.int .u8) w A0_2 l0_2.length l0_2) (hc0_2 : l0_2.length ≤ c0_2) (h : laws_szFeed.f a0_0 a0_1 l0_2 a1 = some r) :
 Calls Try.prog 21 #[.agg #[.int .i64 a0_0, .bool a0_1, .slice A0_2 l0_2.length c0_2], .int .i64 a1] w fun e w' => e = .returned (.int .i64 r) ∧ Below w.heap.size w w' := by
 have hu35 := Try.underlying35
 have HR0_2 := aMk hr0_2
 have HC0_2 := aMk hc0_2
 clear hr0_2 hc0_2
 have HB := aMk (Below.refl w.heap.size w)
 have H : ((laws_szByteS.f l0_2 a1).bind fun t109 => (if t109 < 0 then (some (-1)) else (some t109))) = some r := h
 clear h
 replace H := oBm H
 obtain ⟨t109, A30, H⟩ := H
 replace H : (if t109 < 0 then (some (-1)) else (some t109)) = some r := H
 have A3 := aMk A30
 clear A30
 by_cases c4 : t109 < 0
 · rw [if_pos c4] at H
   have c4b0 : decide (t109 < 0) = true := decide_eq_true c4
   clear c4
   obtain rfl := Option.some.inj H
   go_enter Try.func21, Try.ntmps21
   go_wp2_with (first | ((with_reducible refine gate_dst (N := 2) rfl ?_); refine box_event ?hg (N := 2) ?hd (cs := #[.int .i64 a0_0, .bool a0_1, .slice A0_2 l0_2.length c0_2]) (t := 35) ?hr ?_; (case hd => rfl); (case hg => rfl); (case hr => first | (go_simp; done) | (go_simp; rfl)); intro gb108 hg w5 hbox hb; have n0_ := aMk (below_step (by repeat (first | (with_reducible first | exact HB.out | apply bAl | apply bDn | apply bD1) | exact HB.out)) hb); have n1_ := aMk (hbox); have n2_ := aMk ((by rw [hg]; exact (below_size (by repeat (first | (with_reducible first | exact HB.out | apply bAl | apply bDn | apply bD1) | exact HB.out))) : w.heap.size ≤ gb108)); have n3_ := aMk ((by rw [hg]; exact (below_size (by repeat (first | (with_reducible first | exact HB.out | apply bAl | apply bDn | apply bD1) | exact HB.out))) : w.heap.size ≤ gb108)); clear HB; have HB := n0_; have BK108 := n1_; have GW108 := n2_; have GE108 := n3_; clear n0_ n1_ n2_ n3_; clear hb hbox hg; have hcz6_0 : w5.cell? ⟨gb108, 0, none⟩ = some (.int .i64 a0_0) := (bCe BK108.out 0).trans rfl; have hcz6_1 : w5.cell? ⟨gb108, 1, none⟩ = some (.bool a0_1) := (bCe BK108.out 1).trans rfl; have hcz6_2 : w5.cell? ⟨gb108, 2, none⟩ = some (.slice A0_2 l0_2.length c0_2) := (bCe BK108.out 2).trans rfl; have hfz6_0 := bFr BK108.out 0; have hfz6_1 := bFr BK108.out 1; have hfz6_2 := bFr BK108.out 2) | ((with_reducible refine gate_callee (f := 45) rfl ?_); refine goesL_ (some 8) rfl rfl Try.func45 (by kernel_rfl) rfl #[.slice A0_2 l0_2.length c0_2, .int .i64 a1] rfl (by (try simp only [List.map_toArray, List.map_cons, List.map_nil]); first | done | rfl | (simp only [List.length_drop, List.length_take]; rfl)) ?_; (with_reducible refine (laws_szByteS.calls _ _ l0_2 a1 t109 _ ?side1 ?side2 A3.out).mono ?_); (case side1 => repeat (first | exact (Kd.C_below HR0_2.out HB.out) | (with_reducible refine Kd.C_alloc ?_ _) | (with_reducible refine Kd.C_drewN ?_ _) | (with_reducible refine Kd.C_drew ?_))); (case side2 => exact HC0_2.out); rintro e w' ⟨rfl, ⟨nd, rfl⟩⟩; refine ⟨_, rfl, ?_⟩))
   go_ret
   exact ⟨by first | rfl | (simp [errW_none, errW_some] <;> rfl) | (simp [*, errW_none, errW_some] <;> rfl), by repeat (first | (with_reducible first | exact HB.out | apply bAl | apply bDn | apply bD1 | refine bSe ?_ GE108.out) | exact HB.out)⟩
 · rw [if_neg c4] at H
   have c4b0 : decide (t109 < 0) = false := decide_eq_false c4
   clear c4
   obtain rfl := Option.some.inj H
   go_enter Try.func21, Try.ntmps21
   go_wp2_with (first | ((with_reducible refine gate_dst (N := 2) rfl ?_); refine box_event ?hg (N := 2) ?hd (cs := #[.int .i64 a0_0, .bool a0_1, .slice A0_2 l0_2.length c0_2]) (t := 35) ?hr ?_; (case hd => rfl); (case hg => rfl); (case hr => first | (go_simp; done) | (go_simp; rfl)); intro gb108 hg w7 hbox hb; have n0_ := aMk (below_step (by repeat (first | (with_reducible first | exact HB.out | apply bAl | apply bDn | apply bD1) | exact HB.out)) hb); have n1_ := aMk (hbox); have n2_ := aMk ((by rw [hg]; exact (below_size (by repeat (first | (with_reducible first | exact HB.out | apply bAl | apply bDn | apply bD1) | exact HB.out))) : w.heap.size ≤ gb108)); have n3_ := aMk ((by rw [hg]; exact (below_size (by repeat (first | (with_reducible first | exact HB.out | apply bAl | apply bDn | apply bD1) | exact HB.out))) : w.heap.size ≤ gb108)); clear HB; have HB := n0_; have BK108 := n1_; have GW108 := n2_; have GE108 := n3_; clear n0_ n1_ n2_ n3_; clear hb hbox hg; have hcz8_0 : w7.cell? ⟨gb108, 0, none⟩ = some (.int .i64 a0_0) := (bCe BK108.out 0).trans rfl; have hcz8_1 : w7.cell? ⟨gb108, 1, none⟩ = some (.bool a0_1) := (bCe BK108.out 1).trans rfl; have hcz8_2 : w7.cell? ⟨gb108, 2, none⟩ = some (.slice A0_2 l0_2.length c0_2) := (bCe BK108.out 2).trans rfl; have hfz8_0 := bFr BK108.out 0; have hfz8_1 := bFr BK108.out 1; have hfz8_2 := bFr BK108.out 2) | ((with_reducible refine gate_callee (f := 45) rfl ?_); refine goesL_ (some 8) rfl rfl Try.func45 (by kernel_rfl) rfl #[.slice A0_2 l0_2.length c0_2, .int .i64 a1] rfl (by (try simp only [List.map_toArray, List.map_cons, List.map_nil]); first | done | rfl | (simp only [List.length_drop, List.length_take]; rfl)) ?_; (with_reducible refine (laws_szByteS.calls _ _ l0_2 a1 t109 _ ?side1 ?side2 A3.out).mono ?_); (case side1 => repeat (first | exact (Kd.C_below HR0_2.out HB.out) | (with_reducible refine Kd.C_alloc ?_ _) | (with_reducible refine Kd.C_drewN ?_ _) | (with_reducible refine Kd.C_drew ?_))); (case side2 => exact HC0_2.out); rintro e w' ⟨rfl, ⟨nd, rfl⟩⟩; refine ⟨_, rfl, ?_⟩))
   go_ret
   exact ⟨by first | rfl | (simp [errW_none, errW_some] <;> rfl) | (simp [*, errW_none, errW_some] <;> rfl), by repeat (first | (with_reducible first | exact HB.out | apply bAl | apply bDn | apply bD1 | refine bSe ?_ GE108.out) | exact HB.out)⟩
def laws_toFeed.f (k : Nat) (a0_0 : Int) (a0_1 : Bool) (l0_2 : List Int) : Option (Int × Bool × List Int) := (laws_toByteS.f k l0_2).bind fun t113 => (some (a0_0, a0_1, t113))
set_option maxHeartbeats 8000000 in
set_option maxRecDepth 100000 in
theorem laws_toFeed.calls (k : Nat) (a0_0 : Int) (a0_1 : Bool) (A0_2 : Option Addr) (c0_2 : Nat) (l0_2 : List Int) (r1 : Int) (r2 : Bool) (r3 : List Int) (w : World) (hr0_2 : Kd.C (Kd.int .u8) w A0_2 l0_2.length l0_2) (hc0_2 : l0_2.length ≤ c0_2) (h : laws_toFeed.f k a0_0 a0_1 l0_2 = some (r1, r2, r3)) :
 Calls Try.prog 23 #[.agg #[.int .i64 a0_0, .bool a0_1, .slice A0_2 l0_2.length c0_2]] w fun e w' => ∃ v2_ : Value, e = .returned (.agg #[.int .i64 r1, .bool r2, v2_]) ∧ Kd.R (Kd.int .u8) 5 w' w.heap.size (fun _ => True) v2_ r3 ∧ Below w.heap.size w w' := by
 have hu35 := Try.underlying35
 have hu38 := Try.underlying38
 have HR0_2 := aMk hr0_2
 have HC0_2 := aMk hc0_2
 clear hr0_2 hc0_2
 have HB := aMk (Below.refl w.heap.size w)
 have H : ((laws_toByteS.f k l0_2).bind fun t113 => (some (a0_0, a0_1, t113))) = some (r1, r2, r3) := h
 clear h
 replace H := oBm H
 obtain ⟨t113, A20, H⟩ := H
 replace H : (some (a0_0, a0_1, t113)) = some (r1, r2, r3) := H
 have A2 := aMk A20
 clear A20
 simp only [Option.some.injEq, Prod.mk.injEq] at H
 obtain ⟨rfl, rfl, rfl⟩ := H
 go_enter Try.func23, Try.ntmps23
 go_wp2_with (first | ((with_reducible refine gate_dst (N := 1) rfl ?_); refine box_event ?hg (N := 1) ?hd (cs := #[.int .i64 a0_0, .bool a0_1, .slice A0_2 l0_2.length c0_2]) (t := 35) ?hr ?_; (case hd => rfl); (case hg => rfl); (case hr => first | (go_simp; done) | (go_simp; rfl)); intro gb110 hg w3 hbox hb; have n0_ := aMk (below_step (by repeat (first | (with_reducible first | exact HB.out | apply bAl | apply bDn | apply bD1) | exact HB.out)) hb); have n1_ := aMk (hbox); have n2_ := aMk ((by rw [hg]; exact (below_size (by repeat (first | (with_reducible first | exact HB.out | apply bAl | apply bDn | apply bD1) | exact HB.out))) : w.heap.size ≤ gb110)); have n3_ := aMk ((by rw [hg]; exact (below_size (by repeat (first | (with_reducible first | exact HB.out | apply bAl | apply bDn | apply bD1) | exact HB.out))) : w.heap.size ≤ gb110)); clear HB; have HB := n0_; have BK110 := n1_; have GW110 := n2_; have GE110 := n3_; clear n0_ n1_ n2_ n3_; clear hb hbox hg) | ((with_reducible refine gate_dst (N := 2) rfl ?_); refine box_event ?hg (N := 2) ?hd (cs := #[.int .i64 0, .bool false, .slice none 0 0]) (t := 38) ?hr ?_; (case hd => rfl); (case hg => rfl); (case hr => first | (go_simp; done) | (go_simp; rfl)); intro gb111 hg w4 hbox hb; have n0_ := aMk (blk_below (g := gb110) (o := .cells #[.int .i64 a0_0, .bool a0_1, .slice A0_2 l0_2.length c0_2] 35 (0, 0)) (by (with_reducible repeat (first | refine bkD ?_ _ | refine blk_drew ?_ | refine bkA ?_ _)); exact BK110.out) hb); have n1_ := aMk (below_step (by repeat (first | (with_reducible first | exact HB.out | apply bAl | apply bDn | apply bD1 | refine bSe ?_ GE110.out) | exact HB.out)) hb); have n2_ := aMk (hbox); have n3_ := aMk ((by rw [hg]; exact (below_size (by repeat (first | (with_reducible first | exact HB.out | apply bAl | apply bDn | apply bD1 | refine bSe ?_ GE110.out) | exact HB.out))) : w.heap.size ≤ gb111)); have n4_ := aMk ((by rw [hg]; exact (below_size (by repeat (first | (with_reducible first | exact HB.out | apply bAl | apply bDn | apply bD1 | refine bSe ?_ GE110.out) | exact HB.out))) : w.heap.size ≤ gb111)); have n5_ := aMk ((by rw [hg]; exact Nat.ne_of_lt (blk_lt (g := gb110) (o := .cells #[.int .i64 a0_0, .bool a0_1, .slice A0_2 l0_2.length c0_2] 35 (0, 0)) (by (with_reducible repeat (first | refine bkD ?_ _ | refine blk_drew ?_ | refine bkA ?_ _)); exact BK110.out)) : gb110 ≠ gb111)); have n6_ := aMk ((by rw [hg]; exact Nat.ne_of_gt (blk_lt (g := gb110) (o := .cells #[.int .i64 a0_0, .bool a0_1, .slice A0_2 l0_2.length c0_2] 35 (0, 0)) (by (with_reducible repeat (first | refine bkD ?_ _ | refine blk_drew ?_ | refine bkA ?_ _)); exact BK110.out)) : gb111 ≠ gb110)); clear BK110; clear HB; have BK110 := n0_; have HB := n1_; have BK111 := n2_; have GW111 := n3_; have GE111 := n4_; have NB110_111 := n5_; have NB111_110 := n6_; clear n0_ n1_ n2_ n3_ n4_ n5_ n6_; clear hb hbox hg) | ((with_reducible refine gate_dst (N := 3) rfl ?_); refine box_event ?hg (N := 3) ?hd (cs := #[.int .i64 0, .bool false, .slice none 0 0]) (t := 38) ?hr ?_; (case hd => rfl); (case hg => rfl); (case hr => first | (go_simp; done) | (go_simp; rfl)); intro gb112 hg w5 hbox hb; have n0_ := aMk (blk_below (g := gb110) (o := .cells #[.int .i64 a0_0, .bool a0_1, .slice A0_2 l0_2.length c0_2] 35 (0, 0)) (by (with_reducible repeat (first | refine bkD ?_ _ | refine blk_drew ?_ | refine bkA ?_ _)); exact BK110.out) hb); have n1_ := aMk (blk_below (g := gb111) (o := .cells #[.int .i64 0, .bool false, .slice none 0 0] 38 (0, 0)) (by (with_reducible repeat (first | refine bkD ?_ _ | refine blk_drew ?_ | refine bkA ?_ _)); exact BK111.out) hb); have n2_ := aMk (below_step (by repeat (first | (with_reducible first | exact HB.out | apply bAl | apply bDn | apply bD1 | refine bSe ?_ GE110.out | refine bSe ?_ GE111.out) | exact HB.out)) hb); have n3_ := aMk (hbox); have n4_ := aMk ((by rw [hg]; exact (below_size (by repeat (first | (with_reducible first | exact HB.out | apply bAl | apply bDn | apply bD1 | refine bSe ?_ GE110.out | refine bSe ?_ GE111.out) | exact HB.out))) : w.heap.size ≤ gb112)); have n5_ := aMk ((by rw [hg]; exact (below_size (by repeat (first | (with_reducible first | exact HB.out | apply bAl | apply bDn | apply bD1 | refine bSe ?_ GE110.out | refine bSe ?_ GE111.out) | exact HB.out))) : w.heap.size ≤ gb112)); have n6_ := aMk ((by rw [hg]; exact Nat.ne_of_lt (blk_lt (g := gb110) (o := .cells #[.int .i64 a0_0, .bool a0_1, .slice A0_2 l0_2.length c0_2] 35 (0, 0)) (by (with_reducible repeat (first | refine bkD ?_ _ | refine blk_drew ?_ | refine bkA ?_ _)); exact BK110.out)) : gb110 ≠ gb112)); have n7_ := aMk ((by rw [hg]; exact Nat.ne_of_gt (blk_lt (g := gb110) (o := .cells #[.int .i64 a0_0, .bool a0_1, .slice A0_2 l0_2.length c0_2] 35 (0, 0)) (by (with_reducible repeat (first | refine bkD ?_ _ | refine blk_drew ?_ | refine bkA ?_ _)); exact BK110.out)) : gb112 ≠ gb110)); have n8_ := aMk ((by rw [hg]; exact Nat.ne_of_lt (blk_lt (g := gb111) (o := .cells #[.int .i64 0, .bool false, .slice none 0 0] 38 (0, 0)) (by (with_reducible repeat (first | refine bkD ?_ _ | refine blk_drew ?_ | refine bkA ?_ _)); exact BK111.out)) : gb111 ≠ gb112)); have n9_ := aMk ((by rw [hg]; exact Nat.ne_of_gt (blk_lt (g := gb111) (o := .cells #[.int .i64 0, .bool false, .slice none 0 0] 38 (0, 0)) (by (with_reducible repeat (first | refine bkD ?_ _ | refine blk_drew ?_ | refine bkA ?_ _)); exact BK111.out)) : gb112 ≠ gb111)); clear BK110; clear BK111; clear HB; have BK110 := n0_; have BK111 := n1_; have HB := n2_; have BK112 := n3_; have GW112 := n4_; have GE112 := n5_; have NB110_112 := n6_; have NB112_110 := n7_; have NB111_112 := n8_; have NB112_111 := n9_; clear n0_ n1_ n2_ n3_ n4_ n5_ n6_ n7_ n8_ n9_; clear hb hbox hg; have hnb6 := NB110_111.out; have hnc6 := NB111_110.out; have hnb7 := NB110_112.out; have hnc7 := NB112_110.out; have hcz8_0 : w5.cell? ⟨gb110, 0, none⟩ = some (.int .i64 a0_0) := (bCe BK110.out 0).trans rfl; have hcz8_1 : w5.cell? ⟨gb110, 1, none⟩ = some (.bool a0_1) := (bCe BK110.out 1).trans rfl; have hcz8_2 : w5.cell? ⟨gb110, 2, none⟩ = some (.slice A0_2 l0_2.length c0_2) := (bCe BK110.out 2).trans rfl; have hfz8_0 := bFr BK110.out 0; have hfz8_1 := bFr BK110.out 1; have hfz8_2 := bFr BK110.out 2; have hnb9 := NB112_111.out; have hnc9 := NB111_112.out; have hcz10_0 : w5.cell? ⟨gb112, 0, none⟩ = some (.int .i64 0) := (bCe BK112.out 0).trans rfl; have hcz10_1 : w5.cell? ⟨gb112, 1, none⟩ = some (.bool false) := (bCe BK112.out 1).trans rfl; have hcz10_2 : w5.cell? ⟨gb112, 2, none⟩ = some (.slice none 0 0) := (bCe BK112.out 2).trans rfl; have hfz10_0 := bFr BK112.out 0; have hfz10_1 := bFr BK112.out 1; have hfz10_2 := bFr BK112.out 2) | ((with_reducible refine gate_callee (f := 19) rfl ?_); refine goesL_ (some 12) rfl rfl Try.func19 (by kernel_rfl) rfl #[.slice A0_2 l0_2.length c0_2] rfl (by (try simp only [List.map_toArray, List.map_cons, List.map_nil]); first | done | rfl | (simp only [List.length_drop, List.length_take]; rfl)) ?_; (with_reducible refine (laws_toByteS.calls k _ _ l0_2 t113 _ ?side1 ?side2 A2.out).mono ?_); (case side1 => exact Kd.C_below HR0_2.out (by repeat (first | (with_reducible first | exact HB.out | apply bAl | apply bDn | apply bD1 | refine bSe ?_ GE110.out | refine bSe ?_ GE111.out | refine bSe ?_ GE112.out) | exact HB.out))); (case side2 => exact HC0_2.out); rintro e w11 ⟨v114, rfl, ho0, hb⟩; refine ⟨_, rfl, ?_⟩; have n0_ := aMk (Kd.R_lower ho0 (below_size (by repeat (first | (with_reducible first | exact HB.out | apply bAl | apply bDn | apply bD1 | refine bSe ?_ GE110.out | refine bSe ?_ GE111.out | refine bSe ?_ GE112.out) | exact HB.out)))); have n1_ := aMk (blk_below (g := gb110) (o := .cells #[.int .i64 a0_0, .bool a0_1, .slice A0_2 l0_2.length c0_2] 35 (0, 0)) (by (with_reducible repeat (first | refine bkD ?_ _ | refine blk_drew ?_ | refine bkA ?_ _)); refine blk_far ?_ NB110_112.out _; (with_reducible repeat (first | refine bkD ?_ _ | refine blk_drew ?_ | refine bkA ?_ _)); refine blk_far ?_ NB110_112.out _; (with_reducible repeat (first | refine bkD ?_ _ | refine blk_drew ?_ | refine bkA ?_ _)); exact BK110.out) hb); have n2_ := aMk (blk_below (g := gb111) (o := .cells #[.int .i64 0, .bool false, .slice none 0 0] 38 (0, 0)) (by (with_reducible repeat (first | refine bkD ?_ _ | refine blk_drew ?_ | refine bkA ?_ _)); refine blk_far ?_ NB111_112.out _; (with_reducible repeat (first | refine bkD ?_ _ | refine blk_drew ?_ | refine bkA ?_ _)); refine blk_far ?_ NB111_112.out _; (with_reducible repeat (first | refine bkD ?_ _ | refine blk_drew ?_ | refine bkA ?_ _)); exact BK111.out) hb); have n3_ := aMk (blk_below (g := gb112) (o := .cells #[.int .i64 a0_0, .bool a0_1, .slice none 0 0] 38 (0, 0)) (by (with_reducible repeat (first | refine bkD ?_ _ | refine blk_drew ?_ | refine bkA ?_ _)); refine blk_put (cs := #[.int .i64 a0_0, .bool false, .slice none 0 0]) ?_ 1 _ rfl; (with_reducible repeat (first | refine bkD ?_ _ | refine blk_drew ?_ | refine bkA ?_ _)); refine blk_put (cs := #[.int .i64 0, .bool false, .slice none 0 0]) ?_ 0 _ rfl; (with_reducible repeat (first | refine bkD ?_ _ | refine blk_drew ?_ | refine bkA ?_ _)); exact BK112.out) hb); have n4_ := aMk (below_step (by repeat (first | (with_reducible first | exact HB.out | apply bAl | apply bDn | apply bD1 | refine bSe ?_ GE110.out | refine bSe ?_ GE111.out | refine bSe ?_ GE112.out) | exact HB.out)) hb); clear BK110; clear BK111; clear BK112; clear HB; have HO115 := n0_; have BK110 := n1_; have BK111 := n2_; have BK112 := n3_; have HB := n4_; clear n0_ n1_ n2_ n3_ n4_; (try clear hb); (try clear hb2); (try clear hk); (try clear hi); (try clear ho0); obtain ⟨Ao12, co12, eo12⟩ := Kd.R_slice HO115.out; subst eo12; have hcz13_0 : w11.cell? ⟨gb112, 0, none⟩ = some (.int .i64 a0_0) := (bCe BK112.out 0).trans rfl; have hcz13_1 : w11.cell? ⟨gb112, 1, none⟩ = some (.bool a0_1) := (bCe BK112.out 1).trans rfl; have hcz13_2 : w11.cell? ⟨gb112, 2, none⟩ = some (.slice none 0 0) := (bCe BK112.out 2).trans rfl; have hfz13_0 := bFr BK112.out 0; have hfz13_1 := bFr BK112.out 1; have hfz13_2 := bFr BK112.out 2; have hcz14_0 : w11.cell? ⟨gb111, 0, none⟩ = some (.int .i64 0) := (bCe BK111.out 0).trans rfl; have hcz14_1 : w11.cell? ⟨gb111, 1, none⟩ = some (.bool false) := (bCe BK111.out 1).trans rfl; have hcz14_2 : w11.cell? ⟨gb111, 2, none⟩ = some (.slice none 0 0) := (bCe BK111.out 2).trans rfl; have hfz14_0 := bFr BK111.out 0; have hfz14_1 := bFr BK111.out 1; have hfz14_2 := bFr BK111.out 2))
 refine bodyPost_ret (results_cell_row rfl _ _ gb111 38 #[.int .i64 a0_0, .bool a0_1, .slice Ao12 t113.length co12] (0, 0) _ rfl (by (with_reducible repeat (first | refine bkD ?_ _ | refine blk_drew ?_ | refine bkA ?_ _)); refine blk_put (cs := #[.int .i64 a0_0, .bool a0_1, .slice none 0 0]) ?_ 2 _ rfl; (with_reducible repeat (first | refine bkD ?_ _ | refine blk_drew ?_ | refine bkA ?_ _)); refine blk_put (cs := #[.int .i64 a0_0, .bool false, .slice none 0 0]) ?_ 1 _ rfl; (with_reducible repeat (first | refine bkD ?_ _ | refine blk_drew ?_ | refine bkA ?_ _)); refine blk_put (cs := #[.int .i64 0, .bool false, .slice none 0 0]) ?_ 0 _ rfl; (with_reducible repeat (first | refine bkD ?_ _ | refine blk_drew ?_ | refine bkA ?_ _)); refine blk_far ?_ NB111_112.out _; (with_reducible repeat (first | refine bkD ?_ _ | refine blk_drew ?_ | refine bkA ?_ _)); exact BK111.out) Try.underlying38 rfl (by kernel_rfl)) rfl ?_
 exact ⟨_, by first | rfl | (simp [errW_none, errW_some] <;> rfl) | (simp [*, errW_none, errW_some] <;> rfl), by (with_reducible repeat (first | apply Kd.R_alloc | apply Kd.R_drewN | apply Kd.R_drew)); exact Kd.R_mono (Kd.R_far (p := ⟨gb111, 2, none⟩) (Kd.R_far (p := ⟨gb111, 1, none⟩) (Kd.R_far (p := ⟨gb111, 0, none⟩) (Kd.R_far (p := ⟨gb112, 2, none⟩) (Kd.R_types (Kd.R_types HO115.out BK112.out (by decide)) BK111.out (by decide)) (fun _ hk => hk.1.2) (.slice Ao12 t113.length co12)) (fun _ hk => hk.2) (.int .i64 a0_0)) (fun _ hk => hk.2) (.bool a0_1)) (fun _ hk => hk.2) (.slice Ao12 t113.length co12)) (fun _ hk => trivial), by repeat (first | (with_reducible first | exact HB.out | apply bAl | apply bDn | apply bD1 | refine bSe ?_ GE110.out | refine bSe ?_ GE111.out | refine bSe ?_ GE112.out) | exact HB.out)⟩
def laws_eqFeed.f (k : Nat) (a0_0 : Int) (a0_1 : Bool) (l0_2 : List Int) (a1_0 : Int) (a1_1 : Bool) (l1_2 : List Int) : Option (Bool) := if a0_0 = a1_0 then (if (a0_1 != a1_1) = true then (some false) else ((laws_eqByteS.f k l0_2 l1_2).bind fun t118 => (if t118 = true then (some true) else (some false)))) else (some false)
set_option maxHeartbeats 8000000 in
set_option maxRecDepth 100000 in
theorem laws_eqFeed.calls (k : Nat) (a0_0 : Int) (a0_1 : Bool) (A0_2 : Option Addr) (c0_2 : Nat) (l0_2 : List Int) (a1_0 : Int) (a1_1 : Bool) (A1_2 : Option Addr) (c1_2 : Nat) (l1_2 : List Int) (r : Bool) (w : World) (hr0_2 : Kd.C (Kd.int .u8) w A0_2 l0_2.length l0_2) (hc0_2 : l0_2.length ≤ c0_2) (hr1_2 : Kd.C (Kd.int .u8) w A1_2 l1_2.length l1_2) (hc1_2 : l1_2.length ≤ c1_2) (h : laws_eqFeed.f k a0_0 a0_1 l0_2 a1_0 a1_1 l1_2 = some r) :
 Calls Try.prog 25 #[.agg #[.int .i64 a0_0, .bool a0_1, .slice A0_2 l0_2.length c0_2], .agg #[.int .i64 a1_0, .bool a1_1, .slice A1_2 l1_2.length c1_2]] w fun e w' => e = .returned (.bool r) ∧ Below w.heap.size w w' := by
 have hu38 := Try.underlying38
 have HR0_2 := aMk hr0_2
 have HC0_2 := aMk hc0_2
 clear hr0_2 hc0_2
 have HR1_2 := aMk hr1_2
 have HC1_2 := aMk hc1_2
 clear hr1_2 hc1_2
 have HB := aMk (Below.refl w.heap.size w)
 have H : (if a0_0 = a1_0 then (if (a0_1 != a1_1) = true then (some false) else ((laws_eqByteS.f k l0_2 l1_2).bind fun t118 => (if t118 = true then (some true) else (some false)))) else (some false)) = some r := h
 clear h
 by_cases c3 : a0_0 = a1_0
 · rw [if_pos c3] at H
   have c3b0 : (a0_0 == a1_0) = true := beq_iff_eq.mpr c3
   have c3b1 : (a0_0 != a1_0) = false := bne_eq_false_iff_eq.mpr c3
   clear c3
   by_cases c4 : (a0_1 != a1_1) = true
   · rw [if_pos c4] at H
     have c4b0 : (a0_1 != a1_1) = true := c4
     (try (have c4b1 : decide (a0_1 = a1_1) = false := by simpa using c4))
     (try (have c4b2 : (a0_1 == a1_1) = false := by simpa using c4))
     (try (have c4b3 : ¬ (a0_1 = a1_1) := by simpa using c4))
     clear c4
     obtain rfl := Option.some.inj H
     go_enter Try.func25, Try.ntmps25
     go_wp2_with (first | ((with_reducible refine gate_dst (N := 2) rfl ?_); refine box_event ?hg (N := 2) ?hd (cs := #[.int .i64 a0_0, .bool a0_1, .slice A0_2 l0_2.length c0_2]) (t := 38) ?hr ?_; (case hd => rfl); (case hg => rfl); (case hr => first | (go_simp; done) | (go_simp; rfl)); intro gb116 hg w5 hbox hb; have n0_ := aMk (below_step (by repeat (first | (with_reducible first | exact HB.out | apply bAl | apply bDn | apply bD1) | exact HB.out)) hb); have n1_ := aMk (hbox); have n2_ := aMk ((by rw [hg]; exact (below_size (by repeat (first | (with_reducible first | exact HB.out | apply bAl | apply bDn | apply bD1) | exact HB.out))) : w.heap.size ≤ gb116)); have n3_ := aMk ((by rw [hg]; exact (below_size (by repeat (first | (with_reducible first | exact HB.out | apply bAl | apply bDn | apply bD1) | exact HB.out))) : w.heap.size ≤ gb116)); clear HB; have HB := n0_; have BK116 := n1_; have GW116 := n2_; have GE116 := n3_; clear n0_ n1_ n2_ n3_; clear hb hbox hg) | ((with_reducible refine gate_dst (N := 3) rfl ?_); refine box_event ?hg (N := 3) ?hd (cs := #[.int .i64 a1_0, .bool a1_1, .slice A1_2 l1_2.length c1_2]) (t := 38) ?hr ?_; (case hd => rfl); (case hg => rfl); (case hr => first | (go_simp; done) | (go_simp; rfl)); intro gb117 hg w6 hbox hb; have n0_ := aMk (blk_below (g := gb116) (o := .cells #[.int .i64 a0_0, .bool a0_1, .slice A0_2 l0_2.length c0_2] 38 (0, 0)) (by (with_reducible repeat (first | refine bkD ?_ _ | refine blk_drew ?_ | refine bkA ?_ _)); exact BK116.out) hb); have n1_ := aMk (below_step (by repeat (first | (with_reducible first | exact HB.out | apply bAl | apply bDn | apply bD1 | refine bSe ?_ GE116.out) | exact HB.out)) hb); have n2_ := aMk (hbox); have n3_ := aMk ((by rw [hg]; exact (below_size (by repeat (first | (with_reducible first | exact HB.out | apply bAl | apply bDn | apply bD1 | refine bSe ?_ GE116.out) | exact HB.out))) : w.heap.size ≤ gb117)); have n4_ := aMk ((by rw [hg]; exact (below_size (by repeat (first | (with_reducible first | exact HB.out | apply bAl | apply bDn | apply bD1 | refine bSe ?_ GE116.out) | exact HB.out))) : w.heap.size ≤ gb117)); have n5_ := aMk ((by rw [hg]; exact Nat.ne_of_lt (blk_lt (g := gb116) (o := .cells #[.int .i64 a0_0, .bool a0_1, .slice A0_2 l0_2.length c0_2] 38 (0, 0)) (by (with_reducible repeat (first | refine bkD ?_ _ | refine blk_drew ?_ | refine bkA ?_ _)); exact BK116.out)) : gb116 ≠ gb117)); have n6_ := aMk ((by rw [hg]; exact Nat.ne_of_gt (blk_lt (g := gb116) (o := .cells #[.int .i64 a0_0, .bool a0_1, .slice A0_2 l0_2.length c0_2] 38 (0, 0)) (by (with_reducible repeat (first | refine bkD ?_ _ | refine blk_drew ?_ | refine bkA ?_ _)); exact BK116.out)) : gb117 ≠ gb116)); clear BK116; clear HB; have BK116 := n0_; have HB := n1_; have BK117 := n2_; have GW117 := n3_; have GE117 := n4_; have NB116_117 := n5_; have NB117_116 := n6_; clear n0_ n1_ n2_ n3_ n4_ n5_ n6_; clear hb hbox hg; have hnb7 := NB116_117.out; have hnc7 := NB117_116.out; have hcz8_0 : w6.cell? ⟨gb116, 0, none⟩ = some (.int .i64 a0_0) := (bCe BK116.out 0).trans rfl; have hcz8_1 : w6.cell? ⟨gb116, 1, none⟩ = some (.bool a0_1) := (bCe BK116.out 1).trans rfl; have hcz8_2 : w6.cell? ⟨gb116, 2, none⟩ = some (.slice A0_2 l0_2.length c0_2) := (bCe BK116.out 2).trans rfl; have hfz8_0 := bFr BK116.out 0; have hfz8_1 := bFr BK116.out 1; have hfz8_2 := bFr BK116.out 2; have hcz9_0 : w6.cell? ⟨gb117, 0, none⟩ = some (.int .i64 a1_0) := (bCe BK117.out 0).trans rfl; have hcz9_1 : w6.cell? ⟨gb117, 1, none⟩ = some (.bool a1_1) := (bCe BK117.out 1).trans rfl; have hcz9_2 : w6.cell? ⟨gb117, 2, none⟩ = some (.slice A1_2 l1_2.length c1_2) := (bCe BK117.out 2).trans rfl; have hfz9_0 := bFr BK117.out 0; have hfz9_1 := bFr BK117.out 1; have hfz9_2 := bFr BK117.out 2))
     go_ret
     exact ⟨by first | rfl | (simp [errW_none, errW_some] <;> rfl) | (simp [*, errW_none, errW_some] <;> rfl), by repeat (first | (with_reducible first | exact HB.out | apply bAl | apply bDn | apply bD1 | refine bSe ?_ GE116.out | refine bSe ?_ GE117.out) | exact HB.out)⟩
   · rw [if_neg c4] at H
     have c4b0 : (a0_1 != a1_1) = false := by simpa using c4
     (try (have c4b1 : decide (a0_1 = a1_1) = true := by simpa using c4))
     (try (have c4b2 : (a0_1 == a1_1) = true := by simpa using c4))
     clear c4
     replace H := oBm H
     obtain ⟨t118, A100, H⟩ := H
     replace H : (if t118 = true then (some true) else (some false)) = some r := H
     have A10 := aMk A100
     clear A100
     by_cases c11 : t118 = true
     · subst c11
       have H1 : (some true) = some r := by rw [if_pos rfl] at H; exact H
       clear H
       have H := H1
       clear H1
       obtain rfl := Option.some.inj H
       go_enter Try.func25, Try.ntmps25
       go_wp2_with (first | ((with_reducible refine gate_dst (N := 2) rfl ?_); refine box_event ?hg (N := 2) ?hd (cs := #[.int .i64 a0_0, .bool a0_1, .slice A0_2 l0_2.length c0_2]) (t := 38) ?hr ?_; (case hd => rfl); (case hg => rfl); (case hr => first | (go_simp; done) | (go_simp; rfl)); intro gb116 hg w12 hbox hb; have n0_ := aMk (below_step (by repeat (first | (with_reducible first | exact HB.out | apply bAl | apply bDn | apply bD1) | exact HB.out)) hb); have n1_ := aMk (hbox); have n2_ := aMk ((by rw [hg]; exact (below_size (by repeat (first | (with_reducible first | exact HB.out | apply bAl | apply bDn | apply bD1) | exact HB.out))) : w.heap.size ≤ gb116)); have n3_ := aMk ((by rw [hg]; exact (below_size (by repeat (first | (with_reducible first | exact HB.out | apply bAl | apply bDn | apply bD1) | exact HB.out))) : w.heap.size ≤ gb116)); clear HB; have HB := n0_; have BK116 := n1_; have GW116 := n2_; have GE116 := n3_; clear n0_ n1_ n2_ n3_; clear hb hbox hg) | ((with_reducible refine gate_dst (N := 3) rfl ?_); refine box_event ?hg (N := 3) ?hd (cs := #[.int .i64 a1_0, .bool a1_1, .slice A1_2 l1_2.length c1_2]) (t := 38) ?hr ?_; (case hd => rfl); (case hg => rfl); (case hr => first | (go_simp; done) | (go_simp; rfl)); intro gb117 hg w13 hbox hb; have n0_ := aMk (blk_below (g := gb116) (o := .cells #[.int .i64 a0_0, .bool a0_1, .slice A0_2 l0_2.length c0_2] 38 (0, 0)) (by (with_reducible repeat (first | refine bkD ?_ _ | refine blk_drew ?_ | refine bkA ?_ _)); exact BK116.out) hb); have n1_ := aMk (below_step (by repeat (first | (with_reducible first | exact HB.out | apply bAl | apply bDn | apply bD1 | refine bSe ?_ GE116.out) | exact HB.out)) hb); have n2_ := aMk (hbox); have n3_ := aMk ((by rw [hg]; exact (below_size (by repeat (first | (with_reducible first | exact HB.out | apply bAl | apply bDn | apply bD1 | refine bSe ?_ GE116.out) | exact HB.out))) : w.heap.size ≤ gb117)); have n4_ := aMk ((by rw [hg]; exact (below_size (by repeat (first | (with_reducible first | exact HB.out | apply bAl | apply bDn | apply bD1 | refine bSe ?_ GE116.out) | exact HB.out))) : w.heap.size ≤ gb117)); have n5_ := aMk ((by rw [hg]; exact Nat.ne_of_lt (blk_lt (g := gb116) (o := .cells #[.int .i64 a0_0, .bool a0_1, .slice A0_2 l0_2.length c0_2] 38 (0, 0)) (by (with_reducible repeat (first | refine bkD ?_ _ | refine blk_drew ?_ | refine bkA ?_ _)); exact BK116.out)) : gb116 ≠ gb117)); have n6_ := aMk ((by rw [hg]; exact Nat.ne_of_gt (blk_lt (g := gb116) (o := .cells #[.int .i64 a0_0, .bool a0_1, .slice A0_2 l0_2.length c0_2] 38 (0, 0)) (by (with_reducible repeat (first | refine bkD ?_ _ | refine blk_drew ?_ | refine bkA ?_ _)); exact BK116.out)) : gb117 ≠ gb116)); clear BK116; clear HB; have BK116 := n0_; have HB := n1_; have BK117 := n2_; have GW117 := n3_; have GE117 := n4_; have NB116_117 := n5_; have NB117_116 := n6_; clear n0_ n1_ n2_ n3_ n4_ n5_ n6_; clear hb hbox hg; have hnb14 := NB116_117.out; have hnc14 := NB117_116.out; have hcz15_0 : w13.cell? ⟨gb116, 0, none⟩ = some (.int .i64 a0_0) := (bCe BK116.out 0).trans rfl; have hcz15_1 : w13.cell? ⟨gb116, 1, none⟩ = some (.bool a0_1) := (bCe BK116.out 1).trans rfl; have hcz15_2 : w13.cell? ⟨gb116, 2, none⟩ = some (.slice A0_2 l0_2.length c0_2) := (bCe BK116.out 2).trans rfl; have hfz15_0 := bFr BK116.out 0; have hfz15_1 := bFr BK116.out 1; have hfz15_2 := bFr BK116.out 2; have hcz16_0 : w13.cell? ⟨gb117, 0, none⟩ = some (.int .i64 a1_0) := (bCe BK117.out 0).trans rfl; have hcz16_1 : w13.cell? ⟨gb117, 1, none⟩ = some (.bool a1_1) := (bCe BK117.out 1).trans rfl; have hcz16_2 : w13.cell? ⟨gb117, 2, none⟩ = some (.slice A1_2 l1_2.length c1_2) := (bCe BK117.out 2).trans rfl; have hfz16_0 := bFr BK117.out 0; have hfz16_1 := bFr BK117.out 1; have hfz16_2 := bFr BK117.out 2) | ((with_reducible refine gate_callee (f := 20) rfl ?_); refine goesL_ (some 19) rfl rfl Try.func20 (by kernel_rfl) rfl #[.slice A0_2 l0_2.length c0_2, .slice A1_2 l1_2.length c1_2] rfl (by (try simp only [List.map_toArray, List.map_cons, List.map_nil]); first | done | rfl | (simp only [List.length_drop, List.length_take]; rfl)) ?_; (with_reducible refine (laws_eqByteS.calls k _ _ l0_2 _ _ l1_2 true _ ?side1 ?side2 ?side3 ?side4 A10.out).mono ?_); (case side1 => repeat (first | exact (Kd.C_below HR0_2.out HB.out) | (with_reducible refine Kd.C_alloc ?_ _) | (with_reducible refine Kd.C_drewN ?_ _) | (with_reducible refine Kd.C_drew ?_))); (case side2 => exact HC0_2.out); (case side3 => repeat (first | exact (Kd.C_below HR1_2.out HB.out) | (with_reducible refine Kd.C_alloc ?_ _) | (with_reducible refine Kd.C_drewN ?_ _) | (with_reducible refine Kd.C_drew ?_))); (case side4 => exact HC1_2.out); rintro e w' ⟨rfl, ⟨nd, rfl⟩⟩; refine ⟨_, rfl, ?_⟩))
       go_ret
       exact ⟨by first | rfl | (simp [errW_none, errW_some] <;> rfl) | (simp [*, errW_none, errW_some] <;> rfl), by repeat (first | (with_reducible first | exact HB.out | apply bAl | apply bDn | apply bD1 | refine bSe ?_ GE116.out | refine bSe ?_ GE117.out) | exact HB.out)⟩
     · replace c11 := Bool.eq_false_iff.mpr c11
       subst c11
       have H1 : (some false) = some r := by rw [if_neg (show ¬ (false = true) by decide)] at H; exact H
       clear H
       have H := H1
       clear H1
       obtain rfl := Option.some.inj H
       go_enter Try.func25, Try.ntmps25
       go_wp2_with (first | ((with_reducible refine gate_dst (N := 2) rfl ?_); refine box_event ?hg (N := 2) ?hd (cs := #[.int .i64 a0_0, .bool a0_1, .slice A0_2 l0_2.length c0_2]) (t := 38) ?hr ?_; (case hd => rfl); (case hg => rfl); (case hr => first | (go_simp; done) | (go_simp; rfl)); intro gb116 hg w17 hbox hb; have n0_ := aMk (below_step (by repeat (first | (with_reducible first | exact HB.out | apply bAl | apply bDn | apply bD1) | exact HB.out)) hb); have n1_ := aMk (hbox); have n2_ := aMk ((by rw [hg]; exact (below_size (by repeat (first | (with_reducible first | exact HB.out | apply bAl | apply bDn | apply bD1) | exact HB.out))) : w.heap.size ≤ gb116)); have n3_ := aMk ((by rw [hg]; exact (below_size (by repeat (first | (with_reducible first | exact HB.out | apply bAl | apply bDn | apply bD1) | exact HB.out))) : w.heap.size ≤ gb116)); clear HB; have HB := n0_; have BK116 := n1_; have GW116 := n2_; have GE116 := n3_; clear n0_ n1_ n2_ n3_; clear hb hbox hg) | ((with_reducible refine gate_dst (N := 3) rfl ?_); refine box_event ?hg (N := 3) ?hd (cs := #[.int .i64 a1_0, .bool a1_1, .slice A1_2 l1_2.length c1_2]) (t := 38) ?hr ?_; (case hd => rfl); (case hg => rfl); (case hr => first | (go_simp; done) | (go_simp; rfl)); intro gb117 hg w18 hbox hb; have n0_ := aMk (blk_below (g := gb116) (o := .cells #[.int .i64 a0_0, .bool a0_1, .slice A0_2 l0_2.length c0_2] 38 (0, 0)) (by (with_reducible repeat (first | refine bkD ?_ _ | refine blk_drew ?_ | refine bkA ?_ _)); exact BK116.out) hb); have n1_ := aMk (below_step (by repeat (first | (with_reducible first | exact HB.out | apply bAl | apply bDn | apply bD1 | refine bSe ?_ GE116.out) | exact HB.out)) hb); have n2_ := aMk (hbox); have n3_ := aMk ((by rw [hg]; exact (below_size (by repeat (first | (with_reducible first | exact HB.out | apply bAl | apply bDn | apply bD1 | refine bSe ?_ GE116.out) | exact HB.out))) : w.heap.size ≤ gb117)); have n4_ := aMk ((by rw [hg]; exact (below_size (by repeat (first | (with_reducible first | exact HB.out | apply bAl | apply bDn | apply bD1 | refine bSe ?_ GE116.out) | exact HB.out))) : w.heap.size ≤ gb117)); have n5_ := aMk ((by rw [hg]; exact Nat.ne_of_lt (blk_lt (g := gb116) (o := .cells #[.int .i64 a0_0, .bool a0_1, .slice A0_2 l0_2.length c0_2] 38 (0, 0)) (by (with_reducible repeat (first | refine bkD ?_ _ | refine blk_drew ?_ | refine bkA ?_ _)); exact BK116.out)) : gb116 ≠ gb117)); have n6_ := aMk ((by rw [hg]; exact Nat.ne_of_gt (blk_lt (g := gb116) (o := .cells #[.int .i64 a0_0, .bool a0_1, .slice A0_2 l0_2.length c0_2] 38 (0, 0)) (by (with_reducible repeat (first | refine bkD ?_ _ | refine blk_drew ?_ | refine bkA ?_ _)); exact BK116.out)) : gb117 ≠ gb116)); clear BK116; clear HB; have BK116 := n0_; have HB := n1_; have BK117 := n2_; have GW117 := n3_; have GE117 := n4_; have NB116_117 := n5_; have NB117_116 := n6_; clear n0_ n1_ n2_ n3_ n4_ n5_ n6_; clear hb hbox hg; have hnb19 := NB116_117.out; have hnc19 := NB117_116.out; have hcz20_0 : w18.cell? ⟨gb116, 0, none⟩ = some (.int .i64 a0_0) := (bCe BK116.out 0).trans rfl; have hcz20_1 : w18.cell? ⟨gb116, 1, none⟩ = some (.bool a0_1) := (bCe BK116.out 1).trans rfl; have hcz20_2 : w18.cell? ⟨gb116, 2, none⟩ = some (.slice A0_2 l0_2.length c0_2) := (bCe BK116.out 2).trans rfl; have hfz20_0 := bFr BK116.out 0; have hfz20_1 := bFr BK116.out 1; have hfz20_2 := bFr BK116.out 2; have hcz21_0 : w18.cell? ⟨gb117, 0, none⟩ = some (.int .i64 a1_0) := (bCe BK117.out 0).trans rfl; have hcz21_1 : w18.cell? ⟨gb117, 1, none⟩ = some (.bool a1_1) := (bCe BK117.out 1).trans rfl; have hcz21_2 : w18.cell? ⟨gb117, 2, none⟩ = some (.slice A1_2 l1_2.length c1_2) := (bCe BK117.out 2).trans rfl; have hfz21_0 := bFr BK117.out 0; have hfz21_1 := bFr BK117.out 1; have hfz21_2 := bFr BK117.out 2) | ((with_reducible refine gate_callee (f := 20) rfl ?_); refine goesL_ (some 19) rfl rfl Try.func20 (by kernel_rfl) rfl #[.slice A0_2 l0_2.length c0_2, .slice A1_2 l1_2.length c1_2] rfl (by (try simp only [List.map_toArray, List.map_cons, List.map_nil]); first | done | rfl | (simp only [List.length_drop, List.length_take]; rfl)) ?_; (with_reducible refine (laws_eqByteS.calls k _ _ l0_2 _ _ l1_2 false _ ?side1 ?side2 ?side3 ?side4 A10.out).mono ?_); (case side1 => repeat (first | exact (Kd.C_below HR0_2.out HB.out) | (with_reducible refine Kd.C_alloc ?_ _) | (with_reducible refine Kd.C_drewN ?_ _) | (with_reducible refine Kd.C_drew ?_))); (case side2 => exact HC0_2.out); (case side3 => repeat (first | exact (Kd.C_below HR1_2.out HB.out) | (with_reducible refine Kd.C_alloc ?_ _) | (with_reducible refine Kd.C_drewN ?_ _) | (with_reducible refine Kd.C_drew ?_))); (case side4 => exact HC1_2.out); rintro e w' ⟨rfl, ⟨nd, rfl⟩⟩; refine ⟨_, rfl, ?_⟩))
       go_ret
       exact ⟨by first | rfl | (simp [errW_none, errW_some] <;> rfl) | (simp [*, errW_none, errW_some] <;> rfl), by repeat (first | (with_reducible first | exact HB.out | apply bAl | apply bDn | apply bD1 | refine bSe ?_ GE116.out | refine bSe ?_ GE117.out) | exact HB.out)⟩
 · rw [if_neg c3] at H
   have c3b0 : (a0_0 == a1_0) = false := beq_eq_false_iff_ne.mpr c3
   have c3b1 : (a0_0 != a1_0) = true := bne_iff_ne.mpr c3
   obtain rfl := Option.some.inj H
   go_enter Try.func25, Try.ntmps25
   go_wp2_with (first | ((with_reducible refine gate_dst (N := 2) rfl ?_); refine box_event ?hg (N := 2) ?hd (cs := #[.int .i64 a0_0, .bool a0_1, .slice A0_2 l0_2.length c0_2]) (t := 38) ?hr ?_; (case hd => rfl); (case hg => rfl); (case hr => first | (go_simp; done) | (go_simp; rfl)); intro gb116 hg w22 hbox hb; have n0_ := aMk (below_step (by repeat (first | (with_reducible first | exact HB.out | apply bAl | apply bDn | apply bD1) | exact HB.out)) hb); have n1_ := aMk (hbox); have n2_ := aMk ((by rw [hg]; exact (below_size (by repeat (first | (with_reducible first | exact HB.out | apply bAl | apply bDn | apply bD1) | exact HB.out))) : w.heap.size ≤ gb116)); have n3_ := aMk ((by rw [hg]; exact (below_size (by repeat (first | (with_reducible first | exact HB.out | apply bAl | apply bDn | apply bD1) | exact HB.out))) : w.heap.size ≤ gb116)); clear HB; have HB := n0_; have BK116 := n1_; have GW116 := n2_; have GE116 := n3_; clear n0_ n1_ n2_ n3_; clear hb hbox hg) | ((with_reducible refine gate_dst (N := 3) rfl ?_); refine box_event ?hg (N := 3) ?hd (cs := #[.int .i64 a1_0, .bool a1_1, .slice A1_2 l1_2.length c1_2]) (t := 38) ?hr ?_; (case hd => rfl); (case hg => rfl); (case hr => first | (go_simp; done) | (go_simp; rfl)); intro gb117 hg w23 hbox hb; have n0_ := aMk (blk_below (g := gb116) (o := .cells #[.int .i64 a0_0, .bool a0_1, .slice A0_2 l0_2.length c0_2] 38 (0, 0)) (by (with_reducible repeat (first | refine bkD ?_ _ | refine blk_drew ?_ | refine bkA ?_ _)); exact BK116.out) hb); have n1_ := aMk (below_step (by repeat (first | (with_reducible first | exact HB.out | apply bAl | apply bDn | apply bD1 | refine bSe ?_ GE116.out) | exact HB.out)) hb); have n2_ := aMk (hbox); have n3_ := aMk ((by rw [hg]; exact (below_size (by repeat (first | (with_reducible first | exact HB.out | apply bAl | apply bDn | apply bD1 | refine bSe ?_ GE116.out) | exact HB.out))) : w.heap.size ≤ gb117)); have n4_ := aMk ((by rw [hg]; exact (below_size (by repeat (first | (with_reducible first | exact HB.out | apply bAl | apply bDn | apply bD1 | refine bSe ?_ GE116.out) | exact HB.out))) : w.heap.size ≤ gb117)); have n5_ := aMk ((by rw [hg]; exact Nat.ne_of_lt (blk_lt (g := gb116) (o := .cells #[.int .i64 a0_0, .bool a0_1, .slice A0_2 l0_2.length c0_2] 38 (0, 0)) (by (with_reducible repeat (first | refine bkD ?_ _ | refine blk_drew ?_ | refine bkA ?_ _)); exact BK116.out)) : gb116 ≠ gb117)); have n6_ := aMk ((by rw [hg]; exact Nat.ne_of_gt (blk_lt (g := gb116) (o := .cells #[.int .i64 a0_0, .bool a0_1, .slice A0_2 l0_2.length c0_2] 38 (0, 0)) (by (with_reducible repeat (first | refine bkD ?_ _ | refine blk_drew ?_ | refine bkA ?_ _)); exact BK116.out)) : gb117 ≠ gb116)); clear BK116; clear HB; have BK116 := n0_; have HB := n1_; have BK117 := n2_; have GW117 := n3_; have GE117 := n4_; have NB116_117 := n5_; have NB117_116 := n6_; clear n0_ n1_ n2_ n3_ n4_ n5_ n6_; clear hb hbox hg; have hnb24 := NB116_117.out; have hnc24 := NB117_116.out; have hcz25_0 : w23.cell? ⟨gb116, 0, none⟩ = some (.int .i64 a0_0) := (bCe BK116.out 0).trans rfl; have hcz25_1 : w23.cell? ⟨gb116, 1, none⟩ = some (.bool a0_1) := (bCe BK116.out 1).trans rfl; have hcz25_2 : w23.cell? ⟨gb116, 2, none⟩ = some (.slice A0_2 l0_2.length c0_2) := (bCe BK116.out 2).trans rfl; have hfz25_0 := bFr BK116.out 0; have hfz25_1 := bFr BK116.out 1; have hfz25_2 := bFr BK116.out 2; have hcz26_0 : w23.cell? ⟨gb117, 0, none⟩ = some (.int .i64 a1_0) := (bCe BK117.out 0).trans rfl; have hcz26_1 : w23.cell? ⟨gb117, 1, none⟩ = some (.bool a1_1) := (bCe BK117.out 1).trans rfl; have hcz26_2 : w23.cell? ⟨gb117, 2, none⟩ = some (.slice A1_2 l1_2.length c1_2) := (bCe BK117.out 2).trans rfl; have hfz26_0 := bFr BK117.out 0; have hfz26_1 := bFr BK117.out 1; have hfz26_2 := bFr BK117.out 2))
   go_ret
   exact ⟨by first | rfl | (simp [errW_none, errW_some] <;> rfl) | (simp [*, errW_none, errW_some] <;> rfl), by repeat (first | (with_reducible first | exact HB.out | apply bAl | apply bDn | apply bD1 | refine bSe ?_ GE116.out | refine bSe ?_ GE117.out) | exact HB.out)⟩
set_option maxHeartbeats 8000000 in
set_option maxRecDepth 100000 in
theorem enc_calls (A0 : Option Addr) (c0 : Nat) (l0 : List Int) (w : World) (hr0 : Kd.C (Kd.int .i64) w A0 l0.length l0) (hc0 : l0.length ≤ c0) (hl : l0.length ≤ 1099511627776) :
 Calls Try.prog 10 #[.slice A0 l0.length c0] w fun e w' => e = .returned (.string (strOfNums (encU l0))) ∧ Below w.heap.size w w' := by
 have hu29 := Try.underlying22
 have hu9 := Try.underlying9
 have hu21 := Try.underlying21
 have HR0 := aMk hr0
 have HC0 := aMk hc0
 have HL := aMk hl
 clear hr0 hc0 hl
 have HB := aMk (Below.refl w.heap.size w)
 go_enter Try.func10, Try.ntmps10
 go_wp2_with (first | ((with_reducible refine gate_dst (N := 6) rfl ?_); refine Kd.R_lit (Kd.int .u8) _ 5 ?hg (N := 6) ?hd (xs := ([] : List Int)) (inner := []) (ok := fun _ => True) (okp := fun _ => True) ?hr ?hp (fun _ hk => hk) trivial (Below.refl _ _) (Nat.le_refl _) (by simp) ?_; (case hd => rfl); (case hg => rfl); (case hr => first | (go_simp; done) | (go_simp; rfl)); (case hp => exact (Reps.none _ _)); intro v3 w3 ho3 hb hg_ hnew_; clear hg_ hnew_; have HO1 := aMk (Kd.R_lower ho3 (below_size HB.out)); have HB1 := aMk (below_step HB.out hb); clear HB hb ho3))
 go_loopg [3, 9] l0.length (fun kq v3 v9 w' => ∃ (n : Nat), v9 = .int .i64 (n : Int) ∧ Aside0 (n + kq = l0.length) ∧ Aside0 (Kd.R (Kd.int .u8) 5 w' w.heap.size (fun _ => True) v3 (encU (l0.take n))) ∧ Aside0 (Below w.heap.size w w'))
 case atStart => exact ⟨0, rfl, ⟨by simp⟩, HO1, HB1⟩
 case round =>
  clear HO1 HB1
  obtain ⟨n, rfl, HN, HO, HB⟩ := hrel
  by_cases c : n < l0.length
  · have c1 : decide ((n : Int) < (l0.length : Int)) = true := decide_eq_true (by omega)
    have c1n : decide (n < l0.length) = true := decide_eq_true c
    have p1 : 0 ≤ (n : Int) := by omega
    have q1 : (n : Int) < (l0.length : Int) := by omega
    obtain ⟨ad, eA, hx⟩ := Kd.at_int HR0.out (n : Int) p1 q1
    rw [Int.toNat_natCast, rd_n1 l0 n c] at hx
    cases eA
    replace hx := (HB.out.cell (wBl w _ hx)).trans hx
    replace p1 := eq_true p1
    replace q1 := eq_true q1
    have HT := aMk (encU_succ l0 n c)
    have HQ : Aside0 ((encU (l0.take n)).length + 4 ≤ 140737488355328) := ⟨by have h1 := encU_len (l0.take n); rw [List.length_take] at h1; have := HL.out; omega⟩
    obtain ⟨x, hxx⟩ : ∃ x, x = l0[n] := ⟨_, rfl⟩
    rw [← hxx] at HT hx
    clear hxx
    have hk : gk ≠ 0 := by have := HN.out; omega
    obtain ⟨k1, rfl⟩ := Nat.exists_eq_succ_of_ne_zero hk
    clear hk
    have hw : wrap64 ((n : Int) + 1) = ((n + 1 : Nat) : Int) := by have := HL.out; unfold wrap64; omega
    replace hw := aMk hw
    clear c
    obtain ⟨out, hout⟩ : ∃ out, out = encU (l0.take n) := ⟨_, rfl⟩
    rw [← hout] at HT HQ HO
    clear hout
    have fin : ∀ v1 w1, Kd.R (Kd.int .u8) 5 w1 w.heap.size (fun _ => True) v1 (out ++ encZ x) → Aside0 (Kd.R (Kd.int .u8) 5 w1 w.heap.size (fun _ => True) v1 (encU (l0.take (n + 1)))) := fun v1 w1 h => ⟨by rw [HT.out]; exact h⟩
    by_cases d : encB x = true
    · have HZ : Aside0 (encZ x = [239, 191, 189]) := ⟨by unfold encZ; rw [if_pos d]⟩
      have FIN := aMk fin
      clear fin HT
      unfold encB at d
      by_cases d1 : x < 0
      · replace d1 := decide_eq_true d1
        clear d
        go_wp2_with (first | (refine print_append_str (w0 := w) w.heap.size rfl (.tmp 27) (.const (.string ⟨#[239, 191, 189]⟩)) 22 9 5 rfl Try.underlying22 Try.underlying9 info5 u3 out (⟨#[239, 191, 189]⟩ : ByteArray) rfl rfl (Kd.own_of_R HO.out) HB.out HB.out.size (by have := HQ.out; show out.length + 3 ≤ _; omega) ?_; intro v1 w1 ho hb hg; have HO2 : Aside0 (Kd.R (Kd.int .u8) 5 w1 w.heap.size (fun _ => True) v1 (encU (l0.take (n + 1)))) := FIN.out v1 w1 (by rw [HZ.out]; exact Kd.R_of_own ho (fun _ _ => trivial)); have HB2 := aMk hb; clear ho hb hg))
        go_roundg k1
        case measure => omega
        case rel => exact ⟨n + 1, congrArg (Value.int .i64) hw.out, ⟨by have := HN.out; omega⟩, HO2, HB2⟩
      by_cases d2 : x > 1114111
      · replace d1 := decide_eq_false d1
        replace d2 := decide_eq_true d2
        clear d
        go_wp2_with (first | (refine print_append_str (w0 := w) w.heap.size rfl (.tmp 27) (.const (.string ⟨#[239, 191, 189]⟩)) 22 9 5 rfl Try.underlying22 Try.underlying9 info5 u3 out (⟨#[239, 191, 189]⟩ : ByteArray) rfl rfl (Kd.own_of_R HO.out) HB.out HB.out.size (by have := HQ.out; show out.length + 3 ≤ _; omega) ?_; intro v1 w1 ho hb hg; have HO2 : Aside0 (Kd.R (Kd.int .u8) 5 w1 w.heap.size (fun _ => True) v1 (encU (l0.take (n + 1)))) := FIN.out v1 w1 (by rw [HZ.out]; exact Kd.R_of_own ho (fun _ _ => trivial)); have HB2 := aMk hb; clear ho hb hg))
        go_roundg k1
        case measure => omega
        case rel => exact ⟨n + 1, congrArg (Value.int .i64) hw.out, ⟨by have := HN.out; omega⟩, HO2, HB2⟩
      · have d3 : decide (x ≥ 55296) = true := decide_eq_true (by simp at d; omega)
        have d4 : decide (x ≤ 57343) = true := decide_eq_true (by simp at d; omega)
        replace d1 := decide_eq_false d1
        replace d2 := decide_eq_false d2
        clear d
        go_wp2_with (first | (refine print_append_str (w0 := w) w.heap.size rfl (.tmp 27) (.const (.string ⟨#[239, 191, 189]⟩)) 22 9 5 rfl Try.underlying22 Try.underlying9 info5 u3 out (⟨#[239, 191, 189]⟩ : ByteArray) rfl rfl (Kd.own_of_R HO.out) HB.out HB.out.size (by have := HQ.out; show out.length + 3 ≤ _; omega) ?_; intro v1 w1 ho hb hg; have HO2 : Aside0 (Kd.R (Kd.int .u8) 5 w1 w.heap.size (fun _ => True) v1 (encU (l0.take (n + 1)))) := FIN.out v1 w1 (by rw [HZ.out]; exact Kd.R_of_own ho (fun _ _ => trivial)); have HB2 := aMk hb; clear ho hb hg))
        go_roundg k1
        case measure => omega
        case rel => exact ⟨n + 1, congrArg (Value.int .i64) hw.out, ⟨by have := HN.out; omega⟩, HO2, HB2⟩
    · have HZ : Aside0 (encZ x = Lib.encodeRuneZ x) := ⟨by unfold encZ; rw [if_neg d]⟩
      have FIN := aMk fin
      clear fin HT
      have e1 : 0 ≤ x ∧ x ≤ 1114111 ∧ (x < 55296 ∨ 57343 < x) := by unfold encB at d; simp at d; omega
      have hw32 : IntKind.i32.wrap x = x := by rw [i32_w]; unfold wrap32; omega
      have HOW : Aside0 (wr.ownsRow w.heap.size 5 1 u3 out.length (nums .u8 out)) := ⟨Kd.own_of_R HO.out⟩
      have d1 : decide (x < 0) = false := decide_eq_false (by omega)
      have d2 : decide (x > 1114111) = false := decide_eq_false (by omega)
      by_cases d3 : x ≥ 55296
      · have d4 : decide (x ≤ 57343) = false := decide_eq_false (by omega)
        replace d3 := decide_eq_true d3
        clear d
        go_wp2_with (first | (go_at_call 36; refine (Try.utf8_AppendRune_plain w.heap.size u3 out.length (nums .u8 out) x (by omega) (by omega) wr HOW.out HQ.out HB.out.size).mono ?_; rintro e w1 ⟨v1, rfl, hown, o1, hg⟩; have HO2 : Aside0 (Kd.R (Kd.int .u8) 5 w1 w.heap.size (fun _ => True) v1 (encU (l0.take (n + 1)))) := FIN.out v1 w1 (by rw [HZ.out]; refine Kd.R_of_own (xs := out ++ Lib.encodeRuneZ x) ?_ (fun _ _ => trivial); rw [List.length_append, show (Lib.encodeRuneZ x).length = (Lib.runeCells x).length by simp [Lib.runeCells]]; have e2 : encs (Value.int .u8) (out ++ Lib.encodeRuneZ x) = nums .u8 out ++ Lib.runeCells x := (by simp [encs, nums, Lib.runeCells]); rw [e2]; exact hown); have HB2 := aMk (pw_below_grown (bAl HB.out o1) _ (bAl HB.out o1).size hg (fun k hk => own_base HOW.out k hk)); clear hown hg))
        go_roundg k1
        case measure => omega
        case rel => exact ⟨n + 1, congrArg (Value.int .i64) hw.out, ⟨by have := HN.out; omega⟩, HO2, HB2⟩
      · replace d3 := decide_eq_false d3
        clear d
        go_wp2_with (first | (go_at_call 36; refine (Try.utf8_AppendRune_plain w.heap.size u3 out.length (nums .u8 out) x (by omega) (by omega) wr HOW.out HQ.out HB.out.size).mono ?_; rintro e w1 ⟨v1, rfl, hown, o1, hg⟩; have HO2 : Aside0 (Kd.R (Kd.int .u8) 5 w1 w.heap.size (fun _ => True) v1 (encU (l0.take (n + 1)))) := FIN.out v1 w1 (by rw [HZ.out]; refine Kd.R_of_own (xs := out ++ Lib.encodeRuneZ x) ?_ (fun _ _ => trivial); rw [List.length_append, show (Lib.encodeRuneZ x).length = (Lib.runeCells x).length by simp [Lib.runeCells]]; have e2 : encs (Value.int .u8) (out ++ Lib.encodeRuneZ x) = nums .u8 out ++ Lib.runeCells x := (by simp [encs, nums, Lib.runeCells]); rw [e2]; exact hown); have HB2 := aMk (pw_below_grown (bAl HB.out o1) _ (bAl HB.out o1).size hg (fun k hk => own_base HOW.out k hk)); clear hown hg))
        go_roundg k1
        case measure => omega
        case rel => exact ⟨n + 1, congrArg (Value.int .i64) hw.out, ⟨by have := HN.out; omega⟩, HO2, HB2⟩
  · have c1 : decide ((n : Int) < (l0.length : Int)) = false := decide_eq_false (by omega)
    have c1n : decide (n < l0.length) = false := decide_eq_false c
    have hn : n = l0.length := by have := HN.out; omega
    rw [hn, List.take_length] at HO
    have hcv := own_string (P := Try.prog) Try.underlying22 Try.underlying5 Try.underlying9 (Kd.own_of_R HO.out)
    clear hn c
    go_wp2
    go_ret
    exact ⟨rfl, HB.out⟩
def impl_Encode.f (l0 : List Int) : Option ByteArray := if l0.length ≤ 1099511627776 then some (strOfNums (encU l0)) else none
theorem impl_Encode.calls (A0 : Option Addr) (c0 : Nat) (l0 : List Int) (r : ByteArray) (w : World) (hr0 : Kd.C (Kd.int .i64) w A0 l0.length l0) (hc0 : l0.length ≤ c0) (h : impl_Encode.f l0 = some r) :
 Calls Try.prog 10 #[.slice A0 l0.length c0] w fun e w' => e = .returned (.string r) ∧ Below w.heap.size w w' := by
 unfold impl_Encode.f at h
 by_cases c : l0.length ≤ 1099511627776
 · rw [if_pos c] at h
   obtain rfl := Option.some.inj h
   exact enc_calls A0 c0 l0 w hr0 hc0 c
 · rw [if_neg c] at h
   cases h
mutual
def impl_needs.j0 : Nat → Int → Bool → Option (Int × Int × Int)
 | 0, _, _ => none
 | k + 1, x0, x8 => if x8 = true then (some (2, 128, 191)) else (if x0 = 224 then (some (3, 160, 191)) else (if x0 = 237 then (some (3, 128, 159)) else (if x0 ≥ 225 then (impl_needs.j1 k x0 (decide (x0 ≤ 239))) else (impl_needs.j1 k x0 false))))
def impl_needs.j1 : Nat → Int → Bool → Option (Int × Int × Int)
 | 0, _, _ => none
 | k + 1, x0, x21 => if x21 = true then (some (3, 128, 191)) else (if x0 = 240 then (some (4, 144, 191)) else (if x0 = 244 then (some (4, 128, 143)) else (if x0 ≥ 241 then (if x0 ≤ 243 then (some (4, 128, 191)) else (some (0, 0, 0))) else (some (0, 0, 0)))))
end
def impl_needs.f (k : Nat) (a0 : Int) : Option (Int × Int × Int) := if a0 < 128 then (some (1, 0, 0)) else (if a0 ≥ 194 then (impl_needs.j0 k a0 (decide (a0 ≤ 223))) else (impl_needs.j0 k a0 false))
set_option maxHeartbeats 8000000 in
set_option maxRecDepth 100000 in
theorem impl_needs.calls (k : Nat) (a0 : Int) (r1 : Int) (r2 : Int) (r3 : Int) (w : World) (h : impl_needs.f k a0 = some (r1, r2, r3)) :
 Calls Try.prog 73 #[.int .u8 a0] w fun e w' => e = .returned (.tuple #[.int .i64 r1, .int .u8 r2, .int .u8 r3]) ∧ Drawn0 w w' := by
 have H : (if a0 < 128 then (some (1, 0, 0)) else (if a0 ≥ 194 then (impl_needs.j0 k a0 (decide (a0 ≤ 223))) else (impl_needs.j0 k a0 false))) = some (r1, r2, r3) := h
 clear h
 by_cases c2 : a0 < 128
 · rw [if_pos c2] at H
   have c2b0 : decide (a0 < 128) = true := decide_eq_true c2
   clear c2
   simp only [Option.some.injEq, Prod.mk.injEq] at H
   obtain ⟨rfl, rfl, rfl⟩ := H
   go_enter Try.func73, Try.ntmps73
   go_wp2
   go_ret3
   exact ⟨by first | rfl | (simp; done) | (simp [*]; done), by repeat (first | exact Drawn0.refl _ | apply Drawn0.step)⟩
 · rw [if_neg c2] at H
   have c2b0 : decide (a0 < 128) = false := decide_eq_false c2
   clear c2
   have HC3 := aMk H
   clear H
   go_enter Try.func73, Try.ntmps73
   go_upto_region 3 with (fail)
   go_cut [8] (fun v8 wc => ∃ (kq : Nat) (x8_2 : Bool), v8 = .bool x8_2 ∧ Aside0 (impl_needs.j0 kq a0 x8_2 = some (r1, r2, r3)) ∧ Aside0 (kq ≤ k) ∧ Drawn0 w wc)
   case first =>
    have H := HC3.out
    clear HC3
    by_cases c4 : a0 ≥ 194
    · rw [if_pos c4] at H
      have c4b0 : decide (194 ≤ a0) = true := decide_eq_true c4
      clear c4
      (first | rw [c4b0] | (simp only [i64_w, i32_w]; rw [c4b0]) | skip)
      have H' := aMk H
      clear H
      go_wp2
      go_meet
      case rel => exact ⟨_, (decide (a0 ≤ 223)), (by first | rfl | (simp; done) | (simp [*]; done)), H', ⟨by first | omega | exact Nat.le_refl _⟩, by repeat (first | exact Drawn0.refl _ | apply Drawn0.step)⟩
    · rw [if_neg c4] at H
      have c4b0 : decide (194 ≤ a0) = false := decide_eq_false c4
      clear c4
      (first | rw [c4b0] | (simp only [i64_w, i32_w]; rw [c4b0]) | skip)
      have H' := aMk H
      clear H
      go_wp2
      go_meet
      case rel => exact ⟨_, (false), (by first | rfl | (simp; done) | (simp [*]; done)), H', ⟨by first | omega | exact Nat.le_refl _⟩, by repeat (first | exact Drawn0.refl _ | apply Drawn0.step)⟩
   case rest =>
    clear HC3
    try clear c2
    try clear c2b0
    try clear p2
    try clear c4
    try clear c4b0
    obtain ⟨kq, x8_2, rfl, HA, HJ2, ⟨mc2, rfl⟩⟩ := hcut
    cases kq with
    | zero => exact absurd HA.out (by simp [impl_needs.j0])
    | succ kj2 =>
     have H := HA.out
     clear HA
     simp only [impl_needs.j0] at H
     by_cases c5 : x8_2 = true
     · subst c5
       have H1 : (some (2, 128, 191)) = some (r1, r2, r3) := by rw [if_pos rfl] at H; exact H
       clear H
       have H := H1
       clear H1
       simp only [Option.some.injEq, Prod.mk.injEq] at H
       obtain ⟨rfl, rfl, rfl⟩ := H
       go_wp2
       go_ret3
       exact ⟨by first | rfl | (simp; done) | (simp [*]; done), by repeat (first | exact Drawn0.refl _ | apply Drawn0.step)⟩
     · replace c5 := Bool.eq_false_iff.mpr c5
       subst c5
       have H1 : (if a0 = 224 then (some (3, 160, 191)) else (if a0 = 237 then (some (3, 128, 159)) else (if a0 ≥ 225 then (impl_needs.j1 kj2 a0 (decide (a0 ≤ 239))) else (impl_needs.j1 kj2 a0 false)))) = some (r1, r2, r3) := by rw [if_neg (show ¬ (false = true) by decide)] at H; exact H
       clear H
       have H := H1
       clear H1
       by_cases c6 : a0 = 224
       · rw [if_pos c6] at H
         have c6b0 : (a0 == 224) = true := beq_iff_eq.mpr c6
         have c6b1 : (a0 != 224) = false := bne_eq_false_iff_eq.mpr c6
         clear c6
         simp only [Option.some.injEq, Prod.mk.injEq] at H
         obtain ⟨rfl, rfl, rfl⟩ := H
         go_wp2
         go_ret3
         exact ⟨by first | rfl | (simp; done) | (simp [*]; done), by repeat (first | exact Drawn0.refl _ | apply Drawn0.step)⟩
       · rw [if_neg c6] at H
         have c6b0 : (a0 == 224) = false := beq_eq_false_iff_ne.mpr c6
         have c6b1 : (a0 != 224) = true := bne_iff_ne.mpr c6
         by_cases c7 : a0 = 237
         · rw [if_pos c7] at H
           have c7b0 : (a0 == 237) = true := beq_iff_eq.mpr c7
           have c7b1 : (a0 != 237) = false := bne_eq_false_iff_eq.mpr c7
           clear c7
           simp only [Option.some.injEq, Prod.mk.injEq] at H
           obtain ⟨rfl, rfl, rfl⟩ := H
           go_wp2
           go_ret3
           exact ⟨by first | rfl | (simp; done) | (simp [*]; done), by repeat (first | exact Drawn0.refl _ | apply Drawn0.step)⟩
         · rw [if_neg c7] at H
           have c7b0 : (a0 == 237) = false := beq_eq_false_iff_ne.mpr c7
           have c7b1 : (a0 != 237) = true := bne_iff_ne.mpr c7
           have HC8 := aMk H
           clear H
           go_upto_region 9 with (fail)
           go_cut [21] (fun v21 wc => ∃ (kq : Nat) (x21_7 : Bool), v21 = .bool x21_7 ∧ Aside0 (impl_needs.j1 kq a0 x21_7 = some (r1, r2, r3)) ∧ Aside0 (kq ≤ kj2) ∧ Drawn0 w wc)
           case first =>
            have H := HC8.out
            clear HC8
            by_cases c9 : a0 ≥ 225
            · rw [if_pos c9] at H
              have c9b0 : decide (225 ≤ a0) = true := decide_eq_true c9
              clear c9
              (first | rw [c9b0] | (simp only [i64_w, i32_w]; rw [c9b0]) | skip)
              have H' := aMk H
              clear H
              go_wp2
              go_meet
              case rel => exact ⟨_, (decide (a0 ≤ 239)), (by first | rfl | (simp; done) | (simp [*]; done)), H', ⟨by have := HJ2.out; first | omega | exact Nat.le_refl _⟩, by repeat (first | exact Drawn0.refl _ | apply Drawn0.step)⟩
            · rw [if_neg c9] at H
              have c9b0 : decide (225 ≤ a0) = false := decide_eq_false c9
              clear c9
              (first | rw [c9b0] | (simp only [i64_w, i32_w]; rw [c9b0]) | skip)
              have H' := aMk H
              clear H
              go_wp2
              go_meet
              case rel => exact ⟨_, (false), (by first | rfl | (simp; done) | (simp [*]; done)), H', ⟨by have := HJ2.out; first | omega | exact Nat.le_refl _⟩, by repeat (first | exact Drawn0.refl _ | apply Drawn0.step)⟩
           case rest =>
            clear HC8
            try clear c2
            try clear c2b0
            try clear p2
            try clear c4
            try clear c4b0
            try clear c5
            try clear c6
            try clear c6b0
            try clear c6b1
            try clear c7
            try clear c7b0
            try clear c7b1
            try clear c9
            try clear c9b0
            try clear p2
            obtain ⟨kq, x21_7, rfl, HA, HJ7, ⟨mc7, rfl⟩⟩ := hcut
            cases kq with
            | zero => exact absurd HA.out (by simp [impl_needs.j1])
            | succ kj7 =>
             have H := HA.out
             clear HA
             simp only [impl_needs.j1] at H
             by_cases c10 : x21_7 = true
             · subst c10
               have H1 : (some (3, 128, 191)) = some (r1, r2, r3) := by rw [if_pos rfl] at H; exact H
               clear H
               have H := H1
               clear H1
               simp only [Option.some.injEq, Prod.mk.injEq] at H
               obtain ⟨rfl, rfl, rfl⟩ := H
               go_wp2
               go_ret3
               exact ⟨by first | rfl | (simp; done) | (simp [*]; done), by repeat (first | exact Drawn0.refl _ | apply Drawn0.step)⟩
             · replace c10 := Bool.eq_false_iff.mpr c10
               subst c10
               have H1 : (if a0 = 240 then (some (4, 144, 191)) else (if a0 = 244 then (some (4, 128, 143)) else (if a0 ≥ 241 then (if a0 ≤ 243 then (some (4, 128, 191)) else (some (0, 0, 0))) else (some (0, 0, 0))))) = some (r1, r2, r3) := by rw [if_neg (show ¬ (false = true) by decide)] at H; exact H
               clear H
               have H := H1
               clear H1
               by_cases c11 : a0 = 240
               · rw [if_pos c11] at H
                 have c11b0 : (a0 == 240) = true := beq_iff_eq.mpr c11
                 have c11b1 : (a0 != 240) = false := bne_eq_false_iff_eq.mpr c11
                 clear c11
                 simp only [Option.some.injEq, Prod.mk.injEq] at H
                 obtain ⟨rfl, rfl, rfl⟩ := H
                 go_wp2
                 go_ret3
                 exact ⟨by first | rfl | (simp; done) | (simp [*]; done), by repeat (first | exact Drawn0.refl _ | apply Drawn0.step)⟩
               · rw [if_neg c11] at H
                 have c11b0 : (a0 == 240) = false := beq_eq_false_iff_ne.mpr c11
                 have c11b1 : (a0 != 240) = true := bne_iff_ne.mpr c11
                 by_cases c12 : a0 = 244
                 · rw [if_pos c12] at H
                   have c12b0 : (a0 == 244) = true := beq_iff_eq.mpr c12
                   have c12b1 : (a0 != 244) = false := bne_eq_false_iff_eq.mpr c12
                   clear c12
                   simp only [Option.some.injEq, Prod.mk.injEq] at H
                   obtain ⟨rfl, rfl, rfl⟩ := H
                   go_wp2
                   go_ret3
                   exact ⟨by first | rfl | (simp; done) | (simp [*]; done), by repeat (first | exact Drawn0.refl _ | apply Drawn0.step)⟩
                 · rw [if_neg c12] at H
                   have c12b0 : (a0 == 244) = false := beq_eq_false_iff_ne.mpr c12
                   have c12b1 : (a0 != 244) = true := bne_iff_ne.mpr c12
                   by_cases c13 : a0 ≥ 241
                   · rw [if_pos c13] at H
                     have c13b0 : decide (241 ≤ a0) = true := decide_eq_true c13
                     clear c13
                     by_cases c14 : a0 ≤ 243
                     · rw [if_pos c14] at H
                       have c14b0 : decide (a0 ≤ 243) = true := decide_eq_true c14
                       clear c14
                       simp only [Option.some.injEq, Prod.mk.injEq] at H
                       obtain ⟨rfl, rfl, rfl⟩ := H
                       go_wp2
                       go_ret3
                       exact ⟨by first | rfl | (simp; done) | (simp [*]; done), by repeat (first | exact Drawn0.refl _ | apply Drawn0.step)⟩
                     · rw [if_neg c14] at H
                       have c14b0 : decide (a0 ≤ 243) = false := decide_eq_false c14
                       clear c14
                       simp only [Option.some.injEq, Prod.mk.injEq] at H
                       obtain ⟨rfl, rfl, rfl⟩ := H
                       go_wp2
                       go_ret3
                       exact ⟨by first | rfl | (simp; done) | (simp [*]; done), by repeat (first | exact Drawn0.refl _ | apply Drawn0.step)⟩
                   · rw [if_neg c13] at H
                     have c13b0 : decide (241 ≤ a0) = false := decide_eq_false c13
                     clear c13
                     simp only [Option.some.injEq, Prod.mk.injEq] at H
                     obtain ⟨rfl, rfl, rfl⟩ := H
                     go_wp2
                     go_ret3
                     exact ⟨by first | rfl | (simp; done) | (simp [*]; done), by repeat (first | exact Drawn0.refl _ | apply Drawn0.step)⟩
end Go.Proofs.Ytmffcjjodkggcaa.MFnExactFeedMore
