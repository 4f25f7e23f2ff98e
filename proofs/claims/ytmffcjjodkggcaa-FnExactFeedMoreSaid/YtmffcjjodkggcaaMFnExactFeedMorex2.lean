-- Written by this session's own program (wip/gen/myprint.py).
import Derived.Test.YtmffcjjodkggcaaMFnExactFeedMorex0
import Derived.Test.YtmffcjjodkggcaaMFnExactFeedMorex1
namespace Go.Proofs.Ytmffcjjodkggcaa.MFnExactFeedMore
open Go.RowKit Go.Proofs.YtmffcjjodkggcaaW.PrintWords Go.Proofs.YtmffcjjodkggcaaW.PrintLast Go.Proofs.YtmffcjjodkggcaaW.PrintMore
attribute [local go_sem] max2_int min2_int max_two min_two max_three min_three max_four min_four   -- for this text's walks alone
set_option linter.unusedVariables false
set_option linter.unusedSimpArgs false
def impl_stretch.l0 : Nat → List Int → Int → Int → Int → Int → Option (Int × Bool × Bool)
 | 0, _, _, _, _, _ => none
 | k + 1, x0, x2, x5, x6, x7 => if x2 < x5 then (if x2 = (x0.length : Int) then (some (x2, false, true)) else (if 0 ≤ x2 then (if x2 < (x0.length : Int) then (if (rd x0 x2) < x6 then (some (x2, false, false)) else (if (rd x0 x2) > x7 then (some (x2, false, false)) else (impl_stretch.l0 k x0 (wrap64 (x2 + 1)) x5 128 191))) else (none)) else (none))) else (some (x2, true, false))
def impl_stretch.f (k : Nat) (l0 : List Int) : Option (Int × Bool × Bool) := if 0 < (l0.length : Int) then ((impl_needs.f k (rd l0 0)).bind fun bt120 => (if bt120.1 = 0 then (some (1, false, false)) else (impl_stretch.l0 k l0 1 bt120.1 bt120.2.1 bt120.2.2))) else (none)
set_option maxHeartbeats 8000000 in
set_option maxRecDepth 100000 in
theorem impl_stretch.calls (k : Nat) (A0 : Option Addr) (c0 : Nat) (l0 : List Int) (r1 : Int) (r2 : Bool) (r3 : Bool) (w : World) (hr0 : Kd.C (Kd.int .u8) w A0 l0.length l0) (hc0 : l0.length ≤ c0) (h : impl_stretch.f k l0 = some (r1, r2, r3)) :
 Calls Try.prog 56 #[.slice A0 l0.length c0] w fun e w' => e = .returned (.tuple #[.int .i64 r1, .bool r2, .bool r3]) ∧ Drawn0 w w' := by
 have HR0 := aMk hr0
 have HC0 := aMk hc0
 clear hr0 hc0
 have H : (if 0 < (l0.length : Int) then ((impl_needs.f k (rd l0 0)).bind fun bt120 => (if bt120.1 = 0 then (some (1, false, false)) else (impl_stretch.l0 k l0 1 bt120.1 bt120.2.1 bt120.2.2))) else (none)) = some (r1, r2, r3) := h
 clear h
 by_cases c2 : 0 < (l0.length : Int)
 · rw [if_pos c2] at H
   have c2b0 : decide (0 < (l0.length : Int)) = true := decide_eq_true c2
   have c2b1 : decide (0 < l0.length) = true := decide_eq_true (by omega)
   clear c2
   replace H := oBm H
   obtain ⟨⟨t120, t121, t122⟩, A30, H⟩ := H
   replace H : (if t120 = 0 then (some (1, false, false)) else (impl_stretch.l0 k l0 1 t120 t121 t122)) = some (r1, r2, r3) := H
   have A3 := aMk A30
   clear A30
   by_cases c4 : t120 = 0
   · rw [if_pos c4] at H
     have c4b0 : (t120 == 0) = true := beq_iff_eq.mpr c4
     have c4b1 : (t120 != 0) = false := bne_eq_false_iff_eq.mpr c4
     clear c4
     simp only [Option.some.injEq, Prod.mk.injEq] at H
     obtain ⟨rfl, rfl, rfl⟩ := H
     have p119 : 0 ≤ (0 : Int) := (by omega)
     have q119 : 0 < (l0.length : Int) := oDt (by first | (with_reducible assumption) | assumption)
     obtain ⟨ad119, e119, hx119_0⟩ := Kd.at_int HR0.out 0 p119 q119
     cases e119
     have qi119 : (0 < l0.length) = True := eq_true (by omega)
     (try rw [show ((0 : Int)).toNat = 0 from rfl] at hx119_0)
     (try rw [Addr.add_zero'] at hx119_0)
     replace p119 := eq_true p119
     replace q119 := eq_true q119
     go_enter Try.func56, Try.ntmps56
     go_wp2_with (first | ((with_reducible refine gate_callee (f := 73) rfl ?_); refine goesL_ (some 12) rfl rfl Try.func73 (by kernel_rfl) rfl #[.int .u8 (rd l0 0)] rfl (by (try simp only [List.map_toArray, List.map_cons, List.map_nil]); first | done | rfl | (simp only [List.length_drop, List.length_take]; rfl)) ?_; (with_reducible refine (impl_needs.calls k (rd l0 0) t120 t121 t122 _ A3.out).mono ?_); rintro e w' ⟨rfl, ⟨nd, rfl⟩⟩; refine ⟨_, rfl, ?_⟩))
     go_ret3
     exact ⟨by first | rfl | (simp; done) | (simp [*]; done), by repeat (first | exact Drawn0.refl _ | apply Drawn0.step)⟩
   · rw [if_neg c4] at H
     have c4b0 : (t120 == 0) = false := beq_eq_false_iff_ne.mpr c4
     have c4b1 : (t120 != 0) = true := bne_iff_ne.mpr c4
     have H' := aMk H
     clear H
     have p119 : 0 ≤ (0 : Int) := (by omega)
     have q119 : 0 < (l0.length : Int) := oDt (by first | (with_reducible assumption) | assumption)
     obtain ⟨ad119, e119, hx119_0⟩ := Kd.at_int HR0.out 0 p119 q119
     cases e119
     have qi119 : (0 < l0.length) = True := eq_true (by omega)
     (try rw [show ((0 : Int)).toNat = 0 from rfl] at hx119_0)
     (try rw [Addr.add_zero'] at hx119_0)
     replace p119 := eq_true p119
     replace q119 := eq_true q119
     go_enter Try.func56, Try.ntmps56
     go_wp2_with (first | ((with_reducible refine gate_callee (f := 73) rfl ?_); refine goesL_ (some 12) rfl rfl Try.func73 (by kernel_rfl) rfl #[.int .u8 (rd l0 0)] rfl (by (try simp only [List.map_toArray, List.map_cons, List.map_nil]); first | done | rfl | (simp only [List.length_drop, List.length_take]; rfl)) ?_; (with_reducible refine (impl_needs.calls k (rd l0 0) t120 t121 t122 _ A3.out).mono ?_); rintro e w' ⟨rfl, ⟨nd, rfl⟩⟩; refine ⟨_, rfl, ?_⟩))
     go_loopg [2, 6, 7] k (fun kq v2 v6 v7 w' => ∃ (x2_1 : Int) (x6_1 : Int) (x7_1 : Int), v2 = .int .i64 x2_1 ∧ v6 = .int .u8 x6_1 ∧ v7 = .int .u8 x7_1 ∧ Aside0 (impl_stretch.l0 kq l0 x2_1 t120 x6_1 x7_1 = some (r1, r2, r3)) ∧ Aside0 (kq ≤ k) ∧ Drawn0 w w')
     case atStart => exact ⟨(1), (t121), (t122), (by first | rfl | (simp; done) | (simp [*]; done)), (by first | rfl | (simp; done) | (simp [*]; done)), (by first | rfl | (simp; done) | (simp [*]; done)), H', ⟨Nat.le_refl _⟩, by repeat (first | exact Drawn0.refl _ | apply Drawn0.step)⟩
     case round =>
      clear H'
      try clear p1
      try clear q1
      try clear hx1
      try clear qi1
      try clear c2
      try clear c2b0
      try clear c2b1
      try clear p2
      try clear c4
      try clear c4b0
      try clear c4b1
      try clear hx119_0
      try clear p119
      try clear q119
      obtain ⟨x2_1, x6_1, x7_1, rfl, rfl, rfl, HA, HK1, ⟨m1, rfl⟩⟩ := hrel
      cases gk with
      | zero => exact absurd HA.out (by simp [impl_stretch.l0])
      | succ k1 =>
       have H := HA.out
       clear HA
       simp only [impl_stretch.l0] at H
       by_cases c5 : x2_1 < t120
       · rw [if_pos c5] at H
         have c5b0 : decide (x2_1 < t120) = true := decide_eq_true c5
         clear c5
         by_cases c6 : x2_1 = (l0.length : Int)
         · rw [if_pos c6] at H
           have c6b0 : (x2_1 == (l0.length : Int)) = true := beq_iff_eq.mpr c6
           have c6b1 : (x2_1 != (l0.length : Int)) = false := bne_eq_false_iff_eq.mpr c6
           clear c6
           simp only [Option.some.injEq, Prod.mk.injEq] at H
           obtain ⟨rfl, rfl, rfl⟩ := H
           go_wp2
           go_ret3
           exact ⟨by first | rfl | (simp; done) | (simp [*]; done), by repeat (first | exact Drawn0.refl _ | apply Drawn0.step)⟩
         · rw [if_neg c6] at H
           have c6b0 : (x2_1 == (l0.length : Int)) = false := beq_eq_false_iff_ne.mpr c6
           have c6b1 : (x2_1 != (l0.length : Int)) = true := bne_iff_ne.mpr c6
           by_cases c7 : 0 ≤ x2_1
           · rw [if_pos c7] at H
             have c7b0 : decide (0 ≤ x2_1) = true := decide_eq_true c7
             clear c7
             by_cases c8 : x2_1 < (l0.length : Int)
             · rw [if_pos c8] at H
               have c8b0 : decide (x2_1 < (l0.length : Int)) = true := decide_eq_true c8
               clear c8
               by_cases c9 : (rd l0 x2_1) < x6_1
               · rw [if_pos c9] at H
                 have c9b0 : decide ((rd l0 x2_1) < x6_1) = true := decide_eq_true c9
                 clear c9
                 simp only [Option.some.injEq, Prod.mk.injEq] at H
                 obtain ⟨rfl, rfl, rfl⟩ := H
                 have p123 : 0 ≤ (x2_1 : Int) := oDt (by first | (with_reducible assumption) | assumption)
                 have q123 : x2_1 < (l0.length : Int) := oDt (by first | (with_reducible assumption) | assumption)
                 obtain ⟨ad123, e123, hx123_0⟩ := Kd.at_int HR0.out x2_1 p123 q123
                 obtain rfl : ad119 = ad123 := (by injection e123)
                 replace p123 := eq_true p123
                 replace q123 := eq_true q123
                 go_wp2
                 go_ret3
                 exact ⟨by first | rfl | (simp; done) | (simp [*]; done), by repeat (first | exact Drawn0.refl _ | apply Drawn0.step)⟩
               · rw [if_neg c9] at H
                 have c9b0 : decide ((rd l0 x2_1) < x6_1) = false := decide_eq_false c9
                 clear c9
                 by_cases c10 : (rd l0 x2_1) > x7_1
                 · rw [if_pos c10] at H
                   have c10b0 : decide (x7_1 < (rd l0 x2_1)) = true := decide_eq_true c10
                   clear c10
                   simp only [Option.some.injEq, Prod.mk.injEq] at H
                   obtain ⟨rfl, rfl, rfl⟩ := H
                   have p123 : 0 ≤ (x2_1 : Int) := oDt (by first | (with_reducible assumption) | assumption)
                   have q123 : x2_1 < (l0.length : Int) := oDt (by first | (with_reducible assumption) | assumption)
                   obtain ⟨ad123, e123, hx123_0⟩ := Kd.at_int HR0.out x2_1 p123 q123
                   obtain rfl : ad119 = ad123 := (by injection e123)
                   replace p123 := eq_true p123
                   replace q123 := eq_true q123
                   have p124 : 0 ≤ (x2_1 : Int) := oDt (by first | (with_reducible assumption) | assumption)
                   have q124 : x2_1 < (l0.length : Int) := oDt (by first | (with_reducible assumption) | assumption)
                   obtain ⟨ad124, e124, hx124_0⟩ := Kd.at_int HR0.out x2_1 p124 q124
                   obtain rfl : ad119 = ad124 := (by injection e124)
                   replace p124 := eq_true p124
                   replace q124 := eq_true q124
                   go_wp2
                   go_ret3
                   exact ⟨by first | rfl | (simp; done) | (simp [*]; done), by repeat (first | exact Drawn0.refl _ | apply Drawn0.step)⟩
                 · rw [if_neg c10] at H
                   have c10b0 : decide (x7_1 < (rd l0 x2_1)) = false := decide_eq_false c10
                   clear c10
                   have H' := aMk H
                   clear H
                   have p123 : 0 ≤ (x2_1 : Int) := oDt (by first | (with_reducible assumption) | assumption)
                   have q123 : x2_1 < (l0.length : Int) := oDt (by first | (with_reducible assumption) | assumption)
                   obtain ⟨ad123, e123, hx123_0⟩ := Kd.at_int HR0.out x2_1 p123 q123
                   obtain rfl : ad119 = ad123 := (by injection e123)
                   replace p123 := eq_true p123
                   replace q123 := eq_true q123
                   have p124 : 0 ≤ (x2_1 : Int) := oDt (by first | (with_reducible assumption) | assumption)
                   have q124 : x2_1 < (l0.length : Int) := oDt (by first | (with_reducible assumption) | assumption)
                   obtain ⟨ad124, e124, hx124_0⟩ := Kd.at_int HR0.out x2_1 p124 q124
                   obtain rfl : ad119 = ad124 := (by injection e124)
                   replace p124 := eq_true p124
                   replace q124 := eq_true q124
                   go_wp2
                   go_roundg k1
                   case measure => have := HK1.out; omega
                   case rel => exact ⟨(wrap64 (x2_1 + 1)), (128), (191), (by first | rfl | (simp; done) | (simp [*]; done)), (by first | rfl | (simp; done) | (simp [*]; done)), (by first | rfl | (simp; done) | (simp [*]; done)), H', ⟨by have := HK1.out; omega⟩, by repeat (first | exact Drawn0.refl _ | apply Drawn0.step)⟩
             · rw [if_neg c8] at H
               exact absurd H (by simp)
           · rw [if_neg c7] at H
             exact absurd H (by simp)
       · rw [if_neg c5] at H
         have c5b0 : decide (x2_1 < t120) = false := decide_eq_false c5
         clear c5
         simp only [Option.some.injEq, Prod.mk.injEq] at H
         obtain ⟨rfl, rfl, rfl⟩ := H
         go_wp2
         go_ret3
         exact ⟨by first | rfl | (simp; done) | (simp [*]; done), by repeat (first | exact Drawn0.refl _ | apply Drawn0.step)⟩
 · rw [if_neg c2] at H
   exact absurd H (by simp)
theorem needs_impl (b : Int) : impl_needs.f 7 b = some (needsF b) := by
 simp only [impl_needs.f, impl_needs.j0, impl_needs.j1, decide_eq_true_eq]
 repeat' refine some_ite (fun _ => ?_) (fun _ => ?_)
 all_goals first
  | (exfalso; simp at *; done)
  | (exfalso; omega)
  | (unfold needsF; refine congrArg some ?_; repeat (first | rw [if_pos (by omega)] | rw [if_neg (by omega)]))
theorem tl_impl (l : List Int) (hl : l.length ≤ 1099511627776) (want : Int) : ∀ (q k n : Nat) (lo hi : Int), (n : Int) + q = want → q < k → 1 ≤ n → n ≤ l.length → want ≤ 4 → impl_stretch.l0 k l n want lo hi = some (((tlF q n lo hi (l.drop n)).1 : Int), (tlF q n lo hi (l.drop n)).2.1, (tlF q n lo hi (l.drop n)).2.2) := by
 intro q
 induction q with
 | zero =>
  intro k n lo hi hw hk h1 hn h4
  obtain ⟨k, rfl⟩ : ∃ m, k = m + 1 := ⟨k - 1, by omega⟩
  rw [impl_stretch.l0, if_neg (by omega)]; first | done | rfl
 | succ q ih =>
  intro k n lo hi hw hk h1 hn h4
  obtain ⟨k, rfl⟩ : ∃ m, k = m + 1 := ⟨k - 1, by omega⟩
  rw [impl_stretch.l0, if_pos (by omega)]
  by_cases e : n = l.length
  · have hd : l.drop n = [] := List.drop_of_length_le (by omega)
    rw [if_pos (by omega), hd, tlF]
  · have hlt : n < l.length := by omega
    rw [if_neg (by omega), if_pos (by omega), if_pos (by omega), rd_n1 l n hlt, List.drop_eq_getElem_cons hlt, tlF]
    by_cases c : l[n] < lo
    · rw [if_pos c, if_pos (.inl c)]
    · by_cases d : l[n] > hi
      · rw [if_neg c, if_pos d, if_pos (.inr d)]
      · rw [if_neg c, if_neg d, if_neg (by omega)]
        have hw1 : wrap64 ((n : Int) + 1) = ((n + 1 : Nat) : Int) := by unfold wrap64; omega
        rw [hw1]
        exact ih k (n + 1) 128 191 (by omega) (by omega) (by omega) (by omega) h4
theorem stretch_impl (l : List Int) (h : l ≠ []) (hl : l.length ≤ 1099511627776) : impl_stretch.f 7 l = some (((stretchF l).1 : Int), (stretchF l).2.1, (stretchF l).2.2) := by
 cases l with
 | nil => exact absurd rfl h
 | cons b r =>
  have hb : rd (b :: r) 0 = b := rfl
  have hn := needs_le b
  rw [impl_stretch.f, if_pos (by simp only [List.length_cons]; omega), hb, needs_impl, Option.bind_some, stretchF]
  by_cases e : (needsF b).1 = 0
  · rw [if_pos e, if_pos e]; rfl
  · rw [if_neg e, if_neg e]
    have := tl_impl (b :: r) hl (needsF b).1 ((needsF b).1.toNat - 1) 7 1 (needsF b).2.1 (needsF b).2.2 (by omega) (by omega) (Nat.le_refl _) (by simp) hn.2
    exact this
theorem Bld.drewN {w : World} {B g : Nat} {out : List Int} (h : Bld w B g out) (m : Nat) : Bld (w.drewN m) B g out := by
 obtain ⟨h0, p, v, h1, h2, h3⟩ := h
 exact ⟨h0, p, v, h1, h2, Kd.R_drewN h3 m⟩
set_option maxHeartbeats 8000000 in
set_option maxRecDepth 100000 in
theorem read_calls (A0 : Option Addr) (c0 : Nat) (l0 : List Int) (z : Value) (w : World) (hr0 : Kd.C (Kd.int .u8) w A0 l0.length l0) (hc0 : l0.length ≤ c0) (hl : l0.length ≤ 1099511627776) (hrg : ∀ x ∈ l0, 0 ≤ x ∧ x ≤ 255) :
 Calls Try.prog 37 #[.agg #[], .slice A0 l0.length c0] w fun e w' => e = .returned (.string (strOfNums (rdU l0.length l0))) ∧ Below w.heap.size w w' := by
 have hu29 := Try.underlying22
 have hu156 := Try.underlying74
 have hu118 := Try.underlying54
 have HR0 := aMk hr0
 have HC0 := aMk hc0
 have HL := aMk hl
 have HRG := aMk hrg
 clear hr0 hc0 hl hrg
 have HB := aMk (Below.refl w.heap.size w)
 go_enter Try.func37, Try.ntmps37
 go_wp2
 have HG : Aside0 (Bld ((w.alloc (.cells #[] 54)).alloc (.cells #[.pointer none, .slice none 0 0] 74)) w.heap.size (w.heap.size + 1) []) := ⟨by omega, _, _, by rw [show w.heap.size + 1 = (w.alloc (.cells #[] 54)).heap.size by simp]; exact blk_new _ _, .inl rfl, Kd.R_nil _ _ _ _ _⟩
 have HB1 := aMk (bAl (bAl HB.out (.cells #[] 54)) (.cells #[.pointer none, .slice none 0 0] 74))
 generalize ((w.alloc (.cells #[] 54)).alloc (.cells #[.pointer none, .slice none 0 0] 74)) = w1 at HG HB1 ⊢
 clear HB
 go_loopg [1] l0.length (fun kq v1 w' => ∃ (A : Option Addr) (c : Nat) (b out : List Int), v1 = .slice A b.length c ∧ Aside0 (Kd.C (Kd.int .u8) w A b.length b) ∧ Aside0 (b.length ≤ c) ∧ Aside0 (b.length ≤ kq) ∧ Aside0 (out.length + 3 * b.length ≤ 3298534883328) ∧ Aside0 (∀ x ∈ b, 0 ≤ x ∧ x ≤ 255) ∧ Aside0 (∀ x ∈ out, 0 ≤ x ∧ x ≤ 255) ∧ Aside0 (out ++ rdU kq b = rdU l0.length l0) ∧ Aside0 (Bld w' w.heap.size (w.heap.size + 1) out) ∧ Aside0 (Below w.heap.size w w'))
 case atStart => exact ⟨A0, c0, l0, [], rfl, HR0, HC0, ⟨Nat.le_refl _⟩, ⟨by have := HL.out; simp; omega⟩, HRG, ⟨fun x hx => by cases hx⟩, ⟨rfl⟩, HG, HB1⟩
 case round =>
  clear HR0 HC0 HL HRG HG HB1
  obtain ⟨A, c, b, out, rfl, HR, HC, HK, HS, HRG, HRO, HE, HBD, HB⟩ := hrel
  by_cases e : b = []
  · subst e
    have HE2 : Aside0 (out = rdU l0.length l0) := ⟨by have := HE.out; rwa [rdU_nil, List.append_nil] at this⟩
    clear HE
    go_wp2_with (go_at_call 59; refine (bstr_calls wr w (w.heap.size + 1) out HBD.out HB.out HRO.out).mono ?_; rintro e w' ⟨rfl, hb⟩)
    go_ret
    exact ⟨congrArg (fun x => Ending.returned (.string (strOfNums x))) HE2.out, hb⟩
  · have hpos : 0 < b.length := List.length_pos_iff.mpr e
    have hk : gk ≠ 0 := by have := HK.out; omega
    obtain ⟨k1, rfl⟩ := Nat.exists_eq_succ_of_ne_zero hk
    clear hk
    have c1 : decide ((b.length : Int) > 0) = true := decide_eq_true (by omega)
    have c1n : decide (0 < b.length) = true := decide_eq_true hpos
    have c1m : decide ((0 : Int) < (b.length : Int)) = true := decide_eq_true (by omega)
    have hsb := stretch_bd b e
    have HS1 := aMk (stretch_impl b e (by have := HS.out; omega))
    have HE1 := HE.out
    rw [rdU_cons k1 b e] at HE1
    clear HE e
    obtain ⟨n, hn⟩ : ∃ n, n = (stretchF b).1 := ⟨_, rfl⟩
    obtain ⟨wh, hwh⟩ : ∃ wh, wh = (stretchF b).2.1 := ⟨_, rfl⟩
    obtain ⟨op, hop⟩ : ∃ op, op = (stretchF b).2.2 := ⟨_, rfl⟩
    rw [← hn, ← hwh] at HE1
    rw [← hn, ← hwh, ← hop] at HS1
    rw [← hn] at hsb
    clear hn hwh hop
    have HSB := aMk hsb
    have HRW := aMk (Kd.C_below HR.out HB.out)
    have hnb : (n : Int) ≤ (b.length : Int) := by omega
    have hnc : b.length ≤ c := HC.out
    obtain ⟨i0, hi0, _, hz1, _⟩ := info_parts infoB
    have hcut1 := cut_to (P := Try.prog) 22 5 .i64 Try.underlying22 hi0 A b.length c (n : Int) (by omega) hnb hnc
    have hcut2 := cut_from (P := Try.prog) 22 5 .i64 Try.underlying22 hi0 1 hz1 A b.length c (n : Int) (by omega) hnb
    rw [Int.toNat_natCast] at hcut1 hcut2
    have HR2 := Kd.C_drop (k := Kd.int .u8) (m := n) (c := c) HR.out hsb.2.1 hnc
    have HR3 := Kd.C_take (k := Kd.int .u8) (m := n) HR.out hsb.2.1
    have hsz1 : (Kd.int .u8).sz = 1 := rfl
    rw [hsz1] at HR2
    obtain ⟨A', hA'⟩ : ∃ A', A' = (if c = n then A else A.map (·.add (n * 1))) := ⟨_, rfl⟩
    rw [← hA'] at hcut2 HR2
    have hld : (b.drop n).length = b.length - n := List.length_drop
    have hlt : (b.take n).length = n := by rw [List.length_take]; omega
    rw [← hld] at hcut2
    replace HR2 := aMk HR2
    replace HR3 := aMk HR3
    have HLD := aMk hld
    have HLT := aMk hlt
    have HCC : Aside0 ((b.drop n).length ≤ c - n) := ⟨by rw [hld]; omega⟩
    have HKK : Aside0 ((b.drop n).length ≤ k1) := ⟨by rw [hld]; have := HK.out; omega⟩
    have HRG2 : Aside0 (∀ x ∈ b.drop n, 0 ≤ x ∧ x ≤ 255) := ⟨fun x hx => HRG.out x (List.mem_of_mem_drop hx)⟩
    obtain ⟨d, hd⟩ : ∃ d, d = b.drop n := ⟨_, rfl⟩
    rw [← hd] at hcut2 HR2 HLD HCC HKK HRG2 HE1
    clear hA' hld hlt hsb hnb hnc hd hi0 hz1 hsz1 hpos
    cases wh with
    | true =>
     rw [if_pos rfl] at HE1
     have HE2 : Aside0 ((out ++ b.take n) ++ rdU k1 d = rdU l0.length l0) := ⟨by rw [List.append_assoc]; exact HE1⟩
     clear HE1
     have HO2 : Aside0 (∀ x ∈ out ++ b.take n, 0 ≤ x ∧ x ≤ 255) := ⟨fun x hx => by rcases List.mem_append.mp hx with h | h; exact HRO.out x h; exact HRG.out x (List.mem_of_mem_take h)⟩
     have HS2 : Aside0 ((out ++ b.take n).length + 3 * d.length ≤ 3298534883328) := ⟨by have h1 := HS.out; have h2 := HLD.out; have h3 := HLT.out; have h4 := HSB.out; rw [List.length_append, h3, h2]; omega⟩
     go_wp2_with (first | (go_at_call 56; refine (impl_stretch.calls 7 A c b (n : Int) true op wr HRW.out HC.out HS1.out).mono ?_; rintro e w' ⟨rfl, ⟨nd, rfl⟩⟩) | (go_at_call 57; have hq := wrb_calls (wr.drewN nd) w (w.heap.size + 1) out (b.take n) A c (HBD.out.drewN nd) (bDn HB.out nd) HR3.out (by have h1 := HS.out; have h2 := HLT.out; have h3 := HSB.out; omega); rw [HLT.out] at hq; refine hq.mono ?_; clear hq; rintro e w' ⟨rfl, hbd, hb⟩; have HBD2 := aMk hbd; have HB2 := aMk hb; clear hbd hb))
     go_roundg k1
     case measure => omega
     case rel => exact ⟨A', c - n, d, out ++ b.take n, rfl, HR2, HCC, HKK, HS2, HRG2, HO2, HE2, HBD2, HB2⟩
    | false =>
     rw [if_neg (by simp)] at HE1
     have HE2 : Aside0 ((out ++ [239, 191, 189]) ++ rdU k1 d = rdU l0.length l0) := ⟨by rw [List.append_assoc]; exact HE1⟩
     clear HE1
     have HO2 : Aside0 (∀ x ∈ out ++ [239, 191, 189], 0 ≤ x ∧ x ≤ 255) := ⟨fun x hx => by rcases List.mem_append.mp hx with h | h; exact HRO.out x h; (simp at h; omega)⟩
     have HS2 : Aside0 ((out ++ [239, 191, 189]).length + 3 * d.length ≤ 3298534883328) := ⟨by have h1 := HS.out; have h2 := HLD.out; have h4 := HSB.out; rw [List.length_append, h2]; simp only [List.length_cons, List.length_nil]; omega⟩
     go_wp2_with (first | (go_at_call 56; refine (impl_stretch.calls 7 A c b (n : Int) false op wr HRW.out HC.out HS1.out).mono ?_; rintro e w' ⟨rfl, ⟨nd, rfl⟩⟩) | (go_at_call 58; refine (wrs_calls (wr.drewN nd) w (w.heap.size + 1) out ⟨#[239, 191, 189]⟩ (HBD.out.drewN nd) (bDn HB.out nd) (by have h1 := HS.out; show out.length + 3 ≤ _; omega)).mono ?_; rintro e w' ⟨rfl, hbd, hb⟩; have HBD2 := aMk hbd; have HB2 := aMk hb; clear hbd hb))
     go_roundg k1
     case measure => omega
     case rel => exact ⟨A', c - n, d, out ++ [239, 191, 189], rfl, HR2, HCC, HKK, HS2, HRG2, HO2, HE2, HBD2, HB2⟩
def stringslite_HasPrefix.f (a0 : ByteArray) (a1 : ByteArray) : Option (Bool) := if (a0.size : Int) ≥ (a1.size : Int) then (if 0 ≤ (a1.size : Int) then (if (a1.size : Int) ≤ (a0.size : Int) then (some ((a0.extract 0 ((a1.size : Int) : Int).toNat).toList == a1.toList)) else (none)) else (none)) else (some false)
set_option maxHeartbeats 8000000 in
set_option maxRecDepth 100000 in
theorem stringslite_HasPrefix.calls (a0 : ByteArray) (a1 : ByteArray) (r : Bool) (w : World) (h : stringslite_HasPrefix.f a0 a1 = some r) :
 Calls Try.prog 75 #[.string a0, .string a1] w fun e w' => e = .returned (.bool r) ∧ Drawn0 w w' := by
 have H : (if (a0.size : Int) ≥ (a1.size : Int) then (if 0 ≤ (a1.size : Int) then (if (a1.size : Int) ≤ (a0.size : Int) then (some ((a0.extract 0 ((a1.size : Int) : Int).toNat).toList == a1.toList)) else (none)) else (none)) else (some false)) = some r := h
 clear h
 by_cases c3 : (a0.size : Int) ≥ (a1.size : Int)
 · rw [if_pos c3] at H
   have c3b0 : decide ((a1.size : Int) ≤ (a0.size : Int)) = true := decide_eq_true c3
   have c3b1 : decide (a1.size ≤ a0.size) = true := decide_eq_true (Int.ofNat_le.mp c3)
   clear c3
   by_cases c4 : 0 ≤ (a1.size : Int)
   · rw [if_pos c4] at H
     have c4b0 := eq_true c4
     have c4b1 : decide (0 ≤ (a1.size : Int)) = true := decide_eq_true c4
     clear c4
     by_cases c5 : (a1.size : Int) ≤ (a0.size : Int)
     · rw [if_pos c5] at H
       have c5b0 := eq_true c5
       have c5b1 : decide ((a1.size : Int) ≤ (a0.size : Int)) = true := decide_eq_true c5
       clear c5
       obtain rfl := Option.some.inj H
       go_enter Try.func75, Try.ntmps75
       go_wp2
       go_ret
       exact ⟨by first | rfl | (simp; done) | (simp [*]; done), by repeat (first | exact Drawn0.refl _ | apply Drawn0.step)⟩
     · rw [if_neg c5] at H
       exact absurd H (by simp)
   · rw [if_neg c4] at H
     exact absurd H (by simp)
 · rw [if_neg c3] at H
   have c3b0 : decide ((a1.size : Int) ≤ (a0.size : Int)) = false := decide_eq_false c3
   have c3b1 : decide (a1.size ≤ a0.size) = false := decide_eq_false (fun h => c3 (Int.ofNat_le.mpr h))
   clear c3
   obtain rfl := Option.some.inj H
   go_enter Try.func75, Try.ntmps75
   go_wp2
   go_ret
   exact ⟨by first | rfl | (simp; done) | (simp [*]; done), by repeat (first | exact Drawn0.refl _ | apply Drawn0.step)⟩
def strings_HasPrefix.f (a0 : ByteArray) (a1 : ByteArray) : Option (Bool) := (stringslite_HasPrefix.f a0 a1).bind fun t125 => (some t125)
set_option maxHeartbeats 8000000 in
set_option maxRecDepth 100000 in
theorem strings_HasPrefix.calls (a0 : ByteArray) (a1 : ByteArray) (r : Bool) (w : World) (h : strings_HasPrefix.f a0 a1 = some r) :
 Calls Try.prog 61 #[.string a0, .string a1] w fun e w' => e = .returned (.bool r) ∧ Drawn0 w w' := by
 have H : ((stringslite_HasPrefix.f a0 a1).bind fun t125 => (some t125)) = some r := h
 clear h
 replace H := oBm H
 obtain ⟨t125, A30, H⟩ := H
 replace H : (some t125) = some r := H
 have A3 := aMk A30
 clear A30
 obtain rfl := Option.some.inj H
 go_enter Try.func61, Try.ntmps61
 go_wp2_with (first | ((with_reducible refine gate_callee (f := 75) rfl ?_); refine goesL_ (some 7) rfl rfl Try.func75 (by kernel_rfl) rfl #[.string a0, .string a1] rfl (by (try simp only [List.map_toArray, List.map_cons, List.map_nil]); first | done | rfl | (simp only [List.length_drop, List.length_take]; rfl)) ?_; (with_reducible refine (stringslite_HasPrefix.calls a0 a1 t125 _ A3.out).mono ?_); rintro e w' ⟨rfl, ⟨nd, rfl⟩⟩; refine ⟨_, rfl, ?_⟩))
 go_ret
 exact ⟨by first | rfl | (simp; done) | (simp [*]; done), by repeat (first | exact Drawn0.refl _ | apply Drawn0.step)⟩
def impl_pairCoding_mark.f (a0_0 : Bool) : Option (ByteArray) := if a0_0 = true then (some (⟨#[254, 255]⟩ : ByteArray)) else (some (⟨#[255, 254]⟩ : ByteArray))
set_option maxHeartbeats 8000000 in
set_option maxRecDepth 100000 in
theorem impl_pairCoding_mark.calls (a0_0 : Bool) (r : ByteArray) (w : World) (h : impl_pairCoding_mark.f a0_0 = some r) :
 Calls Try.prog 96 #[.agg #[.bool a0_0]] w fun e w' => e = .returned (.string r) ∧ Below w.heap.size w w' := by
 have hu86 := Try.underlying86
 have HB := aMk (Below.refl w.heap.size w)
 have H : (if a0_0 = true then (some (⟨#[254, 255]⟩ : ByteArray)) else (some (⟨#[255, 254]⟩ : ByteArray))) = some r := h
 clear h
 by_cases c2 : a0_0 = true
 · subst c2
   have H1 : (some (⟨#[254, 255]⟩ : ByteArray)) = some r := by rw [if_pos rfl] at H; exact H
   clear H
   have H := H1
   clear H1
   obtain rfl := Option.some.inj H
   go_enter Try.func96, Try.ntmps96
   go_wp2_with (first | ((with_reducible refine gate_dst (N := 1) rfl ?_); refine box_event ?hg (N := 1) ?hd (cs := #[.bool true]) (t := 86) ?hr ?_; (case hd => rfl); (case hg => rfl); (case hr => first | (go_simp; done) | (go_simp; rfl)); intro gb126 hg w3 hbox hb; have n0_ := aMk (below_step (by repeat (first | (with_reducible first | exact HB.out | apply bAl | apply bDn | apply bD1) | exact HB.out)) hb); have n1_ := aMk (hbox); have n2_ := aMk ((by rw [hg]; exact (below_size (by repeat (first | (with_reducible first | exact HB.out | apply bAl | apply bDn | apply bD1) | exact HB.out))) : w.heap.size ≤ gb126)); have n3_ := aMk ((by rw [hg]; exact (below_size (by repeat (first | (with_reducible first | exact HB.out | apply bAl | apply bDn | apply bD1) | exact HB.out))) : w.heap.size ≤ gb126)); clear HB; have HB := n0_; have BK126 := n1_; have GW126 := n2_; have GE126 := n3_; clear n0_ n1_ n2_ n3_; clear hb hbox hg; have hcz4_0 : w3.cell? ⟨gb126, 0, none⟩ = some (.bool true) := (bCe BK126.out 0).trans rfl; have hfz4_0 := bFr BK126.out 0))
   go_ret
   exact ⟨by first | rfl | (simp [errW_none, errW_some] <;> rfl) | (simp [*, errW_none, errW_some] <;> rfl), by repeat (first | (with_reducible first | exact HB.out | apply bAl | apply bDn | apply bD1 | refine bSe ?_ GE126.out) | exact HB.out)⟩
 · replace c2 := Bool.eq_false_iff.mpr c2
   subst c2
   have H1 : (some (⟨#[255, 254]⟩ : ByteArray)) = some r := by rw [if_neg (show ¬ (false = true) by decide)] at H; exact H
   clear H
   have H := H1
   clear H1
   obtain rfl := Option.some.inj H
   go_enter Try.func96, Try.ntmps96
   go_wp2_with (first | ((with_reducible refine gate_dst (N := 1) rfl ?_); refine box_event ?hg (N := 1) ?hd (cs := #[.bool false]) (t := 86) ?hr ?_; (case hd => rfl); (case hg => rfl); (case hr => first | (go_simp; done) | (go_simp; rfl)); intro gb126 hg w5 hbox hb; have n0_ := aMk (below_step (by repeat (first | (with_reducible first | exact HB.out | apply bAl | apply bDn | apply bD1) | exact HB.out)) hb); have n1_ := aMk (hbox); have n2_ := aMk ((by rw [hg]; exact (below_size (by repeat (first | (with_reducible first | exact HB.out | apply bAl | apply bDn | apply bD1) | exact HB.out))) : w.heap.size ≤ gb126)); have n3_ := aMk ((by rw [hg]; exact (below_size (by repeat (first | (with_reducible first | exact HB.out | apply bAl | apply bDn | apply bD1) | exact HB.out))) : w.heap.size ≤ gb126)); clear HB; have HB := n0_; have BK126 := n1_; have GW126 := n2_; have GE126 := n3_; clear n0_ n1_ n2_ n3_; clear hb hbox hg; have hcz6_0 : w5.cell? ⟨gb126, 0, none⟩ = some (.bool false) := (bCe BK126.out 0).trans rfl; have hfz6_0 := bFr BK126.out 0))
   go_ret
   exact ⟨by first | rfl | (simp [errW_none, errW_some] <;> rfl) | (simp [*, errW_none, errW_some] <;> rfl), by repeat (first | (with_reducible first | exact HB.out | apply bAl | apply bDn | apply bD1 | refine bSe ?_ GE126.out) | exact HB.out)⟩
def impl_isHigh.f (a0 : Int) : Option (Bool) := if a0 ≥ 55296 then (some (decide (a0 ≤ 56319))) else (some false)
set_option maxHeartbeats 8000000 in
set_option maxRecDepth 100000 in
theorem impl_isHigh.calls (a0 : Int) (r : Bool) (w : World) (h : impl_isHigh.f a0 = some r) :
 Calls Try.prog 98 #[.int .i64 a0] w fun e w' => e = .returned (.bool r) ∧ Drawn0 w w' := by
 have H : (if a0 ≥ 55296 then (some (decide (a0 ≤ 56319))) else (some false)) = some r := h
 clear h
 by_cases c2 : a0 ≥ 55296
 · rw [if_pos c2] at H
   have c2b0 : decide (55296 ≤ a0) = true := decide_eq_true c2
   clear c2
   obtain rfl := Option.some.inj H
   go_enter Try.func98, Try.ntmps98
   go_wp2
   go_ret
   exact ⟨by first | rfl | (simp; done) | (simp [*]; done), by repeat (first | exact Drawn0.refl _ | apply Drawn0.step)⟩
 · rw [if_neg c2] at H
   have c2b0 : decide (55296 ≤ a0) = false := decide_eq_false c2
   clear c2
   obtain rfl := Option.some.inj H
   go_enter Try.func98, Try.ntmps98
   go_wp2
   go_ret
   exact ⟨by first | rfl | (simp; done) | (simp [*]; done), by repeat (first | exact Drawn0.refl _ | apply Drawn0.step)⟩
def impl_pairCoding_number.f (a0_0 : Bool) (l1 : List Int) : Option (Int) := if a0_0 = true then (if 0 < (l1.length : Int) then (if 1 < (l1.length : Int) then (some (Go.bits .or .i64 (wrap64 ((wrap64 (rd l1 0)) * 256)) (wrap64 (rd l1 1)))) else (none)) else (none)) else (if 1 < (l1.length : Int) then (if 0 < (l1.length : Int) then (some (Go.bits .or .i64 (wrap64 ((wrap64 (rd l1 1)) * 256)) (wrap64 (rd l1 0)))) else (none)) else (none))
set_option maxHeartbeats 8000000 in
set_option maxRecDepth 100000 in
theorem impl_pairCoding_number.calls (a0_0 : Bool) (A1 : Option Addr) (c1 : Nat) (l1 : List Int) (r : Int) (w : World) (hr1 : Kd.C (Kd.int .u8) w A1 l1.length l1) (hc1 : l1.length ≤ c1) (h : impl_pairCoding_number.f a0_0 l1 = some r) :
 Calls Try.prog 99 #[.agg #[.bool a0_0], .slice A1 l1.length c1] w fun e w' => e = .returned (.int .i64 r) ∧ Below w.heap.size w w' := by
 have hu86 := Try.underlying86
 have HR1 := aMk hr1
 have HC1 := aMk hc1
 clear hr1 hc1
 have HB := aMk (Below.refl w.heap.size w)
 have H : (if a0_0 = true then (if 0 < (l1.length : Int) then (if 1 < (l1.length : Int) then (some (Go.bits .or .i64 (wrap64 ((wrap64 (rd l1 0)) * 256)) (wrap64 (rd l1 1)))) else (none)) else (none)) else (if 1 < (l1.length : Int) then (if 0 < (l1.length : Int) then (some (Go.bits .or .i64 (wrap64 ((wrap64 (rd l1 1)) * 256)) (wrap64 (rd l1 0)))) else (none)) else (none))) = some r := h
 clear h
 by_cases c3 : a0_0 = true
 · subst c3
   have H1 : (if 0 < (l1.length : Int) then (if 1 < (l1.length : Int) then (some (Go.bits .or .i64 (wrap64 ((wrap64 (rd l1 0)) * 256)) (wrap64 (rd l1 1)))) else (none)) else (none)) = some r := by rw [if_pos rfl] at H; exact H
   clear H
   have H := H1
   clear H1
   by_cases c4 : 0 < (l1.length : Int)
   · rw [if_pos c4] at H
     have c4b0 : decide (0 < (l1.length : Int)) = true := decide_eq_true c4
     have c4b1 : decide (0 < l1.length) = true := decide_eq_true (by omega)
     clear c4
     by_cases c5 : 1 < (l1.length : Int)
     · rw [if_pos c5] at H
       have c5b0 : decide (1 < (l1.length : Int)) = true := decide_eq_true c5
       have c5b1 : decide (1 < l1.length) = true := decide_eq_true (by omega)
       clear c5
       obtain rfl := Option.some.inj H
       go_enter Try.func99, Try.ntmps99
       go_wp2_with (first | ((with_reducible refine gate_dst (N := 2) rfl ?_); refine box_event ?hg (N := 2) ?hd (cs := #[.bool true]) (t := 86) ?hr ?_; (case hd => rfl); (case hg => rfl); (case hr => first | (go_simp; done) | (go_simp; rfl)); intro gb127 hg w6 hbox hb; have n0_ := aMk (below_step (by repeat (first | (with_reducible first | exact HB.out | apply bAl | apply bDn | apply bD1) | exact HB.out)) hb); have n1_ := aMk (hbox); have n2_ := aMk ((by rw [hg]; exact (below_size (by repeat (first | (with_reducible first | exact HB.out | apply bAl | apply bDn | apply bD1) | exact HB.out))) : w.heap.size ≤ gb127)); have n3_ := aMk ((by rw [hg]; exact (below_size (by repeat (first | (with_reducible first | exact HB.out | apply bAl | apply bDn | apply bD1) | exact HB.out))) : w.heap.size ≤ gb127)); clear HB; have HB := n0_; have BK127 := n1_; have GW127 := n2_; have GE127 := n3_; clear n0_ n1_ n2_ n3_; clear hb hbox hg; have hcz7_0 : w6.cell? ⟨gb127, 0, none⟩ = some (.bool true) := (bCe BK127.out 0).trans rfl; have hfz7_0 := bFr BK127.out 0; have p128 : 0 ≤ (0 : Int) := (by omega); have q128 : 0 < (l1.length : Int) := oDt (by first | (with_reducible assumption) | assumption); obtain ⟨ad128, e128, hx128_0⟩ := Kd.at_int HR1.out 0 p128 q128; cases e128; have qi128 : (0 < l1.length) = True := eq_true (by omega); (try rw [show ((0 : Int)).toNat = 0 from rfl] at hx128_0); (try rw [Addr.add_zero'] at hx128_0); replace hx128_0 := (HB.out.cell (wBl w _ hx128_0)).trans hx128_0; replace p128 := eq_true p128; replace q128 := eq_true q128; have p129 : 0 ≤ (1 : Int) := (by omega); have q129 : 1 < (l1.length : Int) := oDt (by first | (with_reducible assumption) | assumption); obtain ⟨ad129, e129, hx129_0⟩ := Kd.at_int HR1.out 1 p129 q129; obtain rfl : ad128 = ad129 := (by injection e129); (try simp only [show (1 : Int).toNat = 1 from rfl, Nat.reduceMul, Nat.reduceEqDiff, Go.Addr.add, ↓reduceIte] at hx129_0); have qi129 : (1 < l1.length) = True := eq_true (by omega); (try rw [show ((1 : Int)).toNat = 1 from rfl] at hx129_0); replace hx129_0 := (HB.out.cell (wBl w _ hx129_0)).trans hx129_0; replace p129 := eq_true p129; replace q129 := eq_true q129))
       repeat (go_quiet (first | ((with_reducible refine gate_dst (N := 2) rfl ?_); refine box_event ?hg (N := 2) ?hd (cs := #[.bool true]) (t := 86) ?hr ?_; (case hd => rfl); (case hg => rfl); (case hr => first | (go_simp; done) | (go_simp; rfl)); intro gb127 hg w6 hbox hb; have n0_ := aMk (below_step (by repeat (first | (with_reducible first | exact HB.out | apply bAl | apply bDn | apply bD1) | exact HB.out)) hb); have n1_ := aMk (hbox); have n2_ := aMk ((by rw [hg]; exact (below_size (by repeat (first | (with_reducible first | exact HB.out | apply bAl | apply bDn | apply bD1) | exact HB.out))) : w.heap.size ≤ gb127)); have n3_ := aMk ((by rw [hg]; exact (below_size (by repeat (first | (with_reducible first | exact HB.out | apply bAl | apply bDn | apply bD1) | exact HB.out))) : w.heap.size ≤ gb127)); clear HB; have HB := n0_; have BK127 := n1_; have GW127 := n2_; have GE127 := n3_; clear n0_ n1_ n2_ n3_; clear hb hbox hg; have hcz7_0 : w6.cell? ⟨gb127, 0, none⟩ = some (.bool true) := (bCe BK127.out 0).trans rfl; have hfz7_0 := bFr BK127.out 0; have p128 : 0 ≤ (0 : Int) := (by omega); have q128 : 0 < (l1.length : Int) := oDt (by first | (with_reducible assumption) | assumption); obtain ⟨ad128, e128, hx128_0⟩ := Kd.at_int HR1.out 0 p128 q128; cases e128; have qi128 : (0 < l1.length) = True := eq_true (by omega); (try rw [show ((0 : Int)).toNat = 0 from rfl] at hx128_0); (try rw [Addr.add_zero'] at hx128_0); replace hx128_0 := (HB.out.cell (wBl w _ hx128_0)).trans hx128_0; replace p128 := eq_true p128; replace q128 := eq_true q128; have p129 : 0 ≤ (1 : Int) := (by omega); have q129 : 1 < (l1.length : Int) := oDt (by first | (with_reducible assumption) | assumption); obtain ⟨ad129, e129, hx129_0⟩ := Kd.at_int HR1.out 1 p129 q129; obtain rfl : ad128 = ad129 := (by injection e129); (try simp only [show (1 : Int).toNat = 1 from rfl, Nat.reduceMul, Nat.reduceEqDiff, Go.Addr.add, ↓reduceIte] at hx129_0); have qi129 : (1 < l1.length) = True := eq_true (by omega); (try rw [show ((1 : Int)).toNat = 1 from rfl] at hx129_0); replace hx129_0 := (HB.out.cell (wBl w _ hx129_0)).trans hx129_0; replace p129 := eq_true p129; replace q129 := eq_true q129)); try go_wp2_with (first | ((with_reducible refine gate_dst (N := 2) rfl ?_); refine box_event ?hg (N := 2) ?hd (cs := #[.bool true]) (t := 86) ?hr ?_; (case hd => rfl); (case hg => rfl); (case hr => first | (go_simp; done) | (go_simp; rfl)); intro gb127 hg w6 hbox hb; have n0_ := aMk (below_step (by repeat (first | (with_reducible first | exact HB.out | apply bAl | apply bDn | apply bD1) | exact HB.out)) hb); have n1_ := aMk (hbox); have n2_ := aMk ((by rw [hg]; exact (below_size (by repeat (first | (with_reducible first | exact HB.out | apply bAl | apply bDn | apply bD1) | exact HB.out))) : w.heap.size ≤ gb127)); have n3_ := aMk ((by rw [hg]; exact (below_size (by repeat (first | (with_reducible first | exact HB.out | apply bAl | apply bDn | apply bD1) | exact HB.out))) : w.heap.size ≤ gb127)); clear HB; have HB := n0_; have BK127 := n1_; have GW127 := n2_; have GE127 := n3_; clear n0_ n1_ n2_ n3_; clear hb hbox hg; have hcz7_0 : w6.cell? ⟨gb127, 0, none⟩ = some (.bool true) := (bCe BK127.out 0).trans rfl; have hfz7_0 := bFr BK127.out 0; have p128 : 0 ≤ (0 : Int) := (by omega); have q128 : 0 < (l1.length : Int) := oDt (by first | (with_reducible assumption) | assumption); obtain ⟨ad128, e128, hx128_0⟩ := Kd.at_int HR1.out 0 p128 q128; cases e128; have qi128 : (0 < l1.length) = True := eq_true (by omega); (try rw [show ((0 : Int)).toNat = 0 from rfl] at hx128_0); (try rw [Addr.add_zero'] at hx128_0); replace hx128_0 := (HB.out.cell (wBl w _ hx128_0)).trans hx128_0; replace p128 := eq_true p128; replace q128 := eq_true q128; have p129 : 0 ≤ (1 : Int) := (by omega); have q129 : 1 < (l1.length : Int) := oDt (by first | (with_reducible assumption) | assumption); obtain ⟨ad129, e129, hx129_0⟩ := Kd.at_int HR1.out 1 p129 q129; obtain rfl : ad128 = ad129 := (by injection e129); (try simp only [show (1 : Int).toNat = 1 from rfl, Nat.reduceMul, Nat.reduceEqDiff, Go.Addr.add, ↓reduceIte] at hx129_0); have qi129 : (1 < l1.length) = True := eq_true (by omega); (try rw [show ((1 : Int)).toNat = 1 from rfl] at hx129_0); replace hx129_0 := (HB.out.cell (wBl w _ hx129_0)).trans hx129_0; replace p129 := eq_true p129; replace q129 := eq_true q129)))
       go_ret
       exact ⟨by first | rfl | (simp [errW_none, errW_some] <;> rfl) | (simp [*, errW_none, errW_some] <;> rfl), by repeat (first | (with_reducible first | exact HB.out | apply bAl | apply bDn | apply bD1 | refine bSe ?_ GE127.out) | exact HB.out)⟩
     · rw [if_neg c5] at H
       exact absurd H (by simp)
   · rw [if_neg c4] at H
     exact absurd H (by simp)
 · replace c3 := Bool.eq_false_iff.mpr c3
   subst c3
   have H1 : (if 1 < (l1.length : Int) then (if 0 < (l1.length : Int) then (some (Go.bits .or .i64 (wrap64 ((wrap64 (rd l1 1)) * 256)) (wrap64 (rd l1 0)))) else (none)) else (none)) = some r := by rw [if_neg (show ¬ (false = true) by decide)] at H; exact H
   clear H
   have H := H1
   clear H1
   by_cases c8 : 1 < (l1.length : Int)
   · rw [if_pos c8] at H
     have c8b0 : decide (1 < (l1.length : Int)) = true := decide_eq_true c8
     have c8b1 : decide (1 < l1.length) = true := decide_eq_true (by omega)
     clear c8
     by_cases c9 : 0 < (l1.length : Int)
     · rw [if_pos c9] at H
       have c9b0 : decide (0 < (l1.length : Int)) = true := decide_eq_true c9
       have c9b1 : decide (0 < l1.length) = true := decide_eq_true (by omega)
       clear c9
       obtain rfl := Option.some.inj H
       go_enter Try.func99, Try.ntmps99
       go_wp2_with (first | ((with_reducible refine gate_dst (N := 2) rfl ?_); refine box_event ?hg (N := 2) ?hd (cs := #[.bool false]) (t := 86) ?hr ?_; (case hd => rfl); (case hg => rfl); (case hr => first | (go_simp; done) | (go_simp; rfl)); intro gb127 hg w10 hbox hb; have n0_ := aMk (below_step (by repeat (first | (with_reducible first | exact HB.out | apply bAl | apply bDn | apply bD1) | exact HB.out)) hb); have n1_ := aMk (hbox); have n2_ := aMk ((by rw [hg]; exact (below_size (by repeat (first | (with_reducible first | exact HB.out | apply bAl | apply bDn | apply bD1) | exact HB.out))) : w.heap.size ≤ gb127)); have n3_ := aMk ((by rw [hg]; exact (below_size (by repeat (first | (with_reducible first | exact HB.out | apply bAl | apply bDn | apply bD1) | exact HB.out))) : w.heap.size ≤ gb127)); clear HB; have HB := n0_; have BK127 := n1_; have GW127 := n2_; have GE127 := n3_; clear n0_ n1_ n2_ n3_; clear hb hbox hg; have hcz11_0 : w10.cell? ⟨gb127, 0, none⟩ = some (.bool false) := (bCe BK127.out 0).trans rfl; have hfz11_0 := bFr BK127.out 0; have p130 : 0 ≤ (1 : Int) := (by omega); have q130 : 1 < (l1.length : Int) := oDt (by first | (with_reducible assumption) | assumption); obtain ⟨ad130, e130, hx130_0⟩ := Kd.at_int HR1.out 1 p130 q130; cases e130; (try simp only [show (1 : Int).toNat = 1 from rfl, Nat.reduceMul, Nat.reduceEqDiff, Go.Addr.add, ↓reduceIte] at hx130_0); have qi130 : (1 < l1.length) = True := eq_true (by omega); (try rw [show ((1 : Int)).toNat = 1 from rfl] at hx130_0); replace hx130_0 := (HB.out.cell (wBl w _ hx130_0)).trans hx130_0; replace p130 := eq_true p130; replace q130 := eq_true q130; have p131 : 0 ≤ (0 : Int) := (by omega); have q131 : 0 < (l1.length : Int) := oDt (by first | (with_reducible assumption) | assumption); obtain ⟨ad131, e131, hx131_0⟩ := Kd.at_int HR1.out 0 p131 q131; obtain rfl : ad130 = ad131 := (by injection e131); have qi131 : (0 < l1.length) = True := eq_true (by omega); (try rw [show ((0 : Int)).toNat = 0 from rfl] at hx131_0); (try rw [Addr.add_zero'] at hx131_0); replace hx131_0 := (HB.out.cell (wBl w _ hx131_0)).trans hx131_0; replace p131 := eq_true p131; replace q131 := eq_true q131))
       repeat (go_quiet (first | ((with_reducible refine gate_dst (N := 2) rfl ?_); refine box_event ?hg (N := 2) ?hd (cs := #[.bool false]) (t := 86) ?hr ?_; (case hd => rfl); (case hg => rfl); (case hr => first | (go_simp; done) | (go_simp; rfl)); intro gb127 hg w10 hbox hb; have n0_ := aMk (below_step (by repeat (first | (with_reducible first | exact HB.out | apply bAl | apply bDn | apply bD1) | exact HB.out)) hb); have n1_ := aMk (hbox); have n2_ := aMk ((by rw [hg]; exact (below_size (by repeat (first | (with_reducible first | exact HB.out | apply bAl | apply bDn | apply bD1) | exact HB.out))) : w.heap.size ≤ gb127)); have n3_ := aMk ((by rw [hg]; exact (below_size (by repeat (first | (with_reducible first | exact HB.out | apply bAl | apply bDn | apply bD1) | exact HB.out))) : w.heap.size ≤ gb127)); clear HB; have HB := n0_; have BK127 := n1_; have GW127 := n2_; have GE127 := n3_; clear n0_ n1_ n2_ n3_; clear hb hbox hg; have hcz11_0 : w10.cell? ⟨gb127, 0, none⟩ = some (.bool false) := (bCe BK127.out 0).trans rfl; have hfz11_0 := bFr BK127.out 0; have p130 : 0 ≤ (1 : Int) := (by omega); have q130 : 1 < (l1.length : Int) := oDt (by first | (with_reducible assumption) | assumption); obtain ⟨ad130, e130, hx130_0⟩ := Kd.at_int HR1.out 1 p130 q130; cases e130; (try simp only [show (1 : Int).toNat = 1 from rfl, Nat.reduceMul, Nat.reduceEqDiff, Go.Addr.add, ↓reduceIte] at hx130_0); have qi130 : (1 < l1.length) = True := eq_true (by omega); (try rw [show ((1 : Int)).toNat = 1 from rfl] at hx130_0); replace hx130_0 := (HB.out.cell (wBl w _ hx130_0)).trans hx130_0; replace p130 := eq_true p130; replace q130 := eq_true q130; have p131 : 0 ≤ (0 : Int) := (by omega); have q131 : 0 < (l1.length : Int) := oDt (by first | (with_reducible assumption) | assumption); obtain ⟨ad131, e131, hx131_0⟩ := Kd.at_int HR1.out 0 p131 q131; obtain rfl : ad130 = ad131 := (by injection e131); have qi131 : (0 < l1.length) = True := eq_true (by omega); (try rw [show ((0 : Int)).toNat = 0 from rfl] at hx131_0); (try rw [Addr.add_zero'] at hx131_0); replace hx131_0 := (HB.out.cell (wBl w _ hx131_0)).trans hx131_0; replace p131 := eq_true p131; replace q131 := eq_true q131)); try go_wp2_with (first | ((with_reducible refine gate_dst (N := 2) rfl ?_); refine box_event ?hg (N := 2) ?hd (cs := #[.bool false]) (t := 86) ?hr ?_; (case hd => rfl); (case hg => rfl); (case hr => first | (go_simp; done) | (go_simp; rfl)); intro gb127 hg w10 hbox hb; have n0_ := aMk (below_step (by repeat (first | (with_reducible first | exact HB.out | apply bAl | apply bDn | apply bD1) | exact HB.out)) hb); have n1_ := aMk (hbox); have n2_ := aMk ((by rw [hg]; exact (below_size (by repeat (first | (with_reducible first | exact HB.out | apply bAl | apply bDn | apply bD1) | exact HB.out))) : w.heap.size ≤ gb127)); have n3_ := aMk ((by rw [hg]; exact (below_size (by repeat (first | (with_reducible first | exact HB.out | apply bAl | apply bDn | apply bD1) | exact HB.out))) : w.heap.size ≤ gb127)); clear HB; have HB := n0_; have BK127 := n1_; have GW127 := n2_; have GE127 := n3_; clear n0_ n1_ n2_ n3_; clear hb hbox hg; have hcz11_0 : w10.cell? ⟨gb127, 0, none⟩ = some (.bool false) := (bCe BK127.out 0).trans rfl; have hfz11_0 := bFr BK127.out 0; have p130 : 0 ≤ (1 : Int) := (by omega); have q130 : 1 < (l1.length : Int) := oDt (by first | (with_reducible assumption) | assumption); obtain ⟨ad130, e130, hx130_0⟩ := Kd.at_int HR1.out 1 p130 q130; cases e130; (try simp only [show (1 : Int).toNat = 1 from rfl, Nat.reduceMul, Nat.reduceEqDiff, Go.Addr.add, ↓reduceIte] at hx130_0); have qi130 : (1 < l1.length) = True := eq_true (by omega); (try rw [show ((1 : Int)).toNat = 1 from rfl] at hx130_0); replace hx130_0 := (HB.out.cell (wBl w _ hx130_0)).trans hx130_0; replace p130 := eq_true p130; replace q130 := eq_true q130; have p131 : 0 ≤ (0 : Int) := (by omega); have q131 : 0 < (l1.length : Int) := oDt (by first | (with_reducible assumption) | assumption); obtain ⟨ad131, e131, hx131_0⟩ := Kd.at_int HR1.out 0 p131 q131; obtain rfl : ad130 = ad131 := (by injection e131); have qi131 : (0 < l1.length) = True := eq_true (by omega); (try rw [show ((0 : Int)).toNat = 0 from rfl] at hx131_0); (try rw [Addr.add_zero'] at hx131_0); replace hx131_0 := (HB.out.cell (wBl w _ hx131_0)).trans hx131_0; replace p131 := eq_true p131; replace q131 := eq_true q131)))
       go_ret
       exact ⟨by first | rfl | (simp [errW_none, errW_some] <;> rfl) | (simp [*, errW_none, errW_some] <;> rfl), by repeat (first | (with_reducible first | exact HB.out | apply bAl | apply bDn | apply bD1 | refine bSe ?_ GE127.out) | exact HB.out)⟩
     · rw [if_neg c9] at H
       exact absurd H (by simp)
   · rw [if_neg c8] at H
     exact absurd H (by simp)
def impl_isLow.f (a0 : Int) : Option (Bool) := if a0 ≥ 56320 then (some (decide (a0 ≤ 57343))) else (some false)
set_option maxHeartbeats 8000000 in
set_option maxRecDepth 100000 in
theorem impl_isLow.calls (a0 : Int) (r : Bool) (w : World) (h : impl_isLow.f a0 = some r) :
 Calls Try.prog 100 #[.int .i64 a0] w fun e w' => e = .returned (.bool r) ∧ Drawn0 w w' := by
 have H : (if a0 ≥ 56320 then (some (decide (a0 ≤ 57343))) else (some false)) = some r := h
 clear h
 by_cases c2 : a0 ≥ 56320
 · rw [if_pos c2] at H
   have c2b0 : decide (56320 ≤ a0) = true := decide_eq_true c2
   clear c2
   obtain rfl := Option.some.inj H
   go_enter Try.func100, Try.ntmps100
   go_wp2
   go_ret
   exact ⟨by first | rfl | (simp; done) | (simp [*]; done), by repeat (first | exact Drawn0.refl _ | apply Drawn0.step)⟩
 · rw [if_neg c2] at H
   have c2b0 : decide (56320 ≤ a0) = false := decide_eq_false c2
   clear c2
   obtain rfl := Option.some.inj H
   go_enter Try.func100, Try.ntmps100
   go_wp2
   go_ret
   exact ⟨by first | rfl | (simp; done) | (simp [*]; done), by repeat (first | exact Drawn0.refl _ | apply Drawn0.step)⟩
def impl_pairCoding_read.l0 : Nat → List Int → List Int → Bool → Option (ByteArray)
 | 0, _, _, _ => none
 | k + 1, x1, x5, x133000 => if (x1.length : Int) > 1 then ((impl_pairCoding_number.f x133000 x1).bind fun t141 => (if 2 ≤ (x1.length : Int) then ((some (x1.drop 2 : List Int)).bind fun y142 => ((impl_isHigh.f t141).bind fun t147 => (if t147 = true then (if (y142.length : Int) > 1 then ((impl_pairCoding_number.f x133000 y142).bind fun t148 => ((impl_isLow.f t148).bind fun t149 => (if t149 = true then ((impl_pairCoding_number.f x133000 y142).bind fun t150 => (if 2 ≤ (y142.length : Int) then (if x5.length < 17592186044416 then (impl_pairCoding_read.l0 k (y142.drop 2) (x5 ++ [wrap64 ((wrap64 (65536 + (wrap64 (1024 * (wrap64 (t141 - 55296)))))) + (wrap64 (t150 - 56320)))]) x133000) else (none)) else (none))) else (if x5.length < 17592186044416 then (impl_pairCoding_read.l0 k y142 (x5 ++ [t141]) x133000) else (none))))) else (if x5.length < 17592186044416 then (impl_pairCoding_read.l0 k y142 (x5 ++ [t141]) x133000) else (none))) else (if x5.length < 17592186044416 then (impl_pairCoding_read.l0 k y142 (x5 ++ [t141]) x133000) else (none))))) else (none))) else (if (x1.length : Int) = 1 then (if x5.length < 17592186044416 then ((impl_Encode.f (x5 ++ [(-1)])).bind fun t139 => (some t139)) else (none)) else ((impl_Encode.f x5).bind fun t140 => (some t140)))
def impl_pairCoding_read.f (k : Nat) (a0_0 : Bool) (l1 : List Int) : Option (ByteArray) := impl_pairCoding_read.l0 k l1 (([] : List Int)) a0_0
set_option maxHeartbeats 8000000 in
set_option maxRecDepth 100000 in
theorem impl_pairCoding_read.calls (k : Nat) (a0_0 : Bool) (P1_ : Nat → Prop) (A1 : Option Addr) (c1 : Nat) (l1 : List Int) (r : ByteArray) (w : World) (hs1 : Kd.V (Kd.int .u8) 5 w w.heap.size (fun k_ => P1_ k_) (.slice A1 l1.length c1) l1) (h : impl_pairCoding_read.f k a0_0 l1 = some r) :
 Calls Try.prog 97 #[.agg #[.bool a0_0], .slice A1 l1.length c1] w fun e w' => e = .returned (.string r) ∧ Below w.heap.size w w' := by
 have hu86 := Try.underlying86
 have HO1 := aMk (show Kd.V (Kd.int .u8) 5 w w.heap.size (fun k_ => (P1_ k_ ∨ w.heap.size ≤ k_)) (.slice A1 l1.length c1) l1 from Kd.V_mono hs1 (fun k_ hk => .inl hk))
 have HB := aMk (Below.refl w.heap.size w)
 have H : (impl_pairCoding_read.l0 k l1 (([] : List Int)) a0_0) = some r := h
 clear h
 obtain ⟨y133, hy133⟩ : ∃ y_ : List Int, y_ = (([] : List Int)) := ⟨_, rfl⟩
 replace H : (impl_pairCoding_read.l0 k l1 y133 a0_0) = some r := by first | (rw [hy133]; with_reducible exact H) | (have H2_ := (Option.bind_some _ _).symm.trans H; rw [hy133]; with_reducible exact H2_) | (have H2_ := (Option.bind_some _ _).symm.trans H; with_reducible exact H2_) | with_reducible exact H | (rw [hy133]; exact H) | exact H
 have Ny133 := aMk hy133
 clear hy133
 have H' := aMk H
 clear H
 go_enter Try.func97, Try.ntmps97
 go_wp2_with (first | ((with_reducible refine gate_dst (N := 2) rfl ?_); (try (refine gate_guard (by rfl) ?_; dsimp only)); refine box_event ?hg (N := 2) ?hd (cs := #[.bool a0_0]) (t := 86) ?hr ?_; (case hd => rfl); (case hg => rfl); (case hr => first | (go_simp; done) | (go_simp; rfl)); intro gb132 hg w3 hbox hb; have n0_ := aMk (Kd.V_below (Kd.V_elderB (by (with_reducible repeat (first | apply Kd.V_alloc | apply Kd.V_drewN | apply Kd.V_drew)); exact HO1.out) gb132 (Nat.le_of_eq hg.symm)) hb); have n1_ := aMk (below_step (by repeat (first | (with_reducible first | exact HB.out | apply bAl | apply bDn | apply bD1) | exact HB.out)) hb); have n2_ := aMk (hbox); have n3_ := aMk ((by rw [hg]; exact (below_size (by repeat (first | (with_reducible first | exact HB.out | apply bAl | apply bDn | apply bD1) | exact HB.out))) : w.heap.size ≤ gb132)); have n4_ := aMk ((by rw [hg]; exact (below_size (by repeat (first | (with_reducible first | exact HB.out | apply bAl | apply bDn | apply bD1) | exact HB.out))) : w.heap.size ≤ gb132)); clear HO1; clear HB; have HO1 := n0_; have HB := n1_; have BK132 := n2_; have GW132 := n3_; have GE132 := n4_; clear n0_ n1_ n2_ n3_ n4_; clear hb hbox hg) | ((with_reducible refine gate_dst (N := 7) rfl ?_); (try (refine gate_guard (by rfl) ?_; dsimp only)); refine Kd.R_lit (Kd.int .i64) _ 3 ?hg (N := 7) ?hd (xs := ([] : List Int)) (inner := []) (ok := fun _ => True) (okp := fun _ => True) ?hr ?hp (fun _ hk => hk) trivial (Below.refl _ _) (Nat.le_refl _) (by simp) ?_; (case hd => rfl); (case hg => rfl); (case hr => first | (go_simp; done) | (go_simp; rfl)); (case hp => exact (Reps.none _ _)); intro v134 w4 ho5 hb hg_ hnew_; clear hg_ hnew_; (first | rw [← Ny133.out] at ho5 | (simp only [Int.reduceToNat] at ho5; rw [← Ny133.out] at ho5)); have n0_ := aMk (Kd.V_elder' (by (with_reducible repeat (first | apply Kd.V_alloc | apply Kd.V_drewN | apply Kd.V_drew)); exact HO1.out) (Kd.R_base ho5) hb); have n1_ := aMk (Kd.R_lower (Kd.R_newM (M := fun k_ => (w.heap.size ≤ k_)) ho5 (below_size (by repeat (first | (with_reducible first | exact HB.out | apply bAl | apply bDn | apply bD1 | refine bSe ?_ GE132.out) | exact HB.out))) (fun k_ h_ => h_)) (below_size (by repeat (first | (with_reducible first | exact HB.out | apply bAl | apply bDn | apply bD1 | refine bSe ?_ GE132.out) | exact HB.out)))); have n2_ := aMk (blk_below (g := gb132) (o := .cells #[.bool a0_0] 86 (0, 0)) (by (with_reducible repeat (first | refine bkD ?_ _ | refine blk_drew ?_ | refine bkA ?_ _)); exact BK132.out) hb); have n3_ := aMk (below_step (by repeat (first | (with_reducible first | exact HB.out | apply bAl | apply bDn | apply bD1 | refine bSe ?_ GE132.out) | exact HB.out)) hb); clear HO1; clear BK132; clear HB; have HO1 := n0_; have HO135 := n1_; have BK132 := n2_; have HB := n3_; clear n0_ n1_ n2_ n3_; clear hb ho5))
 go_loopg [1, 5] k (fun kq v1 v5 w' => ∃ (x1_1 : List Int) (x5_1 : List Int), Aside0 (impl_pairCoding_read.l0 kq x1_1 x5_1 a0_0 = some r) ∧ Aside0 (kq ≤ k) ∧ Aside0 (Kd.V (Kd.int .u8) 5 w' w.heap.size (fun k_ => (P1_ k_ ∨ w.heap.size ≤ k_) ∧ some k_ ≠ (v5 : Value).ownBlock ∧ k_ ≠ gb132) v1 x1_1) ∧ Aside0 (Kd.R (Kd.int .i64) 3 w' w.heap.size (fun k_ => (w.heap.size ≤ k_)) v5 x5_1) ∧ Aside0 (w'.heap[gb132]? = some (.cells #[.bool a0_0] 86 (0, 0))) ∧ Aside0 (Below w.heap.size w w'))
 case atStart => exact ⟨(l1), (y133), H', ⟨Nat.le_refl _⟩, ⟨by (with_reducible repeat (first | apply Kd.V_alloc | apply Kd.V_drewN | apply Kd.V_drew)); exact Kd.V_mono HO1.out (fun _ hk => ⟨hk.1.1, ⟨hk.2, hk.1.2⟩⟩)⟩, ⟨by (with_reducible repeat (first | apply Kd.R_alloc | apply Kd.R_drewN | apply Kd.R_drew)); exact Kd.R_mono HO135.out (fun _ hk => hk.1)⟩, ⟨by (with_reducible repeat (first | refine bkD ?_ _ | refine blk_drew ?_ | refine bkA ?_ _)); exact BK132.out⟩, ⟨by repeat (first | (with_reducible first | exact HB.out | apply bAl | apply bDn | apply bD1 | refine bSe ?_ GE132.out) | exact HB.out)⟩⟩
 case round =>
  clear H'
  try clear c1
  try clear p2
  obtain ⟨x1_1, x5_1, HA, HK1, HO_1, HO_5, BK132, HB⟩ := hrel
  cases gk with
  | zero => exact absurd HA.out (by simp [impl_pairCoding_read.l0])
  | succ k1 =>
   have H := HA.out
   clear HA
   simp only [impl_pairCoding_read.l0] at H
   by_cases c6 : (x1_1.length : Int) > 1
   · rw [if_pos c6] at H
     have c6b0 : decide (1 < (x1_1.length : Int)) = true := decide_eq_true c6
     have c6b1 : decide (1 < x1_1.length) = true := decide_eq_true (by omega)
     clear c6
     replace H := oBm H
     obtain ⟨t141, A70, H⟩ := H
     replace H : (if 2 ≤ (x1_1.length : Int) then ((some (x1_1.drop 2 : List Int)).bind fun y142 => ((impl_isHigh.f t141).bind fun t147 => (if t147 = true then (if (y142.length : Int) > 1 then ((impl_pairCoding_number.f a0_0 y142).bind fun t148 => ((impl_isLow.f t148).bind fun t149 => (if t149 = true then ((impl_pairCoding_number.f a0_0 y142).bind fun t150 => (if 2 ≤ (y142.length : Int) then (if x5_1.length < 17592186044416 then (impl_pairCoding_read.l0 k1 (y142.drop 2) (x5_1 ++ [wrap64 ((wrap64 (65536 + (wrap64 (1024 * (wrap64 (t141 - 55296)))))) + (wrap64 (t150 - 56320)))]) a0_0) else (none)) else (none))) else (if x5_1.length < 17592186044416 then (impl_pairCoding_read.l0 k1 y142 (x5_1 ++ [t141]) a0_0) else (none))))) else (if x5_1.length < 17592186044416 then (impl_pairCoding_read.l0 k1 y142 (x5_1 ++ [t141]) a0_0) else (none))) else (if x5_1.length < 17592186044416 then (impl_pairCoding_read.l0 k1 y142 (x5_1 ++ [t141]) a0_0) else (none))))) else (none)) = some r := H
     have A7 := aMk A70
     clear A70
     by_cases c8 : 2 ≤ (x1_1.length : Int)
     · rw [if_pos c8] at H
       have c8b0 := eq_true c8
       have c8b1 : decide (2 ≤ (x1_1.length : Int)) = true := decide_eq_true c8
       clear c8
       obtain ⟨y142, hy142⟩ : ∃ y_ : List Int, y_ = (x1_1.drop 2) := ⟨_, rfl⟩
       replace H : ((impl_isHigh.f t141).bind fun t147 => (if t147 = true then (if (y142.length : Int) > 1 then ((impl_pairCoding_number.f a0_0 y142).bind fun t148 => ((impl_isLow.f t148).bind fun t149 => (if t149 = true then ((impl_pairCoding_number.f a0_0 y142).bind fun t150 => (if 2 ≤ (y142.length : Int) then (if x5_1.length < 17592186044416 then (impl_pairCoding_read.l0 k1 (y142.drop 2) (x5_1 ++ [wrap64 ((wrap64 (65536 + (wrap64 (1024 * (wrap64 (t141 - 55296)))))) + (wrap64 (t150 - 56320)))]) a0_0) else (none)) else (none))) else (if x5_1.length < 17592186044416 then (impl_pairCoding_read.l0 k1 y142 (x5_1 ++ [t141]) a0_0) else (none))))) else (if x5_1.length < 17592186044416 then (impl_pairCoding_read.l0 k1 y142 (x5_1 ++ [t141]) a0_0) else (none))) else (if x5_1.length < 17592186044416 then (impl_pairCoding_read.l0 k1 y142 (x5_1 ++ [t141]) a0_0) else (none)))) = some r := by first | (rw [hy142]; with_reducible exact H) | (have H2_ := (Option.bind_some _ _).symm.trans H; rw [hy142]; with_reducible exact H2_) | (have H2_ := (Option.bind_some _ _).symm.trans H; with_reducible exact H2_) | with_reducible exact H | (rw [hy142]; exact H) | exact H
       have Ny142 := aMk hy142
       clear hy142
       replace H := oBm H
       obtain ⟨t147, A90, H⟩ := H
       replace H : (if t147 = true then (if (y142.length : Int) > 1 then ((impl_pairCoding_number.f a0_0 y142).bind fun t148 => ((impl_isLow.f t148).bind fun t149 => (if t149 = true then ((impl_pairCoding_number.f a0_0 y142).bind fun t150 => (if 2 ≤ (y142.length : Int) then (if x5_1.length < 17592186044416 then (impl_pairCoding_read.l0 k1 (y142.drop 2) (x5_1 ++ [wrap64 ((wrap64 (65536 + (wrap64 (1024 * (wrap64 (t141 - 55296)))))) + (wrap64 (t150 - 56320)))]) a0_0) else (none)) else (none))) else (if x5_1.length < 17592186044416 then (impl_pairCoding_read.l0 k1 y142 (x5_1 ++ [t141]) a0_0) else (none))))) else (if x5_1.length < 17592186044416 then (impl_pairCoding_read.l0 k1 y142 (x5_1 ++ [t141]) a0_0) else (none))) else (if x5_1.length < 17592186044416 then (impl_pairCoding_read.l0 k1 y142 (x5_1 ++ [t141]) a0_0) else (none))) = some r := H
       have A9 := aMk A90
       clear A90
       by_cases c10 : t147 = true
       · subst c10
         have H1 : (if (y142.length : Int) > 1 then ((impl_pairCoding_number.f a0_0 y142).bind fun t148 => ((impl_isLow.f t148).bind fun t149 => (if t149 = true then ((impl_pairCoding_number.f a0_0 y142).bind fun t150 => (if 2 ≤ (y142.length : Int) then (if x5_1.length < 17592186044416 then (impl_pairCoding_read.l0 k1 (y142.drop 2) (x5_1 ++ [wrap64 ((wrap64 (65536 + (wrap64 (1024 * (wrap64 (t141 - 55296)))))) + (wrap64 (t150 - 56320)))]) a0_0) else (none)) else (none))) else (if x5_1.length < 17592186044416 then (impl_pairCoding_read.l0 k1 y142 (x5_1 ++ [t141]) a0_0) else (none))))) else (if x5_1.length < 17592186044416 then (impl_pairCoding_read.l0 k1 y142 (x5_1 ++ [t141]) a0_0) else (none))) = some r := by rw [if_pos rfl] at H; exact H
         clear H
         have H := H1
         clear H1
         by_cases c11 : (y142.length : Int) > 1
         · rw [if_pos c11] at H
           have c11b0 : decide (1 < (y142.length : Int)) = true := decide_eq_true c11
           have c11b1 : decide (1 < y142.length) = true := decide_eq_true (by omega)
           clear c11
           replace H := oBm H
           obtain ⟨t148, A120, H⟩ := H
           replace H : ((impl_isLow.f t148).bind fun t149 => (if t149 = true then ((impl_pairCoding_number.f a0_0 y142).bind fun t150 => (if 2 ≤ (y142.length : Int) then (if x5_1.length < 17592186044416 then (impl_pairCoding_read.l0 k1 (y142.drop 2) (x5_1 ++ [wrap64 ((wrap64 (65536 + (wrap64 (1024 * (wrap64 (t141 - 55296)))))) + (wrap64 (t150 - 56320)))]) a0_0) else (none)) else (none))) else (if x5_1.length < 17592186044416 then (impl_pairCoding_read.l0 k1 y142 (x5_1 ++ [t141]) a0_0) else (none)))) = some r := H
           have A12 := aMk A120
           clear A120
           replace H := oBm H
           obtain ⟨t149, A130, H⟩ := H
           replace H : (if t149 = true then ((impl_pairCoding_number.f a0_0 y142).bind fun t150 => (if 2 ≤ (y142.length : Int) then (if x5_1.length < 17592186044416 then (impl_pairCoding_read.l0 k1 (y142.drop 2) (x5_1 ++ [wrap64 ((wrap64 (65536 + (wrap64 (1024 * (wrap64 (t141 - 55296)))))) + (wrap64 (t150 - 56320)))]) a0_0) else (none)) else (none))) else (if x5_1.length < 17592186044416 then (impl_pairCoding_read.l0 k1 y142 (x5_1 ++ [t141]) a0_0) else (none))) = some r := H
           have A13 := aMk A130
           clear A130
           by_cases c14 : t149 = true
           · subst c14
             have H1 : ((impl_pairCoding_number.f a0_0 y142).bind fun t150 => (if 2 ≤ (y142.length : Int) then (if x5_1.length < 17592186044416 then (impl_pairCoding_read.l0 k1 (y142.drop 2) (x5_1 ++ [wrap64 ((wrap64 (65536 + (wrap64 (1024 * (wrap64 (t141 - 55296)))))) + (wrap64 (t150 - 56320)))]) a0_0) else (none)) else (none))) = some r := by rw [if_pos rfl] at H; exact H
             clear H
             have H := H1
             clear H1
             replace H := oBm H
             obtain ⟨t150, A150, H⟩ := H
             replace H : (if 2 ≤ (y142.length : Int) then (if x5_1.length < 17592186044416 then (impl_pairCoding_read.l0 k1 (y142.drop 2) (x5_1 ++ [wrap64 ((wrap64 (65536 + (wrap64 (1024 * (wrap64 (t141 - 55296)))))) + (wrap64 (t150 - 56320)))]) a0_0) else (none)) else (none)) = some r := H
             have A15 := aMk A150
             clear A150
             by_cases c16 : 2 ≤ (y142.length : Int)
             · rw [if_pos c16] at H
               have c16b0 := eq_true c16
               have c16b1 : decide (2 ≤ (y142.length : Int)) = true := decide_eq_true c16
               clear c16
               obtain ⟨y151, hy151⟩ : ∃ y_ : List Int, y_ = (y142.drop 2) := ⟨_, rfl⟩
               replace H : (if x5_1.length < 17592186044416 then (impl_pairCoding_read.l0 k1 y151 (x5_1 ++ [wrap64 ((wrap64 (65536 + (wrap64 (1024 * (wrap64 (t141 - 55296)))))) + (wrap64 (t150 - 56320)))]) a0_0) else (none)) = some r := by first | (rw [hy151]; with_reducible exact H) | (have H2_ := (Option.bind_some _ _).symm.trans H; rw [hy151]; with_reducible exact H2_) | (have H2_ := (Option.bind_some _ _).symm.trans H; with_reducible exact H2_) | with_reducible exact H | (rw [hy151]; exact H) | exact H
               have Ny151 := aMk hy151
               clear hy151
               by_cases c17 : x5_1.length < 17592186044416
               · rw [if_pos c17] at H
                 have LMc17 := aMk c17
                 clear c17
                 obtain ⟨y156, hy156⟩ : ∃ y_ : List Int, y_ = (x5_1 ++ [wrap64 ((wrap64 (65536 + (wrap64 (1024 * (wrap64 (t141 - 55296)))))) + (wrap64 (t150 - 56320)))]) := ⟨_, rfl⟩
                 replace H : (impl_pairCoding_read.l0 k1 y151 y156 a0_0) = some r := by first | (rw [hy156]; with_reducible exact H) | (have H2_ := (Option.bind_some _ _).symm.trans H; rw [hy156]; with_reducible exact H2_) | (have H2_ := (Option.bind_some _ _).symm.trans H; with_reducible exact H2_) | with_reducible exact H | (rw [hy156]; exact H) | exact H
                 have Ny156 := aMk hy156
                 clear hy156
                 have H' := aMk H
                 clear H
                 obtain ⟨Ao18, co18, eo18⟩ := Kd.V_slice HO_1.out
                 subst eo18
                 have hcz19_0 : wr.cell? ⟨gb132, 0, none⟩ = some (.bool a0_0) := (bCe BK132.out 0).trans rfl
                 have hfz19_0 := bFr BK132.out 0
                 go_wp2_with (first | ((with_reducible refine gate_callee (f := 99) rfl ?_); refine goesL_ (some 13) rfl rfl Try.func99 (by kernel_rfl) rfl #[.agg #[.bool a0_0], .slice Ao18 x1_1.length co18] rfl (by (try simp only [List.map_toArray, List.map_cons, List.map_nil]); first | done | rfl | (simp only [List.length_drop, List.length_take]; rfl)) ?_; (with_reducible refine (impl_pairCoding_number.calls a0_0 _ _ x1_1 t141 _ ?side1 ?side2 A7.out).mono ?_); (case side1 => repeat (first | exact (Kd.V_reads' HO_1.out).2.2 | (with_reducible refine Kd.C_alloc ?_ _) | (with_reducible refine Kd.C_drewN ?_ _) | (with_reducible refine Kd.C_drew ?_))); (case side2 => exact (Kd.V_reads' HO_1.out).2.1); rintro e w20 ⟨rfl, hb⟩; refine ⟨_, rfl, ?_⟩; have n0_ := aMk (Kd.V_below (by (with_reducible repeat (first | apply Kd.V_alloc | apply Kd.V_drewN | apply Kd.V_drew)); exact HO_1.out) hb); have n1_ := aMk (Kd.R_below (by (with_reducible repeat (first | apply Kd.R_alloc | apply Kd.R_drewN | apply Kd.R_drew)); exact HO_5.out) hb); have n2_ := aMk (blk_below (g := gb132) (o := .cells #[.bool a0_0] 86 (0, 0)) (by (with_reducible repeat (first | refine bkD ?_ _ | refine blk_drew ?_ | refine bkA ?_ _)); exact BK132.out) hb); have n3_ := aMk (below_step (by repeat (first | (with_reducible first | exact HB.out | apply bAl | apply bDn | apply bD1 | refine bSe ?_ GE132.out) | exact HB.out)) hb); clear HO_1; clear HO_5; clear BK132; clear HB; have HO_1 := n0_; have HO_5 := n1_; have BK132 := n2_; have HB := n3_; clear n0_ n1_ n2_ n3_; (try clear hb); (try clear hb2); (try clear hk); (try clear hi); have q21 : (2 : Int) ≤ ((x1_1.length : Int) : Int) := oDt (by first | (with_reducible assumption) | assumption); obtain ⟨i021, hi021, _, hsz21, _⟩ := info_parts info5; have hroom21 : x1_1.length ≤ co18 := (Kd.V_reads' HO_1.out).2.1; have hC21 : Kd.F (Kd.int .u8) _ _ Ao18 x1_1.length x1_1 := (Kd.V_at (base := w.heap.size) HO_1.out).2.2; have hcut21 := cut_from (P := Try.prog) 22 5 .i64 Try.underlying22 hi021 1 hsz21 Ao18 x1_1.length co18 2 (by omega) q21; have hr21 := Kd.F_cut (m := (2 : Int).toNat) (c := co18) hC21 (by omega) hroom21; obtain ⟨A21, hA21⟩ : ∃ A1, A1 = (if co18 = (2 : Int).toNat then Ao18 else (Ao18 : Option Addr).map (·.add ((2 : Int).toNat * 1))) := ⟨_, rfl⟩; obtain ⟨c21, hc21⟩ : ∃ c1, c1 = co18 - (2 : Int).toNat := ⟨_, rfl⟩; have hy21 : y142.length = x1_1.length - (2 : Int).toNat := (by rw [Ny142.out, List.length_drop] <;> omega); rw [show (x1_1).drop (2 : Int).toNat = y142 from Ny142.out.symm] at hr21; replace hr21 : Kd.F (Kd.int .u8) _ _ A21 y142.length y142 := (by rw [hA21]; exact hr21); rw [← hy21, ← hA21, ← hc21] at hcut21; have HO146 := aMk (show Kd.V (Kd.int .u8) 5 _ w.heap.size _ (.slice A21 y142.length c21) y142 from Kd.V_mk (by rw [hy21, hc21]; exact Nat.sub_le_sub_right hroom21 _) hr21); have HC146 := aMk (show y142.length ≤ c21 from by rw [hy21, hc21]; exact Nat.sub_le_sub_right hroom21 _); clear hr21 hC21 hroom21 hi021 hsz21 hc21; have KY21 := aMk hy21; have KA21 := aMk hA21; clear hy21 hA21; replace q21 := eq_true q21) | ((with_reducible refine gate_callee (f := 98) rfl ?_); refine goesL_ (some 17) rfl rfl Try.func98 (by kernel_rfl) rfl #[.int .i64 t141] rfl (by (try simp only [List.map_toArray, List.map_cons, List.map_nil]); first | done | rfl | (simp only [List.length_drop, List.length_take]; rfl)) ?_; (with_reducible refine (impl_isHigh.calls t141 true _ A9.out).mono ?_); rintro e w' ⟨rfl, ⟨nd, rfl⟩⟩; refine ⟨_, rfl, ?_⟩; have hcz22_0 : w20.cell? ⟨gb132, 0, none⟩ = some (.bool a0_0) := (bCe BK132.out 0).trans rfl; have hfz22_0 := bFr BK132.out 0) | (go_at_call 99; (with_reducible refine (impl_pairCoding_number.calls a0_0 _ _ y142 t148 _ ?side1 ?side2 A12.out).mono ?_); (case side1 => repeat (first | exact (Kd.V_reads' HO146.out).2.2 | (with_reducible refine Kd.C_alloc ?_ _) | (with_reducible refine Kd.C_drewN ?_ _) | (with_reducible refine Kd.C_drew ?_))); (case side2 => exact (Kd.V_reads' HO146.out).2.1); rintro e w23 ⟨rfl, hb⟩; have n0_ := aMk (Kd.V_below (by (with_reducible repeat (first | apply Kd.V_alloc | apply Kd.V_drewN | apply Kd.V_drew)); exact HO_1.out) hb); have n1_ := aMk (Kd.R_below (by (with_reducible repeat (first | apply Kd.R_alloc | apply Kd.R_drewN | apply Kd.R_drew)); exact HO_5.out) hb); have n2_ := aMk (Kd.V_below (by (with_reducible repeat (first | apply Kd.V_alloc | apply Kd.V_drewN | apply Kd.V_drew)); exact HO146.out) hb); have n3_ := aMk (blk_below (g := gb132) (o := .cells #[.bool a0_0] 86 (0, 0)) (by (with_reducible repeat (first | refine bkD ?_ _ | refine blk_drew ?_ | refine bkA ?_ _)); exact BK132.out) hb); have n4_ := aMk (below_step (by repeat (first | (with_reducible first | exact HB.out | apply bAl | apply bDn | apply bD1 | refine bSe ?_ GE132.out) | exact HB.out)) hb); clear HO_1; clear HO_5; clear HO146; clear BK132; clear HB; have HO_1 := n0_; have HO_5 := n1_; have HO146 := n2_; have BK132 := n3_; have HB := n4_; clear n0_ n1_ n2_ n3_ n4_; (try clear hb); (try clear hb2); (try clear hk); (try clear hi)) | (go_at_call 100; (with_reducible refine (impl_isLow.calls t148 true _ A13.out).mono ?_); rintro e w' ⟨rfl, ⟨nd, rfl⟩⟩; have hcz24_0 : w23.cell? ⟨gb132, 0, none⟩ = some (.bool a0_0) := (bCe BK132.out 0).trans rfl; have hfz24_0 := bFr BK132.out 0) | ((with_reducible refine gate_callee (f := 99) rfl ?_); refine goesL_ (some 35) rfl rfl Try.func99 (by kernel_rfl) rfl #[.agg #[.bool a0_0], .slice A21 y142.length c21] rfl (by (try simp only [List.map_toArray, List.map_cons, List.map_nil]); first | done | rfl | (simp only [List.length_drop, List.length_take]; rfl)) ?_; (with_reducible refine (impl_pairCoding_number.calls a0_0 _ _ y142 t150 _ ?side1 ?side2 A15.out).mono ?_); (case side1 => repeat (first | exact (Kd.V_reads' HO146.out).2.2 | (with_reducible refine Kd.C_alloc ?_ _) | (with_reducible refine Kd.C_drewN ?_ _) | (with_reducible refine Kd.C_drew ?_))); (case side2 => exact (Kd.V_reads' HO146.out).2.1); rintro e w25 ⟨rfl, hb⟩; refine ⟨_, rfl, ?_⟩; have n0_ := aMk (Kd.V_below (by (with_reducible repeat (first | apply Kd.V_alloc | apply Kd.V_drewN | apply Kd.V_drew)); exact HO_1.out) hb); have n1_ := aMk (Kd.R_below (by (with_reducible repeat (first | apply Kd.R_alloc | apply Kd.R_drewN | apply Kd.R_drew)); exact HO_5.out) hb); have n2_ := aMk (Kd.V_below (by (with_reducible repeat (first | apply Kd.V_alloc | apply Kd.V_drewN | apply Kd.V_drew)); exact HO146.out) hb); have n3_ := aMk (blk_below (g := gb132) (o := .cells #[.bool a0_0] 86 (0, 0)) (by (with_reducible repeat (first | refine bkD ?_ _ | refine blk_drew ?_ | refine bkA ?_ _)); exact BK132.out) hb); have n4_ := aMk (below_step (by repeat (first | (with_reducible first | exact HB.out | apply bAl | apply bDn | apply bD1 | refine bSe ?_ GE132.out) | exact HB.out)) hb); clear HO_1; clear HO_5; clear HO146; clear BK132; clear HB; have HO_1 := n0_; have HO_5 := n1_; have HO146 := n2_; have BK132 := n3_; have HB := n4_; clear n0_ n1_ n2_ n3_ n4_; (try clear hb); (try clear hb2); (try clear hk); (try clear hi); have q26 : (2 : Int) ≤ ((y142.length : Int) : Int) := oDt (by first | (with_reducible assumption) | assumption); obtain ⟨i026, hi026, _, hsz26, _⟩ := info_parts info5; have hroom26 : y142.length ≤ c21 := (Kd.V_reads' HO146.out).2.1; have hC26 : Kd.F (Kd.int .u8) _ _ A21 y142.length y142 := (Kd.V_at (base := w.heap.size) HO146.out).2.2; have hcut26 := cut_from (P := Try.prog) 22 5 .i64 Try.underlying22 hi026 1 hsz26 A21 y142.length c21 2 (by omega) q26; have hr26 := Kd.F_cut (m := (2 : Int).toNat) (c := c21) hC26 (by omega) hroom26; obtain ⟨A26, hA26⟩ : ∃ A1, A1 = (if c21 = (2 : Int).toNat then A21 else (A21 : Option Addr).map (·.add ((2 : Int).toNat * 1))) := ⟨_, rfl⟩; obtain ⟨c26, hc26⟩ : ∃ c1, c1 = c21 - (2 : Int).toNat := ⟨_, rfl⟩; have hy26 : y151.length = y142.length - (2 : Int).toNat := (by rw [Ny151.out, List.length_drop] <;> omega); rw [show (y142).drop (2 : Int).toNat = y151 from Ny151.out.symm] at hr26; replace hr26 : Kd.F (Kd.int .u8) _ _ A26 y151.length y151 := (by rw [hA26]; exact hr26); rw [← hy26, ← hA26, ← hc26] at hcut26; have HO155 := aMk (show Kd.V (Kd.int .u8) 5 _ w.heap.size _ (.slice A26 y151.length c26) y151 from Kd.V_mk (by rw [hy26, hc26]; exact Nat.sub_le_sub_right hroom26 _) hr26); have HC155 := aMk (show y151.length ≤ c26 from by rw [hy26, hc26]; exact Nat.sub_le_sub_right hroom26 _); clear hr26 hC26 hroom26 hi026 hsz26 hc26; have KY26 := aMk hy26; have KA26 := aMk hA26; clear hy26 hA26; replace q26 := eq_true q26) | ((with_reducible refine gate_builtin (b := .append) (xs := #[.tmp 40, .tmp 42]) rfl ?_); (try (refine gate_guard (by rfl) ?_; dsimp only)); at_builtin; refine Kd.R_append (Kd.int .i64) (w0 := w) w.heap.size rfl (.tmp 40) (.tmp 42) 24 3 (.int .i64 0) 8 rfl Try.underlying24 info3 rfl (by decide) (by omega) u5 x5_1 (wrap64 ((wrap64 (65536 + (wrap64 (1024 * (wrap64 (t141 - 55296)))))) + (wrap64 (t150 - 56320)))) [.int .i64 (wrap64 ((wrap64 (65536 + (wrap64 (1024 * (wrap64 (t141 - 55296)))))) + (wrap64 (t150 - 56320))))] (fun k_ => (w.heap.size ≤ k_)) (fun _ => False) rfl rfl ?aP (fun _ hk => hk.elim) ?aF ?aO ?aB ?aS ?aL ?_; (case aP => exact rfl); (case aB => exact (by repeat (first | (with_reducible first | exact HB.out | apply bAl | apply bDn | apply bD1 | refine bSe ?_ GE132.out) | exact HB.out))); (case aF => exact (fun k_ hk => (Nat.le_trans (below_size (by repeat (first | (with_reducible first | exact HB.out | apply bAl | apply bDn | apply bD1 | refine bSe ?_ GE132.out) | exact HB.out))) hk))); (case aO => exact (by (with_reducible repeat (first | apply Kd.R_alloc | apply Kd.R_drewN | apply Kd.R_drew)); exact HO_5.out)); (case aS => exact (below_size (by repeat (first | (with_reducible first | exact HB.out | apply bAl | apply bDn | apply bD1 | refine bSe ?_ GE132.out) | exact HB.out)))); (case aL => have := LMc17.out; omega); intro v157 w27 ho hb hg hat; rw [← Ny156.out] at ho; have n0_ := aMk (Kd.V_afterv (ok := (fun k_ => (P1_ k_ ∨ w.heap.size ≤ k_) ∧ k_ ≠ gb132)) (by (with_reducible repeat (first | apply Kd.V_alloc | apply Kd.V_drewN | apply Kd.V_drew)); exact Kd.V_mono HO_1.out (fun _ hk => ⟨⟨hk.1, hk.2.2⟩, hk.2.1⟩)) hg hat); have n1_ := aMk (blk_grown (g := gb132) (o := .cells #[.bool a0_0] 86 (0, 0)) (by (with_reducible repeat (first | refine bkD ?_ _ | refine blk_drew ?_ | refine bkA ?_ _)); exact BK132.out) hg (Kd.R_ne HO_5.out BK132.out (by decide))); have n2_ := aMk (Kd.V_afterv (ok := (fun k_ => (P1_ k_ ∨ w.heap.size ≤ k_) ∧ k_ ≠ gb132)) (by (with_reducible repeat (first | apply Kd.V_alloc | apply Kd.V_drewN | apply Kd.V_drew)); exact Kd.V_mono HO146.out (fun _ hk => ⟨⟨hk.1, hk.2.2⟩, hk.2.1⟩)) hg hat); have n3_ := aMk (Kd.V_afterv (ok := (fun k_ => (P1_ k_ ∨ w.heap.size ≤ k_) ∧ k_ ≠ gb132)) (by (with_reducible repeat (first | apply Kd.V_alloc | apply Kd.V_drewN | apply Kd.V_drew)); exact Kd.V_mono HO155.out (fun _ hk => ⟨⟨hk.1, hk.2.2⟩, hk.2.1⟩)) hg hat); have n4_ := aMk (hb); have n5_ := aMk (ho); clear HO_1; clear BK132; clear HO146; clear HO155; clear HB; clear HO_5; have HO_1 := n0_; have BK132 := n1_; have HO146 := n2_; have HO155 := n3_; have HB := n4_; have HO158 := n5_; clear n0_ n1_ n2_ n3_ n4_ n5_; clear ho hb hg hat))
                 go_roundg k1
                 case measure => have := HK1.out; omega
                 case rel => exact ⟨(y151), (y156), H', ⟨by have := HK1.out; omega⟩, ⟨by (with_reducible repeat (first | apply Kd.V_alloc | apply Kd.V_drewN | apply Kd.V_drew)); exact Kd.V_mono HO155.out (fun _ hk => ⟨hk.1.1, ⟨hk.2, hk.1.2⟩⟩)⟩, ⟨by (with_reducible repeat (first | apply Kd.R_alloc | apply Kd.R_drewN | apply Kd.R_drew)); exact HO158.out⟩, ⟨by (with_reducible repeat (first | refine bkD ?_ _ | refine blk_drew ?_ | refine bkA ?_ _)); exact BK132.out⟩, ⟨by repeat (first | (with_reducible first | exact HB.out | apply bAl | apply bDn | apply bD1 | refine bSe ?_ GE132.out) | exact HB.out)⟩⟩
               · rw [if_neg c17] at H
                 exact absurd H (by simp)
             · rw [if_neg c16] at H
               exact absurd H (by simp)
           · replace c14 := Bool.eq_false_iff.mpr c14
             subst c14
             have H1 : (if x5_1.length < 17592186044416 then (impl_pairCoding_read.l0 k1 y142 (x5_1 ++ [t141]) a0_0) else (none)) = some r := by rw [if_neg (show ¬ (false = true) by decide)] at H; exact H
             clear H
             have H := H1
             clear H1
             by_cases c28 : x5_1.length < 17592186044416
             · rw [if_pos c28] at H
               have LMc28 := aMk c28
               clear c28
               obtain ⟨y159, hy159⟩ : ∃ y_ : List Int, y_ = (x5_1 ++ [t141]) := ⟨_, rfl⟩
               replace H : (impl_pairCoding_read.l0 k1 y142 y159 a0_0) = some r := by first | (rw [hy159]; with_reducible exact H) | (have H2_ := (Option.bind_some _ _).symm.trans H; rw [hy159]; with_reducible exact H2_) | (have H2_ := (Option.bind_some _ _).symm.trans H; with_reducible exact H2_) | with_reducible exact H | (rw [hy159]; exact H) | exact H
               have Ny159 := aMk hy159
               clear hy159
               have H' := aMk H
               clear H
               obtain ⟨Ao29, co29, eo29⟩ := Kd.V_slice HO_1.out
               subst eo29
               have hcz30_0 : wr.cell? ⟨gb132, 0, none⟩ = some (.bool a0_0) := (bCe BK132.out 0).trans rfl
               have hfz30_0 := bFr BK132.out 0
               go_wp2_with (first | ((with_reducible refine gate_callee (f := 99) rfl ?_); refine goesL_ (some 13) rfl rfl Try.func99 (by kernel_rfl) rfl #[.agg #[.bool a0_0], .slice Ao29 x1_1.length co29] rfl (by (try simp only [List.map_toArray, List.map_cons, List.map_nil]); first | done | rfl | (simp only [List.length_drop, List.length_take]; rfl)) ?_; (with_reducible refine (impl_pairCoding_number.calls a0_0 _ _ x1_1 t141 _ ?side1 ?side2 A7.out).mono ?_); (case side1 => repeat (first | exact (Kd.V_reads' HO_1.out).2.2 | (with_reducible refine Kd.C_alloc ?_ _) | (with_reducible refine Kd.C_drewN ?_ _) | (with_reducible refine Kd.C_drew ?_))); (case side2 => exact (Kd.V_reads' HO_1.out).2.1); rintro e w31 ⟨rfl, hb⟩; refine ⟨_, rfl, ?_⟩; have n0_ := aMk (Kd.V_below (by (with_reducible repeat (first | apply Kd.V_alloc | apply Kd.V_drewN | apply Kd.V_drew)); exact HO_1.out) hb); have n1_ := aMk (Kd.R_below (by (with_reducible repeat (first | apply Kd.R_alloc | apply Kd.R_drewN | apply Kd.R_drew)); exact HO_5.out) hb); have n2_ := aMk (blk_below (g := gb132) (o := .cells #[.bool a0_0] 86 (0, 0)) (by (with_reducible repeat (first | refine bkD ?_ _ | refine blk_drew ?_ | refine bkA ?_ _)); exact BK132.out) hb); have n3_ := aMk (below_step (by repeat (first | (with_reducible first | exact HB.out | apply bAl | apply bDn | apply bD1 | refine bSe ?_ GE132.out) | exact HB.out)) hb); clear HO_1; clear HO_5; clear BK132; clear HB; have HO_1 := n0_; have HO_5 := n1_; have BK132 := n2_; have HB := n3_; clear n0_ n1_ n2_ n3_; (try clear hb); (try clear hb2); (try clear hk); (try clear hi); have q32 : (2 : Int) ≤ ((x1_1.length : Int) : Int) := oDt (by first | (with_reducible assumption) | assumption); obtain ⟨i032, hi032, _, hsz32, _⟩ := info_parts info5; have hroom32 : x1_1.length ≤ co29 := (Kd.V_reads' HO_1.out).2.1; have hC32 : Kd.F (Kd.int .u8) _ _ Ao29 x1_1.length x1_1 := (Kd.V_at (base := w.heap.size) HO_1.out).2.2; have hcut32 := cut_from (P := Try.prog) 22 5 .i64 Try.underlying22 hi032 1 hsz32 Ao29 x1_1.length co29 2 (by omega) q32; have hr32 := Kd.F_cut (m := (2 : Int).toNat) (c := co29) hC32 (by omega) hroom32; obtain ⟨A32, hA32⟩ : ∃ A1, A1 = (if co29 = (2 : Int).toNat then Ao29 else (Ao29 : Option Addr).map (·.add ((2 : Int).toNat * 1))) := ⟨_, rfl⟩; obtain ⟨c32, hc32⟩ : ∃ c1, c1 = co29 - (2 : Int).toNat := ⟨_, rfl⟩; have hy32 : y142.length = x1_1.length - (2 : Int).toNat := (by rw [Ny142.out, List.length_drop] <;> omega); rw [show (x1_1).drop (2 : Int).toNat = y142 from Ny142.out.symm] at hr32; replace hr32 : Kd.F (Kd.int .u8) _ _ A32 y142.length y142 := (by rw [hA32]; exact hr32); rw [← hy32, ← hA32, ← hc32] at hcut32; have HO146 := aMk (show Kd.V (Kd.int .u8) 5 _ w.heap.size _ (.slice A32 y142.length c32) y142 from Kd.V_mk (by rw [hy32, hc32]; exact Nat.sub_le_sub_right hroom32 _) hr32); have HC146 := aMk (show y142.length ≤ c32 from by rw [hy32, hc32]; exact Nat.sub_le_sub_right hroom32 _); clear hr32 hC32 hroom32 hi032 hsz32 hc32; have KY32 := aMk hy32; have KA32 := aMk hA32; clear hy32 hA32; replace q32 := eq_true q32) | ((with_reducible refine gate_callee (f := 98) rfl ?_); refine goesL_ (some 17) rfl rfl Try.func98 (by kernel_rfl) rfl #[.int .i64 t141] rfl (by (try simp only [List.map_toArray, List.map_cons, List.map_nil]); first | done | rfl | (simp only [List.length_drop, List.length_take]; rfl)) ?_; (with_reducible refine (impl_isHigh.calls t141 true _ A9.out).mono ?_); rintro e w' ⟨rfl, ⟨nd, rfl⟩⟩; refine ⟨_, rfl, ?_⟩; have hcz33_0 : w31.cell? ⟨gb132, 0, none⟩ = some (.bool a0_0) := (bCe BK132.out 0).trans rfl; have hfz33_0 := bFr BK132.out 0) | (go_at_call 99; (with_reducible refine (impl_pairCoding_number.calls a0_0 _ _ y142 t148 _ ?side1 ?side2 A12.out).mono ?_); (case side1 => repeat (first | exact (Kd.V_reads' HO146.out).2.2 | (with_reducible refine Kd.C_alloc ?_ _) | (with_reducible refine Kd.C_drewN ?_ _) | (with_reducible refine Kd.C_drew ?_))); (case side2 => exact (Kd.V_reads' HO146.out).2.1); rintro e w34 ⟨rfl, hb⟩; have n0_ := aMk (Kd.V_below (by (with_reducible repeat (first | apply Kd.V_alloc | apply Kd.V_drewN | apply Kd.V_drew)); exact HO_1.out) hb); have n1_ := aMk (Kd.R_below (by (with_reducible repeat (first | apply Kd.R_alloc | apply Kd.R_drewN | apply Kd.R_drew)); exact HO_5.out) hb); have n2_ := aMk (Kd.V_below (by (with_reducible repeat (first | apply Kd.V_alloc | apply Kd.V_drewN | apply Kd.V_drew)); exact HO146.out) hb); have n3_ := aMk (blk_below (g := gb132) (o := .cells #[.bool a0_0] 86 (0, 0)) (by (with_reducible repeat (first | refine bkD ?_ _ | refine blk_drew ?_ | refine bkA ?_ _)); exact BK132.out) hb); have n4_ := aMk (below_step (by repeat (first | (with_reducible first | exact HB.out | apply bAl | apply bDn | apply bD1 | refine bSe ?_ GE132.out) | exact HB.out)) hb); clear HO_1; clear HO_5; clear HO146; clear BK132; clear HB; have HO_1 := n0_; have HO_5 := n1_; have HO146 := n2_; have BK132 := n3_; have HB := n4_; clear n0_ n1_ n2_ n3_ n4_; (try clear hb); (try clear hb2); (try clear hk); (try clear hi)) | (go_at_call 100; (with_reducible refine (impl_isLow.calls t148 false _ A13.out).mono ?_); rintro e w' ⟨rfl, ⟨nd, rfl⟩⟩) | ((with_reducible refine gate_builtin (b := .append) (xs := #[.tmp 40, .tmp 42]) rfl ?_); (try (refine gate_guard (by rfl) ?_; dsimp only)); at_builtin; refine Kd.R_append (Kd.int .i64) (w0 := w) w.heap.size rfl (.tmp 40) (.tmp 42) 24 3 (.int .i64 0) 8 rfl Try.underlying24 info3 rfl (by decide) (by omega) u5 x5_1 t141 [.int .i64 t141] (fun k_ => (w.heap.size ≤ k_)) (fun _ => False) rfl rfl ?aP (fun _ hk => hk.elim) ?aF ?aO ?aB ?aS ?aL ?_; (case aP => exact rfl); (case aB => exact (by repeat (first | (with_reducible first | exact HB.out | apply bAl | apply bDn | apply bD1 | refine bSe ?_ GE132.out) | exact HB.out))); (case aF => exact (fun k_ hk => (Nat.le_trans (below_size (by repeat (first | (with_reducible first | exact HB.out | apply bAl | apply bDn | apply bD1 | refine bSe ?_ GE132.out) | exact HB.out))) hk))); (case aO => exact (by (with_reducible repeat (first | apply Kd.R_alloc | apply Kd.R_drewN | apply Kd.R_drew)); exact HO_5.out)); (case aS => exact (below_size (by repeat (first | (with_reducible first | exact HB.out | apply bAl | apply bDn | apply bD1 | refine bSe ?_ GE132.out) | exact HB.out)))); (case aL => have := LMc28.out; omega); intro v160 w35 ho hb hg hat; rw [← Ny159.out] at ho; have n0_ := aMk (Kd.V_afterv (ok := (fun k_ => (P1_ k_ ∨ w.heap.size ≤ k_) ∧ k_ ≠ gb132)) (by (with_reducible repeat (first | apply Kd.V_alloc | apply Kd.V_drewN | apply Kd.V_drew)); exact Kd.V_mono HO_1.out (fun _ hk => ⟨⟨hk.1, hk.2.2⟩, hk.2.1⟩)) hg hat); have n1_ := aMk (blk_grown (g := gb132) (o := .cells #[.bool a0_0] 86 (0, 0)) (by (with_reducible repeat (first | refine bkD ?_ _ | refine blk_drew ?_ | refine bkA ?_ _)); exact BK132.out) hg (Kd.R_ne HO_5.out BK132.out (by decide))); have n2_ := aMk (Kd.V_afterv (ok := (fun k_ => (P1_ k_ ∨ w.heap.size ≤ k_) ∧ k_ ≠ gb132)) (by (with_reducible repeat (first | apply Kd.V_alloc | apply Kd.V_drewN | apply Kd.V_drew)); exact Kd.V_mono HO146.out (fun _ hk => ⟨⟨hk.1, hk.2.2⟩, hk.2.1⟩)) hg hat); have n3_ := aMk (hb); have n4_ := aMk (ho); clear HO_1; clear BK132; clear HO146; clear HB; clear HO_5; have HO_1 := n0_; have BK132 := n1_; have HO146 := n2_; have HB := n3_; have HO161 := n4_; clear n0_ n1_ n2_ n3_ n4_; clear ho hb hg hat))
               go_roundg k1
               case measure => have := HK1.out; omega
               case rel => exact ⟨(y142), (y159), H', ⟨by have := HK1.out; omega⟩, ⟨by (with_reducible repeat (first | apply Kd.V_alloc | apply Kd.V_drewN | apply Kd.V_drew)); exact Kd.V_mono HO146.out (fun _ hk => ⟨hk.1.1, ⟨hk.2, hk.1.2⟩⟩)⟩, ⟨by (with_reducible repeat (first | apply Kd.R_alloc | apply Kd.R_drewN | apply Kd.R_drew)); exact HO161.out⟩, ⟨by (with_reducible repeat (first | refine bkD ?_ _ | refine blk_drew ?_ | refine bkA ?_ _)); exact BK132.out⟩, ⟨by repeat (first | (with_reducible first | exact HB.out | apply bAl | apply bDn | apply bD1 | refine bSe ?_ GE132.out) | exact HB.out)⟩⟩
             · rw [if_neg c28] at H
               exact absurd H (by simp)
         · rw [if_neg c11] at H
           have c11b0 : decide (1 < (y142.length : Int)) = false := decide_eq_false c11
           have c11b1 : decide (1 < y142.length) = false := decide_eq_false (by omega)
           clear c11
           by_cases c36 : x5_1.length < 17592186044416
           · rw [if_pos c36] at H
             have LMc36 := aMk c36
             clear c36
             obtain ⟨y162, hy162⟩ : ∃ y_ : List Int, y_ = (x5_1 ++ [t141]) := ⟨_, rfl⟩
             replace H : (impl_pairCoding_read.l0 k1 y142 y162 a0_0) = some r := by first | (rw [hy162]; with_reducible exact H) | (have H2_ := (Option.bind_some _ _).symm.trans H; rw [hy162]; with_reducible exact H2_) | (have H2_ := (Option.bind_some _ _).symm.trans H; with_reducible exact H2_) | with_reducible exact H | (rw [hy162]; exact H) | exact H
             have Ny162 := aMk hy162
             clear hy162
             have H' := aMk H
             clear H
             obtain ⟨Ao37, co37, eo37⟩ := Kd.V_slice HO_1.out
             subst eo37
             have hcz38_0 : wr.cell? ⟨gb132, 0, none⟩ = some (.bool a0_0) := (bCe BK132.out 0).trans rfl
             have hfz38_0 := bFr BK132.out 0
             go_wp2_with (first | ((with_reducible refine gate_callee (f := 99) rfl ?_); refine goesL_ (some 13) rfl rfl Try.func99 (by kernel_rfl) rfl #[.agg #[.bool a0_0], .slice Ao37 x1_1.length co37] rfl (by (try simp only [List.map_toArray, List.map_cons, List.map_nil]); first | done | rfl | (simp only [List.length_drop, List.length_take]; rfl)) ?_; (with_reducible refine (impl_pairCoding_number.calls a0_0 _ _ x1_1 t141 _ ?side1 ?side2 A7.out).mono ?_); (case side1 => repeat (first | exact (Kd.V_reads' HO_1.out).2.2 | (with_reducible refine Kd.C_alloc ?_ _) | (with_reducible refine Kd.C_drewN ?_ _) | (with_reducible refine Kd.C_drew ?_))); (case side2 => exact (Kd.V_reads' HO_1.out).2.1); rintro e w39 ⟨rfl, hb⟩; refine ⟨_, rfl, ?_⟩; have n0_ := aMk (Kd.V_below (by (with_reducible repeat (first | apply Kd.V_alloc | apply Kd.V_drewN | apply Kd.V_drew)); exact HO_1.out) hb); have n1_ := aMk (Kd.R_below (by (with_reducible repeat (first | apply Kd.R_alloc | apply Kd.R_drewN | apply Kd.R_drew)); exact HO_5.out) hb); have n2_ := aMk (blk_below (g := gb132) (o := .cells #[.bool a0_0] 86 (0, 0)) (by (with_reducible repeat (first | refine bkD ?_ _ | refine blk_drew ?_ | refine bkA ?_ _)); exact BK132.out) hb); have n3_ := aMk (below_step (by repeat (first | (with_reducible first | exact HB.out | apply bAl | apply bDn | apply bD1 | refine bSe ?_ GE132.out) | exact HB.out)) hb); clear HO_1; clear HO_5; clear BK132; clear HB; have HO_1 := n0_; have HO_5 := n1_; have BK132 := n2_; have HB := n3_; clear n0_ n1_ n2_ n3_; (try clear hb); (try clear hb2); (try clear hk); (try clear hi); have q40 : (2 : Int) ≤ ((x1_1.length : Int) : Int) := oDt (by first | (with_reducible assumption) | assumption); obtain ⟨i040, hi040, _, hsz40, _⟩ := info_parts info5; have hroom40 : x1_1.length ≤ co37 := (Kd.V_reads' HO_1.out).2.1; have hC40 : Kd.F (Kd.int .u8) _ _ Ao37 x1_1.length x1_1 := (Kd.V_at (base := w.heap.size) HO_1.out).2.2; have hcut40 := cut_from (P := Try.prog) 22 5 .i64 Try.underlying22 hi040 1 hsz40 Ao37 x1_1.length co37 2 (by omega) q40; have hr40 := Kd.F_cut (m := (2 : Int).toNat) (c := co37) hC40 (by omega) hroom40; obtain ⟨A40, hA40⟩ : ∃ A1, A1 = (if co37 = (2 : Int).toNat then Ao37 else (Ao37 : Option Addr).map (·.add ((2 : Int).toNat * 1))) := ⟨_, rfl⟩; obtain ⟨c40, hc40⟩ : ∃ c1, c1 = co37 - (2 : Int).toNat := ⟨_, rfl⟩; have hy40 : y142.length = x1_1.length - (2 : Int).toNat := (by rw [Ny142.out, List.length_drop] <;> omega); rw [show (x1_1).drop (2 : Int).toNat = y142 from Ny142.out.symm] at hr40; replace hr40 : Kd.F (Kd.int .u8) _ _ A40 y142.length y142 := (by rw [hA40]; exact hr40); rw [← hy40, ← hA40, ← hc40] at hcut40; have HO146 := aMk (show Kd.V (Kd.int .u8) 5 _ w.heap.size _ (.slice A40 y142.length c40) y142 from Kd.V_mk (by rw [hy40, hc40]; exact Nat.sub_le_sub_right hroom40 _) hr40); have HC146 := aMk (show y142.length ≤ c40 from by rw [hy40, hc40]; exact Nat.sub_le_sub_right hroom40 _); clear hr40 hC40 hroom40 hi040 hsz40 hc40; have KY40 := aMk hy40; have KA40 := aMk hA40; clear hy40 hA40; replace q40 := eq_true q40) | ((with_reducible refine gate_callee (f := 98) rfl ?_); refine goesL_ (some 17) rfl rfl Try.func98 (by kernel_rfl) rfl #[.int .i64 t141] rfl (by (try simp only [List.map_toArray, List.map_cons, List.map_nil]); first | done | rfl | (simp only [List.length_drop, List.length_take]; rfl)) ?_; (with_reducible refine (impl_isHigh.calls t141 true _ A9.out).mono ?_); rintro e w' ⟨rfl, ⟨nd, rfl⟩⟩; refine ⟨_, rfl, ?_⟩) | ((with_reducible refine gate_builtin (b := .append) (xs := #[.tmp 40, .tmp 42]) rfl ?_); (try (refine gate_guard (by rfl) ?_; dsimp only)); at_builtin; refine Kd.R_append (Kd.int .i64) (w0 := w) w.heap.size rfl (.tmp 40) (.tmp 42) 24 3 (.int .i64 0) 8 rfl Try.underlying24 info3 rfl (by decide) (by omega) u5 x5_1 t141 [.int .i64 t141] (fun k_ => (w.heap.size ≤ k_)) (fun _ => False) rfl rfl ?aP (fun _ hk => hk.elim) ?aF ?aO ?aB ?aS ?aL ?_; (case aP => exact rfl); (case aB => exact (by repeat (first | (with_reducible first | exact HB.out | apply bAl | apply bDn | apply bD1 | refine bSe ?_ GE132.out) | exact HB.out))); (case aF => exact (fun k_ hk => (Nat.le_trans (below_size (by repeat (first | (with_reducible first | exact HB.out | apply bAl | apply bDn | apply bD1 | refine bSe ?_ GE132.out) | exact HB.out))) hk))); (case aO => exact (by (with_reducible repeat (first | apply Kd.R_alloc | apply Kd.R_drewN | apply Kd.R_drew)); exact HO_5.out)); (case aS => exact (below_size (by repeat (first | (with_reducible first | exact HB.out | apply bAl | apply bDn | apply bD1 | refine bSe ?_ GE132.out) | exact HB.out)))); (case aL => have := LMc36.out; omega); intro v163 w41 ho hb hg hat; rw [← Ny162.out] at ho; have n0_ := aMk (Kd.V_afterv (ok := (fun k_ => (P1_ k_ ∨ w.heap.size ≤ k_) ∧ k_ ≠ gb132)) (by (with_reducible repeat (first | apply Kd.V_alloc | apply Kd.V_drewN | apply Kd.V_drew)); exact Kd.V_mono HO_1.out (fun _ hk => ⟨⟨hk.1, hk.2.2⟩, hk.2.1⟩)) hg hat); have n1_ := aMk (blk_grown (g := gb132) (o := .cells #[.bool a0_0] 86 (0, 0)) (by (with_reducible repeat (first | refine bkD ?_ _ | refine blk_drew ?_ | refine bkA ?_ _)); exact BK132.out) hg (Kd.R_ne HO_5.out BK132.out (by decide))); have n2_ := aMk (Kd.V_afterv (ok := (fun k_ => (P1_ k_ ∨ w.heap.size ≤ k_) ∧ k_ ≠ gb132)) (by (with_reducible repeat (first | apply Kd.V_alloc | apply Kd.V_drewN | apply Kd.V_drew)); exact Kd.V_mono HO146.out (fun _ hk => ⟨⟨hk.1, hk.2.2⟩, hk.2.1⟩)) hg hat); have n3_ := aMk (hb); have n4_ := aMk (ho); clear HO_1; clear BK132; clear HO146; clear HB; clear HO_5; have HO_1 := n0_; have BK132 := n1_; have HO146 := n2_; have HB := n3_; have HO164 := n4_; clear n0_ n1_ n2_ n3_ n4_; clear ho hb hg hat))
             go_roundg k1
             case measure => have := HK1.out; omega
             case rel => exact ⟨(y142), (y162), H', ⟨by have := HK1.out; omega⟩, ⟨by (with_reducible repeat (first | apply Kd.V_alloc | apply Kd.V_drewN | apply Kd.V_drew)); exact Kd.V_mono HO146.out (fun _ hk => ⟨hk.1.1, ⟨hk.2, hk.1.2⟩⟩)⟩, ⟨by (with_reducible repeat (first | apply Kd.R_alloc | apply Kd.R_drewN | apply Kd.R_drew)); exact HO164.out⟩, ⟨by (with_reducible repeat (first | refine bkD ?_ _ | refine blk_drew ?_ | refine bkA ?_ _)); exact BK132.out⟩, ⟨by repeat (first | (with_reducible first | exact HB.out | apply bAl | apply bDn | apply bD1 | refine bSe ?_ GE132.out) | exact HB.out)⟩⟩
           · rw [if_neg c36] at H
             exact absurd H (by simp)
       · replace c10 := Bool.eq_false_iff.mpr c10
         subst c10
         have H1 : (if x5_1.length < 17592186044416 then (impl_pairCoding_read.l0 k1 y142 (x5_1 ++ [t141]) a0_0) else (none)) = some r := by rw [if_neg (show ¬ (false = true) by decide)] at H; exact H
         clear H
         have H := H1
         clear H1
         by_cases c42 : x5_1.length < 17592186044416
         · rw [if_pos c42] at H
           have LMc42 := aMk c42
           clear c42
           obtain ⟨y165, hy165⟩ : ∃ y_ : List Int, y_ = (x5_1 ++ [t141]) := ⟨_, rfl⟩
           replace H : (impl_pairCoding_read.l0 k1 y142 y165 a0_0) = some r := by first | (rw [hy165]; with_reducible exact H) | (have H2_ := (Option.bind_some _ _).symm.trans H; rw [hy165]; with_reducible exact H2_) | (have H2_ := (Option.bind_some _ _).symm.trans H; with_reducible exact H2_) | with_reducible exact H | (rw [hy165]; exact H) | exact H
           have Ny165 := aMk hy165
           clear hy165
           have H' := aMk H
           clear H
           obtain ⟨Ao43, co43, eo43⟩ := Kd.V_slice HO_1.out
           subst eo43
           have hcz44_0 : wr.cell? ⟨gb132, 0, none⟩ = some (.bool a0_0) := (bCe BK132.out 0).trans rfl
           have hfz44_0 := bFr BK132.out 0
           go_wp2_with (first | ((with_reducible refine gate_callee (f := 99) rfl ?_); refine goesL_ (some 13) rfl rfl Try.func99 (by kernel_rfl) rfl #[.agg #[.bool a0_0], .slice Ao43 x1_1.length co43] rfl (by (try simp only [List.map_toArray, List.map_cons, List.map_nil]); first | done | rfl | (simp only [List.length_drop, List.length_take]; rfl)) ?_; (with_reducible refine (impl_pairCoding_number.calls a0_0 _ _ x1_1 t141 _ ?side1 ?side2 A7.out).mono ?_); (case side1 => repeat (first | exact (Kd.V_reads' HO_1.out).2.2 | (with_reducible refine Kd.C_alloc ?_ _) | (with_reducible refine Kd.C_drewN ?_ _) | (with_reducible refine Kd.C_drew ?_))); (case side2 => exact (Kd.V_reads' HO_1.out).2.1); rintro e w45 ⟨rfl, hb⟩; refine ⟨_, rfl, ?_⟩; have n0_ := aMk (Kd.V_below (by (with_reducible repeat (first | apply Kd.V_alloc | apply Kd.V_drewN | apply Kd.V_drew)); exact HO_1.out) hb); have n1_ := aMk (Kd.R_below (by (with_reducible repeat (first | apply Kd.R_alloc | apply Kd.R_drewN | apply Kd.R_drew)); exact HO_5.out) hb); have n2_ := aMk (blk_below (g := gb132) (o := .cells #[.bool a0_0] 86 (0, 0)) (by (with_reducible repeat (first | refine bkD ?_ _ | refine blk_drew ?_ | refine bkA ?_ _)); exact BK132.out) hb); have n3_ := aMk (below_step (by repeat (first | (with_reducible first | exact HB.out | apply bAl | apply bDn | apply bD1 | refine bSe ?_ GE132.out) | exact HB.out)) hb); clear HO_1; clear HO_5; clear BK132; clear HB; have HO_1 := n0_; have HO_5 := n1_; have BK132 := n2_; have HB := n3_; clear n0_ n1_ n2_ n3_; (try clear hb); (try clear hb2); (try clear hk); (try clear hi); have q46 : (2 : Int) ≤ ((x1_1.length : Int) : Int) := oDt (by first | (with_reducible assumption) | assumption); obtain ⟨i046, hi046, _, hsz46, _⟩ := info_parts info5; have hroom46 : x1_1.length ≤ co43 := (Kd.V_reads' HO_1.out).2.1; have hC46 : Kd.F (Kd.int .u8) _ _ Ao43 x1_1.length x1_1 := (Kd.V_at (base := w.heap.size) HO_1.out).2.2; have hcut46 := cut_from (P := Try.prog) 22 5 .i64 Try.underlying22 hi046 1 hsz46 Ao43 x1_1.length co43 2 (by omega) q46; have hr46 := Kd.F_cut (m := (2 : Int).toNat) (c := co43) hC46 (by omega) hroom46; obtain ⟨A46, hA46⟩ : ∃ A1, A1 = (if co43 = (2 : Int).toNat then Ao43 else (Ao43 : Option Addr).map (·.add ((2 : Int).toNat * 1))) := ⟨_, rfl⟩; obtain ⟨c46, hc46⟩ : ∃ c1, c1 = co43 - (2 : Int).toNat := ⟨_, rfl⟩; have hy46 : y142.length = x1_1.length - (2 : Int).toNat := (by rw [Ny142.out, List.length_drop] <;> omega); rw [show (x1_1).drop (2 : Int).toNat = y142 from Ny142.out.symm] at hr46; replace hr46 : Kd.F (Kd.int .u8) _ _ A46 y142.length y142 := (by rw [hA46]; exact hr46); rw [← hy46, ← hA46, ← hc46] at hcut46; have HO146 := aMk (show Kd.V (Kd.int .u8) 5 _ w.heap.size _ (.slice A46 y142.length c46) y142 from Kd.V_mk (by rw [hy46, hc46]; exact Nat.sub_le_sub_right hroom46 _) hr46); have HC146 := aMk (show y142.length ≤ c46 from by rw [hy46, hc46]; exact Nat.sub_le_sub_right hroom46 _); clear hr46 hC46 hroom46 hi046 hsz46 hc46; have KY46 := aMk hy46; have KA46 := aMk hA46; clear hy46 hA46; replace q46 := eq_true q46) | ((with_reducible refine gate_callee (f := 98) rfl ?_); refine goesL_ (some 17) rfl rfl Try.func98 (by kernel_rfl) rfl #[.int .i64 t141] rfl (by (try simp only [List.map_toArray, List.map_cons, List.map_nil]); first | done | rfl | (simp only [List.length_drop, List.length_take]; rfl)) ?_; (with_reducible refine (impl_isHigh.calls t141 false _ A9.out).mono ?_); rintro e w' ⟨rfl, ⟨nd, rfl⟩⟩; refine ⟨_, rfl, ?_⟩) | ((with_reducible refine gate_builtin (b := .append) (xs := #[.tmp 40, .tmp 42]) rfl ?_); (try (refine gate_guard (by rfl) ?_; dsimp only)); at_builtin; refine Kd.R_append (Kd.int .i64) (w0 := w) w.heap.size rfl (.tmp 40) (.tmp 42) 24 3 (.int .i64 0) 8 rfl Try.underlying24 info3 rfl (by decide) (by omega) u5 x5_1 t141 [.int .i64 t141] (fun k_ => (w.heap.size ≤ k_)) (fun _ => False) rfl rfl ?aP (fun _ hk => hk.elim) ?aF ?aO ?aB ?aS ?aL ?_; (case aP => exact rfl); (case aB => exact (by repeat (first | (with_reducible first | exact HB.out | apply bAl | apply bDn | apply bD1 | refine bSe ?_ GE132.out) | exact HB.out))); (case aF => exact (fun k_ hk => (Nat.le_trans (below_size (by repeat (first | (with_reducible first | exact HB.out | apply bAl | apply bDn | apply bD1 | refine bSe ?_ GE132.out) | exact HB.out))) hk))); (case aO => exact (by (with_reducible repeat (first | apply Kd.R_alloc | apply Kd.R_drewN | apply Kd.R_drew)); exact HO_5.out)); (case aS => exact (below_size (by repeat (first | (with_reducible first | exact HB.out | apply bAl | apply bDn | apply bD1 | refine bSe ?_ GE132.out) | exact HB.out)))); (case aL => have := LMc42.out; omega); intro v166 w47 ho hb hg hat; rw [← Ny165.out] at ho; have n0_ := aMk (Kd.V_afterv (ok := (fun k_ => (P1_ k_ ∨ w.heap.size ≤ k_) ∧ k_ ≠ gb132)) (by (with_reducible repeat (first | apply Kd.V_alloc | apply Kd.V_drewN | apply Kd.V_drew)); exact Kd.V_mono HO_1.out (fun _ hk => ⟨⟨hk.1, hk.2.2⟩, hk.2.1⟩)) hg hat); have n1_ := aMk (blk_grown (g := gb132) (o := .cells #[.bool a0_0] 86 (0, 0)) (by (with_reducible repeat (first | refine bkD ?_ _ | refine blk_drew ?_ | refine bkA ?_ _)); exact BK132.out) hg (Kd.R_ne HO_5.out BK132.out (by decide))); have n2_ := aMk (Kd.V_afterv (ok := (fun k_ => (P1_ k_ ∨ w.heap.size ≤ k_) ∧ k_ ≠ gb132)) (by (with_reducible repeat (first | apply Kd.V_alloc | apply Kd.V_drewN | apply Kd.V_drew)); exact Kd.V_mono HO146.out (fun _ hk => ⟨⟨hk.1, hk.2.2⟩, hk.2.1⟩)) hg hat); have n3_ := aMk (hb); have n4_ := aMk (ho); clear HO_1; clear BK132; clear HO146; clear HB; clear HO_5; have HO_1 := n0_; have BK132 := n1_; have HO146 := n2_; have HB := n3_; have HO167 := n4_; clear n0_ n1_ n2_ n3_ n4_; clear ho hb hg hat))
           go_roundg k1
           case measure => have := HK1.out; omega
           case rel => exact ⟨(y142), (y165), H', ⟨by have := HK1.out; omega⟩, ⟨by (with_reducible repeat (first | apply Kd.V_alloc | apply Kd.V_drewN | apply Kd.V_drew)); exact Kd.V_mono HO146.out (fun _ hk => ⟨hk.1.1, ⟨hk.2, hk.1.2⟩⟩)⟩, ⟨by (with_reducible repeat (first | apply Kd.R_alloc | apply Kd.R_drewN | apply Kd.R_drew)); exact HO167.out⟩, ⟨by (with_reducible repeat (first | refine bkD ?_ _ | refine blk_drew ?_ | refine bkA ?_ _)); exact BK132.out⟩, ⟨by repeat (first | (with_reducible first | exact HB.out | apply bAl | apply bDn | apply bD1 | refine bSe ?_ GE132.out) | exact HB.out)⟩⟩
         · rw [if_neg c42] at H
           exact absurd H (by simp)
     · rw [if_neg c8] at H
       exact absurd H (by simp)
   · rw [if_neg c6] at H
     have c6b0 : decide (1 < (x1_1.length : Int)) = false := decide_eq_false c6
     have c6b1 : decide (1 < x1_1.length) = false := decide_eq_false (by omega)
     clear c6
     by_cases c48 : (x1_1.length : Int) = 1
     · rw [if_pos c48] at H
       have c48b0 : ((x1_1.length : Int) == 1) = true := beq_iff_eq.mpr c48
       have c48b1 : ((x1_1.length : Int) != 1) = false := bne_eq_false_iff_eq.mpr c48
       clear c48
       by_cases c49 : x5_1.length < 17592186044416
       · rw [if_pos c49] at H
         have LMc49 := aMk c49
         clear c49
         obtain ⟨y136, hy136⟩ : ∃ y_ : List Int, y_ = (x5_1 ++ [(-1)]) := ⟨_, rfl⟩
         replace H : ((impl_Encode.f y136).bind fun t139 => (some t139)) = some r := by first | (rw [hy136]; with_reducible exact H) | (have H2_ := (Option.bind_some _ _).symm.trans H; rw [hy136]; with_reducible exact H2_) | (have H2_ := (Option.bind_some _ _).symm.trans H; with_reducible exact H2_) | with_reducible exact H | (rw [hy136]; exact H) | exact H
         have Ny136 := aMk hy136
         clear hy136
         replace H := oBm H
         obtain ⟨t139, A500, H⟩ := H
         replace H : (some t139) = some r := H
         have A50 := aMk A500
         clear A500
         obtain rfl := Option.some.inj H
         obtain ⟨Ao51, co51, eo51⟩ := Kd.V_slice HO_1.out
         subst eo51
         go_wp2_with (first | ((with_reducible refine gate_builtin (b := .append) (xs := #[.tmp 47, .tmp 48]) rfl ?_); (try (refine gate_guard (by rfl) ?_; dsimp only)); at_builtin; refine Kd.R_append (Kd.int .i64) (w0 := w) w.heap.size rfl (.tmp 47) (.tmp 48) 24 3 (.int .i64 0) 8 rfl Try.underlying24 info3 rfl (by decide) (by omega) u5 x5_1 (-1) [.int .i64 (-1)] (fun k_ => (w.heap.size ≤ k_)) (fun _ => False) rfl rfl ?aP (fun _ hk => hk.elim) ?aF ?aO ?aB ?aS ?aL ?_; (case aP => exact rfl); (case aB => exact (by repeat (first | (with_reducible first | exact HB.out | apply bAl | apply bDn | apply bD1 | refine bSe ?_ GE132.out) | exact HB.out))); (case aF => exact (fun k_ hk => (Nat.le_trans (below_size (by repeat (first | (with_reducible first | exact HB.out | apply bAl | apply bDn | apply bD1 | refine bSe ?_ GE132.out) | exact HB.out))) hk))); (case aO => exact (by (with_reducible repeat (first | apply Kd.R_alloc | apply Kd.R_drewN | apply Kd.R_drew)); exact HO_5.out)); (case aS => exact (below_size (by repeat (first | (with_reducible first | exact HB.out | apply bAl | apply bDn | apply bD1 | refine bSe ?_ GE132.out) | exact HB.out)))); (case aL => have := LMc49.out; omega); intro v137 w52 ho hb hg hat; rw [← Ny136.out] at ho; have n0_ := aMk (Kd.V_afterv (ok := (fun k_ => (P1_ k_ ∨ w.heap.size ≤ k_) ∧ k_ ≠ gb132)) (by (with_reducible repeat (first | apply Kd.V_alloc | apply Kd.V_drewN | apply Kd.V_drew)); exact Kd.V_mono HO_1.out (fun _ hk => ⟨⟨hk.1, hk.2.2⟩, hk.2.1⟩)) hg hat); have n1_ := aMk (blk_grown (g := gb132) (o := .cells #[.bool a0_0] 86 (0, 0)) (by (with_reducible repeat (first | refine bkD ?_ _ | refine blk_drew ?_ | refine bkA ?_ _)); exact BK132.out) hg (Kd.R_ne HO_5.out BK132.out (by decide))); have n2_ := aMk (hb); have n3_ := aMk (ho); clear HO_1; clear BK132; clear HB; clear HO_5; have HO_1 := n0_; have BK132 := n1_; have HB := n2_; have HO138 := n3_; clear n0_ n1_ n2_ n3_; clear ho hb hg hat; obtain ⟨Ao53, co53, eo53⟩ := Kd.R_slice HO138.out; subst eo53) | ((with_reducible refine gate_callee (f := 10) rfl ?_); refine goesL_ (some 51) rfl rfl Try.func10 (by kernel_rfl) rfl #[.slice Ao53 y136.length co53] rfl (by (try simp only [List.map_toArray, List.map_cons, List.map_nil]); first | done | rfl | (simp only [List.length_drop, List.length_take]; rfl)) ?_; (with_reducible refine (impl_Encode.calls _ _ y136 t139 _ ?side1 ?side2 A50.out).mono ?_); (case side1 => repeat (first | exact (Kd.R_reads' HO138.out).2.2 | (with_reducible refine Kd.C_alloc ?_ _) | (with_reducible refine Kd.C_drewN ?_ _) | (with_reducible refine Kd.C_drew ?_))); (case side2 => exact (Kd.R_reads' HO138.out).2.1); rintro e w54 ⟨rfl, hb⟩; refine ⟨_, rfl, ?_⟩; have n0_ := aMk (Kd.V_below (by (with_reducible repeat (first | apply Kd.V_alloc | apply Kd.V_drewN | apply Kd.V_drew)); exact HO_1.out) hb); have n1_ := aMk (Kd.R_below (by (with_reducible repeat (first | apply Kd.R_alloc | apply Kd.R_drewN | apply Kd.R_drew)); exact HO138.out) hb); have n2_ := aMk (blk_below (g := gb132) (o := .cells #[.bool a0_0] 86 (0, 0)) (by (with_reducible repeat (first | refine bkD ?_ _ | refine blk_drew ?_ | refine bkA ?_ _)); exact BK132.out) hb); have n3_ := aMk (below_step (by repeat (first | (with_reducible first | exact HB.out | apply bAl | apply bDn | apply bD1 | refine bSe ?_ GE132.out) | exact HB.out)) hb); clear HO_1; clear HO138; clear BK132; clear HB; have HO_1 := n0_; have HO138 := n1_; have BK132 := n2_; have HB := n3_; clear n0_ n1_ n2_ n3_; (try clear hb); (try clear hb2); (try clear hk); (try clear hi)))
         go_ret
         exact ⟨by first | rfl | (simp [errW_none, errW_some] <;> rfl) | (simp [*, errW_none, errW_some] <;> rfl), by repeat (first | (with_reducible first | exact HB.out | apply bAl | apply bDn | apply bD1 | refine bSe ?_ GE132.out) | exact HB.out)⟩
       · rw [if_neg c49] at H
         exact absurd H (by simp)
     · rw [if_neg c48] at H
       have c48b0 : ((x1_1.length : Int) == 1) = false := beq_eq_false_iff_ne.mpr c48
       have c48b1 : ((x1_1.length : Int) != 1) = true := bne_iff_ne.mpr c48
       replace H := oBm H
       obtain ⟨t140, A550, H⟩ := H
       replace H : (some t140) = some r := H
       have A55 := aMk A550
       clear A550
       obtain rfl := Option.some.inj H
       obtain ⟨Ao56, co56, eo56⟩ := Kd.V_slice HO_1.out
       subst eo56
       obtain ⟨Ao57, co57, eo57⟩ := Kd.R_slice HO_5.out
       subst eo57
       go_wp2_with (first | ((with_reducible refine gate_callee (f := 10) rfl ?_); refine goesL_ (some 51) rfl rfl Try.func10 (by kernel_rfl) rfl #[.slice Ao57 x5_1.length co57] rfl (by (try simp only [List.map_toArray, List.map_cons, List.map_nil]); first | done | rfl | (simp only [List.length_drop, List.length_take]; rfl)) ?_; (with_reducible refine (impl_Encode.calls _ _ x5_1 t140 _ ?side1 ?side2 A55.out).mono ?_); (case side1 => repeat (first | exact (Kd.R_reads' HO_5.out).2.2 | (with_reducible refine Kd.C_alloc ?_ _) | (with_reducible refine Kd.C_drewN ?_ _) | (with_reducible refine Kd.C_drew ?_))); (case side2 => exact (Kd.R_reads' HO_5.out).2.1); rintro e w58 ⟨rfl, hb⟩; refine ⟨_, rfl, ?_⟩; have n0_ := aMk (Kd.V_below (by (with_reducible repeat (first | apply Kd.V_alloc | apply Kd.V_drewN | apply Kd.V_drew)); exact HO_1.out) hb); have n1_ := aMk (Kd.R_below (by (with_reducible repeat (first | apply Kd.R_alloc | apply Kd.R_drewN | apply Kd.R_drew)); exact HO_5.out) hb); have n2_ := aMk (blk_below (g := gb132) (o := .cells #[.bool a0_0] 86 (0, 0)) (by (with_reducible repeat (first | refine bkD ?_ _ | refine blk_drew ?_ | refine bkA ?_ _)); exact BK132.out) hb); have n3_ := aMk (below_step (by repeat (first | (with_reducible first | exact HB.out | apply bAl | apply bDn | apply bD1 | refine bSe ?_ GE132.out) | exact HB.out)) hb); clear HO_1; clear HO_5; clear BK132; clear HB; have HO_1 := n0_; have HO_5 := n1_; have BK132 := n2_; have HB := n3_; clear n0_ n1_ n2_ n3_; (try clear hb); (try clear hb2); (try clear hk); (try clear hi)))
       go_ret
       exact ⟨by first | rfl | (simp [errW_none, errW_some] <;> rfl) | (simp [*, errW_none, errW_some] <;> rfl), by repeat (first | (with_reducible first | exact HB.out | apply bAl | apply bDn | apply bD1 | refine bSe ?_ GE132.out) | exact HB.out)⟩
end Go.Proofs.Ytmffcjjodkggcaa.MFnExactFeedMore
