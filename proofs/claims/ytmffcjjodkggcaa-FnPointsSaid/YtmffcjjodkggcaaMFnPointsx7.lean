-- Written by this session's own program (wip/gen/myprint.py).
import Derived.Test.YtmffcjjodkggcaaMFnPointsx0
import Derived.Test.YtmffcjjodkggcaaMFnPointsx1
import Derived.Test.YtmffcjjodkggcaaMFnPointsx2
import Derived.Test.YtmffcjjodkggcaaMFnPointsx3
import Derived.Test.YtmffcjjodkggcaaMFnPointsx5
import Derived.Test.YtmffcjjodkggcaaMFnPointsx6
namespace Go.Proofs.Ytmffcjjodkggcaa.MFnPoints
open Go.RowKit Go.Proofs.YtmffcjjodkggcaaW.PrintWords Go.Proofs.YtmffcjjodkggcaaW.PrintLast Go.Proofs.YtmffcjjodkggcaaW.PrintMore
attribute [local go_sem] max2_int min2_int max_two min_two max_three min_three max_four min_four   -- for this text's walks alone
set_option linter.unusedVariables false
set_option linter.unusedSimpArgs false

/-! ### laws_FnPoints: function 3 -/
theorem dec_conv_calls (k : Nat) (s : ByteArray) (a1 : Int) (r : ByteArray) (W : World) (h : impl_Decode.f k (bytesOf s) a1 = some r) (hs : s.size ≤ 9223372036854775807) :
    Calls Try.prog 14 #[.slice (some ⟨W.heap.size, 0, none⟩) s.size (grownCap W s.size 0 5), .int .i64 a1] (Lib.bytesWorld W 5 s) fun e w' => e = .returned (.string r) ∧ Below W.heap.size W w' := by
  have hb := bytes_below (Below.refl W.heap.size W) (Nat.le_refl _) 5 s
  have hrd := bytes_reads W 5 s hs
  have hC : Kd.C (Kd.int .u8) (Lib.bytesWorld W 5 s) (some ⟨W.heap.size, 0, none⟩) s.size (bytesOf s) := by
    refine ⟨hrd.1, hrd.2.1, fun hn => ?_⟩
    obtain ⟨ad, e1, hc⟩ := hrd.2.2 hn
    refine ⟨ad, e1, fun j p hj => ?_⟩
    obtain ⟨hl1, hp⟩ := List.getElem?_eq_some_iff.1 hj
    refine ⟨[.int .u8 p], rfl, rfl, fun i u hu => ?_⟩
    have hi : i = 0 := by have := (List.getElem?_eq_some_iff.1 hu).1; simp at this; omega
    subst hi
    have h2 := hc j (by have := hrd.1; omega)
    simp only [List.getElem?_cons_zero, Option.some.injEq] at hu
    subst hu
    rw [show (Kd.int .u8).sz = 1 from rfl, Nat.mul_one, Nat.add_zero, h2, List.getD_eq_getElem?_getD, hj]
    rfl
  have z := impl_Decode.calls k (some ⟨W.heap.size, 0, none⟩) (grownCap W s.size 0 5) (bytesOf s) a1 r (Lib.bytesWorld W 5 s) (by rw [bytesOf_length]; exact hC) (by rw [bytesOf_length]; exact grownCap_ge _ _ _ _) h
  rw [bytesOf_length] at z
  exact z.mono fun e w' ⟨e1, hb1⟩ => ⟨e1, below_then hb hb.size hb1⟩
mutual
def laws_FnPoints.j0 : Nat → List Int → List Int → List Int → Bool → Option (Bool)
  | 0, _, _, _, _ => none
  | k + 1, x0, x3, x5, x31 => if x31 = true then (some false) else (laws_FnPoints.l0 k x0 x3 x5 0)
def laws_FnPoints.l0 : Nat → List Int → List Int → List Int → Int → Option (Bool)
  | 0, _, _, _, _ => none
  | k + 1, x0, x3, x5, x6 => if x6 < (x3.length : Int) then (if 0 ≤ x6 then (if (rd x3 x6) < 0 then (laws_FnPoints.j2 k x0 x3 x5 x6 (rd x3 x6) true) else (if (rd x3 x6) > 1114111 then (laws_FnPoints.j2 k x0 x3 x5 x6 (rd x3 x6) true) else (if (rd x3 x6) ≥ 55296 then (laws_FnPoints.j2 k x0 x3 x5 x6 (rd x3 x6) (decide ((rd x3 x6) ≤ 57343))) else (laws_FnPoints.j2 k x0 x3 x5 x6 (rd x3 x6) false)))) else (none)) else ((spec_DrawCodePoints.f k x0).bind fun t365 => (if (t365.size : Int) ≥ 3 then (if 0 ≤ 3 then (if 3 ≤ (t365.size : Int) then (laws_FnPoints.j3 k x0 t365 ((t365.extract 0 3).toList == ([239, 187, 191] : List UInt8))) else (none)) else (none)) else (laws_FnPoints.j3 k x0 t365 false)))
def laws_FnPoints.j2 : Nat → List Int → List Int → List Int → Int → Int → Bool → Option (Bool)
  | 0, _, _, _, _, _, _ => none
  | k + 1, x0, x3, x5, x6, x7, x55 => if x55 = true then (if 0 ≤ x6 then (if x6 < (x5.length : Int) then (if (rd x5 x6) = 65533 then (laws_FnPoints.l0 k x0 x3 x5 (wrap64 (x6 + 1))) else (some false)) else (none)) else (none)) else (if 0 ≤ x6 then (if x6 < (x5.length : Int) then (if (rd x5 x6) = x7 then (laws_FnPoints.l0 k x0 x3 x5 (wrap64 (x6 + 1))) else (some false)) else (none)) else (none))
def laws_FnPoints.j3 : Nat → List Int → ByteArray → Bool → Option (Bool)
  | 0, _, _, _ => none
  | k + 1, x0, x8, x9 => if x9 = true then (laws_FnPoints.j4 k x0 false) else (if (x8.size : Int) ≤ 60000 then ((impl_CodePoints.f x8).bind fun t366 => ((impl_Encode.f t366).bind fun t369 => ((impl_Decode.f k (bytesOf x8) 0).bind fun t370 => (laws_FnPoints.j4 k x0 (t369.toList != t370.toList))))) else (laws_FnPoints.j4 k x0 false))
def laws_FnPoints.j4 : Nat → List Int → Bool → Option (Bool)
  | 0, _, _ => none
  | k + 1, x0, x87 => if x87 = true then (some false) else ((spec_DrawNewlines.f k x0).bind fun t371 => ((impl_Newlines.f k t371).bind fun t372 => (laws_FnPoints.l1 k t371 t372 0)))
def laws_FnPoints.l1 : Nat → ByteArray → ByteArray → Int → Option (Bool)
  | 0, _, _, _ => none
  | k + 1, x10, x11, x12 => if x12 < (x11.size : Int) then (if 0 ≤ x12 then (if (bt x11 x12) = 13 then (some false) else (if (bt x11 x12) = 0 then (some false) else (laws_FnPoints.l1 k x10 x11 (wrap64 (x12 + 1))))) else (none)) else ((spec_Newlines.f k x10).bind fun t373 => (if x11.toList = t373.toList then ((impl_Newlines.f k x11).bind fun t374 => (some (t374.toList == x11.toList))) else (some false)))
end
def laws_FnPoints.f (k : Nat) (l0 : List Int) : Option (Bool) := (laws_big.f l0).bind fun t353 => (if t353 = true then (some true) else ((spec_DrawEncode.f k l0).bind fun t354 => ((impl_Encode.f t354).bind fun t357 => ((impl_CodePoints.f t357).bind fun t358 => ((spec_Encode.f k t354).bind fun t361 => (if t357.toList = t361.toList then (laws_FnPoints.j0 k l0 t354 t358 ((t358.length : Int) != (t354.length : Int))) else (laws_FnPoints.j0 k l0 t354 t358 true)))))))
theorem laws_FnPoints.mono_l : ∀ k, (∀ y0 y1 y2 y3, LeO (laws_FnPoints.j0 k y0 y1 y2 y3) (laws_FnPoints.j0 (k + 1) y0 y1 y2 y3)) ∧ (∀ y0 y1 y2 y3, LeO (laws_FnPoints.l0 k y0 y1 y2 y3) (laws_FnPoints.l0 (k + 1) y0 y1 y2 y3)) ∧ (∀ y0 y1 y2 y3 y4 y5, LeO (laws_FnPoints.j2 k y0 y1 y2 y3 y4 y5) (laws_FnPoints.j2 (k + 1) y0 y1 y2 y3 y4 y5)) ∧ (∀ y0 y1 y2, LeO (laws_FnPoints.j3 k y0 y1 y2) (laws_FnPoints.j3 (k + 1) y0 y1 y2)) ∧ (∀ y0 y1, LeO (laws_FnPoints.j4 k y0 y1) (laws_FnPoints.j4 (k + 1) y0 y1)) ∧ (∀ y0 y1 y2, LeO (laws_FnPoints.l1 k y0 y1 y2) (laws_FnPoints.l1 (k + 1) y0 y1 y2))
  | 0 => ⟨fun _ _ _ _ r h => by simp [laws_FnPoints.j0] at h, fun _ _ _ _ r h => by simp [laws_FnPoints.l0] at h, fun _ _ _ _ _ _ r h => by simp [laws_FnPoints.j2] at h, fun _ _ _ r h => by simp [laws_FnPoints.j3] at h, fun _ _ r h => by simp [laws_FnPoints.j4] at h, fun _ _ _ r h => by simp [laws_FnPoints.l1] at h⟩
  | k + 1 => by
    obtain ⟨ih0, ih1, ih2, ih3, ih4, ih5⟩ := laws_FnPoints.mono_l k
    refine ⟨?_, ?_, ?_, ?_, ?_, ?_⟩
    · intro y0 y1 y2 y3
      unfold laws_FnPoints.j0
      repeat' first
      | (with_reducible exact ih0 _ _ _ _)
      | (with_reducible exact ih1 _ _ _ _)
      | (with_reducible exact ih2 _ _ _ _ _ _)
      | (with_reducible exact ih3 _ _ _)
      | (with_reducible exact ih4 _ _)
      | (with_reducible exact ih5 _ _ _)
      | (with_reducible exact impl_Decode.mono _ _ _)
      | (with_reducible exact impl_Newlines.mono _ _)
      | (with_reducible exact spec_DrawCodePoints.mono _ _)
      | (with_reducible exact spec_DrawEncode.mono _ _)
      | (with_reducible exact spec_DrawNewlines.mono _ _)
      | (with_reducible exact spec_Encode.mono _ _)
      | (with_reducible exact spec_Newlines.mono _ _)
      | (with_reducible exact LeO.refl _)
      | (with_reducible exact LeO.none _)
      | (with_reducible refine LeO.ite ?_ ?_)
      | (with_reducible refine LeO.bind ?_ (fun _ => ?_))
      | exact ih0 _ _ _ _
      | exact ih1 _ _ _ _
      | exact ih2 _ _ _ _ _ _
      | exact ih3 _ _ _
      | exact ih4 _ _
      | exact ih5 _ _ _
      | exact impl_Decode.mono _ _ _
      | exact impl_Newlines.mono _ _
      | exact spec_DrawCodePoints.mono _ _
      | exact spec_DrawEncode.mono _ _
      | exact spec_DrawNewlines.mono _ _
      | exact spec_Encode.mono _ _
      | exact spec_Newlines.mono _ _
      | exact LeO.none _
      | refine LeO.ite ?_ ?_
      | refine LeO.bind ?_ (fun _ => ?_)
    · intro y0 y1 y2 y3
      unfold laws_FnPoints.l0
      repeat' first
      | (with_reducible exact ih0 _ _ _ _)
      | (with_reducible exact ih1 _ _ _ _)
      | (with_reducible exact ih2 _ _ _ _ _ _)
      | (with_reducible exact ih3 _ _ _)
      | (with_reducible exact ih4 _ _)
      | (with_reducible exact ih5 _ _ _)
      | (with_reducible exact impl_Decode.mono _ _ _)
      | (with_reducible exact impl_Newlines.mono _ _)
      | (with_reducible exact spec_DrawCodePoints.mono _ _)
      | (with_reducible exact spec_DrawEncode.mono _ _)
      | (with_reducible exact spec_DrawNewlines.mono _ _)
      | (with_reducible exact spec_Encode.mono _ _)
      | (with_reducible exact spec_Newlines.mono _ _)
      | (with_reducible exact LeO.refl _)
      | (with_reducible exact LeO.none _)
      | (with_reducible refine LeO.ite ?_ ?_)
      | (with_reducible refine LeO.bind ?_ (fun _ => ?_))
      | exact ih0 _ _ _ _
      | exact ih1 _ _ _ _
      | exact ih2 _ _ _ _ _ _
      | exact ih3 _ _ _
      | exact ih4 _ _
      | exact ih5 _ _ _
      | exact impl_Decode.mono _ _ _
      | exact impl_Newlines.mono _ _
      | exact spec_DrawCodePoints.mono _ _
      | exact spec_DrawEncode.mono _ _
      | exact spec_DrawNewlines.mono _ _
      | exact spec_Encode.mono _ _
      | exact spec_Newlines.mono _ _
      | exact LeO.none _
      | refine LeO.ite ?_ ?_
      | refine LeO.bind ?_ (fun _ => ?_)
    · intro y0 y1 y2 y3 y4 y5
      unfold laws_FnPoints.j2
      repeat' first
      | (with_reducible exact ih0 _ _ _ _)
      | (with_reducible exact ih1 _ _ _ _)
      | (with_reducible exact ih2 _ _ _ _ _ _)
      | (with_reducible exact ih3 _ _ _)
      | (with_reducible exact ih4 _ _)
      | (with_reducible exact ih5 _ _ _)
      | (with_reducible exact impl_Decode.mono _ _ _)
      | (with_reducible exact impl_Newlines.mono _ _)
      | (with_reducible exact spec_DrawCodePoints.mono _ _)
      | (with_reducible exact spec_DrawEncode.mono _ _)
      | (with_reducible exact spec_DrawNewlines.mono _ _)
      | (with_reducible exact spec_Encode.mono _ _)
      | (with_reducible exact spec_Newlines.mono _ _)
      | (with_reducible exact LeO.refl _)
      | (with_reducible exact LeO.none _)
      | (with_reducible refine LeO.ite ?_ ?_)
      | (with_reducible refine LeO.bind ?_ (fun _ => ?_))
      | exact ih0 _ _ _ _
      | exact ih1 _ _ _ _
      | exact ih2 _ _ _ _ _ _
      | exact ih3 _ _ _
      | exact ih4 _ _
      | exact ih5 _ _ _
      | exact impl_Decode.mono _ _ _
      | exact impl_Newlines.mono _ _
      | exact spec_DrawCodePoints.mono _ _
      | exact spec_DrawEncode.mono _ _
      | exact spec_DrawNewlines.mono _ _
      | exact spec_Encode.mono _ _
      | exact spec_Newlines.mono _ _
      | exact LeO.none _
      | refine LeO.ite ?_ ?_
      | refine LeO.bind ?_ (fun _ => ?_)
    · intro y0 y1 y2
      unfold laws_FnPoints.j3
      repeat' first
      | (with_reducible exact ih0 _ _ _ _)
      | (with_reducible exact ih1 _ _ _ _)
      | (with_reducible exact ih2 _ _ _ _ _ _)
      | (with_reducible exact ih3 _ _ _)
      | (with_reducible exact ih4 _ _)
      | (with_reducible exact ih5 _ _ _)
      | (with_reducible exact impl_Decode.mono _ _ _)
      | (with_reducible exact impl_Newlines.mono _ _)
      | (with_reducible exact spec_DrawCodePoints.mono _ _)
      | (with_reducible exact spec_DrawEncode.mono _ _)
      | (with_reducible exact spec_DrawNewlines.mono _ _)
      | (with_reducible exact spec_Encode.mono _ _)
      | (with_reducible exact spec_Newlines.mono _ _)
      | (with_reducible exact LeO.refl _)
      | (with_reducible exact LeO.none _)
      | (with_reducible refine LeO.ite ?_ ?_)
      | (with_reducible refine LeO.bind ?_ (fun _ => ?_))
      | exact ih0 _ _ _ _
      | exact ih1 _ _ _ _
      | exact ih2 _ _ _ _ _ _
      | exact ih3 _ _ _
      | exact ih4 _ _
      | exact ih5 _ _ _
      | exact impl_Decode.mono _ _ _
      | exact impl_Newlines.mono _ _
      | exact spec_DrawCodePoints.mono _ _
      | exact spec_DrawEncode.mono _ _
      | exact spec_DrawNewlines.mono _ _
      | exact spec_Encode.mono _ _
      | exact spec_Newlines.mono _ _
      | exact LeO.none _
      | refine LeO.ite ?_ ?_
      | refine LeO.bind ?_ (fun _ => ?_)
    · intro y0 y1
      unfold laws_FnPoints.j4
      repeat' first
      | (with_reducible exact ih0 _ _ _ _)
      | (with_reducible exact ih1 _ _ _ _)
      | (with_reducible exact ih2 _ _ _ _ _ _)
      | (with_reducible exact ih3 _ _ _)
      | (with_reducible exact ih4 _ _)
      | (with_reducible exact ih5 _ _ _)
      | (with_reducible exact impl_Decode.mono _ _ _)
      | (with_reducible exact impl_Newlines.mono _ _)
      | (with_reducible exact spec_DrawCodePoints.mono _ _)
      | (with_reducible exact spec_DrawEncode.mono _ _)
      | (with_reducible exact spec_DrawNewlines.mono _ _)
      | (with_reducible exact spec_Encode.mono _ _)
      | (with_reducible exact spec_Newlines.mono _ _)
      | (with_reducible exact LeO.refl _)
      | (with_reducible exact LeO.none _)
      | (with_reducible refine LeO.ite ?_ ?_)
      | (with_reducible refine LeO.bind ?_ (fun _ => ?_))
      | exact ih0 _ _ _ _
      | exact ih1 _ _ _ _
      | exact ih2 _ _ _ _ _ _
      | exact ih3 _ _ _
      | exact ih4 _ _
      | exact ih5 _ _ _
      | exact impl_Decode.mono _ _ _
      | exact impl_Newlines.mono _ _
      | exact spec_DrawCodePoints.mono _ _
      | exact spec_DrawEncode.mono _ _
      | exact spec_DrawNewlines.mono _ _
      | exact spec_Encode.mono _ _
      | exact spec_Newlines.mono _ _
      | exact LeO.none _
      | refine LeO.ite ?_ ?_
      | refine LeO.bind ?_ (fun _ => ?_)
    · intro y0 y1 y2
      unfold laws_FnPoints.l1
      repeat' first
      | (with_reducible exact ih0 _ _ _ _)
      | (with_reducible exact ih1 _ _ _ _)
      | (with_reducible exact ih2 _ _ _ _ _ _)
      | (with_reducible exact ih3 _ _ _)
      | (with_reducible exact ih4 _ _)
      | (with_reducible exact ih5 _ _ _)
      | (with_reducible exact impl_Decode.mono _ _ _)
      | (with_reducible exact impl_Newlines.mono _ _)
      | (with_reducible exact spec_DrawCodePoints.mono _ _)
      | (with_reducible exact spec_DrawEncode.mono _ _)
      | (with_reducible exact spec_DrawNewlines.mono _ _)
      | (with_reducible exact spec_Encode.mono _ _)
      | (with_reducible exact spec_Newlines.mono _ _)
      | (with_reducible exact LeO.refl _)
      | (with_reducible exact LeO.none _)
      | (with_reducible refine LeO.ite ?_ ?_)
      | (with_reducible refine LeO.bind ?_ (fun _ => ?_))
      | exact ih0 _ _ _ _
      | exact ih1 _ _ _ _
      | exact ih2 _ _ _ _ _ _
      | exact ih3 _ _ _
      | exact ih4 _ _
      | exact ih5 _ _ _
      | exact impl_Decode.mono _ _ _
      | exact impl_Newlines.mono _ _
      | exact spec_DrawCodePoints.mono _ _
      | exact spec_DrawEncode.mono _ _
      | exact spec_DrawNewlines.mono _ _
      | exact spec_Encode.mono _ _
      | exact spec_Newlines.mono _ _
      | exact LeO.none _
      | refine LeO.ite ?_ ?_
      | refine LeO.bind ?_ (fun _ => ?_)
theorem laws_FnPoints.mono : ∀ a0 k, LeO (laws_FnPoints.f k a0) (laws_FnPoints.f (k + 1) a0) := by
  intro a0 k
  obtain ⟨ih0, ih1, ih2, ih3, ih4, ih5⟩ := laws_FnPoints.mono_l k
  unfold laws_FnPoints.f
  repeat' first
      | (with_reducible exact ih0 _ _ _ _)
      | (with_reducible exact ih1 _ _ _ _)
      | (with_reducible exact ih2 _ _ _ _ _ _)
      | (with_reducible exact ih3 _ _ _)
      | (with_reducible exact ih4 _ _)
      | (with_reducible exact ih5 _ _ _)
      | (with_reducible exact impl_Decode.mono _ _ _)
      | (with_reducible exact impl_Newlines.mono _ _)
      | (with_reducible exact spec_DrawCodePoints.mono _ _)
      | (with_reducible exact spec_DrawEncode.mono _ _)
      | (with_reducible exact spec_DrawNewlines.mono _ _)
      | (with_reducible exact spec_Encode.mono _ _)
      | (with_reducible exact spec_Newlines.mono _ _)
      | (with_reducible exact LeO.refl _)
      | (with_reducible exact LeO.none _)
      | (with_reducible refine LeO.ite ?_ ?_)
      | (with_reducible refine LeO.bind ?_ (fun _ => ?_))
      | exact ih0 _ _ _ _
      | exact ih1 _ _ _ _
      | exact ih2 _ _ _ _ _ _
      | exact ih3 _ _ _
      | exact ih4 _ _
      | exact ih5 _ _ _
      | exact impl_Decode.mono _ _ _
      | exact impl_Newlines.mono _ _
      | exact spec_DrawCodePoints.mono _ _
      | exact spec_DrawEncode.mono _ _
      | exact spec_DrawNewlines.mono _ _
      | exact spec_Encode.mono _ _
      | exact spec_Newlines.mono _ _
      | exact LeO.none _
      | refine LeO.ite ?_ ?_
      | refine LeO.bind ?_ (fun _ => ?_)
set_option maxHeartbeats 8000000 in
set_option maxRecDepth 100000 in
theorem laws_FnPoints.calls (k : Nat) (A0 : Option Addr) (c0 : Nat) (l0 : List Int) (r : Bool) (w : World) (hr0 : Kd.C (Kd.int .u8) w A0 l0.length l0) (hc0 : l0.length ≤ c0) (h : laws_FnPoints.f k l0 = some r) :
    Calls Try.prog 3 #[.slice A0 l0.length c0] w fun e w' => e = .returned (.bool r) ∧ Below w.heap.size w w' := by
  have HR0 := Aside0.mk hr0
  have HC0 := Aside0.mk hc0
  clear hr0 hc0
  have HB := Aside0.mk (Below.refl w.heap.size w)
  have H : ((laws_big.f l0).bind fun t353 => (if t353 = true then (some true) else ((spec_DrawEncode.f k l0).bind fun t354 => ((impl_Encode.f t354).bind fun t357 => ((impl_CodePoints.f t357).bind fun t358 => ((spec_Encode.f k t354).bind fun t361 => (if t357.toList = t361.toList then (laws_FnPoints.j0 k l0 t354 t358 ((t358.length : Int) != (t354.length : Int))) else (laws_FnPoints.j0 k l0 t354 t358 true)))))))) = some r := h
  clear h
  replace H := Option.bind_eq_some_iff.mp H
  obtain ⟨t353, A20, H⟩ := H
  replace H : (if t353 = true then (some true) else ((spec_DrawEncode.f k l0).bind fun t354 => ((impl_Encode.f t354).bind fun t357 => ((impl_CodePoints.f t357).bind fun t358 => ((spec_Encode.f k t354).bind fun t361 => (if t357.toList = t361.toList then (laws_FnPoints.j0 k l0 t354 t358 ((t358.length : Int) != (t354.length : Int))) else (laws_FnPoints.j0 k l0 t354 t358 true))))))) = some r := H
  have A2 := Aside0.mk A20
  clear A20
  by_cases c3 : t353 = true
  · subst c3
    have H1 : (some true) = some r := by rw [if_pos rfl] at H; exact H
    clear H
    have H := H1
    clear H1
    obtain rfl := Option.some.inj H
    go_enter Try.func3, Try.ntmps3
    go_wp2_with (first | ((with_reducible refine gate_callee (f := 8) rfl ?_); refine goesL_ (some 14) rfl rfl Try.func8 (by kernel_rfl) rfl #[.slice A0 l0.length c0] rfl (by (try simp only [List.map_toArray, List.map_cons, List.map_nil]); first | done | rfl | (simp only [List.length_drop, List.length_take]; rfl)) ?_; (with_reducible refine (laws_big.calls _ _ l0 true _ ?side1 ?side2 A2.out).mono ?_); (case side1 => repeat (first | exact HR0.out | (with_reducible refine Kd.C_alloc ?_ _) | (with_reducible refine Kd.C_drewN ?_ _) | (with_reducible refine Kd.C_drew ?_))); (case side2 => exact HC0.out); rintro e w' ⟨rfl, ⟨nd, rfl⟩⟩; refine ⟨_, rfl, ?_⟩))
    go_ret
    exact ⟨by first | rfl | (simp [errW_none, errW_some] <;> rfl) | (simp [*, errW_none, errW_some] <;> rfl), by repeat (first | (with_reducible first | exact HB.out | apply below_alloc | apply pw_below_drewN | apply below_drew1) | exact HB.out)⟩
  · replace c3 := Bool.eq_false_iff.mpr c3
    subst c3
    have H1 : ((spec_DrawEncode.f k l0).bind fun t354 => ((impl_Encode.f t354).bind fun t357 => ((impl_CodePoints.f t357).bind fun t358 => ((spec_Encode.f k t354).bind fun t361 => (if t357.toList = t361.toList then (laws_FnPoints.j0 k l0 t354 t358 ((t358.length : Int) != (t354.length : Int))) else (laws_FnPoints.j0 k l0 t354 t358 true)))))) = some r := by rw [if_neg (show ¬ (false = true) by decide)] at H; exact H
    clear H
    have H := H1
    clear H1
    replace H := Option.bind_eq_some_iff.mp H
    obtain ⟨t354, A40, H⟩ := H
    replace H : ((impl_Encode.f t354).bind fun t357 => ((impl_CodePoints.f t357).bind fun t358 => ((spec_Encode.f k t354).bind fun t361 => (if t357.toList = t361.toList then (laws_FnPoints.j0 k l0 t354 t358 ((t358.length : Int) != (t354.length : Int))) else (laws_FnPoints.j0 k l0 t354 t358 true))))) = some r := H
    have A4 := Aside0.mk A40
    clear A40
    replace H := Option.bind_eq_some_iff.mp H
    obtain ⟨t357, A50, H⟩ := H
    replace H : ((impl_CodePoints.f t357).bind fun t358 => ((spec_Encode.f k t354).bind fun t361 => (if t357.toList = t361.toList then (laws_FnPoints.j0 k l0 t354 t358 ((t358.length : Int) != (t354.length : Int))) else (laws_FnPoints.j0 k l0 t354 t358 true)))) = some r := H
    have A5 := Aside0.mk A50
    clear A50
    replace H := Option.bind_eq_some_iff.mp H
    obtain ⟨t358, A60, H⟩ := H
    replace H : ((spec_Encode.f k t354).bind fun t361 => (if t357.toList = t361.toList then (laws_FnPoints.j0 k l0 t354 t358 ((t358.length : Int) != (t354.length : Int))) else (laws_FnPoints.j0 k l0 t354 t358 true))) = some r := H
    have A6 := Aside0.mk A60
    clear A60
    have HC7 := Aside0.mk H
    clear H
    go_enter Try.func3, Try.ntmps3
    go_upto_region 6 with (first | ((with_reducible refine gate_callee (f := 8) rfl ?_); refine goesL_ (some 14) rfl rfl Try.func8 (by kernel_rfl) rfl #[.slice A0 l0.length c0] rfl (by (try simp only [List.map_toArray, List.map_cons, List.map_nil]); first | done | rfl | (simp only [List.length_drop, List.length_take]; rfl)) ?_; (with_reducible refine (laws_big.calls _ _ l0 false _ ?side1 ?side2 A2.out).mono ?_); (case side1 => repeat (first | exact HR0.out | (with_reducible refine Kd.C_alloc ?_ _) | (with_reducible refine Kd.C_drewN ?_ _) | (with_reducible refine Kd.C_drew ?_))); (case side2 => exact HC0.out); rintro e w' ⟨rfl, ⟨nd, rfl⟩⟩; refine ⟨_, rfl, ?_⟩) | ((with_reducible refine gate_callee (f := 9) rfl ?_); refine goesL_ (some 16) rfl rfl Try.func9 (by kernel_rfl) rfl #[.slice A0 l0.length c0] rfl (by (try simp only [List.map_toArray, List.map_cons, List.map_nil]); first | done | rfl | (simp only [List.length_drop, List.length_take]; rfl)) ?_; (with_reducible refine (spec_DrawEncode.calls k _ _ l0 t354 _ ?side1 ?side2 A4.out).mono ?_); (case side1 => repeat (first | exact HR0.out | (with_reducible refine Kd.C_alloc ?_ _) | (with_reducible refine Kd.C_drewN ?_ _) | (with_reducible refine Kd.C_drew ?_))); (case side2 => exact HC0.out); rintro e w8 ⟨v355, rfl, ho0, hb⟩; refine ⟨_, rfl, ?_⟩; have n0_ := Aside0.mk (Kd.R_lower ho0 (below_size (by repeat (first | (with_reducible first | exact HB.out | apply below_alloc | apply pw_below_drewN | apply below_drew1) | exact HB.out)))); have n1_ := Aside0.mk (below_step (by repeat (first | (with_reducible first | exact HB.out | apply below_alloc | apply pw_below_drewN | apply below_drew1) | exact HB.out)) hb); clear HB; have HO356 := n0_; have HB := n1_; clear n0_ n1_; (try clear hb); (try clear hb2); (try clear hk); (try clear hi); (try clear ho0); obtain ⟨Ao9, co9, eo9⟩ := Kd.R_slice HO356.out; subst eo9) | ((with_reducible refine gate_callee (f := 10) rfl ?_); refine goesL_ (some 18) rfl rfl Try.func10 (by kernel_rfl) rfl #[.slice Ao9 t354.length co9] rfl (by (try simp only [List.map_toArray, List.map_cons, List.map_nil]); first | done | rfl | (simp only [List.length_drop, List.length_take]; rfl)) ?_; (with_reducible refine (impl_Encode.calls _ _ t354 t357 _ ?side1 ?side2 A5.out).mono ?_); (case side1 => repeat (first | exact (Kd.R_reads' HO356.out).2.2 | (with_reducible refine Kd.C_alloc ?_ _) | (with_reducible refine Kd.C_drewN ?_ _) | (with_reducible refine Kd.C_drew ?_))); (case side2 => exact (Kd.R_reads' HO356.out).2.1); rintro e w10 ⟨rfl, hb⟩; refine ⟨_, rfl, ?_⟩; have n0_ := Aside0.mk (Kd.R_below (by (with_reducible repeat (first | apply Kd.R_alloc | apply Kd.R_drewN | apply Kd.R_drew)); exact HO356.out) hb); have n1_ := Aside0.mk (below_step (by repeat (first | (with_reducible first | exact HB.out | apply below_alloc | apply pw_below_drewN | apply below_drew1) | exact HB.out)) hb); clear HO356; clear HB; have HO356 := n0_; have HB := n1_; clear n0_ n1_; (try clear hb); (try clear hb2); (try clear hk); (try clear hi)) | ((with_reducible refine gate_callee (f := 11) rfl ?_); refine goesL_ (some 20) rfl rfl Try.func11 (by kernel_rfl) rfl #[.string t357] rfl (by (try simp only [List.map_toArray, List.map_cons, List.map_nil]); first | done | rfl | (simp only [List.length_drop, List.length_take]; rfl)) ?_; (with_reducible refine (impl_CodePoints.calls t357 t358 _ A6.out).mono ?_); rintro e w11 ⟨v359, rfl, ho0, hb⟩; refine ⟨_, rfl, ?_⟩; have n0_ := Aside0.mk (Kd.R_elder' (by (with_reducible repeat (first | apply Kd.R_alloc | apply Kd.R_drewN | apply Kd.R_drew)); exact HO356.out) (Kd.R_base ho0) hb); have n1_ := Aside0.mk (Kd.R_lower (Kd.R_new' ho0 (Kd.R_lt (by (with_reducible repeat (first | apply Kd.R_alloc | apply Kd.R_drewN | apply Kd.R_drew)); exact HO356.out))) (below_size (by repeat (first | (with_reducible first | exact HB.out | apply below_alloc | apply pw_below_drewN | apply below_drew1) | exact HB.out)))); have n2_ := Aside0.mk (below_step (by repeat (first | (with_reducible first | exact HB.out | apply below_alloc | apply pw_below_drewN | apply below_drew1) | exact HB.out)) hb); clear HO356; clear HB; have HO356 := n0_; have HO360 := n1_; have HB := n2_; clear n0_ n1_ n2_; (try clear hb); (try clear hb2); (try clear hk); (try clear hi); (try clear ho0)))
    (try simp only [Act.put, List.setIfInBounds_toArray, List.set_cons_zero, List.set_cons_succ])
    go_cut [31] (fun v31 wc => ∃ (kq : Nat) (x31_6 : Bool), v31 = .bool x31_6 ∧ Aside0 (laws_FnPoints.j0 kq l0 t354 t358 x31_6 = some r) ∧ Aside0 (kq ≤ k) ∧ Aside0 (Kd.R (Kd.int .i64) 3 wc w.heap.size (fun k_ => some k_ ≠ (v359 : Value).ownBlock) (.slice Ao9 t354.length co9) t354) ∧ Aside0 (Kd.R (Kd.int .i64) 3 wc w.heap.size (fun k_ => some k_ ≠ ((.slice Ao9 t354.length co9) : Value).ownBlock) v359 t358) ∧ Aside0 (Below w.heap.size w wc))
    case first =>
      have H := HC7.out
      clear HC7
      replace H := Option.bind_eq_some_iff.mp H
      obtain ⟨t361, A120, H⟩ := H
      replace H : (if t357.toList = t361.toList then (laws_FnPoints.j0 k l0 t354 t358 ((t358.length : Int) != (t354.length : Int))) else (laws_FnPoints.j0 k l0 t354 t358 true)) = some r := H
      have A12 := Aside0.mk A120
      clear A120
      by_cases c13 : t357.toList = t361.toList
      · rw [if_pos c13] at H
        have c13b0 : (t357.toList == t361.toList) = true := beq_iff_eq.mpr c13
        have c13b1 : (t357.toList != t361.toList) = false := bne_eq_false_iff_eq.mpr c13
        clear c13
        (first | rw [c13b0] | (simp only [i64_w, i32_w]; rw [c13b0]) | skip)
        have H' := Aside0.mk H
        clear H
        go_wp2_with (first | ((with_reducible refine gate_callee (f := 12) rfl ?_); refine goesL_ (some 23) rfl rfl Try.func12 (by kernel_rfl) rfl #[.slice Ao9 t354.length co9] rfl (by (try simp only [List.map_toArray, List.map_cons, List.map_nil]); first | done | rfl | (simp only [List.length_drop, List.length_take]; rfl)) ?_; (with_reducible refine (spec_Encode.calls k _ _ t354 t361 _ ?side1 ?side2 A12.out).mono ?_); (case side1 => repeat (first | exact (Kd.R_reads' HO356.out).2.2 | (with_reducible refine Kd.C_alloc ?_ _) | (with_reducible refine Kd.C_drewN ?_ _) | (with_reducible refine Kd.C_drew ?_))); (case side2 => exact (Kd.R_reads' HO356.out).2.1); rintro e w14 ⟨rfl, hb⟩; refine ⟨_, rfl, ?_⟩; have n0_ := Aside0.mk (Kd.R_below (by (with_reducible repeat (first | apply Kd.R_alloc | apply Kd.R_drewN | apply Kd.R_drew)); exact HO356.out) hb); have n1_ := Aside0.mk (Kd.R_below (by (with_reducible repeat (first | apply Kd.R_alloc | apply Kd.R_drewN | apply Kd.R_drew)); exact HO360.out) hb); have n2_ := Aside0.mk (below_step (by repeat (first | (with_reducible first | exact HB.out | apply below_alloc | apply pw_below_drewN | apply below_drew1) | exact HB.out)) hb); clear HO356; clear HO360; clear HB; have HO356 := n0_; have HO360 := n1_; have HB := n2_; clear n0_ n1_ n2_; (try clear hb); (try clear hb2); (try clear hk); (try clear hi); obtain ⟨Ao15, co15, eo15⟩ := Kd.R_slice HO360.out; subst eo15))
        go_meet
        case rel => exact ⟨_, (((t358.length : Int) != (t354.length : Int))), (by first | rfl | (simp; done) | (simp [*]; done)), H', ⟨by first | omega | exact Nat.le_refl _⟩, ⟨by (with_reducible repeat (first | apply Kd.R_alloc | apply Kd.R_drewN | apply Kd.R_drew)); exact Kd.R_mono HO356.out (fun _ hk => hk.2)⟩, ⟨by (with_reducible repeat (first | apply Kd.R_alloc | apply Kd.R_drewN | apply Kd.R_drew)); exact Kd.R_mono HO360.out (fun _ hk => hk.2)⟩, ⟨by repeat (first | (with_reducible first | exact HB.out | apply below_alloc | apply pw_below_drewN | apply below_drew1) | exact HB.out)⟩⟩
      · rw [if_neg c13] at H
        have c13b0 : (t357.toList == t361.toList) = false := beq_eq_false_iff_ne.mpr c13
        have c13b1 : (t357.toList != t361.toList) = true := bne_iff_ne.mpr c13
        (first | rw [c13b0] | (simp only [i64_w, i32_w]; rw [c13b0]) | skip)
        have H' := Aside0.mk H
        clear H
        go_wp2_with (first | ((with_reducible refine gate_callee (f := 12) rfl ?_); refine goesL_ (some 23) rfl rfl Try.func12 (by kernel_rfl) rfl #[.slice Ao9 t354.length co9] rfl (by (try simp only [List.map_toArray, List.map_cons, List.map_nil]); first | done | rfl | (simp only [List.length_drop, List.length_take]; rfl)) ?_; (with_reducible refine (spec_Encode.calls k _ _ t354 t361 _ ?side1 ?side2 A12.out).mono ?_); (case side1 => repeat (first | exact (Kd.R_reads' HO356.out).2.2 | (with_reducible refine Kd.C_alloc ?_ _) | (with_reducible refine Kd.C_drewN ?_ _) | (with_reducible refine Kd.C_drew ?_))); (case side2 => exact (Kd.R_reads' HO356.out).2.1); rintro e w16 ⟨rfl, hb⟩; refine ⟨_, rfl, ?_⟩; have n0_ := Aside0.mk (Kd.R_below (by (with_reducible repeat (first | apply Kd.R_alloc | apply Kd.R_drewN | apply Kd.R_drew)); exact HO356.out) hb); have n1_ := Aside0.mk (Kd.R_below (by (with_reducible repeat (first | apply Kd.R_alloc | apply Kd.R_drewN | apply Kd.R_drew)); exact HO360.out) hb); have n2_ := Aside0.mk (below_step (by repeat (first | (with_reducible first | exact HB.out | apply below_alloc | apply pw_below_drewN | apply below_drew1) | exact HB.out)) hb); clear HO356; clear HO360; clear HB; have HO356 := n0_; have HO360 := n1_; have HB := n2_; clear n0_ n1_ n2_; (try clear hb); (try clear hb2); (try clear hk); (try clear hi)))
        go_meet
        case rel => exact ⟨_, (true), (by first | rfl | (simp; done) | (simp [*]; done)), H', ⟨by first | omega | exact Nat.le_refl _⟩, ⟨by (with_reducible repeat (first | apply Kd.R_alloc | apply Kd.R_drewN | apply Kd.R_drew)); exact Kd.R_mono HO356.out (fun _ hk => hk.2)⟩, ⟨by (with_reducible repeat (first | apply Kd.R_alloc | apply Kd.R_drewN | apply Kd.R_drew)); exact Kd.R_mono HO360.out (fun _ hk => hk.2)⟩, ⟨by repeat (first | (with_reducible first | exact HB.out | apply below_alloc | apply pw_below_drewN | apply below_drew1) | exact HB.out)⟩⟩
    case rest =>
      clear HC7
      try clear c1
      try clear p2
      try clear c3
      try clear c8
      try clear c9
      try clear c10
      try clear c11
      try clear c12
      try clear c13
      try clear c13b0
      try clear c13b1
      obtain ⟨kq, x31_6, rfl, HA, HJ6, HO_3, HO_5, HB⟩ := hcut
      cases kq with
      | zero => exact absurd HA.out (by simp [laws_FnPoints.j0])
      | succ kj6 =>
        have H := HA.out
        clear HA
        simp only [laws_FnPoints.j0] at H
        by_cases c17 : x31_6 = true
        · subst c17
          have H1 : (some false) = some r := by rw [if_pos rfl] at H; exact H
          clear H
          have H := H1
          clear H1
          obtain rfl := Option.some.inj H
          go_wp2
          go_ret
          exact ⟨by first | rfl | (simp [errW_none, errW_some] <;> rfl) | (simp [*, errW_none, errW_some] <;> rfl), by repeat (first | (with_reducible first | exact HB.out | apply below_alloc | apply pw_below_drewN | apply below_drew1) | exact HB.out)⟩
        · replace c17 := Bool.eq_false_iff.mpr c17
          subst c17
          have H1 : (laws_FnPoints.l0 kj6 l0 t354 t358 0) = some r := by rw [if_neg (show ¬ (false = true) by decide)] at H; exact H
          clear H
          have H := H1
          clear H1
          have H' := Aside0.mk H
          clear H
          go_wp2
          go_loopg [6] kj6 (fun kq v6 w' => ∃ (x6_2 : Int), v6 = .int .i64 x6_2 ∧ Aside0 (laws_FnPoints.l0 kq l0 t354 t358 x6_2 = some r) ∧ Aside0 (kq ≤ kj6) ∧ Aside0 (Kd.R (Kd.int .i64) 3 w' w.heap.size (fun k_ => some k_ ≠ (v359 : Value).ownBlock) (.slice Ao9 t354.length co9) t354) ∧ Aside0 (Kd.R (Kd.int .i64) 3 w' w.heap.size (fun k_ => some k_ ≠ ((.slice Ao9 t354.length co9) : Value).ownBlock) v359 t358) ∧ Aside0 (Below w.heap.size w w'))
          case atStart => exact ⟨(0), (by first | rfl | (simp; done) | (simp [*]; done)), H', ⟨Nat.le_refl _⟩, ⟨by (with_reducible repeat (first | apply Kd.R_alloc | apply Kd.R_drewN | apply Kd.R_drew)); exact HO_3.out⟩, ⟨by (with_reducible repeat (first | apply Kd.R_alloc | apply Kd.R_drewN | apply Kd.R_drew)); exact HO_5.out⟩, ⟨by repeat (first | (with_reducible first | exact HB.out | apply below_alloc | apply pw_below_drewN | apply below_drew1) | exact HB.out)⟩⟩
          case round =>
            clear H'
            try clear c1
            try clear p2
            try clear c3
            try clear c8
            try clear c9
            try clear c10
            try clear c11
            try clear c12
            try clear c13
            try clear c13b0
            try clear c13b1
            try clear c17
            try clear p2
            obtain ⟨x6_2, rfl, HA, HK2, HO_3, HO_5, HB⟩ := hrel
            cases gk with
            | zero => exact absurd HA.out (by simp [laws_FnPoints.l0])
            | succ k2 =>
              have H := HA.out
              clear HA
              simp only [laws_FnPoints.l0] at H
              by_cases c18 : x6_2 < (t354.length : Int)
              · rw [if_pos c18] at H
                have c18b0 : decide (x6_2 < (t354.length : Int)) = true := decide_eq_true c18
                clear c18
                by_cases c19 : 0 ≤ x6_2
                · rw [if_pos c19] at H
                  have c19b0 : decide (0 ≤ x6_2) = true := decide_eq_true c19
                  clear c19
                  have HC20 := Aside0.mk H
                  clear H
                  have p362 : 0 ≤ (x6_2 : Int) := of_decide_eq_true (by first | (with_reducible assumption) | assumption)
                  have q362 : x6_2 < (t354.length : Int) := of_decide_eq_true (by first | (with_reducible assumption) | assumption)
                  obtain ⟨ad362, e362, hx362_0⟩ := Kd.at_int (Kd.R_reads' HO_3.out).2.2 x6_2 p362 q362
                  cases e362
                  replace p362 := eq_true p362
                  replace q362 := eq_true q362
                  go_upto_region 12 with (fail)
                  go_cut [55] (fun v55 wc => ∃ (kq : Nat) (x55_19 : Bool), v55 = .bool x55_19 ∧ Aside0 (laws_FnPoints.j2 kq l0 t354 t358 x6_2 (rd t354 x6_2) x55_19 = some r) ∧ Aside0 (kq ≤ k2) ∧ Aside0 (Kd.R (Kd.int .i64) 3 wc w.heap.size (fun k_ => some k_ ≠ (v359 : Value).ownBlock) (.slice (some ad362) t354.length co9) t354) ∧ Aside0 (Kd.R (Kd.int .i64) 3 wc w.heap.size (fun k_ => some k_ ≠ ((.slice (some ad362) t354.length co9) : Value).ownBlock) v359 t358) ∧ Aside0 (Below w.heap.size w wc))
                  case first =>
                    have H := HC20.out
                    clear HC20
                    by_cases c21 : (rd t354 x6_2) < 0
                    · rw [if_pos c21] at H
                      have c21b0 : decide ((rd t354 x6_2) < 0) = true := decide_eq_true c21
                      clear c21
                      (first | rw [c21b0] | (simp only [i64_w, i32_w]; rw [c21b0]) | skip)
                      have H' := Aside0.mk H
                      clear H
                      go_wp2
                      go_meet
                      case rel => exact ⟨_, (true), (by first | rfl | (simp; done) | (simp [*]; done)), H', ⟨by have := HJ6.out; have := HK2.out; first | omega | exact Nat.le_refl _⟩, ⟨by (with_reducible repeat (first | apply Kd.R_alloc | apply Kd.R_drewN | apply Kd.R_drew)); exact HO_3.out⟩, ⟨by (with_reducible repeat (first | apply Kd.R_alloc | apply Kd.R_drewN | apply Kd.R_drew)); exact HO_5.out⟩, ⟨by repeat (first | (with_reducible first | exact HB.out | apply below_alloc | apply pw_below_drewN | apply below_drew1) | exact HB.out)⟩⟩
                    · rw [if_neg c21] at H
                      have c21b0 : decide ((rd t354 x6_2) < 0) = false := decide_eq_false c21
                      clear c21
                      (first | rw [c21b0] | (simp only [i64_w, i32_w]; rw [c21b0]) | skip)
                      by_cases c22 : (rd t354 x6_2) > 1114111
                      · rw [if_pos c22] at H
                        have c22b0 : decide (1114111 < (rd t354 x6_2)) = true := decide_eq_true c22
                        clear c22
                        have H' := Aside0.mk H
                        clear H
                        go_wp2
                        go_meet
                        case rel => exact ⟨_, (true), (by first | rfl | (simp; done) | (simp [*]; done)), H', ⟨by have := HJ6.out; have := HK2.out; first | omega | exact Nat.le_refl _⟩, ⟨by (with_reducible repeat (first | apply Kd.R_alloc | apply Kd.R_drewN | apply Kd.R_drew)); exact HO_3.out⟩, ⟨by (with_reducible repeat (first | apply Kd.R_alloc | apply Kd.R_drewN | apply Kd.R_drew)); exact HO_5.out⟩, ⟨by repeat (first | (with_reducible first | exact HB.out | apply below_alloc | apply pw_below_drewN | apply below_drew1) | exact HB.out)⟩⟩
                      · rw [if_neg c22] at H
                        have c22b0 : decide (1114111 < (rd t354 x6_2)) = false := decide_eq_false c22
                        clear c22
                        by_cases c23 : (rd t354 x6_2) ≥ 55296
                        · rw [if_pos c23] at H
                          have c23b0 : decide (55296 ≤ (rd t354 x6_2)) = true := decide_eq_true c23
                          clear c23
                          have H' := Aside0.mk H
                          clear H
                          go_wp2
                          go_meet
                          case rel => exact ⟨_, (decide ((rd t354 x6_2) ≤ 57343)), (by first | rfl | (simp; done) | (simp [*]; done)), H', ⟨by have := HJ6.out; have := HK2.out; first | omega | exact Nat.le_refl _⟩, ⟨by (with_reducible repeat (first | apply Kd.R_alloc | apply Kd.R_drewN | apply Kd.R_drew)); exact HO_3.out⟩, ⟨by (with_reducible repeat (first | apply Kd.R_alloc | apply Kd.R_drewN | apply Kd.R_drew)); exact HO_5.out⟩, ⟨by repeat (first | (with_reducible first | exact HB.out | apply below_alloc | apply pw_below_drewN | apply below_drew1) | exact HB.out)⟩⟩
                        · rw [if_neg c23] at H
                          have c23b0 : decide (55296 ≤ (rd t354 x6_2)) = false := decide_eq_false c23
                          clear c23
                          have H' := Aside0.mk H
                          clear H
                          go_wp2
                          go_meet
                          case rel => exact ⟨_, (false), (by first | rfl | (simp; done) | (simp [*]; done)), H', ⟨by have := HJ6.out; have := HK2.out; first | omega | exact Nat.le_refl _⟩, ⟨by (with_reducible repeat (first | apply Kd.R_alloc | apply Kd.R_drewN | apply Kd.R_drew)); exact HO_3.out⟩, ⟨by (with_reducible repeat (first | apply Kd.R_alloc | apply Kd.R_drewN | apply Kd.R_drew)); exact HO_5.out⟩, ⟨by repeat (first | (with_reducible first | exact HB.out | apply below_alloc | apply pw_below_drewN | apply below_drew1) | exact HB.out)⟩⟩
                  case rest =>
                    clear HC20
                    try clear c1
                    try clear c2
                    try clear p2
                    try clear c3
                    try clear p3
                    try clear q3
                    try clear hx3
                    try clear c8
                    try clear c9
                    try clear c10
                    try clear c11
                    try clear c12
                    try clear c13
                    try clear c13b0
                    try clear c13b1
                    try clear c17
                    try clear c18
                    try clear c18b0
                    try clear c19
                    try clear c19b0
                    try clear c21
                    try clear c21b0
                    try clear c22
                    try clear c22b0
                    try clear c23
                    try clear c23b0
                    try clear hx362_0
                    try clear p2
                    try clear p362
                    try clear q362
                    obtain ⟨kq, x55_19, rfl, HA, HJ19, HO_3, HO_5, HB⟩ := hcut
                    cases kq with
                    | zero => exact absurd HA.out (by simp [laws_FnPoints.j2])
                    | succ kj19 =>
                      have H := HA.out
                      clear HA
                      simp only [laws_FnPoints.j2] at H
                      by_cases c24 : x55_19 = true
                      · subst c24
                        have H1 : (if 0 ≤ x6_2 then (if x6_2 < (t358.length : Int) then (if (rd t358 x6_2) = 65533 then (laws_FnPoints.l0 kj19 l0 t354 t358 (wrap64 (x6_2 + 1))) else (some false)) else (none)) else (none)) = some r := by rw [if_pos rfl] at H; exact H
                        clear H
                        have H := H1
                        clear H1
                        by_cases c25 : 0 ≤ x6_2
                        · rw [if_pos c25] at H
                          have c25b0 : decide (0 ≤ x6_2) = true := decide_eq_true c25
                          clear c25
                          by_cases c26 : x6_2 < (t358.length : Int)
                          · rw [if_pos c26] at H
                            have c26b0 : decide (x6_2 < (t358.length : Int)) = true := decide_eq_true c26
                            clear c26
                            by_cases c27 : (rd t358 x6_2) = 65533
                            · rw [if_pos c27] at H
                              have c27b0 : ((rd t358 x6_2) == 65533) = true := beq_iff_eq.mpr c27
                              have c27b1 : ((rd t358 x6_2) != 65533) = false := bne_eq_false_iff_eq.mpr c27
                              clear c27
                              have H' := Aside0.mk H
                              clear H
                              obtain ⟨Ao28, co28, eo28⟩ := Kd.R_slice HO_5.out
                              subst eo28
                              have p363 : 0 ≤ (x6_2 : Int) := of_decide_eq_true (by first | (with_reducible assumption) | assumption)
                              have q363 : x6_2 < (t358.length : Int) := of_decide_eq_true (by first | (with_reducible assumption) | assumption)
                              obtain ⟨ad363, e363, hx363_0⟩ := Kd.at_int (Kd.R_reads' HO_5.out).2.2 x6_2 p363 q363
                              cases e363
                              replace p363 := eq_true p363
                              replace q363 := eq_true q363
                              go_wp2
                              go_roundg kj19
                              case measure => have := HJ6.out; have := HK2.out; have := HJ19.out; omega
                              case rel => exact ⟨(wrap64 (x6_2 + 1)), (by first | rfl | (simp; done) | (simp [*]; done)), H', ⟨by have := HJ6.out; have := HK2.out; have := HJ19.out; omega⟩, ⟨by (with_reducible repeat (first | apply Kd.R_alloc | apply Kd.R_drewN | apply Kd.R_drew)); exact HO_3.out⟩, ⟨by (with_reducible repeat (first | apply Kd.R_alloc | apply Kd.R_drewN | apply Kd.R_drew)); exact HO_5.out⟩, ⟨by repeat (first | (with_reducible first | exact HB.out | apply below_alloc | apply pw_below_drewN | apply below_drew1) | exact HB.out)⟩⟩
                            · rw [if_neg c27] at H
                              have c27b0 : ((rd t358 x6_2) == 65533) = false := beq_eq_false_iff_ne.mpr c27
                              have c27b1 : ((rd t358 x6_2) != 65533) = true := bne_iff_ne.mpr c27
                              obtain rfl := Option.some.inj H
                              obtain ⟨Ao29, co29, eo29⟩ := Kd.R_slice HO_5.out
                              subst eo29
                              have p363 : 0 ≤ (x6_2 : Int) := of_decide_eq_true (by first | (with_reducible assumption) | assumption)
                              have q363 : x6_2 < (t358.length : Int) := of_decide_eq_true (by first | (with_reducible assumption) | assumption)
                              obtain ⟨ad363, e363, hx363_0⟩ := Kd.at_int (Kd.R_reads' HO_5.out).2.2 x6_2 p363 q363
                              cases e363
                              replace p363 := eq_true p363
                              replace q363 := eq_true q363
                              go_wp2
                              go_ret
                              exact ⟨by first | rfl | (simp [errW_none, errW_some] <;> rfl) | (simp [*, errW_none, errW_some] <;> rfl), by repeat (first | (with_reducible first | exact HB.out | apply below_alloc | apply pw_below_drewN | apply below_drew1) | exact HB.out)⟩
                          · rw [if_neg c26] at H
                            exact absurd H (by simp)
                        · rw [if_neg c25] at H
                          exact absurd H (by simp)
                      · replace c24 := Bool.eq_false_iff.mpr c24
                        subst c24
                        have H1 : (if 0 ≤ x6_2 then (if x6_2 < (t358.length : Int) then (if (rd t358 x6_2) = (rd t354 x6_2) then (laws_FnPoints.l0 kj19 l0 t354 t358 (wrap64 (x6_2 + 1))) else (some false)) else (none)) else (none)) = some r := by rw [if_neg (show ¬ (false = true) by decide)] at H; exact H
                        clear H
                        have H := H1
                        clear H1
                        by_cases c30 : 0 ≤ x6_2
                        · rw [if_pos c30] at H
                          have c30b0 : decide (0 ≤ x6_2) = true := decide_eq_true c30
                          clear c30
                          by_cases c31 : x6_2 < (t358.length : Int)
                          · rw [if_pos c31] at H
                            have c31b0 : decide (x6_2 < (t358.length : Int)) = true := decide_eq_true c31
                            clear c31
                            by_cases c32 : (rd t358 x6_2) = (rd t354 x6_2)
                            · rw [if_pos c32] at H
                              have c32b0 : ((rd t358 x6_2) == (rd t354 x6_2)) = true := beq_iff_eq.mpr c32
                              have c32b1 : ((rd t358 x6_2) != (rd t354 x6_2)) = false := bne_eq_false_iff_eq.mpr c32
                              clear c32
                              have H' := Aside0.mk H
                              clear H
                              obtain ⟨Ao33, co33, eo33⟩ := Kd.R_slice HO_5.out
                              subst eo33
                              have p364 : 0 ≤ (x6_2 : Int) := of_decide_eq_true (by first | (with_reducible assumption) | assumption)
                              have q364 : x6_2 < (t358.length : Int) := of_decide_eq_true (by first | (with_reducible assumption) | assumption)
                              obtain ⟨ad364, e364, hx364_0⟩ := Kd.at_int (Kd.R_reads' HO_5.out).2.2 x6_2 p364 q364
                              cases e364
                              replace p364 := eq_true p364
                              replace q364 := eq_true q364
                              go_wp2
                              go_roundg kj19
                              case measure => have := HJ6.out; have := HK2.out; have := HJ19.out; omega
                              case rel => exact ⟨(wrap64 (x6_2 + 1)), (by first | rfl | (simp; done) | (simp [*]; done)), H', ⟨by have := HJ6.out; have := HK2.out; have := HJ19.out; omega⟩, ⟨by (with_reducible repeat (first | apply Kd.R_alloc | apply Kd.R_drewN | apply Kd.R_drew)); exact HO_3.out⟩, ⟨by (with_reducible repeat (first | apply Kd.R_alloc | apply Kd.R_drewN | apply Kd.R_drew)); exact HO_5.out⟩, ⟨by repeat (first | (with_reducible first | exact HB.out | apply below_alloc | apply pw_below_drewN | apply below_drew1) | exact HB.out)⟩⟩
                            · rw [if_neg c32] at H
                              have c32b0 : ((rd t358 x6_2) == (rd t354 x6_2)) = false := beq_eq_false_iff_ne.mpr c32
                              have c32b1 : ((rd t358 x6_2) != (rd t354 x6_2)) = true := bne_iff_ne.mpr c32
                              obtain rfl := Option.some.inj H
                              obtain ⟨Ao34, co34, eo34⟩ := Kd.R_slice HO_5.out
                              subst eo34
                              have p364 : 0 ≤ (x6_2 : Int) := of_decide_eq_true (by first | (with_reducible assumption) | assumption)
                              have q364 : x6_2 < (t358.length : Int) := of_decide_eq_true (by first | (with_reducible assumption) | assumption)
                              obtain ⟨ad364, e364, hx364_0⟩ := Kd.at_int (Kd.R_reads' HO_5.out).2.2 x6_2 p364 q364
                              cases e364
                              replace p364 := eq_true p364
                              replace q364 := eq_true q364
                              go_wp2
                              go_ret
                              exact ⟨by first | rfl | (simp [errW_none, errW_some] <;> rfl) | (simp [*, errW_none, errW_some] <;> rfl), by repeat (first | (with_reducible first | exact HB.out | apply below_alloc | apply pw_below_drewN | apply below_drew1) | exact HB.out)⟩
                          · rw [if_neg c31] at H
                            exact absurd H (by simp)
                        · rw [if_neg c30] at H
                          exact absurd H (by simp)
                · rw [if_neg c19] at H
                  exact absurd H (by simp)
              · rw [if_neg c18] at H
                have c18b0 : decide (x6_2 < (t354.length : Int)) = false := decide_eq_false c18
                clear c18
                replace H := Option.bind_eq_some_iff.mp H
                obtain ⟨t365, A350, H⟩ := H
                replace H : (if (t365.size : Int) ≥ 3 then (if 0 ≤ 3 then (if 3 ≤ (t365.size : Int) then (laws_FnPoints.j3 k2 l0 t365 ((t365.extract 0 3).toList == ([239, 187, 191] : List UInt8))) else (none)) else (none)) else (laws_FnPoints.j3 k2 l0 t365 false)) = some r := H
                have A35 := Aside0.mk A350
                clear A350
                have HC36 := Aside0.mk H
                clear H
                go_upto_region 17 with (first | ((with_reducible refine gate_callee (f := 13) rfl ?_); refine goesL_ (some 63) rfl rfl Try.func13 (by kernel_rfl) rfl #[.slice A0 l0.length c0] rfl (by (try simp only [List.map_toArray, List.map_cons, List.map_nil]); first | done | rfl | (simp only [List.length_drop, List.length_take]; rfl)) ?_; (with_reducible refine (spec_DrawCodePoints.calls k2 _ _ l0 t365 _ ?side1 ?side2 A35.out).mono ?_); (case side1 => repeat (first | exact (Kd.C_below HR0.out HB.out) | (with_reducible refine Kd.C_alloc ?_ _) | (with_reducible refine Kd.C_drewN ?_ _) | (with_reducible refine Kd.C_drew ?_))); (case side2 => exact HC0.out); rintro e w37 ⟨rfl, hb⟩; refine ⟨_, rfl, ?_⟩; have n0_ := Aside0.mk (Kd.R_below (by (with_reducible repeat (first | apply Kd.R_alloc | apply Kd.R_drewN | apply Kd.R_drew)); exact HO_3.out) hb); have n1_ := Aside0.mk (Kd.R_below (by (with_reducible repeat (first | apply Kd.R_alloc | apply Kd.R_drewN | apply Kd.R_drew)); exact HO_5.out) hb); have n2_ := Aside0.mk (below_step (by repeat (first | (with_reducible first | exact HB.out | apply below_alloc | apply pw_below_drewN | apply below_drew1) | exact HB.out)) hb); clear HO_3; clear HO_5; clear HB; have HO_3 := n0_; have HO_5 := n1_; have HB := n2_; clear n0_ n1_ n2_; (try clear hb); (try clear hb2); (try clear hk); (try clear hi)))
                (try simp only [Act.put, List.setIfInBounds_toArray, List.set_cons_zero, List.set_cons_succ])
                go_cut [9] (fun v9 wc => ∃ (kq : Nat) (x9_35 : Bool), v9 = .bool x9_35 ∧ Aside0 (laws_FnPoints.j3 kq l0 t365 x9_35 = some r) ∧ Aside0 (kq ≤ k2) ∧ Aside0 (Below w.heap.size w wc))
                case first =>
                  have H := HC36.out
                  clear HC36
                  by_cases c38 : (t365.size : Int) ≥ 3
                  · rw [if_pos c38] at H
                    have c38b0 : decide (3 ≤ (t365.size : Int)) = true := decide_eq_true c38
                    have c38b1 : decide (3 ≤ t365.size) = true := decide_eq_true (by omega)
                    clear c38
                    (first | rw [c38b0] | (simp only [i64_w, i32_w]; rw [c38b0]) | skip)
                    by_cases c39 : 0 ≤ 3
                    · rw [if_pos c39] at H
                      have c39b0 := eq_true c39
                      have c39b1 : decide (0 ≤ 3) = true := decide_eq_true c39
                      clear c39
                      by_cases c40 : 3 ≤ (t365.size : Int)
                      · rw [if_pos c40] at H
                        have c40b0 := eq_true c40
                        have c40b1 : decide (3 ≤ (t365.size : Int)) = true := decide_eq_true c40
                        clear c40
                        have H' := Aside0.mk H
                        clear H
                        go_wp2
                        go_meet
                        case rel => exact ⟨_, (((t365.extract 0 3).toList == ([239, 187, 191] : List UInt8))), (by first | rfl | (simp; done) | (simp [*]; done)), H', ⟨by have := HJ6.out; have := HK2.out; first | omega | exact Nat.le_refl _⟩, ⟨by repeat (first | (with_reducible first | exact HB.out | apply below_alloc | apply pw_below_drewN | apply below_drew1) | exact HB.out)⟩⟩
                      · rw [if_neg c40] at H
                        exact absurd H (by simp)
                    · rw [if_neg c39] at H
                      exact absurd H (by simp)
                  · rw [if_neg c38] at H
                    have c38b0 : decide (3 ≤ (t365.size : Int)) = false := decide_eq_false c38
                    have c38b1 : decide (3 ≤ t365.size) = false := decide_eq_false (by omega)
                    clear c38
                    (first | rw [c38b0] | (simp only [i64_w, i32_w]; rw [c38b0]) | skip)
                    have H' := Aside0.mk H
                    clear H
                    go_wp2
                    go_meet
                    case rel => exact ⟨_, (false), (by first | rfl | (simp; done) | (simp [*]; done)), H', ⟨by have := HJ6.out; have := HK2.out; first | omega | exact Nat.le_refl _⟩, ⟨by repeat (first | (with_reducible first | exact HB.out | apply below_alloc | apply pw_below_drewN | apply below_drew1) | exact HB.out)⟩⟩
                case rest =>
                  clear HC36
                  try clear c1
                  try clear c2
                  try clear p2
                  try clear c3
                  try clear p3
                  try clear q3
                  try clear hx3
                  try clear c4
                  try clear p6
                  try clear c8
                  try clear c9
                  try clear c10
                  try clear c11
                  try clear c12
                  try clear c13
                  try clear c13b0
                  try clear c13b1
                  try clear c17
                  try clear c18
                  try clear c18b0
                  try clear c19
                  try clear c19b0
                  try clear c21
                  try clear c21b0
                  try clear c22
                  try clear c22b0
                  try clear c23
                  try clear c23b0
                  try clear c24
                  try clear c25
                  try clear c25b0
                  try clear c26
                  try clear c26b0
                  try clear c27
                  try clear c27b0
                  try clear c27b1
                  try clear c30
                  try clear c30b0
                  try clear c31
                  try clear c31b0
                  try clear c32
                  try clear c32b0
                  try clear c32b1
                  try clear p36
                  try clear q36
                  try clear hx36
                  try clear c38
                  try clear c38b0
                  try clear c38b1
                  try clear c39
                  try clear c39b0
                  try clear c39b1
                  try clear c40
                  try clear c40b0
                  try clear c40b1
                  try clear hx362_0
                  try clear hx363_0
                  try clear hx364_0
                  try clear p2
                  try clear p3
                  try clear p362
                  try clear p363
                  try clear p364
                  try clear q3
                  try clear q362
                  try clear q363
                  try clear q364
                  obtain ⟨kq, x9_35, rfl, HA, HJ35, HB⟩ := hcut
                  cases kq with
                  | zero => exact absurd HA.out (by simp [laws_FnPoints.j3])
                  | succ kj35 =>
                    have H := HA.out
                    clear HA
                    simp only [laws_FnPoints.j3] at H
                    have HC41 := Aside0.mk H
                    clear H
                    go_upto_region 18 with (fail)
                    go_cut [87] (fun v87 wc => ∃ (kq : Nat) (x87_40 : Bool), v87 = .bool x87_40 ∧ Aside0 (laws_FnPoints.j4 kq l0 x87_40 = some r) ∧ Aside0 (kq ≤ kj35) ∧ Aside0 (Below w.heap.size w wc))
                    case first =>
                      have H := HC41.out
                      clear HC41
                      by_cases c42 : x9_35 = true
                      · subst c42
                        have H1 : (laws_FnPoints.j4 kj35 l0 false) = some r := by rw [if_pos rfl] at H; exact H
                        clear H
                        have H := H1
                        clear H1
                        have H' := Aside0.mk H
                        clear H
                        go_wp2
                        go_meet
                        case rel => exact ⟨_, (false), (by first | rfl | (simp; done) | (simp [*]; done)), H', ⟨by have := HJ6.out; have := HK2.out; have := HJ35.out; first | omega | exact Nat.le_refl _⟩, ⟨by repeat (first | (with_reducible first | exact HB.out | apply below_alloc | apply pw_below_drewN | apply below_drew1) | exact HB.out)⟩⟩
                      · replace c42 := Bool.eq_false_iff.mpr c42
                        subst c42
                        have H1 : (if (t365.size : Int) ≤ 60000 then ((impl_CodePoints.f t365).bind fun t366 => ((impl_Encode.f t366).bind fun t369 => ((impl_Decode.f kj35 (bytesOf t365) 0).bind fun t370 => (laws_FnPoints.j4 kj35 l0 (t369.toList != t370.toList))))) else (laws_FnPoints.j4 kj35 l0 false)) = some r := by rw [if_neg (show ¬ (false = true) by decide)] at H; exact H
                        clear H
                        have H := H1
                        clear H1
                        by_cases c43 : (t365.size : Int) ≤ 60000
                        · rw [if_pos c43] at H
                          have c43b0 : decide ((t365.size : Int) ≤ 60000) = true := decide_eq_true c43
                          have c43b1 : decide (t365.size ≤ 60000) = true := decide_eq_true (by omega)
                          clear c43
                          (first | rw [c43b0] | (simp only [i64_w, i32_w]; rw [c43b0]) | skip)
                          replace H := Option.bind_eq_some_iff.mp H
                          obtain ⟨t366, A440, H⟩ := H
                          replace H : ((impl_Encode.f t366).bind fun t369 => ((impl_Decode.f kj35 (bytesOf t365) 0).bind fun t370 => (laws_FnPoints.j4 kj35 l0 (t369.toList != t370.toList)))) = some r := H
                          have A44 := Aside0.mk A440
                          clear A440
                          replace H := Option.bind_eq_some_iff.mp H
                          obtain ⟨t369, A450, H⟩ := H
                          replace H : ((impl_Decode.f kj35 (bytesOf t365) 0).bind fun t370 => (laws_FnPoints.j4 kj35 l0 (t369.toList != t370.toList))) = some r := H
                          have A45 := Aside0.mk A450
                          clear A450
                          replace H := Option.bind_eq_some_iff.mp H
                          obtain ⟨t370, A460, H⟩ := H
                          replace H : (laws_FnPoints.j4 kj35 l0 (t369.toList != t370.toList)) = some r := H
                          have A46 := Aside0.mk A460
                          clear A460
                          have H' := Aside0.mk H
                          clear H
                          have Lim_ : Aside0 (t365.size ≤ 60000) := ⟨by have := of_decide_eq_true (p := ((t365.size : Int) ≤ 60000)) (by assumption); omega⟩
                          have kb := fun W => print_bytes (P := Try.prog) 9 22 5 Try.underlying9 Try.underlying22 Try.underlying5 t365 W
                          go_wp2_with (first | (go_at_call 11; (with_reducible refine (impl_CodePoints.calls t365 t366 _ A44.out).mono ?_); rintro e w47 ⟨v367, rfl, ho0, hb⟩; have n0_ := Aside0.mk (Kd.R_lower ho0 (below_size (by repeat (first | (with_reducible first | exact HB.out | apply below_alloc | apply pw_below_drewN | apply below_drew1) | exact HB.out)))); have n1_ := Aside0.mk (below_step (by repeat (first | (with_reducible first | exact HB.out | apply below_alloc | apply pw_below_drewN | apply below_drew1) | exact HB.out)) hb); clear HB; have HO368 := n0_; have HB := n1_; clear n0_ n1_; (try clear hb); (try clear hb2); (try clear hk); (try clear hi); (try clear ho0); obtain ⟨Ao48, co48, eo48⟩ := Kd.R_slice HO368.out; subst eo48) | (go_at_call 10; (with_reducible refine (impl_Encode.calls _ _ t366 t369 _ ?side1 ?side2 A45.out).mono ?_); (case side1 => repeat (first | exact (Kd.R_reads' HO368.out).2.2 | (with_reducible refine Kd.C_alloc ?_ _) | (with_reducible refine Kd.C_drewN ?_ _) | (with_reducible refine Kd.C_drew ?_))); (case side2 => exact (Kd.R_reads' HO368.out).2.1); rintro e w49 ⟨rfl, hb⟩; have n0_ := Aside0.mk (Kd.R_below (by (with_reducible repeat (first | apply Kd.R_alloc | apply Kd.R_drewN | apply Kd.R_drew)); exact HO368.out) hb); have n1_ := Aside0.mk (below_step (by repeat (first | (with_reducible first | exact HB.out | apply below_alloc | apply pw_below_drewN | apply below_drew1) | exact HB.out)) hb); clear HO368; clear HB; have HO368 := n0_; have HB := n1_; clear n0_ n1_; (try clear hb); (try clear hb2); (try clear hk); (try clear hi)) | (go_at_call 14; (refine (dec_conv_calls kj35 t365 0 t370 _ A46.out (by have := Lim_.out; omega)).mono ?_); rintro e w50 ⟨rfl, hb⟩; have n0_ := Aside0.mk (Kd.R_below (by (with_reducible repeat (first | apply Kd.R_alloc | apply Kd.R_drewN | apply Kd.R_drew)); exact HO368.out) hb); have n1_ := Aside0.mk (below_step (by repeat (first | (with_reducible first | exact HB.out | apply below_alloc | apply pw_below_drewN | apply below_drew1) | exact HB.out)) hb); clear HO368; clear HB; have HO368 := n0_; have HB := n1_; clear n0_ n1_; (try clear hb); (try clear hb2); (try clear hk); (try clear hi)))
                          go_meet
                          case rel => exact ⟨_, ((t369.toList != t370.toList)), (by first | rfl | (simp; done) | (simp [*]; done)), H', ⟨by have := HJ6.out; have := HK2.out; have := HJ35.out; first | omega | exact Nat.le_refl _⟩, ⟨by repeat (first | (with_reducible first | exact HB.out | apply below_alloc | apply pw_below_drewN | apply below_drew1) | exact HB.out)⟩⟩
                        · rw [if_neg c43] at H
                          have c43b0 : decide ((t365.size : Int) ≤ 60000) = false := decide_eq_false c43
                          have c43b1 : decide (t365.size ≤ 60000) = false := decide_eq_false (by omega)
                          clear c43
                          (first | rw [c43b0] | (simp only [i64_w, i32_w]; rw [c43b0]) | skip)
                          have H' := Aside0.mk H
                          clear H
                          go_wp2
                          go_meet
                          case rel => exact ⟨_, (false), (by first | rfl | (simp; done) | (simp [*]; done)), H', ⟨by have := HJ6.out; have := HK2.out; have := HJ35.out; first | omega | exact Nat.le_refl _⟩, ⟨by repeat (first | (with_reducible first | exact HB.out | apply below_alloc | apply pw_below_drewN | apply below_drew1) | exact HB.out)⟩⟩
                    case rest =>
                      clear HC41
                      try clear c1
                      try clear c2
                      try clear p2
                      try clear c3
                      try clear p3
                      try clear q3
                      try clear hx3
                      try clear c4
                      try clear p6
                      try clear c8
                      try clear c9
                      try clear c10
                      try clear c11
                      try clear c12
                      try clear c13
                      try clear c13b0
                      try clear c13b1
                      try clear c17
                      try clear c18
                      try clear c18b0
                      try clear c19
                      try clear c19b0
                      try clear c21
                      try clear c21b0
                      try clear c22
                      try clear c22b0
                      try clear c23
                      try clear c23b0
                      try clear c24
                      try clear c25
                      try clear c25b0
                      try clear c26
                      try clear c26b0
                      try clear c27
                      try clear c27b0
                      try clear c27b1
                      try clear c30
                      try clear c30b0
                      try clear c31
                      try clear c31b0
                      try clear c32
                      try clear c32b0
                      try clear c32b1
                      try clear p36
                      try clear q36
                      try clear hx36
                      try clear c38
                      try clear c38b0
                      try clear c38b1
                      try clear c39
                      try clear c39b0
                      try clear c39b1
                      try clear c40
                      try clear c40b0
                      try clear c40b1
                      try clear c42
                      try clear c43
                      try clear c43b0
                      try clear c43b1
                      try clear hx362_0
                      try clear hx363_0
                      try clear hx364_0
                      try clear p2
                      try clear p3
                      try clear p36
                      try clear p362
                      try clear p363
                      try clear p364
                      try clear p6
                      try clear q3
                      try clear q36
                      try clear q362
                      try clear q363
                      try clear q364
                      obtain ⟨kq, x87_40, rfl, HA, HJ40, HB⟩ := hcut
                      cases kq with
                      | zero => exact absurd HA.out (by simp [laws_FnPoints.j4])
                      | succ kj40 =>
                        have H := HA.out
                        clear HA
                        simp only [laws_FnPoints.j4] at H
                        by_cases c51 : x87_40 = true
                        · subst c51
                          have H1 : (some false) = some r := by rw [if_pos rfl] at H; exact H
                          clear H
                          have H := H1
                          clear H1
                          obtain rfl := Option.some.inj H
                          go_wp2
                          go_ret
                          exact ⟨by first | rfl | (simp [errW_none, errW_some] <;> rfl) | (simp [*, errW_none, errW_some] <;> rfl), by repeat (first | (with_reducible first | exact HB.out | apply below_alloc | apply pw_below_drewN | apply below_drew1) | exact HB.out)⟩
                        · replace c51 := Bool.eq_false_iff.mpr c51
                          subst c51
                          have H1 : ((spec_DrawNewlines.f kj40 l0).bind fun t371 => ((impl_Newlines.f kj40 t371).bind fun t372 => (laws_FnPoints.l1 kj40 t371 t372 0))) = some r := by rw [if_neg (show ¬ (false = true) by decide)] at H; exact H
                          clear H
                          have H := H1
                          clear H1
                          replace H := Option.bind_eq_some_iff.mp H
                          obtain ⟨t371, A520, H⟩ := H
                          replace H : ((impl_Newlines.f kj40 t371).bind fun t372 => (laws_FnPoints.l1 kj40 t371 t372 0)) = some r := H
                          have A52 := Aside0.mk A520
                          clear A520
                          replace H := Option.bind_eq_some_iff.mp H
                          obtain ⟨t372, A530, H⟩ := H
                          replace H : (laws_FnPoints.l1 kj40 t371 t372 0) = some r := H
                          have A53 := Aside0.mk A530
                          clear A530
                          have H' := Aside0.mk H
                          clear H
                          go_wp2_with (first | ((with_reducible refine gate_callee (f := 15) rfl ?_); refine goesL_ (some 89) rfl rfl Try.func15 (by kernel_rfl) rfl #[.slice A0 l0.length c0] rfl (by (try simp only [List.map_toArray, List.map_cons, List.map_nil]); first | done | rfl | (simp only [List.length_drop, List.length_take]; rfl)) ?_; (with_reducible refine (spec_DrawNewlines.calls kj40 _ _ l0 t371 _ ?side1 ?side2 A52.out).mono ?_); (case side1 => repeat (first | exact (Kd.C_below HR0.out HB.out) | (with_reducible refine Kd.C_alloc ?_ _) | (with_reducible refine Kd.C_drewN ?_ _) | (with_reducible refine Kd.C_drew ?_))); (case side2 => exact HC0.out); rintro e w54 ⟨rfl, hb⟩; refine ⟨_, rfl, ?_⟩; have n0_ := Aside0.mk (below_step (by repeat (first | (with_reducible first | exact HB.out | apply below_alloc | apply pw_below_drewN | apply below_drew1) | exact HB.out)) hb); clear HB; have HB := n0_; clear n0_; (try clear hb); (try clear hb2); (try clear hk); (try clear hi)) | ((with_reducible refine gate_callee (f := 16) rfl ?_); refine goesL_ (some 91) rfl rfl Try.func16 (by kernel_rfl) rfl #[.string t371] rfl (by (try simp only [List.map_toArray, List.map_cons, List.map_nil]); first | done | rfl | (simp only [List.length_drop, List.length_take]; rfl)) ?_; (with_reducible refine (impl_Newlines.calls kj40 t371 t372 _ A53.out).mono ?_); rintro e w55 ⟨rfl, hb⟩; refine ⟨_, rfl, ?_⟩; have n0_ := Aside0.mk (below_step (by repeat (first | (with_reducible first | exact HB.out | apply below_alloc | apply pw_below_drewN | apply below_drew1) | exact HB.out)) hb); clear HB; have HB := n0_; clear n0_; (try clear hb); (try clear hb2); (try clear hk); (try clear hi)))
                          go_loopg [12] kj40 (fun kq v12 w' => ∃ (x12_5 : Int), v12 = .int .i64 x12_5 ∧ Aside0 (laws_FnPoints.l1 kq t371 t372 x12_5 = some r) ∧ Aside0 (kq ≤ kj40) ∧ Aside0 (Below w.heap.size w w'))
                          case atStart => exact ⟨(0), (by first | rfl | (simp; done) | (simp [*]; done)), H', ⟨Nat.le_refl _⟩, ⟨by repeat (first | (with_reducible first | exact HB.out | apply below_alloc | apply pw_below_drewN | apply below_drew1) | exact HB.out)⟩⟩
                          case round =>
                            clear H'
                            try clear c1
                            try clear c2
                            try clear p2
                            try clear c3
                            try clear p3
                            try clear q3
                            try clear hx3
                            try clear c4
                            try clear c5
                            try clear p6
                            try clear c8
                            try clear c9
                            try clear c10
                            try clear c11
                            try clear c12
                            try clear c13
                            try clear c13b0
                            try clear c13b1
                            try clear c15
                            try clear c16
                            try clear c17
                            try clear c18
                            try clear c18b0
                            try clear c19
                            try clear c19b0
                            try clear c21
                            try clear c21b0
                            try clear c22
                            try clear c22b0
                            try clear c23
                            try clear c23b0
                            try clear c24
                            try clear c25
                            try clear c25b0
                            try clear c26
                            try clear c26b0
                            try clear c27
                            try clear c27b0
                            try clear c27b1
                            try clear c30
                            try clear c30b0
                            try clear c31
                            try clear c31b0
                            try clear c32
                            try clear c32b0
                            try clear c32b1
                            try clear p36
                            try clear q36
                            try clear hx36
                            try clear c38
                            try clear c38b0
                            try clear c38b1
                            try clear c39
                            try clear c39b0
                            try clear c39b1
                            try clear c40
                            try clear c40b0
                            try clear c40b1
                            try clear c42
                            try clear c43
                            try clear c43b0
                            try clear c43b1
                            try clear c51
                            try clear hx362_0
                            try clear hx363_0
                            try clear hx364_0
                            try clear p2
                            try clear p3
                            try clear p36
                            try clear p362
                            try clear p363
                            try clear p364
                            try clear p6
                            try clear q3
                            try clear q36
                            try clear q362
                            try clear q363
                            try clear q364
                            obtain ⟨x12_5, rfl, HA, HK5, HB⟩ := hrel
                            cases gk with
                            | zero => exact absurd HA.out (by simp [laws_FnPoints.l1])
                            | succ k5 =>
                              have H := HA.out
                              clear HA
                              simp only [laws_FnPoints.l1] at H
                              by_cases c56 : x12_5 < (t372.size : Int)
                              · rw [if_pos c56] at H
                                have c56b0 : decide (x12_5 < (t372.size : Int)) = true := decide_eq_true c56
                                clear c56
                                by_cases c57 : 0 ≤ x12_5
                                · rw [if_pos c57] at H
                                  have c57b0 : decide (0 ≤ x12_5) = true := decide_eq_true c57
                                  clear c57
                                  by_cases c59 : (bt t372 x12_5) = 13
                                  · rw [if_pos c59] at H
                                    have c59b0 : ((bt t372 x12_5) == 13) = true := beq_iff_eq.mpr c59
                                    have c59b1 : ((bt t372 x12_5) != 13) = false := bne_eq_false_iff_eq.mpr c59
                                    clear c59
                                    obtain rfl := Option.some.inj H
                                    have p58 : 0 ≤ (x12_5 : Int) := of_decide_eq_true (by first | (with_reducible assumption) | assumption)
                                    have q58 : x12_5 < (t372.size : Int) := of_decide_eq_true (by first | (with_reducible assumption) | assumption)
                                    have hx58 := bt_at t372 x12_5
                                    replace p58 := eq_true p58
                                    replace q58 := eq_true q58
                                    go_wp2
                                    go_ret
                                    exact ⟨by first | rfl | (simp [errW_none, errW_some] <;> rfl) | (simp [*, errW_none, errW_some] <;> rfl), by repeat (first | (with_reducible first | exact HB.out | apply below_alloc | apply pw_below_drewN | apply below_drew1) | exact HB.out)⟩
                                  · rw [if_neg c59] at H
                                    have c59b0 : ((bt t372 x12_5) == 13) = false := beq_eq_false_iff_ne.mpr c59
                                    have c59b1 : ((bt t372 x12_5) != 13) = true := bne_iff_ne.mpr c59
                                    by_cases c61 : (bt t372 x12_5) = 0
                                    · rw [if_pos c61] at H
                                      have c61b0 : ((bt t372 x12_5) == 0) = true := beq_iff_eq.mpr c61
                                      have c61b1 : ((bt t372 x12_5) != 0) = false := bne_eq_false_iff_eq.mpr c61
                                      clear c61
                                      obtain rfl := Option.some.inj H
                                      have p58 : 0 ≤ (x12_5 : Int) := of_decide_eq_true (by first | (with_reducible assumption) | assumption)
                                      have q58 : x12_5 < (t372.size : Int) := of_decide_eq_true (by first | (with_reducible assumption) | assumption)
                                      have hx58 := bt_at t372 x12_5
                                      replace p58 := eq_true p58
                                      replace q58 := eq_true q58
                                      have p60 : 0 ≤ (x12_5 : Int) := of_decide_eq_true (by first | (with_reducible assumption) | assumption)
                                      have q60 : x12_5 < (t372.size : Int) := of_decide_eq_true (by first | (with_reducible assumption) | assumption)
                                      have hx60 := bt_at t372 x12_5
                                      replace p60 := eq_true p60
                                      replace q60 := eq_true q60
                                      go_wp2
                                      go_ret
                                      exact ⟨by first | rfl | (simp [errW_none, errW_some] <;> rfl) | (simp [*, errW_none, errW_some] <;> rfl), by repeat (first | (with_reducible first | exact HB.out | apply below_alloc | apply pw_below_drewN | apply below_drew1) | exact HB.out)⟩
                                    · rw [if_neg c61] at H
                                      have c61b0 : ((bt t372 x12_5) == 0) = false := beq_eq_false_iff_ne.mpr c61
                                      have c61b1 : ((bt t372 x12_5) != 0) = true := bne_iff_ne.mpr c61
                                      have H' := Aside0.mk H
                                      clear H
                                      have p58 : 0 ≤ (x12_5 : Int) := of_decide_eq_true (by first | (with_reducible assumption) | assumption)
                                      have q58 : x12_5 < (t372.size : Int) := of_decide_eq_true (by first | (with_reducible assumption) | assumption)
                                      have hx58 := bt_at t372 x12_5
                                      replace p58 := eq_true p58
                                      replace q58 := eq_true q58
                                      have p60 : 0 ≤ (x12_5 : Int) := of_decide_eq_true (by first | (with_reducible assumption) | assumption)
                                      have q60 : x12_5 < (t372.size : Int) := of_decide_eq_true (by first | (with_reducible assumption) | assumption)
                                      have hx60 := bt_at t372 x12_5
                                      replace p60 := eq_true p60
                                      replace q60 := eq_true q60
                                      go_wp2
                                      go_roundg k5
                                      case measure => have := HJ6.out; have := HK2.out; have := HJ35.out; have := HJ40.out; have := HK5.out; omega
                                      case rel => exact ⟨(wrap64 (x12_5 + 1)), (by first | rfl | (simp; done) | (simp [*]; done)), H', ⟨by have := HJ6.out; have := HK2.out; have := HJ35.out; have := HJ40.out; have := HK5.out; omega⟩, ⟨by repeat (first | (with_reducible first | exact HB.out | apply below_alloc | apply pw_below_drewN | apply below_drew1) | exact HB.out)⟩⟩
                                · rw [if_neg c57] at H
                                  exact absurd H (by simp)
                              · rw [if_neg c56] at H
                                have c56b0 : decide (x12_5 < (t372.size : Int)) = false := decide_eq_false c56
                                clear c56
                                replace H := Option.bind_eq_some_iff.mp H
                                obtain ⟨t373, A620, H⟩ := H
                                replace H : (if t372.toList = t373.toList then ((impl_Newlines.f k5 t372).bind fun t374 => (some (t374.toList == t372.toList))) else (some false)) = some r := H
                                have A62 := Aside0.mk A620
                                clear A620
                                by_cases c63 : t372.toList = t373.toList
                                · rw [if_pos c63] at H
                                  have c63b0 : (t372.toList == t373.toList) = true := beq_iff_eq.mpr c63
                                  have c63b1 : (t372.toList != t373.toList) = false := bne_eq_false_iff_eq.mpr c63
                                  clear c63
                                  replace H := Option.bind_eq_some_iff.mp H
                                  obtain ⟨t374, A640, H⟩ := H
                                  replace H : (some (t374.toList == t372.toList)) = some r := H
                                  have A64 := Aside0.mk A640
                                  clear A640
                                  obtain rfl := Option.some.inj H
                                  go_wp2_with (first | ((with_reducible refine gate_callee (f := 17) rfl ?_); refine goesL_ (some 110) rfl rfl Try.func17 (by kernel_rfl) rfl #[.string t371] rfl (by (try simp only [List.map_toArray, List.map_cons, List.map_nil]); first | done | rfl | (simp only [List.length_drop, List.length_take]; rfl)) ?_; (with_reducible refine (spec_Newlines.calls k5 t371 t373 _ A62.out).mono ?_); rintro e w65 ⟨rfl, hb⟩; refine ⟨_, rfl, ?_⟩; have n0_ := Aside0.mk (below_step (by repeat (first | (with_reducible first | exact HB.out | apply below_alloc | apply pw_below_drewN | apply below_drew1) | exact HB.out)) hb); clear HB; have HB := n0_; clear n0_; (try clear hb); (try clear hb2); (try clear hk); (try clear hi)) | (go_at_call 16; (with_reducible refine (impl_Newlines.calls k5 t372 t374 _ A64.out).mono ?_); rintro e w66 ⟨rfl, hb⟩; have n0_ := Aside0.mk (below_step (by repeat (first | (with_reducible first | exact HB.out | apply below_alloc | apply pw_below_drewN | apply below_drew1) | exact HB.out)) hb); clear HB; have HB := n0_; clear n0_; (try clear hb); (try clear hb2); (try clear hk); (try clear hi)))
                                  go_ret
                                  exact ⟨by first | rfl | (simp [errW_none, errW_some] <;> rfl) | (simp [*, errW_none, errW_some] <;> rfl), by repeat (first | (with_reducible first | exact HB.out | apply below_alloc | apply pw_below_drewN | apply below_drew1) | exact HB.out)⟩
                                · rw [if_neg c63] at H
                                  have c63b0 : (t372.toList == t373.toList) = false := beq_eq_false_iff_ne.mpr c63
                                  have c63b1 : (t372.toList != t373.toList) = true := bne_iff_ne.mpr c63
                                  obtain rfl := Option.some.inj H
                                  go_wp2_with (first | ((with_reducible refine gate_callee (f := 17) rfl ?_); refine goesL_ (some 110) rfl rfl Try.func17 (by kernel_rfl) rfl #[.string t371] rfl (by (try simp only [List.map_toArray, List.map_cons, List.map_nil]); first | done | rfl | (simp only [List.length_drop, List.length_take]; rfl)) ?_; (with_reducible refine (spec_Newlines.calls k5 t371 t373 _ A62.out).mono ?_); rintro e w67 ⟨rfl, hb⟩; refine ⟨_, rfl, ?_⟩; have n0_ := Aside0.mk (below_step (by repeat (first | (with_reducible first | exact HB.out | apply below_alloc | apply pw_below_drewN | apply below_drew1) | exact HB.out)) hb); clear HB; have HB := n0_; clear n0_; (try clear hb); (try clear hb2); (try clear hk); (try clear hi)))
                                  go_ret
                                  exact ⟨by first | rfl | (simp [errW_none, errW_some] <;> rfl) | (simp [*, errW_none, errW_some] <;> rfl), by repeat (first | (with_reducible first | exact HB.out | apply below_alloc | apply pw_below_drewN | apply below_drew1) | exact HB.out)⟩

/-- THE ONE PURE STATEMENT of laws_FnPoints: yours. -/
def laws_FnPoints.Pure : Prop := ∀ (l0 : List Int), l0.length ≤ maxLen → l0.length * 1 ≤ 140737488351232 → (∀ x ∈ l0, (Lit.int .u8 x).wf = true) → ∃ k, laws_FnPoints.f k l0 = some true
theorem laws_FnPoints.walk (P : laws_FnPoints.Pure) (a0 : Option Addr) (len0 cap0 : Nat) (z0 : List Int) (w : World) (w0 : (a0 = none ∧ len0 = 0 ∧ cap0 = 0 ∧ z0 = []) ∨ ∃ x, a0 = some x ∧ len0 ≤ cap0 ∧ cap0 ≤ maxLen ∧ z0.length = cap0 ∧ (∀ i, i < z0.length → w.cell? (x.add i) = some (.int .u8 (z0.getD i 0))) ∧ ∀ n ∈ z0, (Lit.int .u8 n).wf = true) (y0 : len0 * 1 ≤ 140737488351232) :
    Calls Try.prog 3 #[.slice a0 len0 cap0] w fun e w' => e = .returned (.bool true) ∧ Below w.heap.size w w' := by
  obtain ⟨l0, rfl, hr0, hm0, hw0, hc0⟩ := ReadsInt.ofRowC w0
  obtain ⟨k, h⟩ := P l0 hm0 y0 hw0
  refine (laws_FnPoints.calls k _ _ l0 true w (Kd.C_of_reads (d := (0 : Int)) (h1 := fun _ => rfl) hr0) hc0 h).mono ?_
  rintro e w' ⟨rfl, hd⟩
  exact ⟨rfl, hd⟩

end Go.Proofs.Ytmffcjjodkggcaa.MFnPoints
