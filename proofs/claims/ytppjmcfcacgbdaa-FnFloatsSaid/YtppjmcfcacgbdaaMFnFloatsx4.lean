-- Written by this session's own program (wip/gen/myprint.py).
import Derived.Test.YtppjmcfcacgbdaaMFnFloatsx0
import Derived.Test.YtppjmcfcacgbdaaMFnFloatsx2
import Derived.Test.YtppjmcfcacgbdaaMFnFloatsx3
namespace Go.Proofs.Ytppjmcfcacgbdaa.MFnFloats
open Go.RowKit Go.Proofs.YtppjmcfcacgbdaaW.PrintWords Go.Proofs.YtppjmcfcacgbdaaW.PrintLast Go.Proofs.YtppjmcfcacgbdaaW.PrintMore
attribute [local go_sem] max2_int min2_int max_two min_two max_three min_three max_four min_four   -- for this text's walks alone
set_option linter.unusedVariables false
set_option linter.unusedSimpArgs false

/-! ### spec_PlaceFloat: function 23 -/
mutual
def spec_PlaceFloat.j0 : Nat → List (S38) → Int → Int → Int → Int → Int → Bool → Bool → Option (Int × Int × Int × Int)
 | 0, _, _, _, _, _, _, _, _ => none
 | k + 1, x0, x1, x2, x3, x4, x5, x6, x38 => if x38 = true then (some (0, 0, 0, 0)) else (spec_PlaceFloat.l0 k x0 x1 x2 x3 x4 x5 x6 0)
def spec_PlaceFloat.l0 : Nat → List (S38) → Int → Int → Int → Int → Int → Bool → Int → Option (Int × Int × Int × Int)
 | 0, _, _, _, _, _, _, _, _ => none
 | k + 1, x0, x1, x2, x3, x4, x5, x6, x15 => if x15 < (x0.length : Int) then (if 0 ≤ x15 then (if ((rd_T38 x0 x15).f0.f1) > x3 then (spec_PlaceFloat.l0 k x0 x1 x2 ((rd_T38 x0 x15).f0.f1) x4 x5 x6 (wrap64 (x15 + 1))) else (spec_PlaceFloat.l0 k x0 x1 x2 x3 x4 x5 x6 (wrap64 (x15 + 1)))) else (none)) else (if x5 = 0 then (spec_PlaceFloat.j2 k x0 x1 x2 x3 x4 x5 x6 1) else (spec_PlaceFloat.j2 k x0 x1 x2 x3 x4 x5 x6 x5))
def spec_PlaceFloat.j2 : Nat → List (S38) → Int → Int → Int → Int → Int → Bool → Int → Option (Int × Int × Int × Int)
 | 0, _, _, _, _, _, _, _, _ => none
 | k + 1, x0, x1, x2, x3, x4, x5, x6, x16 => spec_PlaceFloat.l1 k x0 x1 x2 x3 x4 x5 x6 x16
def spec_PlaceFloat.l1 : Nat → List (S38) → Int → Int → Int → Int → Int → Bool → Int → Option (Int × Int × Int × Int)
 | 0, _, _, _, _, _, _, _, _ => none
 | k + 1, x0, x1, x2, x3, x4, x5, x6, x16 => (spec_l17Room.f k x0 x1 x2 x3 x16).bind fun bt147 => (if (wrap64 (bt147.2 - bt147.1)) ≥ x4 then (spec_PlaceFloat.j4 k x0 x1 x2 x3 x4 x5 x6 x16 bt147.1 bt147.2 true) else ((spec_l17Free.f k x0 x3 x16).bind fun t149 => (spec_PlaceFloat.j4 k x0 x1 x2 x3 x4 x5 x6 x16 bt147.1 bt147.2 t149)))
def spec_PlaceFloat.j4 : Nat → List (S38) → Int → Int → Int → Int → Int → Bool → Int → Int → Int → Bool → Option (Int × Int × Int × Int)
 | 0, _, _, _, _, _, _, _, _, _, _, _ => none
 | k + 1, x0, x1, x2, x3, x4, x5, x6, x16, x17, x18, x82 => if x82 = true then (if x6 = true then (some (wrap64 (x18 - x4), x3, x4, x5)) else (some (x17, x3, x4, x5))) else ((spec_l17Down.f k x0 x3).bind fun t150 => (spec_PlaceFloat.l1 k x0 x1 x2 t150 x4 x5 x6 x16))
end
def spec_PlaceFloat.f (k : Nat) (l0 : List (S38)) (a1 : Int) (a2 : Int) (a3 : Int) (a4 : Int) (a5 : Int) (a6 : Bool) : Option (Int × Int × Int × Int) := (spec_l17Ok.f k l0 a3 a5).bind fun t141 => (if t141 = true then ((spec_l12In.f a4 0 100000000).bind fun t142 => (if t142 = true then ((spec_l9In.f a1 100000000).bind fun t143 => (if t143 = true then ((spec_l9In.f a2 100000000).bind fun t144 => (spec_PlaceFloat.j0 k l0 a1 a2 a3 a4 a5 a6 (!t144))) else (spec_PlaceFloat.j0 k l0 a1 a2 a3 a4 a5 a6 true))) else (spec_PlaceFloat.j0 k l0 a1 a2 a3 a4 a5 a6 true))) else (spec_PlaceFloat.j0 k l0 a1 a2 a3 a4 a5 a6 true))
theorem spec_PlaceFloat.mono_l : ∀ k, (∀ y0 y1 y2 y3 y4 y5 y6 y7, LeO (spec_PlaceFloat.j0 k y0 y1 y2 y3 y4 y5 y6 y7) (spec_PlaceFloat.j0 (k + 1) y0 y1 y2 y3 y4 y5 y6 y7)) ∧ (∀ y0 y1 y2 y3 y4 y5 y6 y7, LeO (spec_PlaceFloat.l0 k y0 y1 y2 y3 y4 y5 y6 y7) (spec_PlaceFloat.l0 (k + 1) y0 y1 y2 y3 y4 y5 y6 y7)) ∧ (∀ y0 y1 y2 y3 y4 y5 y6 y7, LeO (spec_PlaceFloat.j2 k y0 y1 y2 y3 y4 y5 y6 y7) (spec_PlaceFloat.j2 (k + 1) y0 y1 y2 y3 y4 y5 y6 y7)) ∧ (∀ y0 y1 y2 y3 y4 y5 y6 y7, LeO (spec_PlaceFloat.l1 k y0 y1 y2 y3 y4 y5 y6 y7) (spec_PlaceFloat.l1 (k + 1) y0 y1 y2 y3 y4 y5 y6 y7)) ∧ (∀ y0 y1 y2 y3 y4 y5 y6 y7 y8 y9 y10, LeO (spec_PlaceFloat.j4 k y0 y1 y2 y3 y4 y5 y6 y7 y8 y9 y10) (spec_PlaceFloat.j4 (k + 1) y0 y1 y2 y3 y4 y5 y6 y7 y8 y9 y10))
 | 0 => ⟨fun _ _ _ _ _ _ _ _ r h => by simp [spec_PlaceFloat.j0] at h, fun _ _ _ _ _ _ _ _ r h => by simp [spec_PlaceFloat.l0] at h, fun _ _ _ _ _ _ _ _ r h => by simp [spec_PlaceFloat.j2] at h, fun _ _ _ _ _ _ _ _ r h => by simp [spec_PlaceFloat.l1] at h, fun _ _ _ _ _ _ _ _ _ _ _ r h => by simp [spec_PlaceFloat.j4] at h⟩
 | k + 1 => by
  obtain ⟨ih0, ih1, ih2, ih3, ih4⟩ := spec_PlaceFloat.mono_l k
  refine ⟨?_, ?_, ?_, ?_, ?_⟩
  · intro y0 y1 y2 y3 y4 y5 y6 y7
    unfold spec_PlaceFloat.j0
    repeat' first
    | (with_reducible exact ih0 _ _ _ _ _ _ _ _)
    | (with_reducible exact ih1 _ _ _ _ _ _ _ _)
    | (with_reducible exact ih2 _ _ _ _ _ _ _ _)
    | (with_reducible exact ih3 _ _ _ _ _ _ _ _)
    | (with_reducible exact ih4 _ _ _ _ _ _ _ _ _ _ _)
    | (with_reducible exact spec_l17Down.mono _ _ _)
    | (with_reducible exact spec_l17Free.mono _ _ _ _)
    | (with_reducible exact spec_l17Ok.mono _ _ _ _)
    | (with_reducible exact spec_l17Room.mono _ _ _ _ _ _)
    | (with_reducible exact LeO.refl _)
    | (with_reducible exact LeO.none _)
    | (with_reducible refine LeO.ite ?_ ?_)
    | (with_reducible refine LeO.bind ?_ (fun _ => ?_))
    | exact ih0 _ _ _ _ _ _ _ _
    | exact ih1 _ _ _ _ _ _ _ _
    | exact ih2 _ _ _ _ _ _ _ _
    | exact ih3 _ _ _ _ _ _ _ _
    | exact ih4 _ _ _ _ _ _ _ _ _ _ _
    | exact spec_l17Down.mono _ _ _
    | exact spec_l17Free.mono _ _ _ _
    | exact spec_l17Ok.mono _ _ _ _
    | exact spec_l17Room.mono _ _ _ _ _ _
    | exact LeO.none _
    | refine LeO.ite ?_ ?_
    | refine LeO.bind ?_ (fun _ => ?_)
  · intro y0 y1 y2 y3 y4 y5 y6 y7
    unfold spec_PlaceFloat.l0
    repeat' first
    | (with_reducible exact ih0 _ _ _ _ _ _ _ _)
    | (with_reducible exact ih1 _ _ _ _ _ _ _ _)
    | (with_reducible exact ih2 _ _ _ _ _ _ _ _)
    | (with_reducible exact ih3 _ _ _ _ _ _ _ _)
    | (with_reducible exact ih4 _ _ _ _ _ _ _ _ _ _ _)
    | (with_reducible exact spec_l17Down.mono _ _ _)
    | (with_reducible exact spec_l17Free.mono _ _ _ _)
    | (with_reducible exact spec_l17Ok.mono _ _ _ _)
    | (with_reducible exact spec_l17Room.mono _ _ _ _ _ _)
    | (with_reducible exact LeO.refl _)
    | (with_reducible exact LeO.none _)
    | (with_reducible refine LeO.ite ?_ ?_)
    | (with_reducible refine LeO.bind ?_ (fun _ => ?_))
    | exact ih0 _ _ _ _ _ _ _ _
    | exact ih1 _ _ _ _ _ _ _ _
    | exact ih2 _ _ _ _ _ _ _ _
    | exact ih3 _ _ _ _ _ _ _ _
    | exact ih4 _ _ _ _ _ _ _ _ _ _ _
    | exact spec_l17Down.mono _ _ _
    | exact spec_l17Free.mono _ _ _ _
    | exact spec_l17Ok.mono _ _ _ _
    | exact spec_l17Room.mono _ _ _ _ _ _
    | exact LeO.none _
    | refine LeO.ite ?_ ?_
    | refine LeO.bind ?_ (fun _ => ?_)
  · intro y0 y1 y2 y3 y4 y5 y6 y7
    unfold spec_PlaceFloat.j2
    repeat' first
    | (with_reducible exact ih0 _ _ _ _ _ _ _ _)
    | (with_reducible exact ih1 _ _ _ _ _ _ _ _)
    | (with_reducible exact ih2 _ _ _ _ _ _ _ _)
    | (with_reducible exact ih3 _ _ _ _ _ _ _ _)
    | (with_reducible exact ih4 _ _ _ _ _ _ _ _ _ _ _)
    | (with_reducible exact spec_l17Down.mono _ _ _)
    | (with_reducible exact spec_l17Free.mono _ _ _ _)
    | (with_reducible exact spec_l17Ok.mono _ _ _ _)
    | (with_reducible exact spec_l17Room.mono _ _ _ _ _ _)
    | (with_reducible exact LeO.refl _)
    | (with_reducible exact LeO.none _)
    | (with_reducible refine LeO.ite ?_ ?_)
    | (with_reducible refine LeO.bind ?_ (fun _ => ?_))
    | exact ih0 _ _ _ _ _ _ _ _
    | exact ih1 _ _ _ _ _ _ _ _
    | exact ih2 _ _ _ _ _ _ _ _
    | exact ih3 _ _ _ _ _ _ _ _
    | exact ih4 _ _ _ _ _ _ _ _ _ _ _
    | exact spec_l17Down.mono _ _ _
    | exact spec_l17Free.mono _ _ _ _
    | exact spec_l17Ok.mono _ _ _ _
    | exact spec_l17Room.mono _ _ _ _ _ _
    | exact LeO.none _
    | refine LeO.ite ?_ ?_
    | refine LeO.bind ?_ (fun _ => ?_)
  · intro y0 y1 y2 y3 y4 y5 y6 y7
    unfold spec_PlaceFloat.l1
    repeat' first
    | (with_reducible exact ih0 _ _ _ _ _ _ _ _)
    | (with_reducible exact ih1 _ _ _ _ _ _ _ _)
    | (with_reducible exact ih2 _ _ _ _ _ _ _ _)
    | (with_reducible exact ih3 _ _ _ _ _ _ _ _)
    | (with_reducible exact ih4 _ _ _ _ _ _ _ _ _ _ _)
    | (with_reducible exact spec_l17Down.mono _ _ _)
    | (with_reducible exact spec_l17Free.mono _ _ _ _)
    | (with_reducible exact spec_l17Ok.mono _ _ _ _)
    | (with_reducible exact spec_l17Room.mono _ _ _ _ _ _)
    | (with_reducible exact LeO.refl _)
    | (with_reducible exact LeO.none _)
    | (with_reducible refine LeO.ite ?_ ?_)
    | (with_reducible refine LeO.bind ?_ (fun _ => ?_))
    | exact ih0 _ _ _ _ _ _ _ _
    | exact ih1 _ _ _ _ _ _ _ _
    | exact ih2 _ _ _ _ _ _ _ _
    | exact ih3 _ _ _ _ _ _ _ _
    | exact ih4 _ _ _ _ _ _ _ _ _ _ _
    | exact spec_l17Down.mono _ _ _
    | exact spec_l17Free.mono _ _ _ _
    | exact spec_l17Ok.mono _ _ _ _
    | exact spec_l17Room.mono _ _ _ _ _ _
    | exact LeO.none _
    | refine LeO.ite ?_ ?_
    | refine LeO.bind ?_ (fun _ => ?_)
  · intro y0 y1 y2 y3 y4 y5 y6 y7 y8 y9 y10
    unfold spec_PlaceFloat.j4
    repeat' first
    | (with_reducible exact ih0 _ _ _ _ _ _ _ _)
    | (with_reducible exact ih1 _ _ _ _ _ _ _ _)
    | (with_reducible exact ih2 _ _ _ _ _ _ _ _)
    | (with_reducible exact ih3 _ _ _ _ _ _ _ _)
    | (with_reducible exact ih4 _ _ _ _ _ _ _ _ _ _ _)
    | (with_reducible exact spec_l17Down.mono _ _ _)
    | (with_reducible exact spec_l17Free.mono _ _ _ _)
    | (with_reducible exact spec_l17Ok.mono _ _ _ _)
    | (with_reducible exact spec_l17Room.mono _ _ _ _ _ _)
    | (with_reducible exact LeO.refl _)
    | (with_reducible exact LeO.none _)
    | (with_reducible refine LeO.ite ?_ ?_)
    | (with_reducible refine LeO.bind ?_ (fun _ => ?_))
    | exact ih0 _ _ _ _ _ _ _ _
    | exact ih1 _ _ _ _ _ _ _ _
    | exact ih2 _ _ _ _ _ _ _ _
    | exact ih3 _ _ _ _ _ _ _ _
    | exact ih4 _ _ _ _ _ _ _ _ _ _ _
    | exact spec_l17Down.mono _ _ _
    | exact spec_l17Free.mono _ _ _ _
    | exact spec_l17Ok.mono _ _ _ _
    | exact spec_l17Room.mono _ _ _ _ _ _
    | exact LeO.none _
    | refine LeO.ite ?_ ?_
    | refine LeO.bind ?_ (fun _ => ?_)
theorem spec_PlaceFloat.mono : ∀ a0 a1 a2 a3 a4 a5 a6 k, LeO (spec_PlaceFloat.f k a0 a1 a2 a3 a4 a5 a6) (spec_PlaceFloat.f (k + 1) a0 a1 a2 a3 a4 a5 a6) := by
 intro a0 a1 a2 a3 a4 a5 a6 k
 obtain ⟨ih0, ih1, ih2, ih3, ih4⟩ := spec_PlaceFloat.mono_l k
 unfold spec_PlaceFloat.f
 repeat' first
  | (with_reducible exact ih0 _ _ _ _ _ _ _ _)
  | (with_reducible exact ih1 _ _ _ _ _ _ _ _)
  | (with_reducible exact ih2 _ _ _ _ _ _ _ _)
  | (with_reducible exact ih3 _ _ _ _ _ _ _ _)
  | (with_reducible exact ih4 _ _ _ _ _ _ _ _ _ _ _)
  | (with_reducible exact spec_l17Down.mono _ _ _)
  | (with_reducible exact spec_l17Free.mono _ _ _ _)
  | (with_reducible exact spec_l17Ok.mono _ _ _ _)
  | (with_reducible exact spec_l17Room.mono _ _ _ _ _ _)
  | (with_reducible exact LeO.refl _)
  | (with_reducible exact LeO.none _)
  | (with_reducible refine LeO.ite ?_ ?_)
  | (with_reducible refine LeO.bind ?_ (fun _ => ?_))
  | exact ih0 _ _ _ _ _ _ _ _
  | exact ih1 _ _ _ _ _ _ _ _
  | exact ih2 _ _ _ _ _ _ _ _
  | exact ih3 _ _ _ _ _ _ _ _
  | exact ih4 _ _ _ _ _ _ _ _ _ _ _
  | exact spec_l17Down.mono _ _ _
  | exact spec_l17Free.mono _ _ _ _
  | exact spec_l17Ok.mono _ _ _ _
  | exact spec_l17Room.mono _ _ _ _ _ _
  | exact LeO.none _
  | refine LeO.ite ?_ ?_
  | refine LeO.bind ?_ (fun _ => ?_)
set_option maxHeartbeats 8000000 in
set_option maxRecDepth 100000 in
theorem spec_PlaceFloat.calls (k : Nat) (A0 : Option Addr) (c0 : Nat) (l0 : List (S38)) (a1 : Int) (a2 : Int) (a3 : Int) (a4 : Int) (a5 : Int) (a6 : Bool) (r1 : Int) (r2 : Int) (r3 : Int) (r4 : Int) (w : World) (hr0 : Kd.C k38 w A0 l0.length l0) (hc0 : l0.length ≤ c0) (h : spec_PlaceFloat.f k l0 a1 a2 a3 a4 a5 a6 = some (r1, r2, r3, r4)) :
 Calls Try.prog 23 #[.slice A0 l0.length c0, .int .i64 a1, .int .i64 a2, .int .i64 a3, .int .i64 a4, .int .i64 a5, .bool a6] w fun e w' => e = .returned (.agg #[.int .i64 r1, .int .i64 r2, .int .i64 r3, .int .i64 r4]) ∧ Below w.heap.size w w' := by
 have hu34 := Try.underlying34
 have HR0 := aMk hr0
 have HC0 := aMk hc0
 clear hr0 hc0
 have HB := aMk (Below.refl w.heap.size w)
 have H : ((spec_l17Ok.f k l0 a3 a5).bind fun t141 => (if t141 = true then ((spec_l12In.f a4 0 100000000).bind fun t142 => (if t142 = true then ((spec_l9In.f a1 100000000).bind fun t143 => (if t143 = true then ((spec_l9In.f a2 100000000).bind fun t144 => (spec_PlaceFloat.j0 k l0 a1 a2 a3 a4 a5 a6 (!t144))) else (spec_PlaceFloat.j0 k l0 a1 a2 a3 a4 a5 a6 true))) else (spec_PlaceFloat.j0 k l0 a1 a2 a3 a4 a5 a6 true))) else (spec_PlaceFloat.j0 k l0 a1 a2 a3 a4 a5 a6 true))) = some (r1, r2, r3, r4) := h
 clear h
 have HC8 := aMk H
 clear H
 go_enter Try.func23, Try.ntmps23
 go_upto_region 1 with (first | ((with_reducible refine gate_dst (N := 14) rfl ?_); refine box_event ?hg (N := 14) ?hd (cs := #[.int .i64 0, .int .i64 0, .int .i64 0, .int .i64 0]) (t := 34) ?hr ?_; (case hd => rfl); (case hg => rfl); (case hr => first | (go_simp; done) | (go_simp; rfl)); intro gb140 hg w9 hbox hb; have n0_ := aMk (below_step (by repeat (first | (with_reducible first | exact HB.out | apply bAl | apply bDn | apply bD1) | exact HB.out)) hb); have n1_ := aMk (hbox); have n2_ := aMk ((by rw [hg]; exact (below_size (by repeat (first | (with_reducible first | exact HB.out | apply bAl | apply bDn | apply bD1) | exact HB.out))) : w.heap.size ≤ gb140)); have n3_ := aMk ((by rw [hg]; exact (below_size (by repeat (first | (with_reducible first | exact HB.out | apply bAl | apply bDn | apply bD1) | exact HB.out))) : w.heap.size ≤ gb140)); clear HB; have HB := n0_; have BK140 := n1_; have GW140 := n2_; have GE140 := n3_; clear n0_ n1_ n2_ n3_; clear hb hbox hg))
 (try simp only [Act.put, lSa, lSz, lSs])
 go_cut [38] (fun v38 wc => ∃ (kq : Nat) (x38_7 : Bool), v38 = .bool x38_7 ∧ Aside0 (spec_PlaceFloat.j0 kq l0 a1 a2 a3 a4 a5 a6 x38_7 = some (r1, r2, r3, r4)) ∧ Aside0 (kq ≤ k) ∧ Aside0 (wc.heap[gb140]? = some (.cells #[.int .i64 0, .int .i64 0, .int .i64 0, .int .i64 0] 34 (0, 0))) ∧ Aside0 (Below w.heap.size w wc))
 case first =>
  have H := HC8.out
  clear HC8
  replace H := oBm H
  obtain ⟨t141, A100, H⟩ := H
  replace H : (if t141 = true then ((spec_l12In.f a4 0 100000000).bind fun t142 => (if t142 = true then ((spec_l9In.f a1 100000000).bind fun t143 => (if t143 = true then ((spec_l9In.f a2 100000000).bind fun t144 => (spec_PlaceFloat.j0 k l0 a1 a2 a3 a4 a5 a6 (!t144))) else (spec_PlaceFloat.j0 k l0 a1 a2 a3 a4 a5 a6 true))) else (spec_PlaceFloat.j0 k l0 a1 a2 a3 a4 a5 a6 true))) else (spec_PlaceFloat.j0 k l0 a1 a2 a3 a4 a5 a6 true)) = some (r1, r2, r3, r4) := H
  have A10 := aMk A100
  clear A100
  by_cases c11 : t141 = true
  · subst c11
    have H1 : ((spec_l12In.f a4 0 100000000).bind fun t142 => (if t142 = true then ((spec_l9In.f a1 100000000).bind fun t143 => (if t143 = true then ((spec_l9In.f a2 100000000).bind fun t144 => (spec_PlaceFloat.j0 k l0 a1 a2 a3 a4 a5 a6 (!t144))) else (spec_PlaceFloat.j0 k l0 a1 a2 a3 a4 a5 a6 true))) else (spec_PlaceFloat.j0 k l0 a1 a2 a3 a4 a5 a6 true))) = some (r1, r2, r3, r4) := by rw [if_pos rfl] at H; exact H
    clear H
    have H := H1
    clear H1
    replace H := oBm H
    obtain ⟨t142, A120, H⟩ := H
    replace H : (if t142 = true then ((spec_l9In.f a1 100000000).bind fun t143 => (if t143 = true then ((spec_l9In.f a2 100000000).bind fun t144 => (spec_PlaceFloat.j0 k l0 a1 a2 a3 a4 a5 a6 (!t144))) else (spec_PlaceFloat.j0 k l0 a1 a2 a3 a4 a5 a6 true))) else (spec_PlaceFloat.j0 k l0 a1 a2 a3 a4 a5 a6 true)) = some (r1, r2, r3, r4) := H
    have A12 := aMk A120
    clear A120
    by_cases c13 : t142 = true
    · subst c13
      have H1 : ((spec_l9In.f a1 100000000).bind fun t143 => (if t143 = true then ((spec_l9In.f a2 100000000).bind fun t144 => (spec_PlaceFloat.j0 k l0 a1 a2 a3 a4 a5 a6 (!t144))) else (spec_PlaceFloat.j0 k l0 a1 a2 a3 a4 a5 a6 true))) = some (r1, r2, r3, r4) := by rw [if_pos rfl] at H; exact H
      clear H
      have H := H1
      clear H1
      replace H := oBm H
      obtain ⟨t143, A140, H⟩ := H
      replace H : (if t143 = true then ((spec_l9In.f a2 100000000).bind fun t144 => (spec_PlaceFloat.j0 k l0 a1 a2 a3 a4 a5 a6 (!t144))) else (spec_PlaceFloat.j0 k l0 a1 a2 a3 a4 a5 a6 true)) = some (r1, r2, r3, r4) := H
      have A14 := aMk A140
      clear A140
      by_cases c15 : t143 = true
      · subst c15
        have H1 : ((spec_l9In.f a2 100000000).bind fun t144 => (spec_PlaceFloat.j0 k l0 a1 a2 a3 a4 a5 a6 (!t144))) = some (r1, r2, r3, r4) := by rw [if_pos rfl] at H; exact H
        clear H
        have H := H1
        clear H1
        replace H := oBm H
        obtain ⟨t144, A160, H⟩ := H
        replace H : (spec_PlaceFloat.j0 k l0 a1 a2 a3 a4 a5 a6 (!t144)) = some (r1, r2, r3, r4) := H
        have A16 := aMk A160
        clear A160
        have H' := aMk H
        clear H
        go_wp2_with (first | ((with_reducible refine gate_callee (f := 74) rfl ?_); refine goesL_ (some 22) rfl rfl Try.func74 (by kernel_rfl) rfl #[.slice A0 l0.length c0, .int .i64 a3, .int .i64 a5] rfl (by (try simp only [List.map_toArray, List.map_cons, List.map_nil]); first | done | rfl | (simp only [List.length_drop, List.length_take]; rfl)) ?_; (with_reducible refine (spec_l17Ok.calls k _ _ l0 a3 a5 true _ ?side1 ?side2 A10.out).mono ?_); (case side1 => repeat (first | exact (Kd.C_below HR0.out HB.out) | (with_reducible refine Kd.C_alloc ?_ _) | (with_reducible refine Kd.C_drewN ?_ _) | (with_reducible refine Kd.C_drew ?_))); (case side2 => exact HC0.out); rintro e w17 ⟨rfl, hb⟩; refine ⟨_, rfl, ?_⟩; have n0_ := aMk (blk_below (g := gb140) (o := .cells #[.int .i64 0, .int .i64 0, .int .i64 0, .int .i64 0] 34 (0, 0)) (by (with_reducible repeat (first | refine bkD ?_ _ | refine blk_drew ?_ | refine bkA ?_ _)); exact BK140.out) hb); have n1_ := aMk (below_step (by repeat (first | (with_reducible first | exact HB.out | apply bAl | apply bDn | apply bD1 | refine bSe ?_ GE140.out) | exact HB.out)) hb); clear BK140; clear HB; have BK140 := n0_; have HB := n1_; clear n0_ n1_; (try clear hb); (try clear hb2); (try clear hk); (try clear hi)) | (go_at_call 64; (with_reducible refine (spec_l12In.calls a4 0 100000000 true _ A12.out).mono ?_); rintro e w' ⟨rfl, ⟨nd, rfl⟩⟩) | (go_at_call 75; (with_reducible refine (spec_l9In.calls a1 100000000 true _ A14.out).mono ?_); rintro e w' ⟨rfl, ⟨nd, rfl⟩⟩) | (go_at_call 75; (with_reducible refine (spec_l9In.calls a2 100000000 t144 _ A16.out).mono ?_); rintro e w' ⟨rfl, ⟨nd, rfl⟩⟩))
        go_meet
        case rel => exact ⟨_, (!t144), (by first | rfl | (simp; done) | (simp [*]; done)), H', ⟨by first | omega | exact Nat.le_refl _⟩, ⟨by (with_reducible repeat (first | refine bkD ?_ _ | refine blk_drew ?_ | refine bkA ?_ _)); exact BK140.out⟩, ⟨by repeat (first | (with_reducible first | exact HB.out | apply bAl | apply bDn | apply bD1 | refine bSe ?_ GE140.out) | exact HB.out)⟩⟩
      · replace c15 := Bool.eq_false_iff.mpr c15
        subst c15
        have H1 : (spec_PlaceFloat.j0 k l0 a1 a2 a3 a4 a5 a6 true) = some (r1, r2, r3, r4) := by rw [if_neg (show ¬ (false = true) by decide)] at H; exact H
        clear H
        have H := H1
        clear H1
        have H' := aMk H
        clear H
        go_wp2_with (first | ((with_reducible refine gate_callee (f := 74) rfl ?_); refine goesL_ (some 22) rfl rfl Try.func74 (by kernel_rfl) rfl #[.slice A0 l0.length c0, .int .i64 a3, .int .i64 a5] rfl (by (try simp only [List.map_toArray, List.map_cons, List.map_nil]); first | done | rfl | (simp only [List.length_drop, List.length_take]; rfl)) ?_; (with_reducible refine (spec_l17Ok.calls k _ _ l0 a3 a5 true _ ?side1 ?side2 A10.out).mono ?_); (case side1 => repeat (first | exact (Kd.C_below HR0.out HB.out) | (with_reducible refine Kd.C_alloc ?_ _) | (with_reducible refine Kd.C_drewN ?_ _) | (with_reducible refine Kd.C_drew ?_))); (case side2 => exact HC0.out); rintro e w18 ⟨rfl, hb⟩; refine ⟨_, rfl, ?_⟩; have n0_ := aMk (blk_below (g := gb140) (o := .cells #[.int .i64 0, .int .i64 0, .int .i64 0, .int .i64 0] 34 (0, 0)) (by (with_reducible repeat (first | refine bkD ?_ _ | refine blk_drew ?_ | refine bkA ?_ _)); exact BK140.out) hb); have n1_ := aMk (below_step (by repeat (first | (with_reducible first | exact HB.out | apply bAl | apply bDn | apply bD1 | refine bSe ?_ GE140.out) | exact HB.out)) hb); clear BK140; clear HB; have BK140 := n0_; have HB := n1_; clear n0_ n1_; (try clear hb); (try clear hb2); (try clear hk); (try clear hi)) | (go_at_call 64; (with_reducible refine (spec_l12In.calls a4 0 100000000 true _ A12.out).mono ?_); rintro e w' ⟨rfl, ⟨nd, rfl⟩⟩) | (go_at_call 75; (with_reducible refine (spec_l9In.calls a1 100000000 false _ A14.out).mono ?_); rintro e w' ⟨rfl, ⟨nd, rfl⟩⟩))
        go_meet
        case rel => exact ⟨_, (true), (by first | rfl | (simp; done) | (simp [*]; done)), H', ⟨by first | omega | exact Nat.le_refl _⟩, ⟨by (with_reducible repeat (first | refine bkD ?_ _ | refine blk_drew ?_ | refine bkA ?_ _)); exact BK140.out⟩, ⟨by repeat (first | (with_reducible first | exact HB.out | apply bAl | apply bDn | apply bD1 | refine bSe ?_ GE140.out) | exact HB.out)⟩⟩
    · replace c13 := Bool.eq_false_iff.mpr c13
      subst c13
      have H1 : (spec_PlaceFloat.j0 k l0 a1 a2 a3 a4 a5 a6 true) = some (r1, r2, r3, r4) := by rw [if_neg (show ¬ (false = true) by decide)] at H; exact H
      clear H
      have H := H1
      clear H1
      have H' := aMk H
      clear H
      go_wp2_with (first | ((with_reducible refine gate_callee (f := 74) rfl ?_); refine goesL_ (some 22) rfl rfl Try.func74 (by kernel_rfl) rfl #[.slice A0 l0.length c0, .int .i64 a3, .int .i64 a5] rfl (by (try simp only [List.map_toArray, List.map_cons, List.map_nil]); first | done | rfl | (simp only [List.length_drop, List.length_take]; rfl)) ?_; (with_reducible refine (spec_l17Ok.calls k _ _ l0 a3 a5 true _ ?side1 ?side2 A10.out).mono ?_); (case side1 => repeat (first | exact (Kd.C_below HR0.out HB.out) | (with_reducible refine Kd.C_alloc ?_ _) | (with_reducible refine Kd.C_drewN ?_ _) | (with_reducible refine Kd.C_drew ?_))); (case side2 => exact HC0.out); rintro e w19 ⟨rfl, hb⟩; refine ⟨_, rfl, ?_⟩; have n0_ := aMk (blk_below (g := gb140) (o := .cells #[.int .i64 0, .int .i64 0, .int .i64 0, .int .i64 0] 34 (0, 0)) (by (with_reducible repeat (first | refine bkD ?_ _ | refine blk_drew ?_ | refine bkA ?_ _)); exact BK140.out) hb); have n1_ := aMk (below_step (by repeat (first | (with_reducible first | exact HB.out | apply bAl | apply bDn | apply bD1 | refine bSe ?_ GE140.out) | exact HB.out)) hb); clear BK140; clear HB; have BK140 := n0_; have HB := n1_; clear n0_ n1_; (try clear hb); (try clear hb2); (try clear hk); (try clear hi)) | (go_at_call 64; (with_reducible refine (spec_l12In.calls a4 0 100000000 false _ A12.out).mono ?_); rintro e w' ⟨rfl, ⟨nd, rfl⟩⟩))
      go_meet
      case rel => exact ⟨_, (true), (by first | rfl | (simp; done) | (simp [*]; done)), H', ⟨by first | omega | exact Nat.le_refl _⟩, ⟨by (with_reducible repeat (first | refine bkD ?_ _ | refine blk_drew ?_ | refine bkA ?_ _)); exact BK140.out⟩, ⟨by repeat (first | (with_reducible first | exact HB.out | apply bAl | apply bDn | apply bD1 | refine bSe ?_ GE140.out) | exact HB.out)⟩⟩
  · replace c11 := Bool.eq_false_iff.mpr c11
    subst c11
    have H1 : (spec_PlaceFloat.j0 k l0 a1 a2 a3 a4 a5 a6 true) = some (r1, r2, r3, r4) := by rw [if_neg (show ¬ (false = true) by decide)] at H; exact H
    clear H
    have H := H1
    clear H1
    have H' := aMk H
    clear H
    go_wp2_with (first | ((with_reducible refine gate_callee (f := 74) rfl ?_); refine goesL_ (some 22) rfl rfl Try.func74 (by kernel_rfl) rfl #[.slice A0 l0.length c0, .int .i64 a3, .int .i64 a5] rfl (by (try simp only [List.map_toArray, List.map_cons, List.map_nil]); first | done | rfl | (simp only [List.length_drop, List.length_take]; rfl)) ?_; (with_reducible refine (spec_l17Ok.calls k _ _ l0 a3 a5 false _ ?side1 ?side2 A10.out).mono ?_); (case side1 => repeat (first | exact (Kd.C_below HR0.out HB.out) | (with_reducible refine Kd.C_alloc ?_ _) | (with_reducible refine Kd.C_drewN ?_ _) | (with_reducible refine Kd.C_drew ?_))); (case side2 => exact HC0.out); rintro e w20 ⟨rfl, hb⟩; refine ⟨_, rfl, ?_⟩; have n0_ := aMk (blk_below (g := gb140) (o := .cells #[.int .i64 0, .int .i64 0, .int .i64 0, .int .i64 0] 34 (0, 0)) (by (with_reducible repeat (first | refine bkD ?_ _ | refine blk_drew ?_ | refine bkA ?_ _)); exact BK140.out) hb); have n1_ := aMk (below_step (by repeat (first | (with_reducible first | exact HB.out | apply bAl | apply bDn | apply bD1 | refine bSe ?_ GE140.out) | exact HB.out)) hb); clear BK140; clear HB; have BK140 := n0_; have HB := n1_; clear n0_ n1_; (try clear hb); (try clear hb2); (try clear hk); (try clear hi)))
    go_meet
    case rel => exact ⟨_, (true), (by first | rfl | (simp; done) | (simp [*]; done)), H', ⟨by first | omega | exact Nat.le_refl _⟩, ⟨by (with_reducible repeat (first | refine bkD ?_ _ | refine blk_drew ?_ | refine bkA ?_ _)); exact BK140.out⟩, ⟨by repeat (first | (with_reducible first | exact HB.out | apply bAl | apply bDn | apply bD1 | refine bSe ?_ GE140.out) | exact HB.out)⟩⟩
 case rest =>
  clear HC8
  try clear c1
  try clear c2
  try clear p2
  try clear c7
  try clear c11
  try clear c13
  try clear c15
  obtain ⟨kq, x38_7, rfl, HA, HJ7, BK140, HB⟩ := hcut
  cases kq with
  | zero => exact absurd HA.out (by simp [spec_PlaceFloat.j0])
  | succ kj7 =>
   have H := HA.out
   clear HA
   simp only [spec_PlaceFloat.j0] at H
   by_cases c21 : x38_7 = true
   · subst c21
     have H1 : (some (0, 0, 0, 0)) = some (r1, r2, r3, r4) := by rw [if_pos rfl] at H; exact H
     clear H
     have H := H1
     clear H1
     simp only [Option.some.injEq, Prod.mk.injEq] at H
     obtain ⟨rfl, rfl, rfl, rfl⟩ := H
     have hcz22_0 : wc.cell? ⟨gb140, 0, none⟩ = some (.int .i64 0) := (bCe BK140.out 0).trans rfl
     have hcz22_1 : wc.cell? ⟨gb140, 1, none⟩ = some (.int .i64 0) := (bCe BK140.out 1).trans rfl
     have hcz22_2 : wc.cell? ⟨gb140, 2, none⟩ = some (.int .i64 0) := (bCe BK140.out 2).trans rfl
     have hcz22_3 : wc.cell? ⟨gb140, 3, none⟩ = some (.int .i64 0) := (bCe BK140.out 3).trans rfl
     have hfz22_0 := bFr BK140.out 0
     have hfz22_1 := bFr BK140.out 1
     have hfz22_2 := bFr BK140.out 2
     have hfz22_3 := bFr BK140.out 3
     go_wp2
     refine bodyPost_ret (results_cell_row rfl _ _ gb140 34 #[.int .i64 0, .int .i64 0, .int .i64 0, .int .i64 0] (0, 0) _ rfl (by (with_reducible repeat (first | refine bkD ?_ _ | refine blk_drew ?_ | refine bkA ?_ _)); refine blk_put (cs := #[.int .i64 0, .int .i64 0, .int .i64 0, .int .i64 0]) ?_ 3 _ rfl; (with_reducible repeat (first | refine bkD ?_ _ | refine blk_drew ?_ | refine bkA ?_ _)); refine blk_put (cs := #[.int .i64 0, .int .i64 0, .int .i64 0, .int .i64 0]) ?_ 2 _ rfl; (with_reducible repeat (first | refine bkD ?_ _ | refine blk_drew ?_ | refine bkA ?_ _)); refine blk_put (cs := #[.int .i64 0, .int .i64 0, .int .i64 0, .int .i64 0]) ?_ 1 _ rfl; (with_reducible repeat (first | refine bkD ?_ _ | refine blk_drew ?_ | refine bkA ?_ _)); refine blk_put (cs := #[.int .i64 0, .int .i64 0, .int .i64 0, .int .i64 0]) ?_ 0 _ rfl; (with_reducible repeat (first | refine bkD ?_ _ | refine blk_drew ?_ | refine bkA ?_ _)); exact BK140.out) Try.underlying34 rfl (by kernel_rfl)) rfl ?_
     exact ⟨by first | rfl | (simp [errW_none, errW_some] <;> rfl) | (simp [*, errW_none, errW_some] <;> rfl), by repeat (first | (with_reducible first | exact HB.out | apply bAl | apply bDn | apply bD1 | refine bSe ?_ GE140.out) | exact HB.out)⟩
   · replace c21 := Bool.eq_false_iff.mpr c21
     subst c21
     have H1 : (spec_PlaceFloat.l0 kj7 l0 a1 a2 a3 a4 a5 a6 0) = some (r1, r2, r3, r4) := by rw [if_neg (show ¬ (false = true) by decide)] at H; exact H
     clear H
     have H := H1
     clear H1
     have H' := aMk H
     clear H
     go_wp2
     go_loopg [3, 15] kj7 (fun kq v3 v15 w' => ∃ (x3_2 : Int) (x15_2 : Int), v3 = .int .i64 x3_2 ∧ v15 = .int .i64 x15_2 ∧ Aside0 (spec_PlaceFloat.l0 kq l0 a1 a2 x3_2 a4 a5 a6 x15_2 = some (r1, r2, r3, r4)) ∧ Aside0 (kq ≤ kj7) ∧ Aside0 (w'.heap[gb140]? = some (.cells #[.int .i64 0, .int .i64 0, .int .i64 0, .int .i64 0] 34 (0, 0))) ∧ Aside0 (Below w.heap.size w w'))
     case atStart => exact ⟨(a3), (0), (by first | rfl | (simp; done) | (simp [*]; done)), (by first | rfl | (simp; done) | (simp [*]; done)), H', ⟨Nat.le_refl _⟩, ⟨by (with_reducible repeat (first | refine bkD ?_ _ | refine blk_drew ?_ | refine bkA ?_ _)); exact BK140.out⟩, ⟨by repeat (first | (with_reducible first | exact HB.out | apply bAl | apply bDn | apply bD1 | refine bSe ?_ GE140.out) | exact HB.out)⟩⟩
     case round =>
      clear H'
      try clear c1
      try clear c2
      try clear p2
      try clear c7
      try clear c11
      try clear c13
      try clear c15
      try clear c21
      try clear hcz22_0
      try clear hcz22_1
      try clear hcz22_2
      try clear hcz22_3
      try clear hfz22_0
      try clear hfz22_1
      try clear hfz22_2
      try clear hfz22_3
      try clear p2
      obtain ⟨x3_2, x15_2, rfl, rfl, HA, HK2, BK140, HB⟩ := hrel
      cases gk with
      | zero => exact absurd HA.out (by simp [spec_PlaceFloat.l0])
      | succ k2 =>
       have H := HA.out
       clear HA
       simp only [spec_PlaceFloat.l0] at H
       by_cases c23 : x15_2 < (l0.length : Int)
       · rw [if_pos c23] at H
         have c23b0 : decide (x15_2 < (l0.length : Int)) = true := decide_eq_true c23
         clear c23
         by_cases c24 : 0 ≤ x15_2
         · rw [if_pos c24] at H
           have c24b0 : decide (0 ≤ x15_2) = true := decide_eq_true c24
           clear c24
           by_cases c25 : ((rd_T38 l0 x15_2).f0.f1) > x3_2
           · rw [if_pos c25] at H
             have c25b0 : decide (x3_2 < ((rd_T38 l0 x15_2).f0.f1)) = true := decide_eq_true c25
             clear c25
             have H' := aMk H
             clear H
             have p145 : 0 ≤ (x15_2 : Int) := oDt (by first | (with_reducible assumption) | assumption)
             have q145 : x15_2 < (l0.length : Int) := oDt (by first | (with_reducible assumption) | assumption)
             obtain ⟨ad145, e145, hx145_0, hx145_1, hx145_2, hx145_3, hx145_4⟩ := at_T38 HR0.out x15_2 p145 q145
             cases e145
             replace hx145_0 := (HB.out.cell (wBl w _ hx145_0)).trans hx145_0
             replace hx145_1 := (HB.out.cell (wBl w _ hx145_1)).trans hx145_1
             replace hx145_2 := (HB.out.cell (wBl w _ hx145_2)).trans hx145_2
             replace hx145_3 := (HB.out.cell (wBl w _ hx145_3)).trans hx145_3
             replace hx145_4 := (HB.out.cell (wBl w _ hx145_4)).trans hx145_4
             replace p145 := eq_true p145
             replace q145 := eq_true q145
             have p146 : 0 ≤ (x15_2 : Int) := oDt (by first | (with_reducible assumption) | assumption)
             have q146 : x15_2 < (l0.length : Int) := oDt (by first | (with_reducible assumption) | assumption)
             obtain ⟨ad146, e146, hx146_0, hx146_1, hx146_2, hx146_3, hx146_4⟩ := at_T38 HR0.out x15_2 p146 q146
             obtain rfl : ad145 = ad146 := (by injection e146)
             replace hx146_0 := (HB.out.cell (wBl w _ hx146_0)).trans hx146_0
             replace hx146_1 := (HB.out.cell (wBl w _ hx146_1)).trans hx146_1
             replace hx146_2 := (HB.out.cell (wBl w _ hx146_2)).trans hx146_2
             replace hx146_3 := (HB.out.cell (wBl w _ hx146_3)).trans hx146_3
             replace hx146_4 := (HB.out.cell (wBl w _ hx146_4)).trans hx146_4
             replace p146 := eq_true p146
             replace q146 := eq_true q146
             go_wp2
             go_roundg k2
             case measure => have := HJ7.out; have := HK2.out; omega
             case rel => exact ⟨((rd_T38 l0 x15_2).f0.f1), (wrap64 (x15_2 + 1)), (by first | rfl | (simp; done) | (simp [*]; done)), (by first | rfl | (simp; done) | (simp [*]; done)), H', ⟨by have := HJ7.out; have := HK2.out; omega⟩, ⟨by (with_reducible repeat (first | refine bkD ?_ _ | refine blk_drew ?_ | refine bkA ?_ _)); exact BK140.out⟩, ⟨by repeat (first | (with_reducible first | exact HB.out | apply bAl | apply bDn | apply bD1 | refine bSe ?_ GE140.out) | exact HB.out)⟩⟩
           · rw [if_neg c25] at H
             have c25b0 : decide (x3_2 < ((rd_T38 l0 x15_2).f0.f1)) = false := decide_eq_false c25
             clear c25
             have H' := aMk H
             clear H
             have p145 : 0 ≤ (x15_2 : Int) := oDt (by first | (with_reducible assumption) | assumption)
             have q145 : x15_2 < (l0.length : Int) := oDt (by first | (with_reducible assumption) | assumption)
             obtain ⟨ad145, e145, hx145_0, hx145_1, hx145_2, hx145_3, hx145_4⟩ := at_T38 HR0.out x15_2 p145 q145
             cases e145
             replace hx145_0 := (HB.out.cell (wBl w _ hx145_0)).trans hx145_0
             replace hx145_1 := (HB.out.cell (wBl w _ hx145_1)).trans hx145_1
             replace hx145_2 := (HB.out.cell (wBl w _ hx145_2)).trans hx145_2
             replace hx145_3 := (HB.out.cell (wBl w _ hx145_3)).trans hx145_3
             replace hx145_4 := (HB.out.cell (wBl w _ hx145_4)).trans hx145_4
             replace p145 := eq_true p145
             replace q145 := eq_true q145
             go_wp2
             go_roundg k2
             case measure => have := HJ7.out; have := HK2.out; omega
             case rel => exact ⟨(x3_2), (wrap64 (x15_2 + 1)), (by first | rfl | (simp; done) | (simp [*]; done)), (by first | rfl | (simp; done) | (simp [*]; done)), H', ⟨by have := HJ7.out; have := HK2.out; omega⟩, ⟨by (with_reducible repeat (first | refine bkD ?_ _ | refine blk_drew ?_ | refine bkA ?_ _)); exact BK140.out⟩, ⟨by repeat (first | (with_reducible first | exact HB.out | apply bAl | apply bDn | apply bD1 | refine bSe ?_ GE140.out) | exact HB.out)⟩⟩
         · rw [if_neg c24] at H
           exact absurd H (by simp)
       · rw [if_neg c23] at H
         have c23b0 : decide (x15_2 < (l0.length : Int)) = false := decide_eq_false c23
         clear c23
         have HC26 := aMk H
         clear H
         go_upto_if 62 with (fail)
         go_cut [16] (fun v16 wc => ∃ (kq : Nat) (x16_25 : Int), v16 = .int .i64 x16_25 ∧ Aside0 (spec_PlaceFloat.j2 kq l0 a1 a2 x3_2 a4 a5 a6 x16_25 = some (r1, r2, r3, r4)) ∧ Aside0 (kq ≤ k2) ∧ Aside0 (wc.heap[gb140]? = some (.cells #[.int .i64 0, .int .i64 0, .int .i64 0, .int .i64 0] 34 (0, 0))) ∧ Aside0 (Below w.heap.size w wc))
         case first =>
          have H := HC26.out
          clear HC26
          by_cases c27 : a5 = 0
          · rw [if_pos c27] at H
            have c27b0 : (a5 == 0) = true := beq_iff_eq.mpr c27
            have c27b1 : (a5 != 0) = false := bne_eq_false_iff_eq.mpr c27
            clear c27
            (first | rw [c27b0] | (simp only [i64_w, i32_w]; rw [c27b0]) | skip)
            have H' := aMk H
            clear H
            go_wp2
            go_meet
            case rel => exact ⟨_, (1), (by first | rfl | (simp; done) | (simp [*]; done)), H', ⟨by have := HJ7.out; have := HK2.out; first | omega | exact Nat.le_refl _⟩, ⟨by (with_reducible repeat (first | refine bkD ?_ _ | refine blk_drew ?_ | refine bkA ?_ _)); exact BK140.out⟩, ⟨by repeat (first | (with_reducible first | exact HB.out | apply bAl | apply bDn | apply bD1 | refine bSe ?_ GE140.out) | exact HB.out)⟩⟩
          · rw [if_neg c27] at H
            have c27b0 : (a5 == 0) = false := beq_eq_false_iff_ne.mpr c27
            have c27b1 : (a5 != 0) = true := bne_iff_ne.mpr c27
            (first | rw [c27b0] | (simp only [i64_w, i32_w]; rw [c27b0]) | skip)
            have H' := aMk H
            clear H
            go_wp2
            go_meet
            case rel => exact ⟨_, (a5), (by first | rfl | (simp; done) | (simp [*]; done)), H', ⟨by have := HJ7.out; have := HK2.out; first | omega | exact Nat.le_refl _⟩, ⟨by (with_reducible repeat (first | refine bkD ?_ _ | refine blk_drew ?_ | refine bkA ?_ _)); exact BK140.out⟩, ⟨by repeat (first | (with_reducible first | exact HB.out | apply bAl | apply bDn | apply bD1 | refine bSe ?_ GE140.out) | exact HB.out)⟩⟩
         case rest =>
          clear HC26
          try clear c1
          try clear p1
          try clear q1
          try clear hx1
          try clear c2
          try clear p2
          try clear p6
          try clear c7
          try clear c11
          try clear c13
          try clear p14
          try clear q14
          try clear hx14
          try clear c15
          try clear c21
          try clear c23
          try clear c23b0
          try clear c24
          try clear c24b0
          try clear c25
          try clear c25b0
          try clear c27
          try clear c27b0
          try clear c27b1
          try clear hcz22_0
          try clear hcz22_1
          try clear hcz22_2
          try clear hcz22_3
          try clear hfz22_0
          try clear hfz22_1
          try clear hfz22_2
          try clear hfz22_3
          try clear hx145_0
          try clear hx145_1
          try clear hx145_2
          try clear hx145_3
          try clear hx145_4
          try clear hx146_0
          try clear hx146_1
          try clear hx146_2
          try clear hx146_3
          try clear hx146_4
          try clear p145
          try clear p146
          try clear p2
          try clear q145
          try clear q146
          obtain ⟨kq, x16_25, rfl, HA, HJ25, BK140, HB⟩ := hcut
          cases kq with
          | zero => exact absurd HA.out (by simp [spec_PlaceFloat.j2])
          | succ kj25 =>
           have H := HA.out
           clear HA
           simp only [spec_PlaceFloat.j2] at H
           have H' := aMk H
           clear H
           go_wp2
           go_loopg [3] kj25 (fun kq v3 w' => ∃ (x3_4 : Int) (x141000_4 : Int) (x141001_4 : Int) (x141002_4 : Int) (x141003_4 : Int), v3 = .int .i64 x3_4 ∧ Aside0 (spec_PlaceFloat.l1 kq l0 a1 a2 x3_4 a4 a5 a6 x16_25 = some (r1, r2, r3, r4)) ∧ Aside0 (kq ≤ kj25) ∧ Aside0 (w'.heap[gb140]? = some (.cells #[.int .i64 x141000_4, .int .i64 x141001_4, .int .i64 x141002_4, .int .i64 x141003_4] 34 (0, 0))) ∧ Aside0 (Below w.heap.size w w'))
           case atStart => exact ⟨(x3_2), (0), (0), (0), (0), (by first | rfl | (simp; done) | (simp [*]; done)), H', ⟨Nat.le_refl _⟩, ⟨by (with_reducible repeat (first | refine bkD ?_ _ | refine blk_drew ?_ | refine bkA ?_ _)); exact BK140.out⟩, ⟨by repeat (first | (with_reducible first | exact HB.out | apply bAl | apply bDn | apply bD1 | refine bSe ?_ GE140.out) | exact HB.out)⟩⟩
           case round =>
            clear H'
            try clear c1
            try clear p1
            try clear q1
            try clear hx1
            try clear c2
            try clear p2
            try clear p6
            try clear c7
            try clear c11
            try clear c13
            try clear p14
            try clear q14
            try clear hx14
            try clear c15
            try clear c21
            try clear c23
            try clear c23b0
            try clear c24
            try clear c24b0
            try clear c25
            try clear c25b0
            try clear c27
            try clear c27b0
            try clear c27b1
            try clear hcz22_0
            try clear hcz22_1
            try clear hcz22_2
            try clear hcz22_3
            try clear hfz22_0
            try clear hfz22_1
            try clear hfz22_2
            try clear hfz22_3
            try clear hx145_0
            try clear hx145_1
            try clear hx145_2
            try clear hx145_3
            try clear hx145_4
            try clear hx146_0
            try clear hx146_1
            try clear hx146_2
            try clear hx146_3
            try clear hx146_4
            try clear p1
            try clear p14
            try clear p145
            try clear p146
            try clear p2
            try clear p6
            try clear q1
            try clear q14
            try clear q145
            try clear q146
            obtain ⟨x3_4, x141000_4, x141001_4, x141002_4, x141003_4, rfl, HA, HK4, BK140, HB⟩ := hrel
            cases gk with
            | zero => exact absurd HA.out (by simp [spec_PlaceFloat.l1])
            | succ k4 =>
             have H := HA.out
             clear HA
             simp only [spec_PlaceFloat.l1] at H
             replace H := oBm H
             obtain ⟨⟨t147, t148⟩, A280, H⟩ := H
             replace H : (if (wrap64 (t148 - t147)) ≥ a4 then (spec_PlaceFloat.j4 k4 l0 a1 a2 x3_4 a4 a5 a6 x16_25 t147 t148 true) else ((spec_l17Free.f k4 l0 x3_4 x16_25).bind fun t149 => (spec_PlaceFloat.j4 k4 l0 a1 a2 x3_4 a4 a5 a6 x16_25 t147 t148 t149))) = some (r1, r2, r3, r4) := H
             have A28 := aMk A280
             clear A280
             have HC29 := aMk H
             clear H
             go_upto_region 12 with (first | ((with_reducible refine gate_callee (f := 76) rfl ?_); refine goesL_ (some 69) rfl rfl Try.func76 (by kernel_rfl) rfl #[.slice A0 l0.length c0, .int .i64 a1, .int .i64 a2, .int .i64 x3_4, .int .i64 x16_25] rfl (by (try simp only [List.map_toArray, List.map_cons, List.map_nil]); first | done | rfl | (simp only [List.length_drop, List.length_take]; rfl)) ?_; (with_reducible refine (spec_l17Room.calls k4 _ _ l0 a1 a2 x3_4 x16_25 t147 t148 _ ?side1 ?side2 A28.out).mono ?_); (case side1 => repeat (first | exact (Kd.C_below HR0.out HB.out) | (with_reducible refine Kd.C_alloc ?_ _) | (with_reducible refine Kd.C_drewN ?_ _) | (with_reducible refine Kd.C_drew ?_))); (case side2 => exact HC0.out); rintro e w30 ⟨rfl, hb⟩; refine ⟨_, rfl, ?_⟩; have n0_ := aMk (blk_below (g := gb140) (o := .cells #[.int .i64 x141000_4, .int .i64 x141001_4, .int .i64 x141002_4, .int .i64 x141003_4] 34 (0, 0)) (by (with_reducible repeat (first | refine bkD ?_ _ | refine blk_drew ?_ | refine bkA ?_ _)); exact BK140.out) hb); have n1_ := aMk (below_step (by repeat (first | (with_reducible first | exact HB.out | apply bAl | apply bDn | apply bD1 | refine bSe ?_ GE140.out) | exact HB.out)) hb); clear BK140; clear HB; have BK140 := n0_; have HB := n1_; clear n0_ n1_; (try clear hb); (try clear hb2); (try clear hk); (try clear hi)))
             (try simp only [Act.put, lSa, lSz, lSs])
             go_cut [82] (fun v82 wc => ∃ (kq : Nat) (x82_28 : Bool), v82 = .bool x82_28 ∧ Aside0 (spec_PlaceFloat.j4 kq l0 a1 a2 x3_4 a4 a5 a6 x16_25 t147 t148 x82_28 = some (r1, r2, r3, r4)) ∧ Aside0 (kq ≤ k4) ∧ Aside0 (wc.heap[gb140]? = some (.cells #[.int .i64 x141000_4, .int .i64 x141001_4, .int .i64 x141002_4, .int .i64 x141003_4] 34 (0, 0))) ∧ Aside0 (Below w.heap.size w wc))
             case first =>
              have H := HC29.out
              clear HC29
              by_cases c31 : (wrap64 (t148 - t147)) ≥ a4
              · rw [if_pos c31] at H
                have c31b0 : decide (a4 ≤ (wrap64 (t148 - t147))) = true := decide_eq_true c31
                clear c31
                (first | rw [c31b0] | (simp only [i64_w, i32_w]; rw [c31b0]) | skip)
                have H' := aMk H
                clear H
                go_wp2
                go_meet
                case rel => exact ⟨_, (true), (by first | rfl | (simp; done) | (simp [*]; done)), H', ⟨by have := HJ7.out; have := HK2.out; have := HJ25.out; have := HK4.out; first | omega | exact Nat.le_refl _⟩, ⟨by (with_reducible repeat (first | refine bkD ?_ _ | refine blk_drew ?_ | refine bkA ?_ _)); exact BK140.out⟩, ⟨by repeat (first | (with_reducible first | exact HB.out | apply bAl | apply bDn | apply bD1 | refine bSe ?_ GE140.out) | exact HB.out)⟩⟩
              · rw [if_neg c31] at H
                have c31b0 : decide (a4 ≤ (wrap64 (t148 - t147))) = false := decide_eq_false c31
                clear c31
                (first | rw [c31b0] | (simp only [i64_w, i32_w]; rw [c31b0]) | skip)
                replace H := oBm H
                obtain ⟨t149, A320, H⟩ := H
                replace H : (spec_PlaceFloat.j4 k4 l0 a1 a2 x3_4 a4 a5 a6 x16_25 t147 t148 t149) = some (r1, r2, r3, r4) := H
                have A32 := aMk A320
                clear A320
                have H' := aMk H
                clear H
                go_wp2_with (first | (go_at_call 77; (with_reducible refine (spec_l17Free.calls k4 _ _ l0 x3_4 x16_25 t149 _ ?side1 ?side2 A32.out).mono ?_); (case side1 => repeat (first | exact (Kd.C_below HR0.out HB.out) | (with_reducible refine Kd.C_alloc ?_ _) | (with_reducible refine Kd.C_drewN ?_ _) | (with_reducible refine Kd.C_drew ?_))); (case side2 => exact HC0.out); rintro e w33 ⟨rfl, hb⟩; have n0_ := aMk (blk_below (g := gb140) (o := .cells #[.int .i64 x141000_4, .int .i64 x141001_4, .int .i64 x141002_4, .int .i64 x141003_4] 34 (0, 0)) (by (with_reducible repeat (first | refine bkD ?_ _ | refine blk_drew ?_ | refine bkA ?_ _)); exact BK140.out) hb); have n1_ := aMk (below_step (by repeat (first | (with_reducible first | exact HB.out | apply bAl | apply bDn | apply bD1 | refine bSe ?_ GE140.out) | exact HB.out)) hb); clear BK140; clear HB; have BK140 := n0_; have HB := n1_; clear n0_ n1_; (try clear hb); (try clear hb2); (try clear hk); (try clear hi)))
                go_meet
                case rel => exact ⟨_, (t149), (by first | rfl | (simp; done) | (simp [*]; done)), H', ⟨by have := HJ7.out; have := HK2.out; have := HJ25.out; have := HK4.out; first | omega | exact Nat.le_refl _⟩, ⟨by (with_reducible repeat (first | refine bkD ?_ _ | refine blk_drew ?_ | refine bkA ?_ _)); exact BK140.out⟩, ⟨by repeat (first | (with_reducible first | exact HB.out | apply bAl | apply bDn | apply bD1 | refine bSe ?_ GE140.out) | exact HB.out)⟩⟩
             case rest =>
              clear HC29
              try clear c1
              try clear p1
              try clear q1
              try clear hx1
              try clear c2
              try clear p2
              try clear c3
              try clear p6
              try clear c7
              try clear c11
              try clear c13
              try clear p14
              try clear q14
              try clear hx14
              try clear c15
              try clear c21
              try clear c23
              try clear c23b0
              try clear c24
              try clear c24b0
              try clear c25
              try clear c25b0
              try clear c27
              try clear c27b0
              try clear c27b1
              try clear c31
              try clear c31b0
              try clear hcz22_0
              try clear hcz22_1
              try clear hcz22_2
              try clear hcz22_3
              try clear hfz22_0
              try clear hfz22_1
              try clear hfz22_2
              try clear hfz22_3
              try clear hx145_0
              try clear hx145_1
              try clear hx145_2
              try clear hx145_3
              try clear hx145_4
              try clear hx146_0
              try clear hx146_1
              try clear hx146_2
              try clear hx146_3
              try clear hx146_4
              try clear p1
              try clear p14
              try clear p145
              try clear p146
              try clear p2
              try clear p6
              try clear q1
              try clear q14
              try clear q145
              try clear q146
              obtain ⟨kq, x82_28, rfl, HA, HJ28, BK140, HB⟩ := hcut
              cases kq with
              | zero => exact absurd HA.out (by simp [spec_PlaceFloat.j4])
              | succ kj28 =>
               have H := HA.out
               clear HA
               simp only [spec_PlaceFloat.j4] at H
               by_cases c34 : x82_28 = true
               · subst c34
                 have H1 : (if a6 = true then (some (wrap64 (t148 - a4), x3_4, a4, a5)) else (some (t147, x3_4, a4, a5))) = some (r1, r2, r3, r4) := by rw [if_pos rfl] at H; exact H
                 clear H
                 have H := H1
                 clear H1
                 by_cases c35 : a6 = true
                 · subst c35
                   have H1 : (some (wrap64 (t148 - a4), x3_4, a4, a5)) = some (r1, r2, r3, r4) := by rw [if_pos rfl] at H; exact H
                   clear H
                   have H := H1
                   clear H1
                   simp only [Option.some.injEq, Prod.mk.injEq] at H
                   obtain ⟨rfl, rfl, rfl, rfl⟩ := H
                   have hcz36_0 : wc.cell? ⟨gb140, 0, none⟩ = some (.int .i64 x141000_4) := (bCe BK140.out 0).trans rfl
                   have hcz36_1 : wc.cell? ⟨gb140, 1, none⟩ = some (.int .i64 x141001_4) := (bCe BK140.out 1).trans rfl
                   have hcz36_2 : wc.cell? ⟨gb140, 2, none⟩ = some (.int .i64 x141002_4) := (bCe BK140.out 2).trans rfl
                   have hcz36_3 : wc.cell? ⟨gb140, 3, none⟩ = some (.int .i64 x141003_4) := (bCe BK140.out 3).trans rfl
                   have hfz36_0 := bFr BK140.out 0
                   have hfz36_1 := bFr BK140.out 1
                   have hfz36_2 := bFr BK140.out 2
                   have hfz36_3 := bFr BK140.out 3
                   go_wp2
                   refine bodyPost_ret (results_cell_row rfl _ _ gb140 34 #[.int .i64 (wrap64 (t148 - a4)), .int .i64 x3_4, .int .i64 a4, .int .i64 a5] (0, 0) _ rfl (by (with_reducible repeat (first | refine bkD ?_ _ | refine blk_drew ?_ | refine bkA ?_ _)); refine blk_put (cs := #[.int .i64 (wrap64 (t148 - a4)), .int .i64 x3_4, .int .i64 a4, .int .i64 x141003_4]) ?_ 3 _ rfl; (with_reducible repeat (first | refine bkD ?_ _ | refine blk_drew ?_ | refine bkA ?_ _)); refine blk_put (cs := #[.int .i64 (wrap64 (t148 - a4)), .int .i64 x3_4, .int .i64 x141002_4, .int .i64 x141003_4]) ?_ 2 _ rfl; (with_reducible repeat (first | refine bkD ?_ _ | refine blk_drew ?_ | refine bkA ?_ _)); refine blk_put (cs := #[.int .i64 (wrap64 (t148 - a4)), .int .i64 x141001_4, .int .i64 x141002_4, .int .i64 x141003_4]) ?_ 1 _ rfl; (with_reducible repeat (first | refine bkD ?_ _ | refine blk_drew ?_ | refine bkA ?_ _)); refine blk_put (cs := #[.int .i64 x141000_4, .int .i64 x141001_4, .int .i64 x141002_4, .int .i64 x141003_4]) ?_ 0 _ rfl; (with_reducible repeat (first | refine bkD ?_ _ | refine blk_drew ?_ | refine bkA ?_ _)); exact BK140.out) Try.underlying34 rfl (by kernel_rfl)) rfl ?_
                   exact ⟨by first | rfl | (simp [errW_none, errW_some] <;> rfl) | (simp [*, errW_none, errW_some] <;> rfl), by repeat (first | (with_reducible first | exact HB.out | apply bAl | apply bDn | apply bD1 | refine bSe ?_ GE140.out) | exact HB.out)⟩
                 · replace c35 := Bool.eq_false_iff.mpr c35
                   subst c35
                   have H1 : (some (t147, x3_4, a4, a5)) = some (r1, r2, r3, r4) := by rw [if_neg (show ¬ (false = true) by decide)] at H; exact H
                   clear H
                   have H := H1
                   clear H1
                   simp only [Option.some.injEq, Prod.mk.injEq] at H
                   obtain ⟨rfl, rfl, rfl, rfl⟩ := H
                   have hcz37_0 : wc.cell? ⟨gb140, 0, none⟩ = some (.int .i64 x141000_4) := (bCe BK140.out 0).trans rfl
                   have hcz37_1 : wc.cell? ⟨gb140, 1, none⟩ = some (.int .i64 x141001_4) := (bCe BK140.out 1).trans rfl
                   have hcz37_2 : wc.cell? ⟨gb140, 2, none⟩ = some (.int .i64 x141002_4) := (bCe BK140.out 2).trans rfl
                   have hcz37_3 : wc.cell? ⟨gb140, 3, none⟩ = some (.int .i64 x141003_4) := (bCe BK140.out 3).trans rfl
                   have hfz37_0 := bFr BK140.out 0
                   have hfz37_1 := bFr BK140.out 1
                   have hfz37_2 := bFr BK140.out 2
                   have hfz37_3 := bFr BK140.out 3
                   go_wp2
                   refine bodyPost_ret (results_cell_row rfl _ _ gb140 34 #[.int .i64 t147, .int .i64 x3_4, .int .i64 a4, .int .i64 a5] (0, 0) _ rfl (by (with_reducible repeat (first | refine bkD ?_ _ | refine blk_drew ?_ | refine bkA ?_ _)); refine blk_put (cs := #[.int .i64 t147, .int .i64 x3_4, .int .i64 a4, .int .i64 x141003_4]) ?_ 3 _ rfl; (with_reducible repeat (first | refine bkD ?_ _ | refine blk_drew ?_ | refine bkA ?_ _)); refine blk_put (cs := #[.int .i64 t147, .int .i64 x3_4, .int .i64 x141002_4, .int .i64 x141003_4]) ?_ 2 _ rfl; (with_reducible repeat (first | refine bkD ?_ _ | refine blk_drew ?_ | refine bkA ?_ _)); refine blk_put (cs := #[.int .i64 t147, .int .i64 x141001_4, .int .i64 x141002_4, .int .i64 x141003_4]) ?_ 1 _ rfl; (with_reducible repeat (first | refine bkD ?_ _ | refine blk_drew ?_ | refine bkA ?_ _)); refine blk_put (cs := #[.int .i64 x141000_4, .int .i64 x141001_4, .int .i64 x141002_4, .int .i64 x141003_4]) ?_ 0 _ rfl; (with_reducible repeat (first | refine bkD ?_ _ | refine blk_drew ?_ | refine bkA ?_ _)); exact BK140.out) Try.underlying34 rfl (by kernel_rfl)) rfl ?_
                   exact ⟨by first | rfl | (simp [errW_none, errW_some] <;> rfl) | (simp [*, errW_none, errW_some] <;> rfl), by repeat (first | (with_reducible first | exact HB.out | apply bAl | apply bDn | apply bD1 | refine bSe ?_ GE140.out) | exact HB.out)⟩
               · replace c34 := Bool.eq_false_iff.mpr c34
                 subst c34
                 have H1 : ((spec_l17Down.f kj28 l0 x3_4).bind fun t150 => (spec_PlaceFloat.l1 kj28 l0 a1 a2 t150 a4 a5 a6 x16_25)) = some (r1, r2, r3, r4) := by rw [if_neg (show ¬ (false = true) by decide)] at H; exact H
                 clear H
                 have H := H1
                 clear H1
                 replace H := oBm H
                 obtain ⟨t150, A380, H⟩ := H
                 replace H : (spec_PlaceFloat.l1 kj28 l0 a1 a2 t150 a4 a5 a6 x16_25) = some (r1, r2, r3, r4) := H
                 have A38 := aMk A380
                 clear A380
                 have H' := aMk H
                 clear H
                 go_wp2_with (first | ((with_reducible refine gate_callee (f := 78) rfl ?_); refine goesL_ (some 98) rfl rfl Try.func78 (by kernel_rfl) rfl #[.slice A0 l0.length c0, .int .i64 x3_4] rfl (by (try simp only [List.map_toArray, List.map_cons, List.map_nil]); first | done | rfl | (simp only [List.length_drop, List.length_take]; rfl)) ?_; (with_reducible refine (spec_l17Down.calls kj28 _ _ l0 x3_4 t150 _ ?side1 ?side2 A38.out).mono ?_); (case side1 => repeat (first | exact (Kd.C_below HR0.out HB.out) | (with_reducible refine Kd.C_alloc ?_ _) | (with_reducible refine Kd.C_drewN ?_ _) | (with_reducible refine Kd.C_drew ?_))); (case side2 => exact HC0.out); rintro e w' ⟨rfl, ⟨nd, rfl⟩⟩; refine ⟨_, rfl, ?_⟩))
                 go_roundg kj28
                 case measure => have := HJ7.out; have := HK2.out; have := HJ25.out; have := HK4.out; have := HJ28.out; omega
                 case rel => exact ⟨(t150), (x141000_4), (x141001_4), (x141002_4), (x141003_4), (by first | rfl | (simp; done) | (simp [*]; done)), H', ⟨by have := HJ7.out; have := HK2.out; have := HJ25.out; have := HK4.out; have := HJ28.out; omega⟩, ⟨by (with_reducible repeat (first | refine bkD ?_ _ | refine blk_drew ?_ | refine bkA ?_ _)); exact BK140.out⟩, ⟨by repeat (first | (with_reducible first | exact HB.out | apply bAl | apply bDn | apply bD1 | refine bSe ?_ GE140.out) | exact HB.out)⟩⟩

end Go.Proofs.Ytppjmcfcacgbdaa.MFnFloats
