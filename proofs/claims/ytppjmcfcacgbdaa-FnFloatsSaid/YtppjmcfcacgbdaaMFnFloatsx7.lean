-- Written by this session's own program (wip/gen/myprint.py).
import Derived.Test.YtppjmcfcacgbdaaMFnFloatsx0
import Derived.Test.YtppjmcfcacgbdaaMFnFloatsx2
import Derived.Test.YtppjmcfcacgbdaaMFnFloatsx5
import Derived.Test.YtppjmcfcacgbdaaMFnFloatsx6
namespace Go.Proofs.Ytppjmcfcacgbdaa.MFnFloats
open Go.RowKit Go.Proofs.YtppjmcfcacgbdaaW.PrintWords Go.Proofs.YtppjmcfcacgbdaaW.PrintLast Go.Proofs.YtppjmcfcacgbdaaW.PrintMore
attribute [local go_sem] max2_int min2_int max_two min_two max_three min_three max_four min_four   -- for this text's walks alone
set_option linter.unusedVariables false
set_option linter.unusedSimpArgs false

/-! ### impl_placeFloat: function 73 -/
mutual
def impl_placeFloat.l0 : Nat → List (S38) → Int → Int → Int → Int → Int → Bool → List (S38) → Int → Int → Option (Int × Int × Int × Int)
 | 0, _, _, _, _, _, _, _, _, _, _ => none
 | k + 1, x0, x1, x2, x3, x4, x5, x6, x20, x21, x22 => if x22 < x21 then (if 0 ≤ x22 then (if x22 < (x20.length : Int) then (impl_placeFloat.l0 k x0 x1 x2 (mx x3 ((rd_T38 x20 x22).f0.f1)) x4 x5 x6 x20 x21 (wrap64 (x22 + 1))) else (none)) else (none)) else (impl_placeFloat.l1 k x0 x1 x2 x3 x4 x5 x6)
def impl_placeFloat.l1 : Nat → List (S38) → Int → Int → Int → Int → Int → Bool → Option (Int × Int × Int × Int)
 | 0, _, _, _, _, _, _, _ => none
 | k + 1, x0, x1, x2, x3, x4, x5, x6 => (impl_room.f x0 x1 x2 x3 (mx x5 1)).bind fun bt314 => (if (wrap64 (bt314.2.1 - bt314.1)) ≥ x4 then (impl_placeFloat.j2 k x0 x1 x2 x3 x4 x5 x6 bt314.1 bt314.2.1 true) else (impl_placeFloat.j2 k x0 x1 x2 x3 x4 x5 x6 bt314.1 bt314.2.1 (!bt314.2.2)))
def impl_placeFloat.j2 : Nat → List (S38) → Int → Int → Int → Int → Int → Bool → Int → Int → Bool → Option (Int × Int × Int × Int)
 | 0, _, _, _, _, _, _, _, _, _, _ => none
 | k + 1, x0, x1, x2, x3, x4, x5, x6, x17, x18, x51 => if x51 = true then (if x6 = true then (some (wrap64 (x18 - x4), x3, x4, x5)) else (some (x17, x3, x4, x5))) else ((impl_nextEnd.f x0 x3).bind fun t317 => (impl_placeFloat.l1 k x0 x1 x2 t317 x4 x5 x6))
end
def impl_placeFloat.f (k : Nat) (l0 : List (S38)) (a1 : Int) (a2 : Int) (a3 : Int) (a4 : Int) (a5 : Int) (a6 : Bool) : Option (Int × Int × Int × Int) := impl_placeFloat.l0 k l0 a1 a2 a3 a4 a5 a6 l0 (l0.length : Int) 0
theorem impl_placeFloat.mono_l : ∀ k, (∀ y0 y1 y2 y3 y4 y5 y6 y7 y8 y9, LeO (impl_placeFloat.l0 k y0 y1 y2 y3 y4 y5 y6 y7 y8 y9) (impl_placeFloat.l0 (k + 1) y0 y1 y2 y3 y4 y5 y6 y7 y8 y9)) ∧ (∀ y0 y1 y2 y3 y4 y5 y6, LeO (impl_placeFloat.l1 k y0 y1 y2 y3 y4 y5 y6) (impl_placeFloat.l1 (k + 1) y0 y1 y2 y3 y4 y5 y6)) ∧ (∀ y0 y1 y2 y3 y4 y5 y6 y7 y8 y9, LeO (impl_placeFloat.j2 k y0 y1 y2 y3 y4 y5 y6 y7 y8 y9) (impl_placeFloat.j2 (k + 1) y0 y1 y2 y3 y4 y5 y6 y7 y8 y9))
 | 0 => ⟨fun _ _ _ _ _ _ _ _ _ _ r h => by simp [impl_placeFloat.l0] at h, fun _ _ _ _ _ _ _ r h => by simp [impl_placeFloat.l1] at h, fun _ _ _ _ _ _ _ _ _ _ r h => by simp [impl_placeFloat.j2] at h⟩
 | k + 1 => by
  obtain ⟨ih0, ih1, ih2⟩ := impl_placeFloat.mono_l k
  refine ⟨?_, ?_, ?_⟩
  · intro y0 y1 y2 y3 y4 y5 y6 y7 y8 y9
    unfold impl_placeFloat.l0
    repeat' first
    | (with_reducible exact ih0 _ _ _ _ _ _ _ _ _ _)
    | (with_reducible exact ih1 _ _ _ _ _ _ _)
    | (with_reducible exact ih2 _ _ _ _ _ _ _ _ _ _)
    | (with_reducible exact LeO.refl _)
    | (with_reducible exact LeO.none _)
    | (with_reducible refine LeO.ite ?_ ?_)
    | (with_reducible refine LeO.bind ?_ (fun _ => ?_))
    | exact ih0 _ _ _ _ _ _ _ _ _ _
    | exact ih1 _ _ _ _ _ _ _
    | exact ih2 _ _ _ _ _ _ _ _ _ _
    | exact LeO.none _
    | refine LeO.ite ?_ ?_
    | refine LeO.bind ?_ (fun _ => ?_)
  · intro y0 y1 y2 y3 y4 y5 y6
    unfold impl_placeFloat.l1
    repeat' first
    | (with_reducible exact ih0 _ _ _ _ _ _ _ _ _ _)
    | (with_reducible exact ih1 _ _ _ _ _ _ _)
    | (with_reducible exact ih2 _ _ _ _ _ _ _ _ _ _)
    | (with_reducible exact LeO.refl _)
    | (with_reducible exact LeO.none _)
    | (with_reducible refine LeO.ite ?_ ?_)
    | (with_reducible refine LeO.bind ?_ (fun _ => ?_))
    | exact ih0 _ _ _ _ _ _ _ _ _ _
    | exact ih1 _ _ _ _ _ _ _
    | exact ih2 _ _ _ _ _ _ _ _ _ _
    | exact LeO.none _
    | refine LeO.ite ?_ ?_
    | refine LeO.bind ?_ (fun _ => ?_)
  · intro y0 y1 y2 y3 y4 y5 y6 y7 y8 y9
    unfold impl_placeFloat.j2
    repeat' first
    | (with_reducible exact ih0 _ _ _ _ _ _ _ _ _ _)
    | (with_reducible exact ih1 _ _ _ _ _ _ _)
    | (with_reducible exact ih2 _ _ _ _ _ _ _ _ _ _)
    | (with_reducible exact LeO.refl _)
    | (with_reducible exact LeO.none _)
    | (with_reducible refine LeO.ite ?_ ?_)
    | (with_reducible refine LeO.bind ?_ (fun _ => ?_))
    | exact ih0 _ _ _ _ _ _ _ _ _ _
    | exact ih1 _ _ _ _ _ _ _
    | exact ih2 _ _ _ _ _ _ _ _ _ _
    | exact LeO.none _
    | refine LeO.ite ?_ ?_
    | refine LeO.bind ?_ (fun _ => ?_)
theorem impl_placeFloat.mono : ∀ a0 a1 a2 a3 a4 a5 a6 k, LeO (impl_placeFloat.f k a0 a1 a2 a3 a4 a5 a6) (impl_placeFloat.f (k + 1) a0 a1 a2 a3 a4 a5 a6) := by
 intro a0 a1 a2 a3 a4 a5 a6 k
 obtain ⟨ih0, ih1, ih2⟩ := impl_placeFloat.mono_l k
 unfold impl_placeFloat.f
 repeat' first
  | (with_reducible exact ih0 _ _ _ _ _ _ _ _ _ _)
  | (with_reducible exact ih1 _ _ _ _ _ _ _)
  | (with_reducible exact ih2 _ _ _ _ _ _ _ _ _ _)
  | (with_reducible exact LeO.refl _)
  | (with_reducible exact LeO.none _)
  | (with_reducible refine LeO.ite ?_ ?_)
  | (with_reducible refine LeO.bind ?_ (fun _ => ?_))
  | exact ih0 _ _ _ _ _ _ _ _ _ _
  | exact ih1 _ _ _ _ _ _ _
  | exact ih2 _ _ _ _ _ _ _ _ _ _
  | exact LeO.none _
  | refine LeO.ite ?_ ?_
  | refine LeO.bind ?_ (fun _ => ?_)
set_option maxHeartbeats 8000000 in
set_option maxRecDepth 100000 in
theorem impl_placeFloat.calls (k : Nat) (A0 : Option Addr) (c0 : Nat) (l0 : List (S38)) (a1 : Int) (a2 : Int) (a3 : Int) (a4 : Int) (a5 : Int) (a6 : Bool) (r1 : Int) (r2 : Int) (r3 : Int) (r4 : Int) (w : World) (hr0 : Kd.C k38 w A0 l0.length l0) (hc0 : l0.length ≤ c0) (h : impl_placeFloat.f k l0 a1 a2 a3 a4 a5 a6 = some (r1, r2, r3, r4)) :
 Calls Try.prog 73 #[.slice A0 l0.length c0, .int .i64 a1, .int .i64 a2, .int .i64 a3, .int .i64 a4, .int .i64 a5, .bool a6] w fun e w' => e = .returned (.agg #[.int .i64 r1, .int .i64 r2, .int .i64 r3, .int .i64 r4]) ∧ Below w.heap.size w w' := by
 have hu34 := Try.underlying34
 have hu38 := Try.underlying38
 have HR0 := aMk hr0
 have HC0 := aMk hc0
 clear hr0 hc0
 have HB := aMk (Below.refl w.heap.size w)
 have H : (impl_placeFloat.l0 k l0 a1 a2 a3 a4 a5 a6 l0 (l0.length : Int) 0) = some (r1, r2, r3, r4) := h
 clear h
 have H' := aMk H
 clear H
 go_enter Try.func73, Try.ntmps73
 go_wp2_with (first | ((with_reducible refine gate_dst (N := 14) rfl ?_); refine box_event ?hg (N := 14) ?hd (cs := #[.int .i64 0, .int .i64 0, .int .i64 0, .int .i64 0]) (t := 34) ?hr ?_; (case hd => rfl); (case hg => rfl); (case hr => first | (go_simp; done) | (go_simp; rfl)); intro gb311 hg w8 hbox hb; have n0_ := aMk (below_step (by repeat (first | (with_reducible first | exact HB.out | apply bAl | apply bDn | apply bD1) | exact HB.out)) hb); have n1_ := aMk (hbox); have n2_ := aMk ((by rw [hg]; exact (below_size (by repeat (first | (with_reducible first | exact HB.out | apply bAl | apply bDn | apply bD1) | exact HB.out))) : w.heap.size ≤ gb311)); have n3_ := aMk ((by rw [hg]; exact (below_size (by repeat (first | (with_reducible first | exact HB.out | apply bAl | apply bDn | apply bD1) | exact HB.out))) : w.heap.size ≤ gb311)); clear HB; have HB := n0_; have BK311 := n1_; have GW311 := n2_; have GE311 := n3_; clear n0_ n1_ n2_ n3_; clear hb hbox hg))
 go_loopg [3, 22] k (fun kq v3 v22 w' => ∃ (x3_1 : Int) (x22_1 : Int), v3 = .int .i64 x3_1 ∧ v22 = .int .i64 x22_1 ∧ Aside0 (impl_placeFloat.l0 kq l0 a1 a2 x3_1 a4 a5 a6 l0 (l0.length : Int) x22_1 = some (r1, r2, r3, r4)) ∧ Aside0 (kq ≤ k) ∧ Aside0 (w'.heap[gb311]? = some (.cells #[.int .i64 0, .int .i64 0, .int .i64 0, .int .i64 0] 34 (0, 0))) ∧ Aside0 (Below w.heap.size w w'))
 case atStart => exact ⟨(a3), (0), (by first | rfl | (simp; done) | (simp [*]; done)), (by first | rfl | (simp; done) | (simp [*]; done)), H', ⟨Nat.le_refl _⟩, ⟨by (with_reducible repeat (first | refine bkD ?_ _ | refine blk_drew ?_ | refine bkA ?_ _)); exact BK311.out⟩, ⟨by repeat (first | (with_reducible first | exact HB.out | apply bAl | apply bDn | apply bD1 | refine bSe ?_ GE311.out) | exact HB.out)⟩⟩
 case round =>
  clear H'
  try clear p2
  try clear c7
  obtain ⟨x3_1, x22_1, rfl, rfl, HA, HK1, BK311, HB⟩ := hrel
  cases gk with
  | zero => exact absurd HA.out (by simp [impl_placeFloat.l0])
  | succ k1 =>
   have H := HA.out
   clear HA
   simp only [impl_placeFloat.l0] at H
   by_cases c9 : x22_1 < (l0.length : Int)
   · rw [if_pos c9] at H
     have c9b0 : decide (x22_1 < (l0.length : Int)) = true := decide_eq_true c9
     clear c9
     by_cases c10 : 0 ≤ x22_1
     · rw [if_pos c10] at H
       have c10b0 : decide (0 ≤ x22_1) = true := decide_eq_true c10
       clear c10
       by_cases c11 : x22_1 < (l0.length : Int)
       · rw [if_pos c11] at H
         have c11b0 : decide (x22_1 < (l0.length : Int)) = true := decide_eq_true c11
         clear c11
         obtain ⟨ji12, hji12⟩ : ∃ j_ : Int, (mx x3_1 ((rd_T38 l0 x22_1).f0.f1)) = j_ := ⟨_, rfl⟩
         replace H : (impl_placeFloat.l0 k1 l0 a1 a2 ji12 a4 a5 a6 l0 (l0.length : Int) (wrap64 (x22_1 + 1))) = some (r1, r2, r3, r4) := by first | (rw [hji12] at H; exact H) | (simp only [hji12] at H ⊢; exact H)
         have hji12_ : (if x3_1 < ((rd_T38 l0 x22_1).f0.f1) then ((rd_T38 l0 x22_1).f0.f1) else x3_1) = ji12 := hji12
         have H' := aMk H
         clear H
         have p312 : 0 ≤ (x22_1 : Int) := oDt (by first | (with_reducible assumption) | assumption)
         have q312 : x22_1 < (l0.length : Int) := oDt (by first | (with_reducible assumption) | assumption)
         obtain ⟨ad312, e312, hx312_0, hx312_1, hx312_2, hx312_3, hx312_4⟩ := at_T38 HR0.out x22_1 p312 q312
         cases e312
         replace hx312_0 := (HB.out.cell (wBl w _ hx312_0)).trans hx312_0
         replace hx312_1 := (HB.out.cell (wBl w _ hx312_1)).trans hx312_1
         replace hx312_2 := (HB.out.cell (wBl w _ hx312_2)).trans hx312_2
         replace hx312_3 := (HB.out.cell (wBl w _ hx312_3)).trans hx312_3
         replace hx312_4 := (HB.out.cell (wBl w _ hx312_4)).trans hx312_4
         replace p312 := eq_true p312
         replace q312 := eq_true q312
         go_wp2_with (first | ((with_reducible refine gate_dst (N := 16) rfl ?_); refine box_event ?hg (N := 16) ?hd (cs := #[.int .i64 0, .int .i64 0, .int .i64 0, .int .i64 0, .bool false]) (t := 38) ?hr ?_; (case hd => rfl); (case hg => rfl); (case hr => first | (go_simp; done) | (go_simp; rfl)); intro gb313 hg w13 hbox hb; have n0_ := aMk (blk_below (g := gb311) (o := .cells #[.int .i64 0, .int .i64 0, .int .i64 0, .int .i64 0] 34 (0, 0)) (by (with_reducible repeat (first | refine bkD ?_ _ | refine blk_drew ?_ | refine bkA ?_ _)); exact BK311.out) hb); have n1_ := aMk (below_step (by repeat (first | (with_reducible first | exact HB.out | apply bAl | apply bDn | apply bD1 | refine bSe ?_ GE311.out) | exact HB.out)) hb); have n2_ := aMk (hbox); have n3_ := aMk ((by rw [hg]; exact (below_size (by repeat (first | (with_reducible first | exact HB.out | apply bAl | apply bDn | apply bD1 | refine bSe ?_ GE311.out) | exact HB.out))) : w.heap.size ≤ gb313)); have n4_ := aMk ((by rw [hg]; exact (below_size (by repeat (first | (with_reducible first | exact HB.out | apply bAl | apply bDn | apply bD1 | refine bSe ?_ GE311.out) | exact HB.out))) : w.heap.size ≤ gb313)); have n5_ := aMk ((by rw [hg]; exact Nat.ne_of_lt (blk_lt (g := gb311) (o := .cells #[.int .i64 0, .int .i64 0, .int .i64 0, .int .i64 0] 34 (0, 0)) (by (with_reducible repeat (first | refine bkD ?_ _ | refine blk_drew ?_ | refine bkA ?_ _)); exact BK311.out)) : gb311 ≠ gb313)); have n6_ := aMk ((by rw [hg]; exact Nat.ne_of_gt (blk_lt (g := gb311) (o := .cells #[.int .i64 0, .int .i64 0, .int .i64 0, .int .i64 0] 34 (0, 0)) (by (with_reducible repeat (first | refine bkD ?_ _ | refine blk_drew ?_ | refine bkA ?_ _)); exact BK311.out)) : gb313 ≠ gb311)); clear BK311; clear HB; have BK311 := n0_; have HB := n1_; have BK313 := n2_; have GW313 := n3_; have GE313 := n4_; have NB311_313 := n5_; have NB313_311 := n6_; clear n0_ n1_ n2_ n3_ n4_ n5_ n6_; clear hb hbox hg; have hnb14 := NB313_311.out; have hnc14 := NB311_313.out; have hcz15_0 : w13.cell? ⟨gb313, 0, none⟩ = some (.int .i64 0) := (bCe BK313.out 0).trans rfl; have hcz15_1 : w13.cell? ⟨gb313, 1, none⟩ = some (.int .i64 0) := (bCe BK313.out 1).trans rfl; have hcz15_2 : w13.cell? ⟨gb313, 2, none⟩ = some (.int .i64 0) := (bCe BK313.out 2).trans rfl; have hcz15_3 : w13.cell? ⟨gb313, 3, none⟩ = some (.int .i64 0) := (bCe BK313.out 3).trans rfl; have hcz15_4 : w13.cell? ⟨gb313, 4, none⟩ = some (.bool false) := (bCe BK313.out 4).trans rfl; have hfz15_0 := bFr BK313.out 0; have hfz15_1 := bFr BK313.out 1; have hfz15_2 := bFr BK313.out 2; have hfz15_3 := bFr BK313.out 3; have hfz15_4 := bFr BK313.out 4))
         go_roundg k1
         case measure => have := HK1.out; omega
         case rel => exact ⟨(ji12), (wrap64 (x22_1 + 1)), (by first | rfl | (simp; done) | (simp only [← hji12] <;> (first | rfl | simp)) | (simp [*]; done)), (by first | rfl | (simp; done) | (simp [*]; done)), H', ⟨by have := HK1.out; omega⟩, ⟨by (with_reducible repeat (first | refine bkD ?_ _ | refine blk_drew ?_ | refine bkA ?_ _)); refine blk_far ?_ NB311_313.out _; (with_reducible repeat (first | refine bkD ?_ _ | refine blk_drew ?_ | refine bkA ?_ _)); refine blk_far ?_ NB311_313.out _; (with_reducible repeat (first | refine bkD ?_ _ | refine blk_drew ?_ | refine bkA ?_ _)); refine blk_far ?_ NB311_313.out _; (with_reducible repeat (first | refine bkD ?_ _ | refine blk_drew ?_ | refine bkA ?_ _)); refine blk_far ?_ NB311_313.out _; (with_reducible repeat (first | refine bkD ?_ _ | refine blk_drew ?_ | refine bkA ?_ _)); refine blk_far ?_ NB311_313.out _; (with_reducible repeat (first | refine bkD ?_ _ | refine blk_drew ?_ | refine bkA ?_ _)); exact BK311.out⟩, ⟨by repeat (first | (with_reducible first | exact HB.out | apply bAl | apply bDn | apply bD1 | refine bSe ?_ GE311.out | refine bSe ?_ GE313.out) | exact HB.out)⟩⟩
       · rw [if_neg c11] at H
         exact absurd H (by simp)
     · rw [if_neg c10] at H
       exact absurd H (by simp)
   · rw [if_neg c9] at H
     have c9b0 : decide (x22_1 < (l0.length : Int)) = false := decide_eq_false c9
     clear c9
     have H' := aMk H
     clear H
     go_wp2
     go_loopg [3] k1 (fun kq v3 w' => ∃ (x3_2 : Int) (x312000_2 : Int) (x312001_2 : Int) (x312002_2 : Int) (x312003_2 : Int), v3 = .int .i64 x3_2 ∧ Aside0 (impl_placeFloat.l1 kq l0 a1 a2 x3_2 a4 a5 a6 = some (r1, r2, r3, r4)) ∧ Aside0 (kq ≤ k1) ∧ Aside0 (w'.heap[gb311]? = some (.cells #[.int .i64 x312000_2, .int .i64 x312001_2, .int .i64 x312002_2, .int .i64 x312003_2] 34 (0, 0))) ∧ Aside0 (Below w.heap.size w w'))
     case atStart => exact ⟨(x3_1), (0), (0), (0), (0), (by first | rfl | (simp; done) | (simp [*]; done)), H', ⟨Nat.le_refl _⟩, ⟨by (with_reducible repeat (first | refine bkD ?_ _ | refine blk_drew ?_ | refine bkA ?_ _)); exact BK311.out⟩, ⟨by repeat (first | (with_reducible first | exact HB.out | apply bAl | apply bDn | apply bD1 | refine bSe ?_ GE311.out) | exact HB.out)⟩⟩
     case round =>
      clear H'
      try clear c1
      try clear p2
      try clear p3
      try clear q3
      try clear hx3
      try clear p6
      try clear c7
      try clear c9
      try clear c9b0
      try clear c10
      try clear c10b0
      try clear c11
      try clear c11b0
      try clear c14
      try clear hcz15_0
      try clear hcz15_1
      try clear hcz15_2
      try clear hcz15_3
      try clear hcz15_4
      try clear hfz15_0
      try clear hfz15_1
      try clear hfz15_2
      try clear hfz15_3
      try clear hfz15_4
      try clear hx312_0
      try clear hx312_1
      try clear hx312_2
      try clear hx312_3
      try clear hx312_4
      try clear p2
      try clear p312
      try clear q312
      obtain ⟨x3_2, x312000_2, x312001_2, x312002_2, x312003_2, rfl, HA, HK2, BK311, HB⟩ := hrel
      cases gk with
      | zero => exact absurd HA.out (by simp [impl_placeFloat.l1])
      | succ k2 =>
       have H := HA.out
       clear HA
       simp only [impl_placeFloat.l1] at H
       obtain ⟨ji16, hji16⟩ : ∃ j_ : Int, (mx a5 1) = j_ := ⟨_, rfl⟩
       replace H : ((impl_room.f l0 a1 a2 x3_2 (ji16)).bind fun bt314 => (if (wrap64 (bt314.2.1 - bt314.1)) ≥ a4 then (impl_placeFloat.j2 k2 l0 a1 a2 x3_2 a4 a5 a6 bt314.1 bt314.2.1 true) else (impl_placeFloat.j2 k2 l0 a1 a2 x3_2 a4 a5 a6 bt314.1 bt314.2.1 (!bt314.2.2)))) = some (r1, r2, r3, r4) := by first | (rw [hji16] at H; exact H) | (simp only [hji16] at H ⊢; exact H)
       have hji16_ : (if a5 < 1 then 1 else a5) = ji16 := hji16
       replace H := oBm H
       obtain ⟨⟨t314, t315, t316⟩, A170, H⟩ := H
       replace H : (if (wrap64 (t315 - t314)) ≥ a4 then (impl_placeFloat.j2 k2 l0 a1 a2 x3_2 a4 a5 a6 t314 t315 true) else (impl_placeFloat.j2 k2 l0 a1 a2 x3_2 a4 a5 a6 t314 t315 (!t316))) = some (r1, r2, r3, r4) := H
       have A17 := aMk A170
       clear A170
       have HC18 := aMk H
       clear H
       go_upto_region 7 with (first | ((with_reducible refine gate_callee (f := 121) rfl ?_); refine goesL_ (some 39) rfl rfl Try.func121 (by kernel_rfl) rfl #[.slice A0 l0.length c0, .int .i64 a1, .int .i64 a2, .int .i64 x3_2, .int .i64 ji16] rfl (by (try simp only [List.map_toArray, List.map_cons, List.map_nil]); first | done | (simp only [hji16]; rfl) | rfl | (simp only [List.length_drop, List.length_take]; rfl)) ?_; (with_reducible refine (impl_room.calls _ _ l0 a1 a2 x3_2 ji16 t314 t315 t316 _ ?side1 ?side2 A17.out).mono ?_); (case side1 => repeat (first | exact (Kd.C_below HR0.out HB.out) | (with_reducible refine Kd.C_alloc ?_ _) | (with_reducible refine Kd.C_drewN ?_ _) | (with_reducible refine Kd.C_drew ?_))); (case side2 => exact HC0.out); rintro e w19 ⟨rfl, hb⟩; refine ⟨_, rfl, ?_⟩; have n0_ := aMk (blk_below (g := gb311) (o := .cells #[.int .i64 x312000_2, .int .i64 x312001_2, .int .i64 x312002_2, .int .i64 x312003_2] 34 (0, 0)) (by (with_reducible repeat (first | refine bkD ?_ _ | refine blk_drew ?_ | refine bkA ?_ _)); exact BK311.out) hb); have n1_ := aMk (below_step (by repeat (first | (with_reducible first | exact HB.out | apply bAl | apply bDn | apply bD1 | refine bSe ?_ GE311.out) | exact HB.out)) hb); clear BK311; clear HB; have BK311 := n0_; have HB := n1_; clear n0_ n1_; (try clear hb); (try clear hb2); (try clear hk); (try clear hi)))
       (try simp only [Act.put, lSa, lSz, lSs])
       go_cut [51] (fun v51 wc => ∃ (kq : Nat) (x51_17 : Bool), v51 = .bool x51_17 ∧ Aside0 (impl_placeFloat.j2 kq l0 a1 a2 x3_2 a4 a5 a6 t314 t315 x51_17 = some (r1, r2, r3, r4)) ∧ Aside0 (kq ≤ k2) ∧ Aside0 (wc.heap[gb311]? = some (.cells #[.int .i64 x312000_2, .int .i64 x312001_2, .int .i64 x312002_2, .int .i64 x312003_2] 34 (0, 0))) ∧ Aside0 (Below w.heap.size w wc))
       case first =>
        have H := HC18.out
        clear HC18
        by_cases c20 : (wrap64 (t315 - t314)) ≥ a4
        · rw [if_pos c20] at H
          have c20b0 : decide (a4 ≤ (wrap64 (t315 - t314))) = true := decide_eq_true c20
          clear c20
          (first | rw [c20b0] | (simp only [i64_w, i32_w]; rw [c20b0]) | skip)
          have H' := aMk H
          clear H
          go_wp2
          go_meet
          case rel => exact ⟨_, (true), (by first | rfl | (simp; done) | (simp [*]; done)), H', ⟨by have := HK1.out; have := HK2.out; first | omega | exact Nat.le_refl _⟩, ⟨by (with_reducible repeat (first | refine bkD ?_ _ | refine blk_drew ?_ | refine bkA ?_ _)); exact BK311.out⟩, ⟨by repeat (first | (with_reducible first | exact HB.out | apply bAl | apply bDn | apply bD1 | refine bSe ?_ GE311.out) | exact HB.out)⟩⟩
        · rw [if_neg c20] at H
          have c20b0 : decide (a4 ≤ (wrap64 (t315 - t314))) = false := decide_eq_false c20
          clear c20
          (first | rw [c20b0] | (simp only [i64_w, i32_w]; rw [c20b0]) | skip)
          have H' := aMk H
          clear H
          go_wp2
          go_meet
          case rel => exact ⟨_, (!t316), (by first | rfl | (simp; done) | (simp [*]; done)), H', ⟨by have := HK1.out; have := HK2.out; first | omega | exact Nat.le_refl _⟩, ⟨by (with_reducible repeat (first | refine bkD ?_ _ | refine blk_drew ?_ | refine bkA ?_ _)); exact BK311.out⟩, ⟨by repeat (first | (with_reducible first | exact HB.out | apply bAl | apply bDn | apply bD1 | refine bSe ?_ GE311.out) | exact HB.out)⟩⟩
       case rest =>
        clear HC18
        try clear c1
        try clear c2
        try clear p2
        try clear p3
        try clear q3
        try clear hx3
        try clear p6
        try clear c7
        try clear c9
        try clear c9b0
        try clear c10
        try clear c10b0
        try clear c11
        try clear c11b0
        try clear c12
        try clear c14
        try clear c20
        try clear c20b0
        try clear hcz15_0
        try clear hcz15_1
        try clear hcz15_2
        try clear hcz15_3
        try clear hcz15_4
        try clear hfz15_0
        try clear hfz15_1
        try clear hfz15_2
        try clear hfz15_3
        try clear hfz15_4
        try clear hx312_0
        try clear hx312_1
        try clear hx312_2
        try clear hx312_3
        try clear hx312_4
        try clear p2
        try clear p3
        try clear p312
        try clear p6
        try clear q3
        try clear q312
        obtain ⟨kq, x51_17, rfl, HA, HJ17, BK311, HB⟩ := hcut
        cases kq with
        | zero => exact absurd HA.out (by simp [impl_placeFloat.j2])
        | succ kj17 =>
         have H := HA.out
         clear HA
         simp only [impl_placeFloat.j2] at H
         by_cases c21 : x51_17 = true
         · subst c21
           have H1 : (if a6 = true then (some (wrap64 (t315 - a4), x3_2, a4, a5)) else (some (t314, x3_2, a4, a5))) = some (r1, r2, r3, r4) := by rw [if_pos rfl] at H; exact H
           clear H
           have H := H1
           clear H1
           by_cases c22 : a6 = true
           · subst c22
             have H1 : (some (wrap64 (t315 - a4), x3_2, a4, a5)) = some (r1, r2, r3, r4) := by rw [if_pos rfl] at H; exact H
             clear H
             have H := H1
             clear H1
             simp only [Option.some.injEq, Prod.mk.injEq] at H
             obtain ⟨rfl, rfl, rfl, rfl⟩ := H
             have hcz23_0 : wc.cell? ⟨gb311, 0, none⟩ = some (.int .i64 x312000_2) := (bCe BK311.out 0).trans rfl
             have hcz23_1 : wc.cell? ⟨gb311, 1, none⟩ = some (.int .i64 x312001_2) := (bCe BK311.out 1).trans rfl
             have hcz23_2 : wc.cell? ⟨gb311, 2, none⟩ = some (.int .i64 x312002_2) := (bCe BK311.out 2).trans rfl
             have hcz23_3 : wc.cell? ⟨gb311, 3, none⟩ = some (.int .i64 x312003_2) := (bCe BK311.out 3).trans rfl
             have hfz23_0 := bFr BK311.out 0
             have hfz23_1 := bFr BK311.out 1
             have hfz23_2 := bFr BK311.out 2
             have hfz23_3 := bFr BK311.out 3
             go_wp2
             refine bodyPost_ret (results_cell_row rfl _ _ gb311 34 #[.int .i64 (wrap64 (t315 - a4)), .int .i64 x3_2, .int .i64 a4, .int .i64 a5] (0, 0) _ rfl (by (with_reducible repeat (first | refine bkD ?_ _ | refine blk_drew ?_ | refine bkA ?_ _)); refine blk_put (cs := #[.int .i64 (wrap64 (t315 - a4)), .int .i64 x3_2, .int .i64 a4, .int .i64 x312003_2]) ?_ 3 _ rfl; (with_reducible repeat (first | refine bkD ?_ _ | refine blk_drew ?_ | refine bkA ?_ _)); refine blk_put (cs := #[.int .i64 (wrap64 (t315 - a4)), .int .i64 x3_2, .int .i64 x312002_2, .int .i64 x312003_2]) ?_ 2 _ rfl; (with_reducible repeat (first | refine bkD ?_ _ | refine blk_drew ?_ | refine bkA ?_ _)); refine blk_put (cs := #[.int .i64 (wrap64 (t315 - a4)), .int .i64 x312001_2, .int .i64 x312002_2, .int .i64 x312003_2]) ?_ 1 _ rfl; (with_reducible repeat (first | refine bkD ?_ _ | refine blk_drew ?_ | refine bkA ?_ _)); refine blk_put (cs := #[.int .i64 x312000_2, .int .i64 x312001_2, .int .i64 x312002_2, .int .i64 x312003_2]) ?_ 0 _ rfl; (with_reducible repeat (first | refine bkD ?_ _ | refine blk_drew ?_ | refine bkA ?_ _)); exact BK311.out) Try.underlying34 rfl (by kernel_rfl)) rfl ?_
             exact ⟨by first | rfl | (simp [errW_none, errW_some] <;> rfl) | (simp only [← hji16]; first | rfl | (simp [errW_none, errW_some] <;> rfl)) | (simp [*, errW_none, errW_some] <;> rfl), by repeat (first | (with_reducible first | exact HB.out | apply bAl | apply bDn | apply bD1 | refine bSe ?_ GE311.out) | exact HB.out)⟩
           · replace c22 := Bool.eq_false_iff.mpr c22
             subst c22
             have H1 : (some (t314, x3_2, a4, a5)) = some (r1, r2, r3, r4) := by rw [if_neg (show ¬ (false = true) by decide)] at H; exact H
             clear H
             have H := H1
             clear H1
             simp only [Option.some.injEq, Prod.mk.injEq] at H
             obtain ⟨rfl, rfl, rfl, rfl⟩ := H
             have hcz24_0 : wc.cell? ⟨gb311, 0, none⟩ = some (.int .i64 x312000_2) := (bCe BK311.out 0).trans rfl
             have hcz24_1 : wc.cell? ⟨gb311, 1, none⟩ = some (.int .i64 x312001_2) := (bCe BK311.out 1).trans rfl
             have hcz24_2 : wc.cell? ⟨gb311, 2, none⟩ = some (.int .i64 x312002_2) := (bCe BK311.out 2).trans rfl
             have hcz24_3 : wc.cell? ⟨gb311, 3, none⟩ = some (.int .i64 x312003_2) := (bCe BK311.out 3).trans rfl
             have hfz24_0 := bFr BK311.out 0
             have hfz24_1 := bFr BK311.out 1
             have hfz24_2 := bFr BK311.out 2
             have hfz24_3 := bFr BK311.out 3
             go_wp2
             refine bodyPost_ret (results_cell_row rfl _ _ gb311 34 #[.int .i64 t314, .int .i64 x3_2, .int .i64 a4, .int .i64 a5] (0, 0) _ rfl (by (with_reducible repeat (first | refine bkD ?_ _ | refine blk_drew ?_ | refine bkA ?_ _)); refine blk_put (cs := #[.int .i64 t314, .int .i64 x3_2, .int .i64 a4, .int .i64 x312003_2]) ?_ 3 _ rfl; (with_reducible repeat (first | refine bkD ?_ _ | refine blk_drew ?_ | refine bkA ?_ _)); refine blk_put (cs := #[.int .i64 t314, .int .i64 x3_2, .int .i64 x312002_2, .int .i64 x312003_2]) ?_ 2 _ rfl; (with_reducible repeat (first | refine bkD ?_ _ | refine blk_drew ?_ | refine bkA ?_ _)); refine blk_put (cs := #[.int .i64 t314, .int .i64 x312001_2, .int .i64 x312002_2, .int .i64 x312003_2]) ?_ 1 _ rfl; (with_reducible repeat (first | refine bkD ?_ _ | refine blk_drew ?_ | refine bkA ?_ _)); refine blk_put (cs := #[.int .i64 x312000_2, .int .i64 x312001_2, .int .i64 x312002_2, .int .i64 x312003_2]) ?_ 0 _ rfl; (with_reducible repeat (first | refine bkD ?_ _ | refine blk_drew ?_ | refine bkA ?_ _)); exact BK311.out) Try.underlying34 rfl (by kernel_rfl)) rfl ?_
             exact ⟨by first | rfl | (simp [errW_none, errW_some] <;> rfl) | (simp only [← hji16]; first | rfl | (simp [errW_none, errW_some] <;> rfl)) | (simp [*, errW_none, errW_some] <;> rfl), by repeat (first | (with_reducible first | exact HB.out | apply bAl | apply bDn | apply bD1 | refine bSe ?_ GE311.out) | exact HB.out)⟩
         · replace c21 := Bool.eq_false_iff.mpr c21
           subst c21
           have H1 : ((impl_nextEnd.f l0 x3_2).bind fun t317 => (impl_placeFloat.l1 kj17 l0 a1 a2 t317 a4 a5 a6)) = some (r1, r2, r3, r4) := by rw [if_neg (show ¬ (false = true) by decide)] at H; exact H
           clear H
           have H := H1
           clear H1
           replace H := oBm H
           obtain ⟨t317, A250, H⟩ := H
           replace H : (impl_placeFloat.l1 kj17 l0 a1 a2 t317 a4 a5 a6) = some (r1, r2, r3, r4) := H
           have A25 := aMk A250
           clear A250
           have H' := aMk H
           clear H
           go_wp2_with (first | ((with_reducible refine gate_callee (f := 122) rfl ?_); refine goesL_ (some 63) rfl rfl Try.func122 (by kernel_rfl) rfl #[.slice A0 l0.length c0, .int .i64 x3_2] rfl (by (try simp only [List.map_toArray, List.map_cons, List.map_nil]); first | done | rfl | (simp only [List.length_drop, List.length_take]; rfl)) ?_; (with_reducible refine (impl_nextEnd.calls _ _ l0 x3_2 t317 _ ?side1 ?side2 A25.out).mono ?_); (case side1 => repeat (first | exact (Kd.C_below HR0.out HB.out) | (with_reducible refine Kd.C_alloc ?_ _) | (with_reducible refine Kd.C_drewN ?_ _) | (with_reducible refine Kd.C_drew ?_))); (case side2 => exact HC0.out); rintro e w26 ⟨rfl, hb⟩; refine ⟨_, rfl, ?_⟩; have n0_ := aMk (blk_below (g := gb311) (o := .cells #[.int .i64 x312000_2, .int .i64 x312001_2, .int .i64 x312002_2, .int .i64 x312003_2] 34 (0, 0)) (by (with_reducible repeat (first | refine bkD ?_ _ | refine blk_drew ?_ | refine bkA ?_ _)); exact BK311.out) hb); have n1_ := aMk (below_step (by repeat (first | (with_reducible first | exact HB.out | apply bAl | apply bDn | apply bD1 | refine bSe ?_ GE311.out) | exact HB.out)) hb); clear BK311; clear HB; have BK311 := n0_; have HB := n1_; clear n0_ n1_; (try clear hb); (try clear hb2); (try clear hk); (try clear hi)))
           go_roundg kj17
           case measure => have := HK1.out; have := HK2.out; have := HJ17.out; omega
           case rel => exact ⟨(t317), (x312000_2), (x312001_2), (x312002_2), (x312003_2), (by first | rfl | (simp; done) | (simp [*]; done)), H', ⟨by have := HK1.out; have := HK2.out; have := HJ17.out; omega⟩, ⟨by (with_reducible repeat (first | refine bkD ?_ _ | refine blk_drew ?_ | refine bkA ?_ _)); exact BK311.out⟩, ⟨by repeat (first | (with_reducible first | exact HB.out | apply bAl | apply bDn | apply bD1 | refine bSe ?_ GE311.out) | exact HB.out)⟩⟩

/-! ### impl_PlaceFloat: function 22 -/
def impl_PlaceFloat.f (k : Nat) (l0 : List (S38)) (a1 : Int) (a2 : Int) (a3 : Int) (a4 : Int) (a5 : Int) (a6 : Bool) : Option (Int × Int × Int × Int) := (impl_FloatsOk.f k l0).bind fun t319 => (if t319 = true then ((impl_inUnits.f a3).bind fun t320 => (if t320 = true then ((impl_nonNegative.f a5).bind fun t321 => (if t321 = true then ((impl_nonNegative.f a4).bind fun t322 => (if t322 = true then ((impl_inUnits.f a1).bind fun t323 => (if t323 = true then ((impl_inUnits.f a2).bind fun t324 => (if t324 = true then ((impl_placeFloat.f k l0 a1 a2 a3 a4 a5 a6).bind fun bt325 => (some (bt325.1, bt325.2.1, bt325.2.2.1, bt325.2.2.2))) else (some (0, 0, 0, 0)))) else (some (0, 0, 0, 0)))) else (some (0, 0, 0, 0)))) else (some (0, 0, 0, 0)))) else (some (0, 0, 0, 0)))) else (some (0, 0, 0, 0)))
theorem impl_PlaceFloat.mono : ∀ a0 a1 a2 a3 a4 a5 a6 k, LeO (impl_PlaceFloat.f k a0 a1 a2 a3 a4 a5 a6) (impl_PlaceFloat.f (k + 1) a0 a1 a2 a3 a4 a5 a6) := by
 intro a0 a1 a2 a3 a4 a5 a6 k
 unfold impl_PlaceFloat.f
 repeat' first
  | (with_reducible exact impl_FloatsOk.mono _ _)
  | (with_reducible exact impl_placeFloat.mono _ _ _ _ _ _ _ _)
  | (with_reducible exact LeO.refl _)
  | (with_reducible exact LeO.none _)
  | (with_reducible refine LeO.ite ?_ ?_)
  | (with_reducible refine LeO.bind ?_ (fun _ => ?_))
  | exact impl_FloatsOk.mono _ _
  | exact impl_placeFloat.mono _ _ _ _ _ _ _ _
  | exact LeO.none _
  | refine LeO.ite ?_ ?_
  | refine LeO.bind ?_ (fun _ => ?_)
set_option maxHeartbeats 8000000 in
set_option maxRecDepth 100000 in
theorem impl_PlaceFloat.calls (k : Nat) (A0 : Option Addr) (c0 : Nat) (l0 : List (S38)) (a1 : Int) (a2 : Int) (a3 : Int) (a4 : Int) (a5 : Int) (a6 : Bool) (r1 : Int) (r2 : Int) (r3 : Int) (r4 : Int) (w : World) (hr0 : Kd.C k38 w A0 l0.length l0) (hc0 : l0.length ≤ c0) (h : impl_PlaceFloat.f k l0 a1 a2 a3 a4 a5 a6 = some (r1, r2, r3, r4)) :
 Calls Try.prog 22 #[.slice A0 l0.length c0, .int .i64 a1, .int .i64 a2, .int .i64 a3, .int .i64 a4, .int .i64 a5, .bool a6] w fun e w' => e = .returned (.agg #[.int .i64 r1, .int .i64 r2, .int .i64 r3, .int .i64 r4]) ∧ Below w.heap.size w w' := by
 have hu34 := Try.underlying34
 have HR0 := aMk hr0
 have HC0 := aMk hc0
 clear hr0 hc0
 have HB := aMk (Below.refl w.heap.size w)
 have H : ((impl_FloatsOk.f k l0).bind fun t319 => (if t319 = true then ((impl_inUnits.f a3).bind fun t320 => (if t320 = true then ((impl_nonNegative.f a5).bind fun t321 => (if t321 = true then ((impl_nonNegative.f a4).bind fun t322 => (if t322 = true then ((impl_inUnits.f a1).bind fun t323 => (if t323 = true then ((impl_inUnits.f a2).bind fun t324 => (if t324 = true then ((impl_placeFloat.f k l0 a1 a2 a3 a4 a5 a6).bind fun bt325 => (some (bt325.1, bt325.2.1, bt325.2.2.1, bt325.2.2.2))) else (some (0, 0, 0, 0)))) else (some (0, 0, 0, 0)))) else (some (0, 0, 0, 0)))) else (some (0, 0, 0, 0)))) else (some (0, 0, 0, 0)))) else (some (0, 0, 0, 0)))) = some (r1, r2, r3, r4) := h
 clear h
 replace H := oBm H
 obtain ⟨t319, A80, H⟩ := H
 replace H : (if t319 = true then ((impl_inUnits.f a3).bind fun t320 => (if t320 = true then ((impl_nonNegative.f a5).bind fun t321 => (if t321 = true then ((impl_nonNegative.f a4).bind fun t322 => (if t322 = true then ((impl_inUnits.f a1).bind fun t323 => (if t323 = true then ((impl_inUnits.f a2).bind fun t324 => (if t324 = true then ((impl_placeFloat.f k l0 a1 a2 a3 a4 a5 a6).bind fun bt325 => (some (bt325.1, bt325.2.1, bt325.2.2.1, bt325.2.2.2))) else (some (0, 0, 0, 0)))) else (some (0, 0, 0, 0)))) else (some (0, 0, 0, 0)))) else (some (0, 0, 0, 0)))) else (some (0, 0, 0, 0)))) else (some (0, 0, 0, 0))) = some (r1, r2, r3, r4) := H
 have A8 := aMk A80
 clear A80
 by_cases c9 : t319 = true
 · subst c9
   have H1 : ((impl_inUnits.f a3).bind fun t320 => (if t320 = true then ((impl_nonNegative.f a5).bind fun t321 => (if t321 = true then ((impl_nonNegative.f a4).bind fun t322 => (if t322 = true then ((impl_inUnits.f a1).bind fun t323 => (if t323 = true then ((impl_inUnits.f a2).bind fun t324 => (if t324 = true then ((impl_placeFloat.f k l0 a1 a2 a3 a4 a5 a6).bind fun bt325 => (some (bt325.1, bt325.2.1, bt325.2.2.1, bt325.2.2.2))) else (some (0, 0, 0, 0)))) else (some (0, 0, 0, 0)))) else (some (0, 0, 0, 0)))) else (some (0, 0, 0, 0)))) else (some (0, 0, 0, 0)))) = some (r1, r2, r3, r4) := by rw [if_pos rfl] at H; exact H
   clear H
   have H := H1
   clear H1
   replace H := oBm H
   obtain ⟨t320, A100, H⟩ := H
   replace H : (if t320 = true then ((impl_nonNegative.f a5).bind fun t321 => (if t321 = true then ((impl_nonNegative.f a4).bind fun t322 => (if t322 = true then ((impl_inUnits.f a1).bind fun t323 => (if t323 = true then ((impl_inUnits.f a2).bind fun t324 => (if t324 = true then ((impl_placeFloat.f k l0 a1 a2 a3 a4 a5 a6).bind fun bt325 => (some (bt325.1, bt325.2.1, bt325.2.2.1, bt325.2.2.2))) else (some (0, 0, 0, 0)))) else (some (0, 0, 0, 0)))) else (some (0, 0, 0, 0)))) else (some (0, 0, 0, 0)))) else (some (0, 0, 0, 0))) = some (r1, r2, r3, r4) := H
   have A10 := aMk A100
   clear A100
   by_cases c11 : t320 = true
   · subst c11
     have H1 : ((impl_nonNegative.f a5).bind fun t321 => (if t321 = true then ((impl_nonNegative.f a4).bind fun t322 => (if t322 = true then ((impl_inUnits.f a1).bind fun t323 => (if t323 = true then ((impl_inUnits.f a2).bind fun t324 => (if t324 = true then ((impl_placeFloat.f k l0 a1 a2 a3 a4 a5 a6).bind fun bt325 => (some (bt325.1, bt325.2.1, bt325.2.2.1, bt325.2.2.2))) else (some (0, 0, 0, 0)))) else (some (0, 0, 0, 0)))) else (some (0, 0, 0, 0)))) else (some (0, 0, 0, 0)))) = some (r1, r2, r3, r4) := by rw [if_pos rfl] at H; exact H
     clear H
     have H := H1
     clear H1
     replace H := oBm H
     obtain ⟨t321, A120, H⟩ := H
     replace H : (if t321 = true then ((impl_nonNegative.f a4).bind fun t322 => (if t322 = true then ((impl_inUnits.f a1).bind fun t323 => (if t323 = true then ((impl_inUnits.f a2).bind fun t324 => (if t324 = true then ((impl_placeFloat.f k l0 a1 a2 a3 a4 a5 a6).bind fun bt325 => (some (bt325.1, bt325.2.1, bt325.2.2.1, bt325.2.2.2))) else (some (0, 0, 0, 0)))) else (some (0, 0, 0, 0)))) else (some (0, 0, 0, 0)))) else (some (0, 0, 0, 0))) = some (r1, r2, r3, r4) := H
     have A12 := aMk A120
     clear A120
     by_cases c13 : t321 = true
     · subst c13
       have H1 : ((impl_nonNegative.f a4).bind fun t322 => (if t322 = true then ((impl_inUnits.f a1).bind fun t323 => (if t323 = true then ((impl_inUnits.f a2).bind fun t324 => (if t324 = true then ((impl_placeFloat.f k l0 a1 a2 a3 a4 a5 a6).bind fun bt325 => (some (bt325.1, bt325.2.1, bt325.2.2.1, bt325.2.2.2))) else (some (0, 0, 0, 0)))) else (some (0, 0, 0, 0)))) else (some (0, 0, 0, 0)))) = some (r1, r2, r3, r4) := by rw [if_pos rfl] at H; exact H
       clear H
       have H := H1
       clear H1
       replace H := oBm H
       obtain ⟨t322, A140, H⟩ := H
       replace H : (if t322 = true then ((impl_inUnits.f a1).bind fun t323 => (if t323 = true then ((impl_inUnits.f a2).bind fun t324 => (if t324 = true then ((impl_placeFloat.f k l0 a1 a2 a3 a4 a5 a6).bind fun bt325 => (some (bt325.1, bt325.2.1, bt325.2.2.1, bt325.2.2.2))) else (some (0, 0, 0, 0)))) else (some (0, 0, 0, 0)))) else (some (0, 0, 0, 0))) = some (r1, r2, r3, r4) := H
       have A14 := aMk A140
       clear A140
       by_cases c15 : t322 = true
       · subst c15
         have H1 : ((impl_inUnits.f a1).bind fun t323 => (if t323 = true then ((impl_inUnits.f a2).bind fun t324 => (if t324 = true then ((impl_placeFloat.f k l0 a1 a2 a3 a4 a5 a6).bind fun bt325 => (some (bt325.1, bt325.2.1, bt325.2.2.1, bt325.2.2.2))) else (some (0, 0, 0, 0)))) else (some (0, 0, 0, 0)))) = some (r1, r2, r3, r4) := by rw [if_pos rfl] at H; exact H
         clear H
         have H := H1
         clear H1
         replace H := oBm H
         obtain ⟨t323, A160, H⟩ := H
         replace H : (if t323 = true then ((impl_inUnits.f a2).bind fun t324 => (if t324 = true then ((impl_placeFloat.f k l0 a1 a2 a3 a4 a5 a6).bind fun bt325 => (some (bt325.1, bt325.2.1, bt325.2.2.1, bt325.2.2.2))) else (some (0, 0, 0, 0)))) else (some (0, 0, 0, 0))) = some (r1, r2, r3, r4) := H
         have A16 := aMk A160
         clear A160
         by_cases c17 : t323 = true
         · subst c17
           have H1 : ((impl_inUnits.f a2).bind fun t324 => (if t324 = true then ((impl_placeFloat.f k l0 a1 a2 a3 a4 a5 a6).bind fun bt325 => (some (bt325.1, bt325.2.1, bt325.2.2.1, bt325.2.2.2))) else (some (0, 0, 0, 0)))) = some (r1, r2, r3, r4) := by rw [if_pos rfl] at H; exact H
           clear H
           have H := H1
           clear H1
           replace H := oBm H
           obtain ⟨t324, A180, H⟩ := H
           replace H : (if t324 = true then ((impl_placeFloat.f k l0 a1 a2 a3 a4 a5 a6).bind fun bt325 => (some (bt325.1, bt325.2.1, bt325.2.2.1, bt325.2.2.2))) else (some (0, 0, 0, 0))) = some (r1, r2, r3, r4) := H
           have A18 := aMk A180
           clear A180
           by_cases c19 : t324 = true
           · subst c19
             have H1 : ((impl_placeFloat.f k l0 a1 a2 a3 a4 a5 a6).bind fun bt325 => (some (bt325.1, bt325.2.1, bt325.2.2.1, bt325.2.2.2))) = some (r1, r2, r3, r4) := by rw [if_pos rfl] at H; exact H
             clear H
             have H := H1
             clear H1
             replace H := oBm H
             obtain ⟨⟨t325, t326, t327, t328⟩, A200, H⟩ := H
             replace H : (some (t325, t326, t327, t328)) = some (r1, r2, r3, r4) := H
             have A20 := aMk A200
             clear A200
             simp only [Option.some.injEq, Prod.mk.injEq] at H
             obtain ⟨rfl, rfl, rfl, rfl⟩ := H
             go_enter Try.func22, Try.ntmps22
             go_wp2_with (first | ((with_reducible refine gate_dst (N := 14) rfl ?_); refine box_event ?hg (N := 14) ?hd (cs := #[.int .i64 0, .int .i64 0, .int .i64 0, .int .i64 0]) (t := 34) ?hr ?_; (case hd => rfl); (case hg => rfl); (case hr => first | (go_simp; done) | (go_simp; rfl)); intro gb318 hg w21 hbox hb; have n0_ := aMk (below_step (by repeat (first | (with_reducible first | exact HB.out | apply bAl | apply bDn | apply bD1) | exact HB.out)) hb); have n1_ := aMk (hbox); have n2_ := aMk ((by rw [hg]; exact (below_size (by repeat (first | (with_reducible first | exact HB.out | apply bAl | apply bDn | apply bD1) | exact HB.out))) : w.heap.size ≤ gb318)); have n3_ := aMk ((by rw [hg]; exact (below_size (by repeat (first | (with_reducible first | exact HB.out | apply bAl | apply bDn | apply bD1) | exact HB.out))) : w.heap.size ≤ gb318)); clear HB; have HB := n0_; have BK318 := n1_; have GW318 := n2_; have GE318 := n3_; clear n0_ n1_ n2_ n3_; clear hb hbox hg) | ((with_reducible refine gate_callee (f := 70) rfl ?_); refine goesL_ (some 16) rfl rfl Try.func70 (by kernel_rfl) rfl #[.slice A0 l0.length c0] rfl (by (try simp only [List.map_toArray, List.map_cons, List.map_nil]); first | done | rfl | (simp only [List.length_drop, List.length_take]; rfl)) ?_; (with_reducible refine (impl_FloatsOk.calls k _ _ l0 true _ ?side1 ?side2 A8.out).mono ?_); (case side1 => repeat (first | exact (Kd.C_below HR0.out HB.out) | (with_reducible refine Kd.C_alloc ?_ _) | (with_reducible refine Kd.C_drewN ?_ _) | (with_reducible refine Kd.C_drew ?_))); (case side2 => exact HC0.out); rintro e w22 ⟨rfl, hb⟩; refine ⟨_, rfl, ?_⟩; have n0_ := aMk (blk_below (g := gb318) (o := .cells #[.int .i64 0, .int .i64 0, .int .i64 0, .int .i64 0] 34 (0, 0)) (by (with_reducible repeat (first | refine bkD ?_ _ | refine blk_drew ?_ | refine bkA ?_ _)); exact BK318.out) hb); have n1_ := aMk (below_step (by repeat (first | (with_reducible first | exact HB.out | apply bAl | apply bDn | apply bD1 | refine bSe ?_ GE318.out) | exact HB.out)) hb); clear BK318; clear HB; have BK318 := n0_; have HB := n1_; clear n0_ n1_; (try clear hb); (try clear hb2); (try clear hk); (try clear hi)) | (go_at_call 71; (with_reducible refine (impl_inUnits.calls a3 true _ A10.out).mono ?_); rintro e w' ⟨rfl, ⟨nd, rfl⟩⟩; (try (rw [drewN_self w22]; generalize hq_ : World.drewN w22 _ = w22; have n0_ : Aside0 (w22.heap[gb318]? = some (.cells #[.int .i64 0, .int .i64 0, .int .i64 0, .int .i64 0] 34 (0, 0))) := ⟨by rw [← hq_]; exact (by (with_reducible repeat (first | refine bkD ?_ _ | refine blk_drew ?_ | refine bkA ?_ _)); exact BK318.out)⟩; have n1_ : Aside0 (Below w.heap.size w w22) := ⟨by rw [← hq_]; exact (by repeat (first | (with_reducible first | exact HB.out | apply bAl | apply bDn | apply bD1 | refine bSe ?_ GE318.out) | exact HB.out))⟩; clear BK318 HB hq_; have BK318 := n0_; have HB := n1_; clear n0_ n1_))) | (go_at_call 72; (with_reducible refine (impl_nonNegative.calls a5 true _ A12.out).mono ?_); rintro e w' ⟨rfl, ⟨nd, rfl⟩⟩; (try (rw [drewN_self w22]; generalize hq_ : World.drewN w22 _ = w22; have n0_ : Aside0 (w22.heap[gb318]? = some (.cells #[.int .i64 0, .int .i64 0, .int .i64 0, .int .i64 0] 34 (0, 0))) := ⟨by rw [← hq_]; exact (by (with_reducible repeat (first | refine bkD ?_ _ | refine blk_drew ?_ | refine bkA ?_ _)); exact BK318.out)⟩; have n1_ : Aside0 (Below w.heap.size w w22) := ⟨by rw [← hq_]; exact (by repeat (first | (with_reducible first | exact HB.out | apply bAl | apply bDn | apply bD1 | refine bSe ?_ GE318.out) | exact HB.out))⟩; clear BK318 HB hq_; have BK318 := n0_; have HB := n1_; clear n0_ n1_))) | (go_at_call 72; (with_reducible refine (impl_nonNegative.calls a4 true _ A14.out).mono ?_); rintro e w' ⟨rfl, ⟨nd, rfl⟩⟩; (try (rw [drewN_self w22]; generalize hq_ : World.drewN w22 _ = w22; have n0_ : Aside0 (w22.heap[gb318]? = some (.cells #[.int .i64 0, .int .i64 0, .int .i64 0, .int .i64 0] 34 (0, 0))) := ⟨by rw [← hq_]; exact (by (with_reducible repeat (first | refine bkD ?_ _ | refine blk_drew ?_ | refine bkA ?_ _)); exact BK318.out)⟩; have n1_ : Aside0 (Below w.heap.size w w22) := ⟨by rw [← hq_]; exact (by repeat (first | (with_reducible first | exact HB.out | apply bAl | apply bDn | apply bD1 | refine bSe ?_ GE318.out) | exact HB.out))⟩; clear BK318 HB hq_; have BK318 := n0_; have HB := n1_; clear n0_ n1_))) | (go_at_call 71; (with_reducible refine (impl_inUnits.calls a1 true _ A16.out).mono ?_); rintro e w' ⟨rfl, ⟨nd, rfl⟩⟩; (try (rw [drewN_self w22]; generalize hq_ : World.drewN w22 _ = w22; have n0_ : Aside0 (w22.heap[gb318]? = some (.cells #[.int .i64 0, .int .i64 0, .int .i64 0, .int .i64 0] 34 (0, 0))) := ⟨by rw [← hq_]; exact (by (with_reducible repeat (first | refine bkD ?_ _ | refine blk_drew ?_ | refine bkA ?_ _)); exact BK318.out)⟩; have n1_ : Aside0 (Below w.heap.size w w22) := ⟨by rw [← hq_]; exact (by repeat (first | (with_reducible first | exact HB.out | apply bAl | apply bDn | apply bD1 | refine bSe ?_ GE318.out) | exact HB.out))⟩; clear BK318 HB hq_; have BK318 := n0_; have HB := n1_; clear n0_ n1_))) | (go_at_call 71; (with_reducible refine (impl_inUnits.calls a2 true _ A18.out).mono ?_); rintro e w' ⟨rfl, ⟨nd, rfl⟩⟩; (try (rw [drewN_self w22]; generalize hq_ : World.drewN w22 _ = w22; have n0_ : Aside0 (w22.heap[gb318]? = some (.cells #[.int .i64 0, .int .i64 0, .int .i64 0, .int .i64 0] 34 (0, 0))) := ⟨by rw [← hq_]; exact (by (with_reducible repeat (first | refine bkD ?_ _ | refine blk_drew ?_ | refine bkA ?_ _)); exact BK318.out)⟩; have n1_ : Aside0 (Below w.heap.size w w22) := ⟨by rw [← hq_]; exact (by repeat (first | (with_reducible first | exact HB.out | apply bAl | apply bDn | apply bD1 | refine bSe ?_ GE318.out) | exact HB.out))⟩; clear BK318 HB hq_; have BK318 := n0_; have HB := n1_; clear n0_ n1_))) | ((with_reducible refine gate_callee (f := 73) rfl ?_); refine goesL_ (some 51) rfl rfl Try.func73 (by kernel_rfl) rfl #[.slice A0 l0.length c0, .int .i64 a1, .int .i64 a2, .int .i64 a3, .int .i64 a4, .int .i64 a5, .bool a6] rfl (by (try simp only [List.map_toArray, List.map_cons, List.map_nil]); first | done | rfl | (simp only [List.length_drop, List.length_take]; rfl)) ?_; (with_reducible refine (impl_placeFloat.calls k _ _ l0 a1 a2 a3 a4 a5 a6 t325 t326 t327 t328 _ ?side1 ?side2 A20.out).mono ?_); (case side1 => repeat (first | exact (Kd.C_below HR0.out HB.out) | (with_reducible refine Kd.C_alloc ?_ _) | (with_reducible refine Kd.C_drewN ?_ _) | (with_reducible refine Kd.C_drew ?_))); (case side2 => exact HC0.out); rintro e w23 ⟨rfl, hb⟩; refine ⟨_, rfl, ?_⟩; have n0_ := aMk (blk_below (g := gb318) (o := .cells #[.int .i64 0, .int .i64 0, .int .i64 0, .int .i64 0] 34 (0, 0)) (by (with_reducible repeat (first | refine bkD ?_ _ | refine blk_drew ?_ | refine bkA ?_ _)); exact BK318.out) hb); have n1_ := aMk (below_step (by repeat (first | (with_reducible first | exact HB.out | apply bAl | apply bDn | apply bD1 | refine bSe ?_ GE318.out) | exact HB.out)) hb); clear BK318; clear HB; have BK318 := n0_; have HB := n1_; clear n0_ n1_; (try clear hb); (try clear hb2); (try clear hk); (try clear hi); have hcz24_0 : w23.cell? ⟨gb318, 0, none⟩ = some (.int .i64 0) := (bCe BK318.out 0).trans rfl; have hcz24_1 : w23.cell? ⟨gb318, 1, none⟩ = some (.int .i64 0) := (bCe BK318.out 1).trans rfl; have hcz24_2 : w23.cell? ⟨gb318, 2, none⟩ = some (.int .i64 0) := (bCe BK318.out 2).trans rfl; have hcz24_3 : w23.cell? ⟨gb318, 3, none⟩ = some (.int .i64 0) := (bCe BK318.out 3).trans rfl; have hfz24_0 := bFr BK318.out 0; have hfz24_1 := bFr BK318.out 1; have hfz24_2 := bFr BK318.out 2; have hfz24_3 := bFr BK318.out 3))
             refine bodyPost_ret (results_cell_row rfl _ _ gb318 34 #[.int .i64 t325, .int .i64 t326, .int .i64 t327, .int .i64 t328] (0, 0) _ rfl (by (with_reducible repeat (first | refine bkD ?_ _ | refine blk_drew ?_ | refine bkA ?_ _)); refine blk_put (cs := #[.int .i64 t325, .int .i64 t326, .int .i64 t327, .int .i64 0]) ?_ 3 _ rfl; (with_reducible repeat (first | refine bkD ?_ _ | refine blk_drew ?_ | refine bkA ?_ _)); refine blk_put (cs := #[.int .i64 t325, .int .i64 t326, .int .i64 0, .int .i64 0]) ?_ 2 _ rfl; (with_reducible repeat (first | refine bkD ?_ _ | refine blk_drew ?_ | refine bkA ?_ _)); refine blk_put (cs := #[.int .i64 t325, .int .i64 0, .int .i64 0, .int .i64 0]) ?_ 1 _ rfl; (with_reducible repeat (first | refine bkD ?_ _ | refine blk_drew ?_ | refine bkA ?_ _)); refine blk_put (cs := #[.int .i64 0, .int .i64 0, .int .i64 0, .int .i64 0]) ?_ 0 _ rfl; (with_reducible repeat (first | refine bkD ?_ _ | refine blk_drew ?_ | refine bkA ?_ _)); exact BK318.out) Try.underlying34 rfl (by kernel_rfl)) rfl ?_
             exact ⟨by first | rfl | (simp [errW_none, errW_some] <;> rfl) | (simp [*, errW_none, errW_some] <;> rfl), by repeat (first | (with_reducible first | exact HB.out | apply bAl | apply bDn | apply bD1 | refine bSe ?_ GE318.out) | exact HB.out)⟩
           · replace c19 := Bool.eq_false_iff.mpr c19
             subst c19
             have H1 : (some (0, 0, 0, 0)) = some (r1, r2, r3, r4) := by rw [if_neg (show ¬ (false = true) by decide)] at H; exact H
             clear H
             have H := H1
             clear H1
             simp only [Option.some.injEq, Prod.mk.injEq] at H
             obtain ⟨rfl, rfl, rfl, rfl⟩ := H
             go_enter Try.func22, Try.ntmps22
             go_wp2_with (first | ((with_reducible refine gate_dst (N := 14) rfl ?_); refine box_event ?hg (N := 14) ?hd (cs := #[.int .i64 0, .int .i64 0, .int .i64 0, .int .i64 0]) (t := 34) ?hr ?_; (case hd => rfl); (case hg => rfl); (case hr => first | (go_simp; done) | (go_simp; rfl)); intro gb318 hg w25 hbox hb; have n0_ := aMk (below_step (by repeat (first | (with_reducible first | exact HB.out | apply bAl | apply bDn | apply bD1) | exact HB.out)) hb); have n1_ := aMk (hbox); have n2_ := aMk ((by rw [hg]; exact (below_size (by repeat (first | (with_reducible first | exact HB.out | apply bAl | apply bDn | apply bD1) | exact HB.out))) : w.heap.size ≤ gb318)); have n3_ := aMk ((by rw [hg]; exact (below_size (by repeat (first | (with_reducible first | exact HB.out | apply bAl | apply bDn | apply bD1) | exact HB.out))) : w.heap.size ≤ gb318)); clear HB; have HB := n0_; have BK318 := n1_; have GW318 := n2_; have GE318 := n3_; clear n0_ n1_ n2_ n3_; clear hb hbox hg) | ((with_reducible refine gate_callee (f := 70) rfl ?_); refine goesL_ (some 16) rfl rfl Try.func70 (by kernel_rfl) rfl #[.slice A0 l0.length c0] rfl (by (try simp only [List.map_toArray, List.map_cons, List.map_nil]); first | done | rfl | (simp only [List.length_drop, List.length_take]; rfl)) ?_; (with_reducible refine (impl_FloatsOk.calls k _ _ l0 true _ ?side1 ?side2 A8.out).mono ?_); (case side1 => repeat (first | exact (Kd.C_below HR0.out HB.out) | (with_reducible refine Kd.C_alloc ?_ _) | (with_reducible refine Kd.C_drewN ?_ _) | (with_reducible refine Kd.C_drew ?_))); (case side2 => exact HC0.out); rintro e w26 ⟨rfl, hb⟩; refine ⟨_, rfl, ?_⟩; have n0_ := aMk (blk_below (g := gb318) (o := .cells #[.int .i64 0, .int .i64 0, .int .i64 0, .int .i64 0] 34 (0, 0)) (by (with_reducible repeat (first | refine bkD ?_ _ | refine blk_drew ?_ | refine bkA ?_ _)); exact BK318.out) hb); have n1_ := aMk (below_step (by repeat (first | (with_reducible first | exact HB.out | apply bAl | apply bDn | apply bD1 | refine bSe ?_ GE318.out) | exact HB.out)) hb); clear BK318; clear HB; have BK318 := n0_; have HB := n1_; clear n0_ n1_; (try clear hb); (try clear hb2); (try clear hk); (try clear hi)) | (go_at_call 71; (with_reducible refine (impl_inUnits.calls a3 true _ A10.out).mono ?_); rintro e w' ⟨rfl, ⟨nd, rfl⟩⟩; (try (rw [drewN_self w26]; generalize hq_ : World.drewN w26 _ = w26; have n0_ : Aside0 (w26.heap[gb318]? = some (.cells #[.int .i64 0, .int .i64 0, .int .i64 0, .int .i64 0] 34 (0, 0))) := ⟨by rw [← hq_]; exact (by (with_reducible repeat (first | refine bkD ?_ _ | refine blk_drew ?_ | refine bkA ?_ _)); exact BK318.out)⟩; have n1_ : Aside0 (Below w.heap.size w w26) := ⟨by rw [← hq_]; exact (by repeat (first | (with_reducible first | exact HB.out | apply bAl | apply bDn | apply bD1 | refine bSe ?_ GE318.out) | exact HB.out))⟩; clear BK318 HB hq_; have BK318 := n0_; have HB := n1_; clear n0_ n1_))) | (go_at_call 72; (with_reducible refine (impl_nonNegative.calls a5 true _ A12.out).mono ?_); rintro e w' ⟨rfl, ⟨nd, rfl⟩⟩; (try (rw [drewN_self w26]; generalize hq_ : World.drewN w26 _ = w26; have n0_ : Aside0 (w26.heap[gb318]? = some (.cells #[.int .i64 0, .int .i64 0, .int .i64 0, .int .i64 0] 34 (0, 0))) := ⟨by rw [← hq_]; exact (by (with_reducible repeat (first | refine bkD ?_ _ | refine blk_drew ?_ | refine bkA ?_ _)); exact BK318.out)⟩; have n1_ : Aside0 (Below w.heap.size w w26) := ⟨by rw [← hq_]; exact (by repeat (first | (with_reducible first | exact HB.out | apply bAl | apply bDn | apply bD1 | refine bSe ?_ GE318.out) | exact HB.out))⟩; clear BK318 HB hq_; have BK318 := n0_; have HB := n1_; clear n0_ n1_))) | (go_at_call 72; (with_reducible refine (impl_nonNegative.calls a4 true _ A14.out).mono ?_); rintro e w' ⟨rfl, ⟨nd, rfl⟩⟩; (try (rw [drewN_self w26]; generalize hq_ : World.drewN w26 _ = w26; have n0_ : Aside0 (w26.heap[gb318]? = some (.cells #[.int .i64 0, .int .i64 0, .int .i64 0, .int .i64 0] 34 (0, 0))) := ⟨by rw [← hq_]; exact (by (with_reducible repeat (first | refine bkD ?_ _ | refine blk_drew ?_ | refine bkA ?_ _)); exact BK318.out)⟩; have n1_ : Aside0 (Below w.heap.size w w26) := ⟨by rw [← hq_]; exact (by repeat (first | (with_reducible first | exact HB.out | apply bAl | apply bDn | apply bD1 | refine bSe ?_ GE318.out) | exact HB.out))⟩; clear BK318 HB hq_; have BK318 := n0_; have HB := n1_; clear n0_ n1_))) | (go_at_call 71; (with_reducible refine (impl_inUnits.calls a1 true _ A16.out).mono ?_); rintro e w' ⟨rfl, ⟨nd, rfl⟩⟩; (try (rw [drewN_self w26]; generalize hq_ : World.drewN w26 _ = w26; have n0_ : Aside0 (w26.heap[gb318]? = some (.cells #[.int .i64 0, .int .i64 0, .int .i64 0, .int .i64 0] 34 (0, 0))) := ⟨by rw [← hq_]; exact (by (with_reducible repeat (first | refine bkD ?_ _ | refine blk_drew ?_ | refine bkA ?_ _)); exact BK318.out)⟩; have n1_ : Aside0 (Below w.heap.size w w26) := ⟨by rw [← hq_]; exact (by repeat (first | (with_reducible first | exact HB.out | apply bAl | apply bDn | apply bD1 | refine bSe ?_ GE318.out) | exact HB.out))⟩; clear BK318 HB hq_; have BK318 := n0_; have HB := n1_; clear n0_ n1_))) | (go_at_call 71; (with_reducible refine (impl_inUnits.calls a2 false _ A18.out).mono ?_); rintro e w' ⟨rfl, ⟨nd, rfl⟩⟩; (try (rw [drewN_self w26]; generalize hq_ : World.drewN w26 _ = w26; have n0_ : Aside0 (w26.heap[gb318]? = some (.cells #[.int .i64 0, .int .i64 0, .int .i64 0, .int .i64 0] 34 (0, 0))) := ⟨by rw [← hq_]; exact (by (with_reducible repeat (first | refine bkD ?_ _ | refine blk_drew ?_ | refine bkA ?_ _)); exact BK318.out)⟩; have n1_ : Aside0 (Below w.heap.size w w26) := ⟨by rw [← hq_]; exact (by repeat (first | (with_reducible first | exact HB.out | apply bAl | apply bDn | apply bD1 | refine bSe ?_ GE318.out) | exact HB.out))⟩; clear BK318 HB hq_; have BK318 := n0_; have HB := n1_; clear n0_ n1_)); have hcz27_0 : w26.cell? ⟨gb318, 0, none⟩ = some (.int .i64 0) := (bCe BK318.out 0).trans rfl; have hcz27_1 : w26.cell? ⟨gb318, 1, none⟩ = some (.int .i64 0) := (bCe BK318.out 1).trans rfl; have hcz27_2 : w26.cell? ⟨gb318, 2, none⟩ = some (.int .i64 0) := (bCe BK318.out 2).trans rfl; have hcz27_3 : w26.cell? ⟨gb318, 3, none⟩ = some (.int .i64 0) := (bCe BK318.out 3).trans rfl; have hfz27_0 := bFr BK318.out 0; have hfz27_1 := bFr BK318.out 1; have hfz27_2 := bFr BK318.out 2; have hfz27_3 := bFr BK318.out 3))
             refine bodyPost_ret (results_cell_row rfl _ _ gb318 34 #[.int .i64 0, .int .i64 0, .int .i64 0, .int .i64 0] (0, 0) _ rfl (by (with_reducible repeat (first | refine bkD ?_ _ | refine blk_drew ?_ | refine bkA ?_ _)); refine blk_put (cs := #[.int .i64 0, .int .i64 0, .int .i64 0, .int .i64 0]) ?_ 3 _ rfl; (with_reducible repeat (first | refine bkD ?_ _ | refine blk_drew ?_ | refine bkA ?_ _)); refine blk_put (cs := #[.int .i64 0, .int .i64 0, .int .i64 0, .int .i64 0]) ?_ 2 _ rfl; (with_reducible repeat (first | refine bkD ?_ _ | refine blk_drew ?_ | refine bkA ?_ _)); refine blk_put (cs := #[.int .i64 0, .int .i64 0, .int .i64 0, .int .i64 0]) ?_ 1 _ rfl; (with_reducible repeat (first | refine bkD ?_ _ | refine blk_drew ?_ | refine bkA ?_ _)); refine blk_put (cs := #[.int .i64 0, .int .i64 0, .int .i64 0, .int .i64 0]) ?_ 0 _ rfl; (with_reducible repeat (first | refine bkD ?_ _ | refine blk_drew ?_ | refine bkA ?_ _)); exact BK318.out) Try.underlying34 rfl (by kernel_rfl)) rfl ?_
             exact ⟨by first | rfl | (simp [errW_none, errW_some] <;> rfl) | (simp [*, errW_none, errW_some] <;> rfl), by repeat (first | (with_reducible first | exact HB.out | apply bAl | apply bDn | apply bD1 | refine bSe ?_ GE318.out) | exact HB.out)⟩
         · replace c17 := Bool.eq_false_iff.mpr c17
           subst c17
           have H1 : (some (0, 0, 0, 0)) = some (r1, r2, r3, r4) := by rw [if_neg (show ¬ (false = true) by decide)] at H; exact H
           clear H
           have H := H1
           clear H1
           simp only [Option.some.injEq, Prod.mk.injEq] at H
           obtain ⟨rfl, rfl, rfl, rfl⟩ := H
           go_enter Try.func22, Try.ntmps22
           go_wp2_with (first | ((with_reducible refine gate_dst (N := 14) rfl ?_); refine box_event ?hg (N := 14) ?hd (cs := #[.int .i64 0, .int .i64 0, .int .i64 0, .int .i64 0]) (t := 34) ?hr ?_; (case hd => rfl); (case hg => rfl); (case hr => first | (go_simp; done) | (go_simp; rfl)); intro gb318 hg w28 hbox hb; have n0_ := aMk (below_step (by repeat (first | (with_reducible first | exact HB.out | apply bAl | apply bDn | apply bD1) | exact HB.out)) hb); have n1_ := aMk (hbox); have n2_ := aMk ((by rw [hg]; exact (below_size (by repeat (first | (with_reducible first | exact HB.out | apply bAl | apply bDn | apply bD1) | exact HB.out))) : w.heap.size ≤ gb318)); have n3_ := aMk ((by rw [hg]; exact (below_size (by repeat (first | (with_reducible first | exact HB.out | apply bAl | apply bDn | apply bD1) | exact HB.out))) : w.heap.size ≤ gb318)); clear HB; have HB := n0_; have BK318 := n1_; have GW318 := n2_; have GE318 := n3_; clear n0_ n1_ n2_ n3_; clear hb hbox hg) | ((with_reducible refine gate_callee (f := 70) rfl ?_); refine goesL_ (some 16) rfl rfl Try.func70 (by kernel_rfl) rfl #[.slice A0 l0.length c0] rfl (by (try simp only [List.map_toArray, List.map_cons, List.map_nil]); first | done | rfl | (simp only [List.length_drop, List.length_take]; rfl)) ?_; (with_reducible refine (impl_FloatsOk.calls k _ _ l0 true _ ?side1 ?side2 A8.out).mono ?_); (case side1 => repeat (first | exact (Kd.C_below HR0.out HB.out) | (with_reducible refine Kd.C_alloc ?_ _) | (with_reducible refine Kd.C_drewN ?_ _) | (with_reducible refine Kd.C_drew ?_))); (case side2 => exact HC0.out); rintro e w29 ⟨rfl, hb⟩; refine ⟨_, rfl, ?_⟩; have n0_ := aMk (blk_below (g := gb318) (o := .cells #[.int .i64 0, .int .i64 0, .int .i64 0, .int .i64 0] 34 (0, 0)) (by (with_reducible repeat (first | refine bkD ?_ _ | refine blk_drew ?_ | refine bkA ?_ _)); exact BK318.out) hb); have n1_ := aMk (below_step (by repeat (first | (with_reducible first | exact HB.out | apply bAl | apply bDn | apply bD1 | refine bSe ?_ GE318.out) | exact HB.out)) hb); clear BK318; clear HB; have BK318 := n0_; have HB := n1_; clear n0_ n1_; (try clear hb); (try clear hb2); (try clear hk); (try clear hi)) | (go_at_call 71; (with_reducible refine (impl_inUnits.calls a3 true _ A10.out).mono ?_); rintro e w' ⟨rfl, ⟨nd, rfl⟩⟩; (try (rw [drewN_self w29]; generalize hq_ : World.drewN w29 _ = w29; have n0_ : Aside0 (w29.heap[gb318]? = some (.cells #[.int .i64 0, .int .i64 0, .int .i64 0, .int .i64 0] 34 (0, 0))) := ⟨by rw [← hq_]; exact (by (with_reducible repeat (first | refine bkD ?_ _ | refine blk_drew ?_ | refine bkA ?_ _)); exact BK318.out)⟩; have n1_ : Aside0 (Below w.heap.size w w29) := ⟨by rw [← hq_]; exact (by repeat (first | (with_reducible first | exact HB.out | apply bAl | apply bDn | apply bD1 | refine bSe ?_ GE318.out) | exact HB.out))⟩; clear BK318 HB hq_; have BK318 := n0_; have HB := n1_; clear n0_ n1_))) | (go_at_call 72; (with_reducible refine (impl_nonNegative.calls a5 true _ A12.out).mono ?_); rintro e w' ⟨rfl, ⟨nd, rfl⟩⟩; (try (rw [drewN_self w29]; generalize hq_ : World.drewN w29 _ = w29; have n0_ : Aside0 (w29.heap[gb318]? = some (.cells #[.int .i64 0, .int .i64 0, .int .i64 0, .int .i64 0] 34 (0, 0))) := ⟨by rw [← hq_]; exact (by (with_reducible repeat (first | refine bkD ?_ _ | refine blk_drew ?_ | refine bkA ?_ _)); exact BK318.out)⟩; have n1_ : Aside0 (Below w.heap.size w w29) := ⟨by rw [← hq_]; exact (by repeat (first | (with_reducible first | exact HB.out | apply bAl | apply bDn | apply bD1 | refine bSe ?_ GE318.out) | exact HB.out))⟩; clear BK318 HB hq_; have BK318 := n0_; have HB := n1_; clear n0_ n1_))) | (go_at_call 72; (with_reducible refine (impl_nonNegative.calls a4 true _ A14.out).mono ?_); rintro e w' ⟨rfl, ⟨nd, rfl⟩⟩; (try (rw [drewN_self w29]; generalize hq_ : World.drewN w29 _ = w29; have n0_ : Aside0 (w29.heap[gb318]? = some (.cells #[.int .i64 0, .int .i64 0, .int .i64 0, .int .i64 0] 34 (0, 0))) := ⟨by rw [← hq_]; exact (by (with_reducible repeat (first | refine bkD ?_ _ | refine blk_drew ?_ | refine bkA ?_ _)); exact BK318.out)⟩; have n1_ : Aside0 (Below w.heap.size w w29) := ⟨by rw [← hq_]; exact (by repeat (first | (with_reducible first | exact HB.out | apply bAl | apply bDn | apply bD1 | refine bSe ?_ GE318.out) | exact HB.out))⟩; clear BK318 HB hq_; have BK318 := n0_; have HB := n1_; clear n0_ n1_))) | (go_at_call 71; (with_reducible refine (impl_inUnits.calls a1 false _ A16.out).mono ?_); rintro e w' ⟨rfl, ⟨nd, rfl⟩⟩; (try (rw [drewN_self w29]; generalize hq_ : World.drewN w29 _ = w29; have n0_ : Aside0 (w29.heap[gb318]? = some (.cells #[.int .i64 0, .int .i64 0, .int .i64 0, .int .i64 0] 34 (0, 0))) := ⟨by rw [← hq_]; exact (by (with_reducible repeat (first | refine bkD ?_ _ | refine blk_drew ?_ | refine bkA ?_ _)); exact BK318.out)⟩; have n1_ : Aside0 (Below w.heap.size w w29) := ⟨by rw [← hq_]; exact (by repeat (first | (with_reducible first | exact HB.out | apply bAl | apply bDn | apply bD1 | refine bSe ?_ GE318.out) | exact HB.out))⟩; clear BK318 HB hq_; have BK318 := n0_; have HB := n1_; clear n0_ n1_)); have hcz30_0 : w29.cell? ⟨gb318, 0, none⟩ = some (.int .i64 0) := (bCe BK318.out 0).trans rfl; have hcz30_1 : w29.cell? ⟨gb318, 1, none⟩ = some (.int .i64 0) := (bCe BK318.out 1).trans rfl; have hcz30_2 : w29.cell? ⟨gb318, 2, none⟩ = some (.int .i64 0) := (bCe BK318.out 2).trans rfl; have hcz30_3 : w29.cell? ⟨gb318, 3, none⟩ = some (.int .i64 0) := (bCe BK318.out 3).trans rfl; have hfz30_0 := bFr BK318.out 0; have hfz30_1 := bFr BK318.out 1; have hfz30_2 := bFr BK318.out 2; have hfz30_3 := bFr BK318.out 3))
           refine bodyPost_ret (results_cell_row rfl _ _ gb318 34 #[.int .i64 0, .int .i64 0, .int .i64 0, .int .i64 0] (0, 0) _ rfl (by (with_reducible repeat (first | refine bkD ?_ _ | refine blk_drew ?_ | refine bkA ?_ _)); refine blk_put (cs := #[.int .i64 0, .int .i64 0, .int .i64 0, .int .i64 0]) ?_ 3 _ rfl; (with_reducible repeat (first | refine bkD ?_ _ | refine blk_drew ?_ | refine bkA ?_ _)); refine blk_put (cs := #[.int .i64 0, .int .i64 0, .int .i64 0, .int .i64 0]) ?_ 2 _ rfl; (with_reducible repeat (first | refine bkD ?_ _ | refine blk_drew ?_ | refine bkA ?_ _)); refine blk_put (cs := #[.int .i64 0, .int .i64 0, .int .i64 0, .int .i64 0]) ?_ 1 _ rfl; (with_reducible repeat (first | refine bkD ?_ _ | refine blk_drew ?_ | refine bkA ?_ _)); refine blk_put (cs := #[.int .i64 0, .int .i64 0, .int .i64 0, .int .i64 0]) ?_ 0 _ rfl; (with_reducible repeat (first | refine bkD ?_ _ | refine blk_drew ?_ | refine bkA ?_ _)); exact BK318.out) Try.underlying34 rfl (by kernel_rfl)) rfl ?_
           exact ⟨by first | rfl | (simp [errW_none, errW_some] <;> rfl) | (simp [*, errW_none, errW_some] <;> rfl), by repeat (first | (with_reducible first | exact HB.out | apply bAl | apply bDn | apply bD1 | refine bSe ?_ GE318.out) | exact HB.out)⟩
       · replace c15 := Bool.eq_false_iff.mpr c15
         subst c15
         have H1 : (some (0, 0, 0, 0)) = some (r1, r2, r3, r4) := by rw [if_neg (show ¬ (false = true) by decide)] at H; exact H
         clear H
         have H := H1
         clear H1
         simp only [Option.some.injEq, Prod.mk.injEq] at H
         obtain ⟨rfl, rfl, rfl, rfl⟩ := H
         go_enter Try.func22, Try.ntmps22
         go_wp2_with (first | ((with_reducible refine gate_dst (N := 14) rfl ?_); refine box_event ?hg (N := 14) ?hd (cs := #[.int .i64 0, .int .i64 0, .int .i64 0, .int .i64 0]) (t := 34) ?hr ?_; (case hd => rfl); (case hg => rfl); (case hr => first | (go_simp; done) | (go_simp; rfl)); intro gb318 hg w31 hbox hb; have n0_ := aMk (below_step (by repeat (first | (with_reducible first | exact HB.out | apply bAl | apply bDn | apply bD1) | exact HB.out)) hb); have n1_ := aMk (hbox); have n2_ := aMk ((by rw [hg]; exact (below_size (by repeat (first | (with_reducible first | exact HB.out | apply bAl | apply bDn | apply bD1) | exact HB.out))) : w.heap.size ≤ gb318)); have n3_ := aMk ((by rw [hg]; exact (below_size (by repeat (first | (with_reducible first | exact HB.out | apply bAl | apply bDn | apply bD1) | exact HB.out))) : w.heap.size ≤ gb318)); clear HB; have HB := n0_; have BK318 := n1_; have GW318 := n2_; have GE318 := n3_; clear n0_ n1_ n2_ n3_; clear hb hbox hg) | ((with_reducible refine gate_callee (f := 70) rfl ?_); refine goesL_ (some 16) rfl rfl Try.func70 (by kernel_rfl) rfl #[.slice A0 l0.length c0] rfl (by (try simp only [List.map_toArray, List.map_cons, List.map_nil]); first | done | rfl | (simp only [List.length_drop, List.length_take]; rfl)) ?_; (with_reducible refine (impl_FloatsOk.calls k _ _ l0 true _ ?side1 ?side2 A8.out).mono ?_); (case side1 => repeat (first | exact (Kd.C_below HR0.out HB.out) | (with_reducible refine Kd.C_alloc ?_ _) | (with_reducible refine Kd.C_drewN ?_ _) | (with_reducible refine Kd.C_drew ?_))); (case side2 => exact HC0.out); rintro e w32 ⟨rfl, hb⟩; refine ⟨_, rfl, ?_⟩; have n0_ := aMk (blk_below (g := gb318) (o := .cells #[.int .i64 0, .int .i64 0, .int .i64 0, .int .i64 0] 34 (0, 0)) (by (with_reducible repeat (first | refine bkD ?_ _ | refine blk_drew ?_ | refine bkA ?_ _)); exact BK318.out) hb); have n1_ := aMk (below_step (by repeat (first | (with_reducible first | exact HB.out | apply bAl | apply bDn | apply bD1 | refine bSe ?_ GE318.out) | exact HB.out)) hb); clear BK318; clear HB; have BK318 := n0_; have HB := n1_; clear n0_ n1_; (try clear hb); (try clear hb2); (try clear hk); (try clear hi)) | (go_at_call 71; (with_reducible refine (impl_inUnits.calls a3 true _ A10.out).mono ?_); rintro e w' ⟨rfl, ⟨nd, rfl⟩⟩; (try (rw [drewN_self w32]; generalize hq_ : World.drewN w32 _ = w32; have n0_ : Aside0 (w32.heap[gb318]? = some (.cells #[.int .i64 0, .int .i64 0, .int .i64 0, .int .i64 0] 34 (0, 0))) := ⟨by rw [← hq_]; exact (by (with_reducible repeat (first | refine bkD ?_ _ | refine blk_drew ?_ | refine bkA ?_ _)); exact BK318.out)⟩; have n1_ : Aside0 (Below w.heap.size w w32) := ⟨by rw [← hq_]; exact (by repeat (first | (with_reducible first | exact HB.out | apply bAl | apply bDn | apply bD1 | refine bSe ?_ GE318.out) | exact HB.out))⟩; clear BK318 HB hq_; have BK318 := n0_; have HB := n1_; clear n0_ n1_))) | (go_at_call 72; (with_reducible refine (impl_nonNegative.calls a5 true _ A12.out).mono ?_); rintro e w' ⟨rfl, ⟨nd, rfl⟩⟩; (try (rw [drewN_self w32]; generalize hq_ : World.drewN w32 _ = w32; have n0_ : Aside0 (w32.heap[gb318]? = some (.cells #[.int .i64 0, .int .i64 0, .int .i64 0, .int .i64 0] 34 (0, 0))) := ⟨by rw [← hq_]; exact (by (with_reducible repeat (first | refine bkD ?_ _ | refine blk_drew ?_ | refine bkA ?_ _)); exact BK318.out)⟩; have n1_ : Aside0 (Below w.heap.size w w32) := ⟨by rw [← hq_]; exact (by repeat (first | (with_reducible first | exact HB.out | apply bAl | apply bDn | apply bD1 | refine bSe ?_ GE318.out) | exact HB.out))⟩; clear BK318 HB hq_; have BK318 := n0_; have HB := n1_; clear n0_ n1_))) | (go_at_call 72; (with_reducible refine (impl_nonNegative.calls a4 false _ A14.out).mono ?_); rintro e w' ⟨rfl, ⟨nd, rfl⟩⟩; (try (rw [drewN_self w32]; generalize hq_ : World.drewN w32 _ = w32; have n0_ : Aside0 (w32.heap[gb318]? = some (.cells #[.int .i64 0, .int .i64 0, .int .i64 0, .int .i64 0] 34 (0, 0))) := ⟨by rw [← hq_]; exact (by (with_reducible repeat (first | refine bkD ?_ _ | refine blk_drew ?_ | refine bkA ?_ _)); exact BK318.out)⟩; have n1_ : Aside0 (Below w.heap.size w w32) := ⟨by rw [← hq_]; exact (by repeat (first | (with_reducible first | exact HB.out | apply bAl | apply bDn | apply bD1 | refine bSe ?_ GE318.out) | exact HB.out))⟩; clear BK318 HB hq_; have BK318 := n0_; have HB := n1_; clear n0_ n1_)); have hcz33_0 : w32.cell? ⟨gb318, 0, none⟩ = some (.int .i64 0) := (bCe BK318.out 0).trans rfl; have hcz33_1 : w32.cell? ⟨gb318, 1, none⟩ = some (.int .i64 0) := (bCe BK318.out 1).trans rfl; have hcz33_2 : w32.cell? ⟨gb318, 2, none⟩ = some (.int .i64 0) := (bCe BK318.out 2).trans rfl; have hcz33_3 : w32.cell? ⟨gb318, 3, none⟩ = some (.int .i64 0) := (bCe BK318.out 3).trans rfl; have hfz33_0 := bFr BK318.out 0; have hfz33_1 := bFr BK318.out 1; have hfz33_2 := bFr BK318.out 2; have hfz33_3 := bFr BK318.out 3))
         refine bodyPost_ret (results_cell_row rfl _ _ gb318 34 #[.int .i64 0, .int .i64 0, .int .i64 0, .int .i64 0] (0, 0) _ rfl (by (with_reducible repeat (first | refine bkD ?_ _ | refine blk_drew ?_ | refine bkA ?_ _)); refine blk_put (cs := #[.int .i64 0, .int .i64 0, .int .i64 0, .int .i64 0]) ?_ 3 _ rfl; (with_reducible repeat (first | refine bkD ?_ _ | refine blk_drew ?_ | refine bkA ?_ _)); refine blk_put (cs := #[.int .i64 0, .int .i64 0, .int .i64 0, .int .i64 0]) ?_ 2 _ rfl; (with_reducible repeat (first | refine bkD ?_ _ | refine blk_drew ?_ | refine bkA ?_ _)); refine blk_put (cs := #[.int .i64 0, .int .i64 0, .int .i64 0, .int .i64 0]) ?_ 1 _ rfl; (with_reducible repeat (first | refine bkD ?_ _ | refine blk_drew ?_ | refine bkA ?_ _)); refine blk_put (cs := #[.int .i64 0, .int .i64 0, .int .i64 0, .int .i64 0]) ?_ 0 _ rfl; (with_reducible repeat (first | refine bkD ?_ _ | refine blk_drew ?_ | refine bkA ?_ _)); exact BK318.out) Try.underlying34 rfl (by kernel_rfl)) rfl ?_
         exact ⟨by first | rfl | (simp [errW_none, errW_some] <;> rfl) | (simp [*, errW_none, errW_some] <;> rfl), by repeat (first | (with_reducible first | exact HB.out | apply bAl | apply bDn | apply bD1 | refine bSe ?_ GE318.out) | exact HB.out)⟩
     · replace c13 := Bool.eq_false_iff.mpr c13
       subst c13
       have H1 : (some (0, 0, 0, 0)) = some (r1, r2, r3, r4) := by rw [if_neg (show ¬ (false = true) by decide)] at H; exact H
       clear H
       have H := H1
       clear H1
       simp only [Option.some.injEq, Prod.mk.injEq] at H
       obtain ⟨rfl, rfl, rfl, rfl⟩ := H
       go_enter Try.func22, Try.ntmps22
       go_wp2_with (first | ((with_reducible refine gate_dst (N := 14) rfl ?_); refine box_event ?hg (N := 14) ?hd (cs := #[.int .i64 0, .int .i64 0, .int .i64 0, .int .i64 0]) (t := 34) ?hr ?_; (case hd => rfl); (case hg => rfl); (case hr => first | (go_simp; done) | (go_simp; rfl)); intro gb318 hg w34 hbox hb; have n0_ := aMk (below_step (by repeat (first | (with_reducible first | exact HB.out | apply bAl | apply bDn | apply bD1) | exact HB.out)) hb); have n1_ := aMk (hbox); have n2_ := aMk ((by rw [hg]; exact (below_size (by repeat (first | (with_reducible first | exact HB.out | apply bAl | apply bDn | apply bD1) | exact HB.out))) : w.heap.size ≤ gb318)); have n3_ := aMk ((by rw [hg]; exact (below_size (by repeat (first | (with_reducible first | exact HB.out | apply bAl | apply bDn | apply bD1) | exact HB.out))) : w.heap.size ≤ gb318)); clear HB; have HB := n0_; have BK318 := n1_; have GW318 := n2_; have GE318 := n3_; clear n0_ n1_ n2_ n3_; clear hb hbox hg) | ((with_reducible refine gate_callee (f := 70) rfl ?_); refine goesL_ (some 16) rfl rfl Try.func70 (by kernel_rfl) rfl #[.slice A0 l0.length c0] rfl (by (try simp only [List.map_toArray, List.map_cons, List.map_nil]); first | done | rfl | (simp only [List.length_drop, List.length_take]; rfl)) ?_; (with_reducible refine (impl_FloatsOk.calls k _ _ l0 true _ ?side1 ?side2 A8.out).mono ?_); (case side1 => repeat (first | exact (Kd.C_below HR0.out HB.out) | (with_reducible refine Kd.C_alloc ?_ _) | (with_reducible refine Kd.C_drewN ?_ _) | (with_reducible refine Kd.C_drew ?_))); (case side2 => exact HC0.out); rintro e w35 ⟨rfl, hb⟩; refine ⟨_, rfl, ?_⟩; have n0_ := aMk (blk_below (g := gb318) (o := .cells #[.int .i64 0, .int .i64 0, .int .i64 0, .int .i64 0] 34 (0, 0)) (by (with_reducible repeat (first | refine bkD ?_ _ | refine blk_drew ?_ | refine bkA ?_ _)); exact BK318.out) hb); have n1_ := aMk (below_step (by repeat (first | (with_reducible first | exact HB.out | apply bAl | apply bDn | apply bD1 | refine bSe ?_ GE318.out) | exact HB.out)) hb); clear BK318; clear HB; have BK318 := n0_; have HB := n1_; clear n0_ n1_; (try clear hb); (try clear hb2); (try clear hk); (try clear hi)) | (go_at_call 71; (with_reducible refine (impl_inUnits.calls a3 true _ A10.out).mono ?_); rintro e w' ⟨rfl, ⟨nd, rfl⟩⟩; (try (rw [drewN_self w35]; generalize hq_ : World.drewN w35 _ = w35; have n0_ : Aside0 (w35.heap[gb318]? = some (.cells #[.int .i64 0, .int .i64 0, .int .i64 0, .int .i64 0] 34 (0, 0))) := ⟨by rw [← hq_]; exact (by (with_reducible repeat (first | refine bkD ?_ _ | refine blk_drew ?_ | refine bkA ?_ _)); exact BK318.out)⟩; have n1_ : Aside0 (Below w.heap.size w w35) := ⟨by rw [← hq_]; exact (by repeat (first | (with_reducible first | exact HB.out | apply bAl | apply bDn | apply bD1 | refine bSe ?_ GE318.out) | exact HB.out))⟩; clear BK318 HB hq_; have BK318 := n0_; have HB := n1_; clear n0_ n1_))) | (go_at_call 72; (with_reducible refine (impl_nonNegative.calls a5 false _ A12.out).mono ?_); rintro e w' ⟨rfl, ⟨nd, rfl⟩⟩; (try (rw [drewN_self w35]; generalize hq_ : World.drewN w35 _ = w35; have n0_ : Aside0 (w35.heap[gb318]? = some (.cells #[.int .i64 0, .int .i64 0, .int .i64 0, .int .i64 0] 34 (0, 0))) := ⟨by rw [← hq_]; exact (by (with_reducible repeat (first | refine bkD ?_ _ | refine blk_drew ?_ | refine bkA ?_ _)); exact BK318.out)⟩; have n1_ : Aside0 (Below w.heap.size w w35) := ⟨by rw [← hq_]; exact (by repeat (first | (with_reducible first | exact HB.out | apply bAl | apply bDn | apply bD1 | refine bSe ?_ GE318.out) | exact HB.out))⟩; clear BK318 HB hq_; have BK318 := n0_; have HB := n1_; clear n0_ n1_)); have hcz36_0 : w35.cell? ⟨gb318, 0, none⟩ = some (.int .i64 0) := (bCe BK318.out 0).trans rfl; have hcz36_1 : w35.cell? ⟨gb318, 1, none⟩ = some (.int .i64 0) := (bCe BK318.out 1).trans rfl; have hcz36_2 : w35.cell? ⟨gb318, 2, none⟩ = some (.int .i64 0) := (bCe BK318.out 2).trans rfl; have hcz36_3 : w35.cell? ⟨gb318, 3, none⟩ = some (.int .i64 0) := (bCe BK318.out 3).trans rfl; have hfz36_0 := bFr BK318.out 0; have hfz36_1 := bFr BK318.out 1; have hfz36_2 := bFr BK318.out 2; have hfz36_3 := bFr BK318.out 3))
       refine bodyPost_ret (results_cell_row rfl _ _ gb318 34 #[.int .i64 0, .int .i64 0, .int .i64 0, .int .i64 0] (0, 0) _ rfl (by (with_reducible repeat (first | refine bkD ?_ _ | refine blk_drew ?_ | refine bkA ?_ _)); refine blk_put (cs := #[.int .i64 0, .int .i64 0, .int .i64 0, .int .i64 0]) ?_ 3 _ rfl; (with_reducible repeat (first | refine bkD ?_ _ | refine blk_drew ?_ | refine bkA ?_ _)); refine blk_put (cs := #[.int .i64 0, .int .i64 0, .int .i64 0, .int .i64 0]) ?_ 2 _ rfl; (with_reducible repeat (first | refine bkD ?_ _ | refine blk_drew ?_ | refine bkA ?_ _)); refine blk_put (cs := #[.int .i64 0, .int .i64 0, .int .i64 0, .int .i64 0]) ?_ 1 _ rfl; (with_reducible repeat (first | refine bkD ?_ _ | refine blk_drew ?_ | refine bkA ?_ _)); refine blk_put (cs := #[.int .i64 0, .int .i64 0, .int .i64 0, .int .i64 0]) ?_ 0 _ rfl; (with_reducible repeat (first | refine bkD ?_ _ | refine blk_drew ?_ | refine bkA ?_ _)); exact BK318.out) Try.underlying34 rfl (by kernel_rfl)) rfl ?_
       exact ⟨by first | rfl | (simp [errW_none, errW_some] <;> rfl) | (simp [*, errW_none, errW_some] <;> rfl), by repeat (first | (with_reducible first | exact HB.out | apply bAl | apply bDn | apply bD1 | refine bSe ?_ GE318.out) | exact HB.out)⟩
   · replace c11 := Bool.eq_false_iff.mpr c11
     subst c11
     have H1 : (some (0, 0, 0, 0)) = some (r1, r2, r3, r4) := by rw [if_neg (show ¬ (false = true) by decide)] at H; exact H
     clear H
     have H := H1
     clear H1
     simp only [Option.some.injEq, Prod.mk.injEq] at H
     obtain ⟨rfl, rfl, rfl, rfl⟩ := H
     go_enter Try.func22, Try.ntmps22
     go_wp2_with (first | ((with_reducible refine gate_dst (N := 14) rfl ?_); refine box_event ?hg (N := 14) ?hd (cs := #[.int .i64 0, .int .i64 0, .int .i64 0, .int .i64 0]) (t := 34) ?hr ?_; (case hd => rfl); (case hg => rfl); (case hr => first | (go_simp; done) | (go_simp; rfl)); intro gb318 hg w37 hbox hb; have n0_ := aMk (below_step (by repeat (first | (with_reducible first | exact HB.out | apply bAl | apply bDn | apply bD1) | exact HB.out)) hb); have n1_ := aMk (hbox); have n2_ := aMk ((by rw [hg]; exact (below_size (by repeat (first | (with_reducible first | exact HB.out | apply bAl | apply bDn | apply bD1) | exact HB.out))) : w.heap.size ≤ gb318)); have n3_ := aMk ((by rw [hg]; exact (below_size (by repeat (first | (with_reducible first | exact HB.out | apply bAl | apply bDn | apply bD1) | exact HB.out))) : w.heap.size ≤ gb318)); clear HB; have HB := n0_; have BK318 := n1_; have GW318 := n2_; have GE318 := n3_; clear n0_ n1_ n2_ n3_; clear hb hbox hg) | ((with_reducible refine gate_callee (f := 70) rfl ?_); refine goesL_ (some 16) rfl rfl Try.func70 (by kernel_rfl) rfl #[.slice A0 l0.length c0] rfl (by (try simp only [List.map_toArray, List.map_cons, List.map_nil]); first | done | rfl | (simp only [List.length_drop, List.length_take]; rfl)) ?_; (with_reducible refine (impl_FloatsOk.calls k _ _ l0 true _ ?side1 ?side2 A8.out).mono ?_); (case side1 => repeat (first | exact (Kd.C_below HR0.out HB.out) | (with_reducible refine Kd.C_alloc ?_ _) | (with_reducible refine Kd.C_drewN ?_ _) | (with_reducible refine Kd.C_drew ?_))); (case side2 => exact HC0.out); rintro e w38 ⟨rfl, hb⟩; refine ⟨_, rfl, ?_⟩; have n0_ := aMk (blk_below (g := gb318) (o := .cells #[.int .i64 0, .int .i64 0, .int .i64 0, .int .i64 0] 34 (0, 0)) (by (with_reducible repeat (first | refine bkD ?_ _ | refine blk_drew ?_ | refine bkA ?_ _)); exact BK318.out) hb); have n1_ := aMk (below_step (by repeat (first | (with_reducible first | exact HB.out | apply bAl | apply bDn | apply bD1 | refine bSe ?_ GE318.out) | exact HB.out)) hb); clear BK318; clear HB; have BK318 := n0_; have HB := n1_; clear n0_ n1_; (try clear hb); (try clear hb2); (try clear hk); (try clear hi)) | (go_at_call 71; (with_reducible refine (impl_inUnits.calls a3 false _ A10.out).mono ?_); rintro e w' ⟨rfl, ⟨nd, rfl⟩⟩; (try (rw [drewN_self w38]; generalize hq_ : World.drewN w38 _ = w38; have n0_ : Aside0 (w38.heap[gb318]? = some (.cells #[.int .i64 0, .int .i64 0, .int .i64 0, .int .i64 0] 34 (0, 0))) := ⟨by rw [← hq_]; exact (by (with_reducible repeat (first | refine bkD ?_ _ | refine blk_drew ?_ | refine bkA ?_ _)); exact BK318.out)⟩; have n1_ : Aside0 (Below w.heap.size w w38) := ⟨by rw [← hq_]; exact (by repeat (first | (with_reducible first | exact HB.out | apply bAl | apply bDn | apply bD1 | refine bSe ?_ GE318.out) | exact HB.out))⟩; clear BK318 HB hq_; have BK318 := n0_; have HB := n1_; clear n0_ n1_)); have hcz39_0 : w38.cell? ⟨gb318, 0, none⟩ = some (.int .i64 0) := (bCe BK318.out 0).trans rfl; have hcz39_1 : w38.cell? ⟨gb318, 1, none⟩ = some (.int .i64 0) := (bCe BK318.out 1).trans rfl; have hcz39_2 : w38.cell? ⟨gb318, 2, none⟩ = some (.int .i64 0) := (bCe BK318.out 2).trans rfl; have hcz39_3 : w38.cell? ⟨gb318, 3, none⟩ = some (.int .i64 0) := (bCe BK318.out 3).trans rfl; have hfz39_0 := bFr BK318.out 0; have hfz39_1 := bFr BK318.out 1; have hfz39_2 := bFr BK318.out 2; have hfz39_3 := bFr BK318.out 3))
     refine bodyPost_ret (results_cell_row rfl _ _ gb318 34 #[.int .i64 0, .int .i64 0, .int .i64 0, .int .i64 0] (0, 0) _ rfl (by (with_reducible repeat (first | refine bkD ?_ _ | refine blk_drew ?_ | refine bkA ?_ _)); refine blk_put (cs := #[.int .i64 0, .int .i64 0, .int .i64 0, .int .i64 0]) ?_ 3 _ rfl; (with_reducible repeat (first | refine bkD ?_ _ | refine blk_drew ?_ | refine bkA ?_ _)); refine blk_put (cs := #[.int .i64 0, .int .i64 0, .int .i64 0, .int .i64 0]) ?_ 2 _ rfl; (with_reducible repeat (first | refine bkD ?_ _ | refine blk_drew ?_ | refine bkA ?_ _)); refine blk_put (cs := #[.int .i64 0, .int .i64 0, .int .i64 0, .int .i64 0]) ?_ 1 _ rfl; (with_reducible repeat (first | refine bkD ?_ _ | refine blk_drew ?_ | refine bkA ?_ _)); refine blk_put (cs := #[.int .i64 0, .int .i64 0, .int .i64 0, .int .i64 0]) ?_ 0 _ rfl; (with_reducible repeat (first | refine bkD ?_ _ | refine blk_drew ?_ | refine bkA ?_ _)); exact BK318.out) Try.underlying34 rfl (by kernel_rfl)) rfl ?_
     exact ⟨by first | rfl | (simp [errW_none, errW_some] <;> rfl) | (simp [*, errW_none, errW_some] <;> rfl), by repeat (first | (with_reducible first | exact HB.out | apply bAl | apply bDn | apply bD1 | refine bSe ?_ GE318.out) | exact HB.out)⟩
 · replace c9 := Bool.eq_false_iff.mpr c9
   subst c9
   have H1 : (some (0, 0, 0, 0)) = some (r1, r2, r3, r4) := by rw [if_neg (show ¬ (false = true) by decide)] at H; exact H
   clear H
   have H := H1
   clear H1
   simp only [Option.some.injEq, Prod.mk.injEq] at H
   obtain ⟨rfl, rfl, rfl, rfl⟩ := H
   go_enter Try.func22, Try.ntmps22
   go_wp2_with (first | ((with_reducible refine gate_dst (N := 14) rfl ?_); refine box_event ?hg (N := 14) ?hd (cs := #[.int .i64 0, .int .i64 0, .int .i64 0, .int .i64 0]) (t := 34) ?hr ?_; (case hd => rfl); (case hg => rfl); (case hr => first | (go_simp; done) | (go_simp; rfl)); intro gb318 hg w40 hbox hb; have n0_ := aMk (below_step (by repeat (first | (with_reducible first | exact HB.out | apply bAl | apply bDn | apply bD1) | exact HB.out)) hb); have n1_ := aMk (hbox); have n2_ := aMk ((by rw [hg]; exact (below_size (by repeat (first | (with_reducible first | exact HB.out | apply bAl | apply bDn | apply bD1) | exact HB.out))) : w.heap.size ≤ gb318)); have n3_ := aMk ((by rw [hg]; exact (below_size (by repeat (first | (with_reducible first | exact HB.out | apply bAl | apply bDn | apply bD1) | exact HB.out))) : w.heap.size ≤ gb318)); clear HB; have HB := n0_; have BK318 := n1_; have GW318 := n2_; have GE318 := n3_; clear n0_ n1_ n2_ n3_; clear hb hbox hg) | ((with_reducible refine gate_callee (f := 70) rfl ?_); refine goesL_ (some 16) rfl rfl Try.func70 (by kernel_rfl) rfl #[.slice A0 l0.length c0] rfl (by (try simp only [List.map_toArray, List.map_cons, List.map_nil]); first | done | rfl | (simp only [List.length_drop, List.length_take]; rfl)) ?_; (with_reducible refine (impl_FloatsOk.calls k _ _ l0 false _ ?side1 ?side2 A8.out).mono ?_); (case side1 => repeat (first | exact (Kd.C_below HR0.out HB.out) | (with_reducible refine Kd.C_alloc ?_ _) | (with_reducible refine Kd.C_drewN ?_ _) | (with_reducible refine Kd.C_drew ?_))); (case side2 => exact HC0.out); rintro e w41 ⟨rfl, hb⟩; refine ⟨_, rfl, ?_⟩; have n0_ := aMk (blk_below (g := gb318) (o := .cells #[.int .i64 0, .int .i64 0, .int .i64 0, .int .i64 0] 34 (0, 0)) (by (with_reducible repeat (first | refine bkD ?_ _ | refine blk_drew ?_ | refine bkA ?_ _)); exact BK318.out) hb); have n1_ := aMk (below_step (by repeat (first | (with_reducible first | exact HB.out | apply bAl | apply bDn | apply bD1 | refine bSe ?_ GE318.out) | exact HB.out)) hb); clear BK318; clear HB; have BK318 := n0_; have HB := n1_; clear n0_ n1_; (try clear hb); (try clear hb2); (try clear hk); (try clear hi); have hcz42_0 : w41.cell? ⟨gb318, 0, none⟩ = some (.int .i64 0) := (bCe BK318.out 0).trans rfl; have hcz42_1 : w41.cell? ⟨gb318, 1, none⟩ = some (.int .i64 0) := (bCe BK318.out 1).trans rfl; have hcz42_2 : w41.cell? ⟨gb318, 2, none⟩ = some (.int .i64 0) := (bCe BK318.out 2).trans rfl; have hcz42_3 : w41.cell? ⟨gb318, 3, none⟩ = some (.int .i64 0) := (bCe BK318.out 3).trans rfl; have hfz42_0 := bFr BK318.out 0; have hfz42_1 := bFr BK318.out 1; have hfz42_2 := bFr BK318.out 2; have hfz42_3 := bFr BK318.out 3))
   refine bodyPost_ret (results_cell_row rfl _ _ gb318 34 #[.int .i64 0, .int .i64 0, .int .i64 0, .int .i64 0] (0, 0) _ rfl (by (with_reducible repeat (first | refine bkD ?_ _ | refine blk_drew ?_ | refine bkA ?_ _)); refine blk_put (cs := #[.int .i64 0, .int .i64 0, .int .i64 0, .int .i64 0]) ?_ 3 _ rfl; (with_reducible repeat (first | refine bkD ?_ _ | refine blk_drew ?_ | refine bkA ?_ _)); refine blk_put (cs := #[.int .i64 0, .int .i64 0, .int .i64 0, .int .i64 0]) ?_ 2 _ rfl; (with_reducible repeat (first | refine bkD ?_ _ | refine blk_drew ?_ | refine bkA ?_ _)); refine blk_put (cs := #[.int .i64 0, .int .i64 0, .int .i64 0, .int .i64 0]) ?_ 1 _ rfl; (with_reducible repeat (first | refine bkD ?_ _ | refine blk_drew ?_ | refine bkA ?_ _)); refine blk_put (cs := #[.int .i64 0, .int .i64 0, .int .i64 0, .int .i64 0]) ?_ 0 _ rfl; (with_reducible repeat (first | refine bkD ?_ _ | refine blk_drew ?_ | refine bkA ?_ _)); exact BK318.out) Try.underlying34 rfl (by kernel_rfl)) rfl ?_
   exact ⟨by first | rfl | (simp [errW_none, errW_some] <;> rfl) | (simp [*, errW_none, errW_some] <;> rfl), by repeat (first | (with_reducible first | exact HB.out | apply bAl | apply bDn | apply bD1 | refine bSe ?_ GE318.out) | exact HB.out)⟩

/-! ### laws_over: function 25 -/
def laws_over.f (a0_0 : Int) (a0_1 : Int) (a0_2 : Int) (a0_3 : Int) (a1_0 : Int) (a1_1 : Int) (a1_2 : Int) (a1_3 : Int) : Option (Bool) := if a0_0 < (wrap64 (a1_0 + a1_2)) then (if a1_0 < (wrap64 (a0_0 + a0_2)) then (if a0_1 < (wrap64 (a1_1 + a1_3)) then (some (decide (a1_1 < (wrap64 (a0_1 + a0_3))))) else (some false)) else (some false)) else (some false)
set_option maxHeartbeats 8000000 in
set_option maxRecDepth 100000 in
theorem laws_over.calls (a0_0 : Int) (a0_1 : Int) (a0_2 : Int) (a0_3 : Int) (a1_0 : Int) (a1_1 : Int) (a1_2 : Int) (a1_3 : Int) (r : Bool) (w : World) (h : laws_over.f a0_0 a0_1 a0_2 a0_3 a1_0 a1_1 a1_2 a1_3 = some r) :
 Calls Try.prog 25 #[.agg #[.int .i64 a0_0, .int .i64 a0_1, .int .i64 a0_2, .int .i64 a0_3], .agg #[.int .i64 a1_0, .int .i64 a1_1, .int .i64 a1_2, .int .i64 a1_3]] w fun e w' => e = .returned (.bool r) ∧ Below w.heap.size w w' := by
 have hu34 := Try.underlying34
 have HB := aMk (Below.refl w.heap.size w)
 have H : (if a0_0 < (wrap64 (a1_0 + a1_2)) then (if a1_0 < (wrap64 (a0_0 + a0_2)) then (if a0_1 < (wrap64 (a1_1 + a1_3)) then (some (decide (a1_1 < (wrap64 (a0_1 + a0_3))))) else (some false)) else (some false)) else (some false)) = some r := h
 clear h
 by_cases c3 : a0_0 < (wrap64 (a1_0 + a1_2))
 · rw [if_pos c3] at H
   have c3b0 : decide (a0_0 < (wrap64 (a1_0 + a1_2))) = true := decide_eq_true c3
   clear c3
   by_cases c4 : a1_0 < (wrap64 (a0_0 + a0_2))
   · rw [if_pos c4] at H
     have c4b0 : decide (a1_0 < (wrap64 (a0_0 + a0_2))) = true := decide_eq_true c4
     clear c4
     by_cases c5 : a0_1 < (wrap64 (a1_1 + a1_3))
     · rw [if_pos c5] at H
       have c5b0 : decide (a0_1 < (wrap64 (a1_1 + a1_3))) = true := decide_eq_true c5
       clear c5
       obtain rfl := Option.some.inj H
       go_enter Try.func25, Try.ntmps25
       go_wp2_with (first | ((with_reducible refine gate_dst (N := 2) rfl ?_); refine box_event ?hg (N := 2) ?hd (cs := #[.int .i64 a0_0, .int .i64 a0_1, .int .i64 a0_2, .int .i64 a0_3]) (t := 34) ?hr ?_; (case hd => rfl); (case hg => rfl); (case hr => first | (go_simp; done) | (go_simp; rfl)); intro gb329 hg w6 hbox hb; have n0_ := aMk (below_step (by repeat (first | (with_reducible first | exact HB.out | apply bAl | apply bDn | apply bD1) | exact HB.out)) hb); have n1_ := aMk (hbox); have n2_ := aMk ((by rw [hg]; exact (below_size (by repeat (first | (with_reducible first | exact HB.out | apply bAl | apply bDn | apply bD1) | exact HB.out))) : w.heap.size ≤ gb329)); have n3_ := aMk ((by rw [hg]; exact (below_size (by repeat (first | (with_reducible first | exact HB.out | apply bAl | apply bDn | apply bD1) | exact HB.out))) : w.heap.size ≤ gb329)); clear HB; have HB := n0_; have BK329 := n1_; have GW329 := n2_; have GE329 := n3_; clear n0_ n1_ n2_ n3_; clear hb hbox hg) | ((with_reducible refine gate_dst (N := 3) rfl ?_); refine box_event ?hg (N := 3) ?hd (cs := #[.int .i64 a1_0, .int .i64 a1_1, .int .i64 a1_2, .int .i64 a1_3]) (t := 34) ?hr ?_; (case hd => rfl); (case hg => rfl); (case hr => first | (go_simp; done) | (go_simp; rfl)); intro gb330 hg w7 hbox hb; have n0_ := aMk (blk_below (g := gb329) (o := .cells #[.int .i64 a0_0, .int .i64 a0_1, .int .i64 a0_2, .int .i64 a0_3] 34 (0, 0)) (by (with_reducible repeat (first | refine bkD ?_ _ | refine blk_drew ?_ | refine bkA ?_ _)); exact BK329.out) hb); have n1_ := aMk (below_step (by repeat (first | (with_reducible first | exact HB.out | apply bAl | apply bDn | apply bD1 | refine bSe ?_ GE329.out) | exact HB.out)) hb); have n2_ := aMk (hbox); have n3_ := aMk ((by rw [hg]; exact (below_size (by repeat (first | (with_reducible first | exact HB.out | apply bAl | apply bDn | apply bD1 | refine bSe ?_ GE329.out) | exact HB.out))) : w.heap.size ≤ gb330)); have n4_ := aMk ((by rw [hg]; exact (below_size (by repeat (first | (with_reducible first | exact HB.out | apply bAl | apply bDn | apply bD1 | refine bSe ?_ GE329.out) | exact HB.out))) : w.heap.size ≤ gb330)); have n5_ := aMk ((by rw [hg]; exact Nat.ne_of_lt (blk_lt (g := gb329) (o := .cells #[.int .i64 a0_0, .int .i64 a0_1, .int .i64 a0_2, .int .i64 a0_3] 34 (0, 0)) (by (with_reducible repeat (first | refine bkD ?_ _ | refine blk_drew ?_ | refine bkA ?_ _)); exact BK329.out)) : gb329 ≠ gb330)); have n6_ := aMk ((by rw [hg]; exact Nat.ne_of_gt (blk_lt (g := gb329) (o := .cells #[.int .i64 a0_0, .int .i64 a0_1, .int .i64 a0_2, .int .i64 a0_3] 34 (0, 0)) (by (with_reducible repeat (first | refine bkD ?_ _ | refine blk_drew ?_ | refine bkA ?_ _)); exact BK329.out)) : gb330 ≠ gb329)); clear BK329; clear HB; have BK329 := n0_; have HB := n1_; have BK330 := n2_; have GW330 := n3_; have GE330 := n4_; have NB329_330 := n5_; have NB330_329 := n6_; clear n0_ n1_ n2_ n3_ n4_ n5_ n6_; clear hb hbox hg; have hnb8 := NB329_330.out; have hnc8 := NB330_329.out; have hcz9_0 : w7.cell? ⟨gb329, 0, none⟩ = some (.int .i64 a0_0) := (bCe BK329.out 0).trans rfl; have hcz9_1 : w7.cell? ⟨gb329, 1, none⟩ = some (.int .i64 a0_1) := (bCe BK329.out 1).trans rfl; have hcz9_2 : w7.cell? ⟨gb329, 2, none⟩ = some (.int .i64 a0_2) := (bCe BK329.out 2).trans rfl; have hcz9_3 : w7.cell? ⟨gb329, 3, none⟩ = some (.int .i64 a0_3) := (bCe BK329.out 3).trans rfl; have hfz9_0 := bFr BK329.out 0; have hfz9_1 := bFr BK329.out 1; have hfz9_2 := bFr BK329.out 2; have hfz9_3 := bFr BK329.out 3; have hcz10_0 : w7.cell? ⟨gb330, 0, none⟩ = some (.int .i64 a1_0) := (bCe BK330.out 0).trans rfl; have hcz10_1 : w7.cell? ⟨gb330, 1, none⟩ = some (.int .i64 a1_1) := (bCe BK330.out 1).trans rfl; have hcz10_2 : w7.cell? ⟨gb330, 2, none⟩ = some (.int .i64 a1_2) := (bCe BK330.out 2).trans rfl; have hcz10_3 : w7.cell? ⟨gb330, 3, none⟩ = some (.int .i64 a1_3) := (bCe BK330.out 3).trans rfl; have hfz10_0 := bFr BK330.out 0; have hfz10_1 := bFr BK330.out 1; have hfz10_2 := bFr BK330.out 2; have hfz10_3 := bFr BK330.out 3))
       go_ret
       exact ⟨by first | rfl | (simp [errW_none, errW_some] <;> rfl) | (simp [*, errW_none, errW_some] <;> rfl), by repeat (first | (with_reducible first | exact HB.out | apply bAl | apply bDn | apply bD1 | refine bSe ?_ GE329.out | refine bSe ?_ GE330.out) | exact HB.out)⟩
     · rw [if_neg c5] at H
       have c5b0 : decide (a0_1 < (wrap64 (a1_1 + a1_3))) = false := decide_eq_false c5
       clear c5
       obtain rfl := Option.some.inj H
       go_enter Try.func25, Try.ntmps25
       go_wp2_with (first | ((with_reducible refine gate_dst (N := 2) rfl ?_); refine box_event ?hg (N := 2) ?hd (cs := #[.int .i64 a0_0, .int .i64 a0_1, .int .i64 a0_2, .int .i64 a0_3]) (t := 34) ?hr ?_; (case hd => rfl); (case hg => rfl); (case hr => first | (go_simp; done) | (go_simp; rfl)); intro gb329 hg w11 hbox hb; have n0_ := aMk (below_step (by repeat (first | (with_reducible first | exact HB.out | apply bAl | apply bDn | apply bD1) | exact HB.out)) hb); have n1_ := aMk (hbox); have n2_ := aMk ((by rw [hg]; exact (below_size (by repeat (first | (with_reducible first | exact HB.out | apply bAl | apply bDn | apply bD1) | exact HB.out))) : w.heap.size ≤ gb329)); have n3_ := aMk ((by rw [hg]; exact (below_size (by repeat (first | (with_reducible first | exact HB.out | apply bAl | apply bDn | apply bD1) | exact HB.out))) : w.heap.size ≤ gb329)); clear HB; have HB := n0_; have BK329 := n1_; have GW329 := n2_; have GE329 := n3_; clear n0_ n1_ n2_ n3_; clear hb hbox hg) | ((with_reducible refine gate_dst (N := 3) rfl ?_); refine box_event ?hg (N := 3) ?hd (cs := #[.int .i64 a1_0, .int .i64 a1_1, .int .i64 a1_2, .int .i64 a1_3]) (t := 34) ?hr ?_; (case hd => rfl); (case hg => rfl); (case hr => first | (go_simp; done) | (go_simp; rfl)); intro gb330 hg w12 hbox hb; have n0_ := aMk (blk_below (g := gb329) (o := .cells #[.int .i64 a0_0, .int .i64 a0_1, .int .i64 a0_2, .int .i64 a0_3] 34 (0, 0)) (by (with_reducible repeat (first | refine bkD ?_ _ | refine blk_drew ?_ | refine bkA ?_ _)); exact BK329.out) hb); have n1_ := aMk (below_step (by repeat (first | (with_reducible first | exact HB.out | apply bAl | apply bDn | apply bD1 | refine bSe ?_ GE329.out) | exact HB.out)) hb); have n2_ := aMk (hbox); have n3_ := aMk ((by rw [hg]; exact (below_size (by repeat (first | (with_reducible first | exact HB.out | apply bAl | apply bDn | apply bD1 | refine bSe ?_ GE329.out) | exact HB.out))) : w.heap.size ≤ gb330)); have n4_ := aMk ((by rw [hg]; exact (below_size (by repeat (first | (with_reducible first | exact HB.out | apply bAl | apply bDn | apply bD1 | refine bSe ?_ GE329.out) | exact HB.out))) : w.heap.size ≤ gb330)); have n5_ := aMk ((by rw [hg]; exact Nat.ne_of_lt (blk_lt (g := gb329) (o := .cells #[.int .i64 a0_0, .int .i64 a0_1, .int .i64 a0_2, .int .i64 a0_3] 34 (0, 0)) (by (with_reducible repeat (first | refine bkD ?_ _ | refine blk_drew ?_ | refine bkA ?_ _)); exact BK329.out)) : gb329 ≠ gb330)); have n6_ := aMk ((by rw [hg]; exact Nat.ne_of_gt (blk_lt (g := gb329) (o := .cells #[.int .i64 a0_0, .int .i64 a0_1, .int .i64 a0_2, .int .i64 a0_3] 34 (0, 0)) (by (with_reducible repeat (first | refine bkD ?_ _ | refine blk_drew ?_ | refine bkA ?_ _)); exact BK329.out)) : gb330 ≠ gb329)); clear BK329; clear HB; have BK329 := n0_; have HB := n1_; have BK330 := n2_; have GW330 := n3_; have GE330 := n4_; have NB329_330 := n5_; have NB330_329 := n6_; clear n0_ n1_ n2_ n3_ n4_ n5_ n6_; clear hb hbox hg; have hnb13 := NB329_330.out; have hnc13 := NB330_329.out; have hcz14_0 : w12.cell? ⟨gb329, 0, none⟩ = some (.int .i64 a0_0) := (bCe BK329.out 0).trans rfl; have hcz14_1 : w12.cell? ⟨gb329, 1, none⟩ = some (.int .i64 a0_1) := (bCe BK329.out 1).trans rfl; have hcz14_2 : w12.cell? ⟨gb329, 2, none⟩ = some (.int .i64 a0_2) := (bCe BK329.out 2).trans rfl; have hcz14_3 : w12.cell? ⟨gb329, 3, none⟩ = some (.int .i64 a0_3) := (bCe BK329.out 3).trans rfl; have hfz14_0 := bFr BK329.out 0; have hfz14_1 := bFr BK329.out 1; have hfz14_2 := bFr BK329.out 2; have hfz14_3 := bFr BK329.out 3; have hcz15_0 : w12.cell? ⟨gb330, 0, none⟩ = some (.int .i64 a1_0) := (bCe BK330.out 0).trans rfl; have hcz15_1 : w12.cell? ⟨gb330, 1, none⟩ = some (.int .i64 a1_1) := (bCe BK330.out 1).trans rfl; have hcz15_2 : w12.cell? ⟨gb330, 2, none⟩ = some (.int .i64 a1_2) := (bCe BK330.out 2).trans rfl; have hcz15_3 : w12.cell? ⟨gb330, 3, none⟩ = some (.int .i64 a1_3) := (bCe BK330.out 3).trans rfl; have hfz15_0 := bFr BK330.out 0; have hfz15_1 := bFr BK330.out 1; have hfz15_2 := bFr BK330.out 2; have hfz15_3 := bFr BK330.out 3))
       go_ret
       exact ⟨by first | rfl | (simp [errW_none, errW_some] <;> rfl) | (simp [*, errW_none, errW_some] <;> rfl), by repeat (first | (with_reducible first | exact HB.out | apply bAl | apply bDn | apply bD1 | refine bSe ?_ GE329.out | refine bSe ?_ GE330.out) | exact HB.out)⟩
   · rw [if_neg c4] at H
     have c4b0 : decide (a1_0 < (wrap64 (a0_0 + a0_2))) = false := decide_eq_false c4
     clear c4
     obtain rfl := Option.some.inj H
     go_enter Try.func25, Try.ntmps25
     go_wp2_with (first | ((with_reducible refine gate_dst (N := 2) rfl ?_); refine box_event ?hg (N := 2) ?hd (cs := #[.int .i64 a0_0, .int .i64 a0_1, .int .i64 a0_2, .int .i64 a0_3]) (t := 34) ?hr ?_; (case hd => rfl); (case hg => rfl); (case hr => first | (go_simp; done) | (go_simp; rfl)); intro gb329 hg w16 hbox hb; have n0_ := aMk (below_step (by repeat (first | (with_reducible first | exact HB.out | apply bAl | apply bDn | apply bD1) | exact HB.out)) hb); have n1_ := aMk (hbox); have n2_ := aMk ((by rw [hg]; exact (below_size (by repeat (first | (with_reducible first | exact HB.out | apply bAl | apply bDn | apply bD1) | exact HB.out))) : w.heap.size ≤ gb329)); have n3_ := aMk ((by rw [hg]; exact (below_size (by repeat (first | (with_reducible first | exact HB.out | apply bAl | apply bDn | apply bD1) | exact HB.out))) : w.heap.size ≤ gb329)); clear HB; have HB := n0_; have BK329 := n1_; have GW329 := n2_; have GE329 := n3_; clear n0_ n1_ n2_ n3_; clear hb hbox hg) | ((with_reducible refine gate_dst (N := 3) rfl ?_); refine box_event ?hg (N := 3) ?hd (cs := #[.int .i64 a1_0, .int .i64 a1_1, .int .i64 a1_2, .int .i64 a1_3]) (t := 34) ?hr ?_; (case hd => rfl); (case hg => rfl); (case hr => first | (go_simp; done) | (go_simp; rfl)); intro gb330 hg w17 hbox hb; have n0_ := aMk (blk_below (g := gb329) (o := .cells #[.int .i64 a0_0, .int .i64 a0_1, .int .i64 a0_2, .int .i64 a0_3] 34 (0, 0)) (by (with_reducible repeat (first | refine bkD ?_ _ | refine blk_drew ?_ | refine bkA ?_ _)); exact BK329.out) hb); have n1_ := aMk (below_step (by repeat (first | (with_reducible first | exact HB.out | apply bAl | apply bDn | apply bD1 | refine bSe ?_ GE329.out) | exact HB.out)) hb); have n2_ := aMk (hbox); have n3_ := aMk ((by rw [hg]; exact (below_size (by repeat (first | (with_reducible first | exact HB.out | apply bAl | apply bDn | apply bD1 | refine bSe ?_ GE329.out) | exact HB.out))) : w.heap.size ≤ gb330)); have n4_ := aMk ((by rw [hg]; exact (below_size (by repeat (first | (with_reducible first | exact HB.out | apply bAl | apply bDn | apply bD1 | refine bSe ?_ GE329.out) | exact HB.out))) : w.heap.size ≤ gb330)); have n5_ := aMk ((by rw [hg]; exact Nat.ne_of_lt (blk_lt (g := gb329) (o := .cells #[.int .i64 a0_0, .int .i64 a0_1, .int .i64 a0_2, .int .i64 a0_3] 34 (0, 0)) (by (with_reducible repeat (first | refine bkD ?_ _ | refine blk_drew ?_ | refine bkA ?_ _)); exact BK329.out)) : gb329 ≠ gb330)); have n6_ := aMk ((by rw [hg]; exact Nat.ne_of_gt (blk_lt (g := gb329) (o := .cells #[.int .i64 a0_0, .int .i64 a0_1, .int .i64 a0_2, .int .i64 a0_3] 34 (0, 0)) (by (with_reducible repeat (first | refine bkD ?_ _ | refine blk_drew ?_ | refine bkA ?_ _)); exact BK329.out)) : gb330 ≠ gb329)); clear BK329; clear HB; have BK329 := n0_; have HB := n1_; have BK330 := n2_; have GW330 := n3_; have GE330 := n4_; have NB329_330 := n5_; have NB330_329 := n6_; clear n0_ n1_ n2_ n3_ n4_ n5_ n6_; clear hb hbox hg; have hnb18 := NB329_330.out; have hnc18 := NB330_329.out; have hcz19_0 : w17.cell? ⟨gb329, 0, none⟩ = some (.int .i64 a0_0) := (bCe BK329.out 0).trans rfl; have hcz19_1 : w17.cell? ⟨gb329, 1, none⟩ = some (.int .i64 a0_1) := (bCe BK329.out 1).trans rfl; have hcz19_2 : w17.cell? ⟨gb329, 2, none⟩ = some (.int .i64 a0_2) := (bCe BK329.out 2).trans rfl; have hcz19_3 : w17.cell? ⟨gb329, 3, none⟩ = some (.int .i64 a0_3) := (bCe BK329.out 3).trans rfl; have hfz19_0 := bFr BK329.out 0; have hfz19_1 := bFr BK329.out 1; have hfz19_2 := bFr BK329.out 2; have hfz19_3 := bFr BK329.out 3; have hcz20_0 : w17.cell? ⟨gb330, 0, none⟩ = some (.int .i64 a1_0) := (bCe BK330.out 0).trans rfl; have hcz20_1 : w17.cell? ⟨gb330, 1, none⟩ = some (.int .i64 a1_1) := (bCe BK330.out 1).trans rfl; have hcz20_2 : w17.cell? ⟨gb330, 2, none⟩ = some (.int .i64 a1_2) := (bCe BK330.out 2).trans rfl; have hcz20_3 : w17.cell? ⟨gb330, 3, none⟩ = some (.int .i64 a1_3) := (bCe BK330.out 3).trans rfl; have hfz20_0 := bFr BK330.out 0; have hfz20_1 := bFr BK330.out 1; have hfz20_2 := bFr BK330.out 2; have hfz20_3 := bFr BK330.out 3))
     go_ret
     exact ⟨by first | rfl | (simp [errW_none, errW_some] <;> rfl) | (simp [*, errW_none, errW_some] <;> rfl), by repeat (first | (with_reducible first | exact HB.out | apply bAl | apply bDn | apply bD1 | refine bSe ?_ GE329.out | refine bSe ?_ GE330.out) | exact HB.out)⟩
 · rw [if_neg c3] at H
   have c3b0 : decide (a0_0 < (wrap64 (a1_0 + a1_2))) = false := decide_eq_false c3
   clear c3
   obtain rfl := Option.some.inj H
   go_enter Try.func25, Try.ntmps25
   go_wp2_with (first | ((with_reducible refine gate_dst (N := 2) rfl ?_); refine box_event ?hg (N := 2) ?hd (cs := #[.int .i64 a0_0, .int .i64 a0_1, .int .i64 a0_2, .int .i64 a0_3]) (t := 34) ?hr ?_; (case hd => rfl); (case hg => rfl); (case hr => first | (go_simp; done) | (go_simp; rfl)); intro gb329 hg w21 hbox hb; have n0_ := aMk (below_step (by repeat (first | (with_reducible first | exact HB.out | apply bAl | apply bDn | apply bD1) | exact HB.out)) hb); have n1_ := aMk (hbox); have n2_ := aMk ((by rw [hg]; exact (below_size (by repeat (first | (with_reducible first | exact HB.out | apply bAl | apply bDn | apply bD1) | exact HB.out))) : w.heap.size ≤ gb329)); have n3_ := aMk ((by rw [hg]; exact (below_size (by repeat (first | (with_reducible first | exact HB.out | apply bAl | apply bDn | apply bD1) | exact HB.out))) : w.heap.size ≤ gb329)); clear HB; have HB := n0_; have BK329 := n1_; have GW329 := n2_; have GE329 := n3_; clear n0_ n1_ n2_ n3_; clear hb hbox hg) | ((with_reducible refine gate_dst (N := 3) rfl ?_); refine box_event ?hg (N := 3) ?hd (cs := #[.int .i64 a1_0, .int .i64 a1_1, .int .i64 a1_2, .int .i64 a1_3]) (t := 34) ?hr ?_; (case hd => rfl); (case hg => rfl); (case hr => first | (go_simp; done) | (go_simp; rfl)); intro gb330 hg w22 hbox hb; have n0_ := aMk (blk_below (g := gb329) (o := .cells #[.int .i64 a0_0, .int .i64 a0_1, .int .i64 a0_2, .int .i64 a0_3] 34 (0, 0)) (by (with_reducible repeat (first | refine bkD ?_ _ | refine blk_drew ?_ | refine bkA ?_ _)); exact BK329.out) hb); have n1_ := aMk (below_step (by repeat (first | (with_reducible first | exact HB.out | apply bAl | apply bDn | apply bD1 | refine bSe ?_ GE329.out) | exact HB.out)) hb); have n2_ := aMk (hbox); have n3_ := aMk ((by rw [hg]; exact (below_size (by repeat (first | (with_reducible first | exact HB.out | apply bAl | apply bDn | apply bD1 | refine bSe ?_ GE329.out) | exact HB.out))) : w.heap.size ≤ gb330)); have n4_ := aMk ((by rw [hg]; exact (below_size (by repeat (first | (with_reducible first | exact HB.out | apply bAl | apply bDn | apply bD1 | refine bSe ?_ GE329.out) | exact HB.out))) : w.heap.size ≤ gb330)); have n5_ := aMk ((by rw [hg]; exact Nat.ne_of_lt (blk_lt (g := gb329) (o := .cells #[.int .i64 a0_0, .int .i64 a0_1, .int .i64 a0_2, .int .i64 a0_3] 34 (0, 0)) (by (with_reducible repeat (first | refine bkD ?_ _ | refine blk_drew ?_ | refine bkA ?_ _)); exact BK329.out)) : gb329 ≠ gb330)); have n6_ := aMk ((by rw [hg]; exact Nat.ne_of_gt (blk_lt (g := gb329) (o := .cells #[.int .i64 a0_0, .int .i64 a0_1, .int .i64 a0_2, .int .i64 a0_3] 34 (0, 0)) (by (with_reducible repeat (first | refine bkD ?_ _ | refine blk_drew ?_ | refine bkA ?_ _)); exact BK329.out)) : gb330 ≠ gb329)); clear BK329; clear HB; have BK329 := n0_; have HB := n1_; have BK330 := n2_; have GW330 := n3_; have GE330 := n4_; have NB329_330 := n5_; have NB330_329 := n6_; clear n0_ n1_ n2_ n3_ n4_ n5_ n6_; clear hb hbox hg; have hnb23 := NB329_330.out; have hnc23 := NB330_329.out; have hcz24_0 : w22.cell? ⟨gb329, 0, none⟩ = some (.int .i64 a0_0) := (bCe BK329.out 0).trans rfl; have hcz24_1 : w22.cell? ⟨gb329, 1, none⟩ = some (.int .i64 a0_1) := (bCe BK329.out 1).trans rfl; have hcz24_2 : w22.cell? ⟨gb329, 2, none⟩ = some (.int .i64 a0_2) := (bCe BK329.out 2).trans rfl; have hcz24_3 : w22.cell? ⟨gb329, 3, none⟩ = some (.int .i64 a0_3) := (bCe BK329.out 3).trans rfl; have hfz24_0 := bFr BK329.out 0; have hfz24_1 := bFr BK329.out 1; have hfz24_2 := bFr BK329.out 2; have hfz24_3 := bFr BK329.out 3; have hcz25_0 : w22.cell? ⟨gb330, 0, none⟩ = some (.int .i64 a1_0) := (bCe BK330.out 0).trans rfl; have hcz25_1 : w22.cell? ⟨gb330, 1, none⟩ = some (.int .i64 a1_1) := (bCe BK330.out 1).trans rfl; have hcz25_2 : w22.cell? ⟨gb330, 2, none⟩ = some (.int .i64 a1_2) := (bCe BK330.out 2).trans rfl; have hcz25_3 : w22.cell? ⟨gb330, 3, none⟩ = some (.int .i64 a1_3) := (bCe BK330.out 3).trans rfl; have hfz25_0 := bFr BK330.out 0; have hfz25_1 := bFr BK330.out 1; have hfz25_2 := bFr BK330.out 2; have hfz25_3 := bFr BK330.out 3))
   go_ret
   exact ⟨by first | rfl | (simp [errW_none, errW_some] <;> rfl) | (simp [*, errW_none, errW_some] <;> rfl), by repeat (first | (with_reducible first | exact HB.out | apply bAl | apply bDn | apply bD1 | refine bSe ?_ GE329.out | refine bSe ?_ GE330.out) | exact HB.out)⟩

/-! ### spec_DrawMargin: function 26 -/
def spec_DrawMargin.l0 : Nat → List Int → Int → List Int → Int → Int → Option (List Int)
 | 0, _, _, _, _, _ => none
 | k + 1, x4, x5, x335000, x335001, x335002 => if x5 > 0 then ((spec_l1Below.f x335000 x335001 x335002 100).bind fun bt341 => (if x4.length < 17592186044416 then (spec_DrawMargin.l0 k (x4 ++ [wrap64 (bt341.1 - 40)]) (wrap64 (x5 - 1)) x335000 bt341.2.1 bt341.2.2) else (none))) else (some x4)
def spec_DrawMargin.f (k : Nat) (l0 : List Int) : Option (List Int) := (spec_l1New.f k l0).bind fun bt331 => ((spec_l1Below.f bt331.1 bt331.2.1 bt331.2.2 8).bind fun bt338 => (spec_DrawMargin.l0 k (([] : List Int)) bt338.1 bt331.1 bt338.2.1 bt338.2.2))
theorem spec_DrawMargin.mono_l : ∀ k, (∀ y0 y1 y2 y3 y4, LeO (spec_DrawMargin.l0 k y0 y1 y2 y3 y4) (spec_DrawMargin.l0 (k + 1) y0 y1 y2 y3 y4))
 | 0 => fun _ _ _ _ _ r h => by simp [spec_DrawMargin.l0] at h
 | k + 1 => by
  have ih0 := spec_DrawMargin.mono_l k
  · intro y0 y1 y2 y3 y4
    unfold spec_DrawMargin.l0
    repeat' first
    | (with_reducible exact ih0 _ _ _ _ _)
    | (with_reducible exact spec_l1New.mono _ _)
    | (with_reducible exact LeO.refl _)
    | (with_reducible exact LeO.none _)
    | (with_reducible refine LeO.ite ?_ ?_)
    | (with_reducible refine LeO.bind ?_ (fun _ => ?_))
    | exact ih0 _ _ _ _ _
    | exact spec_l1New.mono _ _
    | exact LeO.none _
    | refine LeO.ite ?_ ?_
    | refine LeO.bind ?_ (fun _ => ?_)
theorem spec_DrawMargin.mono : ∀ a0 k, LeO (spec_DrawMargin.f k a0) (spec_DrawMargin.f (k + 1) a0) := by
 intro a0 k
 have ih0 := spec_DrawMargin.mono_l k
 unfold spec_DrawMargin.f
 repeat' first
  | (with_reducible exact ih0 _ _ _ _ _)
  | (with_reducible exact spec_l1New.mono _ _)
  | (with_reducible exact LeO.refl _)
  | (with_reducible exact LeO.none _)
  | (with_reducible refine LeO.ite ?_ ?_)
  | (with_reducible refine LeO.bind ?_ (fun _ => ?_))
  | exact ih0 _ _ _ _ _
  | exact spec_l1New.mono _ _
  | exact LeO.none _
  | refine LeO.ite ?_ ?_
  | refine LeO.bind ?_ (fun _ => ?_)
set_option maxHeartbeats 8000000 in
set_option maxRecDepth 100000 in
theorem spec_DrawMargin.calls (k : Nat) (A0 : Option Addr) (c0 : Nat) (l0 : List Int) (r : List Int) (w : World) (hr0 : Kd.C (Kd.int .u8) w A0 l0.length l0) (hc0 : l0.length ≤ c0) (h : spec_DrawMargin.f k l0 = some r) :
 Calls Try.prog 26 #[.slice A0 l0.length c0] w fun e w' => ∃ v0_ : Value, e = .returned (v0_) ∧ Kd.R (Kd.int .i64) 3 w' w.heap.size (fun _ => True) v0_ r ∧ Below w.heap.size w w' := by
 have HR0 := aMk hr0
 have HC0 := aMk hc0
 clear hr0 hc0
 have HB := aMk (Below.refl w.heap.size w)
 have H : ((spec_l1New.f k l0).bind fun bt331 => ((spec_l1Below.f bt331.1 bt331.2.1 bt331.2.2 8).bind fun bt338 => (spec_DrawMargin.l0 k (([] : List Int)) bt338.1 bt331.1 bt338.2.1 bt338.2.2))) = some r := h
 clear h
 replace H := oBm H
 obtain ⟨⟨t331, t332, t333⟩, A20, H⟩ := H
 replace H : ((spec_l1Below.f t331 t332 t333 8).bind fun bt338 => (spec_DrawMargin.l0 k (([] : List Int)) bt338.1 t331 bt338.2.1 bt338.2.2)) = some r := H
 have A2 := aMk A20
 clear A20
 obtain ⟨y335, hy335⟩ : ∃ y_ : List Int, y_ = (([] : List Int)) := ⟨_, rfl⟩
 replace H : ((spec_l1Below.f t331 t332 t333 8).bind fun bt338 => (spec_DrawMargin.l0 k y335 bt338.1 t331 bt338.2.1 bt338.2.2)) = some r := by first | (rw [hy335]; with_reducible exact H) | (have H2_ := (Option.bind_some _ _).symm.trans H; rw [hy335]; with_reducible exact H2_) | (have H2_ := (Option.bind_some _ _).symm.trans H; with_reducible exact H2_) | with_reducible exact H | (rw [hy335]; exact H) | exact H
 have Ny335 := aMk hy335
 clear hy335
 replace H := oBm H
 obtain ⟨⟨t338, t339, t340⟩, A30, H⟩ := H
 replace H : (spec_DrawMargin.l0 k y335 t338 t331 t339 t340) = some r := H
 have A3 := aMk A30
 clear A30
 have H' := aMk H
 clear H
 go_enter Try.func26, Try.ntmps26
 go_wp2_with (first | ((with_reducible refine gate_callee (f := 67) rfl ?_); refine goesL_ (some 7) rfl rfl Try.func67 (by kernel_rfl) rfl #[.slice A0 l0.length c0] rfl (by (try simp only [List.map_toArray, List.map_cons, List.map_nil]); first | done | rfl | (simp only [List.length_drop, List.length_take]; rfl)) ?_; (with_reducible refine (spec_l1New.calls k _ _ l0 t331 t332 t333 w _ ?side1 ?side2 ?side3 A2.out).mono ?_); (case side1 => repeat (first | (with_reducible first | exact HB.out | apply bAl | apply bDn | apply bD1) | exact HB.out)); (case side2 => exact HR0.out); (case side3 => exact HC0.out); rintro e w4 ⟨g334, rfl, hi, hb, hb2⟩; refine ⟨_, rfl, ?_⟩; have n0_ := aMk (hb); have n1_ := aMk (hi); clear HB; have HB := n0_; have HI334 := n1_; clear n0_ n1_; (try clear hb); (try clear hb2); (try clear hk); (try clear hi)) | ((with_reducible refine gate_dst (N := 8) rfl ?_); refine Kd.R_lit (Kd.int .i64) _ 3 ?hg (N := 8) ?hd (xs := ([] : List Int)) (inner := []) (ok := fun _ => True) (okp := fun _ => True) ?hr ?hp (fun _ hk => hk) trivial (Below.refl _ _) (Nat.le_refl _) (by simp) ?_; (case hd => rfl); (case hg => rfl); (case hr => first | (go_simp; done) | (go_simp; rfl)); (case hp => exact (Reps.none _ _)); intro v336 w5 ho6 hb hg_ hnew_; clear hg_ hnew_; (first | rw [← Ny335.out] at ho6 | (simp only [Int.reduceToNat] at ho6; rw [← Ny335.out] at ho6)); have n0_ := aMk (Kd.R_lower ho6 (below_size (by repeat (first | (with_reducible first | exact HB.out | apply bAl | apply bDn | apply bD1 | refine bSe ?_ (IsS133.ge HI334.out)) | exact HB.out)))); have n1_ := aMk (IsS133.below (by repeat (first | (with_reducible first | exact HI334.out | apply IsS133.alloc | apply IsS133.drewN | apply IsS133.drew | apply IsS133.set_1 | apply IsS133.set_2) | exact HI334.out)) hb); have n2_ := aMk (below_step (by repeat (first | (with_reducible first | exact HB.out | apply bAl | apply bDn | apply bD1 | refine bSe ?_ (IsS133.ge HI334.out)) | exact HB.out)) hb); clear HI334; clear HB; have HO337 := n0_; have HI334 := n1_; have HB := n2_; clear n0_ n1_ n2_; clear hb ho6) | ((with_reducible refine gate_callee (f := 69) rfl ?_); refine goesL_ (some 10) rfl rfl Try.func69 (by kernel_rfl) rfl #[.pointer (some ⟨g334, 0, none⟩), .int .i64 8] rfl (by (try simp only [List.map_toArray, List.map_cons, List.map_nil]); first | done | rfl | (simp only [List.length_drop, List.length_take]; rfl)) ?_; (with_reducible refine (spec_l1Below.calls g334 t331 t332 t333 8 t338 t339 t340 w _ ?side1 ?side2 A3.out).mono ?_); (case side1 => repeat (first | (with_reducible first | exact HI334.out | apply IsS133.alloc | apply IsS133.drewN | apply IsS133.drew | apply IsS133.set_1 | apply IsS133.set_2) | exact HI334.out)); (case side2 => repeat (first | (with_reducible first | exact HB.out | apply bAl | apply bDn | apply bD1 | refine bSe ?_ (IsS133.ge HI334.out)) | exact HB.out)); rintro e w7 ⟨rfl, hi, hb, hk⟩; refine ⟨_, rfl, ?_⟩; have n0_ := aMk (Kd.R_mono (Kd.R_keep (IsS133.apart (show IsS133 w _ g334 t331 t332 t333 from by repeat (first | (with_reducible first | exact HI334.out | apply IsS133.alloc | apply IsS133.drewN | apply IsS133.drew | apply IsS133.set_1 | apply IsS133.set_2) | exact HI334.out)) (by (with_reducible repeat (first | apply Kd.R_alloc | apply Kd.R_drewN | apply Kd.R_drew)); exact HO337.out) (by decide)) hk (fun _ h => h.2)) (fun _ h => h.1)); have n1_ := aMk (hb); have n2_ := aMk (hi); clear HO337; clear HB; clear HI334; have HO337 := n0_; have HB := n1_; have HI334 := n2_; clear n0_ n1_ n2_; (try clear hb); (try clear hb2); (try clear hk); (try clear hi)))
 go_loopg [4, 5] k (fun kq v4 v5 w' => ∃ (x4_1 : List Int) (x5_1 : Int) (x335001_1 : Int) (x335002_1 : Int), v5 = .int .i64 x5_1 ∧ Aside0 (spec_DrawMargin.l0 kq x4_1 x5_1 t331 x335001_1 x335002_1 = some r) ∧ Aside0 (kq ≤ k) ∧ Aside0 (Kd.R (Kd.int .i64) 3 w' w.heap.size (fun _ => True) v4 x4_1) ∧ Aside0 (IsS133 w w' g334 t331 x335001_1 x335002_1) ∧ Aside0 (Below w.heap.size w w'))
 case atStart => exact ⟨(y335), (t338), (t339), (t340), (by first | rfl | (simp; done) | (simp [*]; done)), H', ⟨Nat.le_refl _⟩, ⟨by (with_reducible repeat (first | apply Kd.R_alloc | apply Kd.R_drewN | apply Kd.R_drew)); exact HO337.out⟩, ⟨by repeat (first | (with_reducible first | exact HI334.out | apply IsS133.alloc | apply IsS133.drewN | apply IsS133.drew | apply IsS133.set_1 | apply IsS133.set_2) | exact HI334.out)⟩, ⟨by repeat (first | (with_reducible first | exact HB.out | apply bAl | apply bDn | apply bD1 | refine bSe ?_ (IsS133.ge HI334.out)) | exact HB.out)⟩⟩
 case round =>
  clear H'
  try clear c2
  try clear p2
  try clear c6
  obtain ⟨x4_1, x5_1, x335001_1, x335002_1, rfl, HA, HK1, HO_4, HI334, HB⟩ := hrel
  cases gk with
  | zero => exact absurd HA.out (by simp [spec_DrawMargin.l0])
  | succ k1 =>
   have H := HA.out
   clear HA
   simp only [spec_DrawMargin.l0] at H
   by_cases c8 : x5_1 > 0
   · rw [if_pos c8] at H
     have c8b0 : decide (0 < x5_1) = true := decide_eq_true c8
     clear c8
     replace H := oBm H
     obtain ⟨⟨t341, t342, t343⟩, A90, H⟩ := H
     replace H : (if x4_1.length < 17592186044416 then (spec_DrawMargin.l0 k1 (x4_1 ++ [wrap64 (t341 - 40)]) (wrap64 (x5_1 - 1)) t331 t342 t343) else (none)) = some r := H
     have A9 := aMk A90
     clear A90
     by_cases c10 : x4_1.length < 17592186044416
     · rw [if_pos c10] at H
       have LMc10 := aMk c10
       clear c10
       obtain ⟨y344, hy344⟩ : ∃ y_ : List Int, y_ = (x4_1 ++ [wrap64 (t341 - 40)]) := ⟨_, rfl⟩
       replace H : (spec_DrawMargin.l0 k1 y344 (wrap64 (x5_1 - 1)) t331 t342 t343) = some r := by first | (rw [hy344]; with_reducible exact H) | (have H2_ := (Option.bind_some _ _).symm.trans H; rw [hy344]; with_reducible exact H2_) | (have H2_ := (Option.bind_some _ _).symm.trans H; with_reducible exact H2_) | with_reducible exact H | (rw [hy344]; exact H) | exact H
       have Ny344 := aMk hy344
       clear hy344
       have H' := aMk H
       clear H
       go_wp2_with (first | ((with_reducible refine gate_callee (f := 69) rfl ?_); refine goesL_ (some 17) rfl rfl Try.func69 (by kernel_rfl) rfl #[.pointer (some ⟨g334, 0, none⟩), .int .i64 100] rfl (by (try simp only [List.map_toArray, List.map_cons, List.map_nil]); first | done | rfl | (simp only [List.length_drop, List.length_take]; rfl)) ?_; (with_reducible refine (spec_l1Below.calls g334 t331 x335001_1 x335002_1 100 t341 t342 t343 w _ ?side1 ?side2 A9.out).mono ?_); (case side1 => repeat (first | (with_reducible first | exact HI334.out | apply IsS133.alloc | apply IsS133.drewN | apply IsS133.drew | apply IsS133.set_1 | apply IsS133.set_2) | exact HI334.out)); (case side2 => repeat (first | (with_reducible first | exact HB.out | apply bAl | apply bDn | apply bD1 | refine bSe ?_ (IsS133.ge HI334.out)) | exact HB.out)); rintro e w11 ⟨rfl, hi, hb, hk⟩; refine ⟨_, rfl, ?_⟩; have n0_ := aMk (Kd.R_mono (Kd.R_keep (IsS133.apart (show IsS133 w _ g334 t331 x335001_1 x335002_1 from by repeat (first | (with_reducible first | exact HI334.out | apply IsS133.alloc | apply IsS133.drewN | apply IsS133.drew | apply IsS133.set_1 | apply IsS133.set_2) | exact HI334.out)) (by (with_reducible repeat (first | apply Kd.R_alloc | apply Kd.R_drewN | apply Kd.R_drew)); exact HO_4.out) (by decide)) hk (fun _ h => h.2)) (fun _ h => h.1)); have n1_ := aMk (hb); have n2_ := aMk (hi); clear HO_4; clear HB; clear HI334; have HO_4 := n0_; have HB := n1_; have HI334 := n2_; clear n0_ n1_ n2_; (try clear hb); (try clear hb2); (try clear hk); (try clear hi)) | ((with_reducible refine gate_builtin (b := .append) (xs := #[.tmp 15, .tmp 19]) rfl ?_); at_builtin; refine Kd.R_append (Kd.int .i64) (w0 := w) w.heap.size rfl (.tmp 15) (.tmp 19) 22 3 (.int .i64 0) 8 rfl Try.underlying22 info3 rfl (by decide) (by omega) u4 x4_1 (wrap64 (t341 - 40)) [.int .i64 (wrap64 (t341 - 40))] (fun _ => True) (fun _ => False) rfl rfl ?aP (fun _ hk => hk.elim) ?aF ?aO ?aB ?aS ?aL ?_; (case aP => exact rfl); (case aB => exact (by repeat (first | (with_reducible first | exact HB.out | apply bAl | apply bDn | apply bD1 | refine bSe ?_ (IsS133.ge HI334.out)) | exact HB.out))); (case aF => exact (fun _ _ => trivial)); (case aO => exact (by (with_reducible repeat (first | apply Kd.R_alloc | apply Kd.R_drewN | apply Kd.R_drew)); exact HO_4.out)); (case aS => exact (below_size (by repeat (first | (with_reducible first | exact HB.out | apply bAl | apply bDn | apply bD1 | refine bSe ?_ (IsS133.ge HI334.out)) | exact HB.out)))); (case aL => have := LMc10.out; omega); intro v345 w12 ho hb hg hat; rw [← Ny344.out] at ho; have n0_ := aMk (IsS133.grown (IsS133.like HI334.out (by repeat (first | (with_reducible first | exact HI334.out | apply IsS133.alloc | apply IsS133.drewN | apply IsS133.drew | apply IsS133.set_1 | apply IsS133.set_2) | exact HI334.out))) hg (IsS133.own_ne HI334.out HO_4.out (by decide))); have n1_ := aMk (hb); have n2_ := aMk (ho); clear HI334; clear HB; clear HO_4; have HI334 := n0_; have HB := n1_; have HO346 := n2_; clear n0_ n1_ n2_; clear ho hb hg hat))
       go_roundg k1
       case measure => have := HK1.out; omega
       case rel => exact ⟨(y344), (wrap64 (x5_1 - 1)), (t342), (t343), (by first | rfl | (simp; done) | (simp [*]; done)), H', ⟨by have := HK1.out; omega⟩, ⟨by (with_reducible repeat (first | apply Kd.R_alloc | apply Kd.R_drewN | apply Kd.R_drew)); exact HO346.out⟩, ⟨by repeat (first | (with_reducible first | exact HI334.out | apply IsS133.alloc | apply IsS133.drewN | apply IsS133.drew | apply IsS133.set_1 | apply IsS133.set_2) | exact HI334.out)⟩, ⟨by repeat (first | (with_reducible first | exact HB.out | apply bAl | apply bDn | apply bD1 | refine bSe ?_ (IsS133.ge HI334.out)) | exact HB.out)⟩⟩
     · rw [if_neg c10] at H
       exact absurd H (by simp)
   · rw [if_neg c8] at H
     have c8b0 : decide (0 < x5_1) = false := decide_eq_false c8
     clear c8
     obtain rfl := Option.some.inj H
     go_wp2
     go_ret
     exact ⟨_, by first | rfl | (simp [errW_none, errW_some] <;> rfl) | (simp [*, errW_none, errW_some] <;> rfl), by (with_reducible repeat (first | apply Kd.R_alloc | apply Kd.R_drewN | apply Kd.R_drew)); exact HO_4.out, by repeat (first | (with_reducible first | exact HB.out | apply bAl | apply bDn | apply bD1 | refine bSe ?_ (IsS133.ge HI334.out)) | exact HB.out)⟩

/-! ### impl_Margin: function 27 -/
def impl_Margin.l0 : Nat → Int → Int → List Int → Int → Int → Option (Int)
 | 0, _, _, _, _, _ => none
 | k + 1, x3, x4, x7, x8, x9 => if x9 < x8 then (if 0 ≤ x9 then (if x9 < (x7.length : Int) then (impl_Margin.l0 k (mx x3 (rd x7 x9)) (mn x4 (rd x7 x9)) x7 x8 (wrap64 (x9 + 1))) else (none)) else (none)) else (some (wrap64 (x3 + x4)))
def impl_Margin.f (k : Nat) (l0 : List Int) : Option (Int) := impl_Margin.l0 k 0 0 l0 (l0.length : Int) 0
theorem impl_Margin.mono_l : ∀ k, (∀ y0 y1 y2 y3 y4, LeO (impl_Margin.l0 k y0 y1 y2 y3 y4) (impl_Margin.l0 (k + 1) y0 y1 y2 y3 y4))
 | 0 => fun _ _ _ _ _ r h => by simp [impl_Margin.l0] at h
 | k + 1 => by
  have ih0 := impl_Margin.mono_l k
  · intro y0 y1 y2 y3 y4
    unfold impl_Margin.l0
    repeat' first
    | (with_reducible exact ih0 _ _ _ _ _)
    | (with_reducible exact LeO.refl _)
    | (with_reducible exact LeO.none _)
    | (with_reducible refine LeO.ite ?_ ?_)
    | (with_reducible refine LeO.bind ?_ (fun _ => ?_))
    | exact ih0 _ _ _ _ _
    | exact LeO.none _
    | refine LeO.ite ?_ ?_
    | refine LeO.bind ?_ (fun _ => ?_)
theorem impl_Margin.mono : ∀ a0 k, LeO (impl_Margin.f k a0) (impl_Margin.f (k + 1) a0) := by
 intro a0 k
 have ih0 := impl_Margin.mono_l k
 unfold impl_Margin.f
 repeat' first
  | (with_reducible exact ih0 _ _ _ _ _)
  | (with_reducible exact LeO.refl _)
  | (with_reducible exact LeO.none _)
  | (with_reducible refine LeO.ite ?_ ?_)
  | (with_reducible refine LeO.bind ?_ (fun _ => ?_))
  | exact ih0 _ _ _ _ _
  | exact LeO.none _
  | refine LeO.ite ?_ ?_
  | refine LeO.bind ?_ (fun _ => ?_)
set_option maxHeartbeats 8000000 in
set_option maxRecDepth 100000 in
theorem impl_Margin.calls (k : Nat) (A0 : Option Addr) (c0 : Nat) (l0 : List Int) (r : Int) (w : World) (hr0 : Kd.C (Kd.int .i64) w A0 l0.length l0) (hc0 : l0.length ≤ c0) (h : impl_Margin.f k l0 = some r) :
 Calls Try.prog 27 #[.slice A0 l0.length c0] w fun e w' => e = .returned (.int .i64 r) ∧ Below w.heap.size w w' := by
 have HR0 := aMk hr0
 have HC0 := aMk hc0
 clear hr0 hc0
 have HB := aMk (Below.refl w.heap.size w)
 have H : (impl_Margin.l0 k 0 0 l0 (l0.length : Int) 0) = some r := h
 clear h
 have H' := aMk H
 clear H
 go_enter Try.func27, Try.ntmps27
 go_wp2
 go_loopg [3, 4, 9] k (fun kq v3 v4 v9 w' => ∃ (x3_1 : Int) (x4_1 : Int) (x9_1 : Int), v3 = .int .i64 x3_1 ∧ v4 = .int .i64 x4_1 ∧ v9 = .int .i64 x9_1 ∧ Aside0 (impl_Margin.l0 kq x3_1 x4_1 l0 (l0.length : Int) x9_1 = some r) ∧ Aside0 (kq ≤ k) ∧ Aside0 (Below w.heap.size w w'))
 case atStart => exact ⟨(0), (0), (0), (by first | rfl | (simp; done) | (simp [*]; done)), (by first | rfl | (simp; done) | (simp [*]; done)), (by first | rfl | (simp; done) | (simp [*]; done)), H', ⟨Nat.le_refl _⟩, ⟨by repeat (first | (with_reducible first | exact HB.out | apply bAl | apply bDn | apply bD1) | exact HB.out)⟩⟩
 case round =>
  clear H'
  obtain ⟨x3_1, x4_1, x9_1, rfl, rfl, rfl, HA, HK1, HB⟩ := hrel
  cases gk with
  | zero => exact absurd HA.out (by simp [impl_Margin.l0])
  | succ k1 =>
   have H := HA.out
   clear HA
   simp only [impl_Margin.l0] at H
   by_cases c2 : x9_1 < (l0.length : Int)
   · rw [if_pos c2] at H
     have c2b0 : decide (x9_1 < (l0.length : Int)) = true := decide_eq_true c2
     clear c2
     by_cases c3 : 0 ≤ x9_1
     · rw [if_pos c3] at H
       have c3b0 : decide (0 ≤ x9_1) = true := decide_eq_true c3
       clear c3
       by_cases c4 : x9_1 < (l0.length : Int)
       · rw [if_pos c4] at H
         have c4b0 : decide (x9_1 < (l0.length : Int)) = true := decide_eq_true c4
         clear c4
         obtain ⟨ji5, hji5⟩ : ∃ j_ : Int, (mx x3_1 (rd l0 x9_1)) = j_ := ⟨_, rfl⟩
         replace H : (impl_Margin.l0 k1 ji5 (mn x4_1 (rd l0 x9_1)) l0 (l0.length : Int) (wrap64 (x9_1 + 1))) = some r := by first | (rw [hji5] at H; exact H) | (simp only [hji5] at H ⊢; exact H)
         have hji5_ : (if x3_1 < (rd l0 x9_1) then (rd l0 x9_1) else x3_1) = ji5 := hji5
         obtain ⟨ji6, hji6⟩ : ∃ j_ : Int, (mn x4_1 (rd l0 x9_1)) = j_ := ⟨_, rfl⟩
         replace H : (impl_Margin.l0 k1 ji5 ji6 l0 (l0.length : Int) (wrap64 (x9_1 + 1))) = some r := by first | (rw [hji6] at H; exact H) | (simp only [hji6] at H ⊢; exact H)
         have hji6_ : (if (rd l0 x9_1) < x4_1 then (rd l0 x9_1) else x4_1) = ji6 := hji6
         have H' := aMk H
         clear H
         have p347 : 0 ≤ (x9_1 : Int) := oDt (by first | (with_reducible assumption) | assumption)
         have q347 : x9_1 < (l0.length : Int) := oDt (by first | (with_reducible assumption) | assumption)
         obtain ⟨ad347, e347, hx347_0⟩ := Kd.at_int HR0.out x9_1 p347 q347
         cases e347
         replace hx347_0 := (HB.out.cell (wBl w _ hx347_0)).trans hx347_0
         replace p347 := eq_true p347
         replace q347 := eq_true q347
         go_wp2
         go_roundg k1
         case measure => have := HK1.out; omega
         case rel => exact ⟨(ji5), (ji6), (wrap64 (x9_1 + 1)), (by first | rfl | (simp; done) | (simp only [← hji5] <;> (first | rfl | simp)) | (simp [*]; done)), (by first | rfl | (simp; done) | (simp only [← hji6] <;> (first | rfl | simp)) | (simp [*]; done)), (by first | rfl | (simp; done) | (simp [*]; done)), H', ⟨by have := HK1.out; omega⟩, ⟨by repeat (first | (with_reducible first | exact HB.out | apply bAl | apply bDn | apply bD1) | exact HB.out)⟩⟩
       · rw [if_neg c4] at H
         exact absurd H (by simp)
     · rw [if_neg c3] at H
       exact absurd H (by simp)
   · rw [if_neg c2] at H
     have c2b0 : decide (x9_1 < (l0.length : Int)) = false := decide_eq_false c2
     clear c2
     obtain rfl := Option.some.inj H
     go_wp2
     go_ret
     exact ⟨by first | rfl | (simp [errW_none, errW_some] <;> rfl) | (simp [*, errW_none, errW_some] <;> rfl), by repeat (first | (with_reducible first | exact HB.out | apply bAl | apply bDn | apply bD1) | exact HB.out)⟩

end Go.Proofs.Ytppjmcfcacgbdaa.MFnFloats
