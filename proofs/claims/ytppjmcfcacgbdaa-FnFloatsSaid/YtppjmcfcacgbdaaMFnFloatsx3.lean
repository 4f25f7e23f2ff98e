-- Written by this session's own program (wip/gen/myprint.py).
import Derived.Test.YtppjmcfcacgbdaaMFnFloatsx0
import Derived.Test.YtppjmcfcacgbdaaMFnFloatsx2
namespace Go.Proofs.Ytppjmcfcacgbdaa.MFnFloats
open Go.RowKit Go.Proofs.YtppjmcfcacgbdaaW.PrintWords Go.Proofs.YtppjmcfcacgbdaaW.PrintLast Go.Proofs.YtppjmcfcacgbdaaW.PrintMore
attribute [local go_sem] max2_int min2_int max_two min_two max_three min_three max_four min_four   -- for this text's walks alone
set_option linter.unusedVariables false
set_option linter.unusedSimpArgs false

/-! ### spec_l17Room: function 76 -/
mutual
def spec_l17Room.l0 : Nat → List (S38) → Int → Int → Int → Int → Int → Option (Int × Int)
 | 0, _, _, _, _, _, _ => none
 | k + 1, x0, x1, x2, x3, x4, x12 => if x12 < (x0.length : Int) then (if 0 ≤ x12 then ((spec_l17Reaches.f k ((rd_T38 x0 x12).f0.f0) ((rd_T38 x0 x12).f0.f1) ((rd_T38 x0 x12).f0.f2) ((rd_T38 x0 x12).f0.f3) x3 x4).bind fun t130 => (if t130 = true then (if (rd_T38 x0 x12).f1 = true then (spec_l17Room.j1 k x0 x1 x2 x3 x4 x12 (decide (((rd_T38 x0 x12).f0.f0) < x2)) ((rd_T38 x0 x12).f0.f0) ((rd_T38 x0 x12).f0.f1) ((rd_T38 x0 x12).f0.f2) ((rd_T38 x0 x12).f0.f3)) else (spec_l17Room.j1 k x0 x1 x2 x3 x4 x12 false ((rd_T38 x0 x12).f0.f0) ((rd_T38 x0 x12).f0.f1) ((rd_T38 x0 x12).f0.f2) ((rd_T38 x0 x12).f0.f3))) else (spec_l17Room.j1 k x0 x1 x2 x3 x4 x12 false ((rd_T38 x0 x12).f0.f0) ((rd_T38 x0 x12).f0.f1) ((rd_T38 x0 x12).f0.f2) ((rd_T38 x0 x12).f0.f3)))) else (none)) else (some (x1, x2))
def spec_l17Room.j1 : Nat → List (S38) → Int → Int → Int → Int → Int → Bool → Int → Int → Int → Int → Option (Int × Int)
 | 0, _, _, _, _, _, _, _, _, _, _, _ => none
 | k + 1, x0, x1, x2, x3, x4, x12, x41, x130000, x130001, x130002, x130003 => if x41 = true then ((spec_l17Reaches.f k x130000 x130001 x130002 x130003 x3 x4).bind fun t132 => (if t132 = true then (if 0 ≤ x12 then (if x12 < (x0.length : Int) then (if (rd_T38 x0 x12).f1 = true then (spec_l17Room.l0 k x0 x1 x130000 x3 x4 (wrap64 (x12 + 1))) else (if (wrap64 (x130000 + x130002)) > x1 then (spec_l17Room.l0 k x0 (wrap64 (x130000 + x130002)) x130000 x3 x4 (wrap64 (x12 + 1))) else (spec_l17Room.l0 k x0 x1 x130000 x3 x4 (wrap64 (x12 + 1))))) else (none)) else (none)) else (spec_l17Room.l0 k x0 x1 x130000 x3 x4 (wrap64 (x12 + 1))))) else ((spec_l17Reaches.f k x130000 x130001 x130002 x130003 x3 x4).bind fun t134 => (if t134 = true then (if 0 ≤ x12 then (if x12 < (x0.length : Int) then (if (rd_T38 x0 x12).f1 = true then (spec_l17Room.l0 k x0 x1 x2 x3 x4 (wrap64 (x12 + 1))) else (if (wrap64 (x130000 + x130002)) > x1 then (spec_l17Room.l0 k x0 (wrap64 (x130000 + x130002)) x2 x3 x4 (wrap64 (x12 + 1))) else (spec_l17Room.l0 k x0 x1 x2 x3 x4 (wrap64 (x12 + 1))))) else (none)) else (none)) else (spec_l17Room.l0 k x0 x1 x2 x3 x4 (wrap64 (x12 + 1)))))
end
def spec_l17Room.f (k : Nat) (l0 : List (S38)) (a1 : Int) (a2 : Int) (a3 : Int) (a4 : Int) : Option (Int × Int) := spec_l17Room.l0 k l0 a1 a2 a3 a4 0
theorem spec_l17Room.mono_l : ∀ k, (∀ y0 y1 y2 y3 y4 y5, LeO (spec_l17Room.l0 k y0 y1 y2 y3 y4 y5) (spec_l17Room.l0 (k + 1) y0 y1 y2 y3 y4 y5)) ∧ (∀ y0 y1 y2 y3 y4 y5 y6 y7 y8 y9 y10, LeO (spec_l17Room.j1 k y0 y1 y2 y3 y4 y5 y6 y7 y8 y9 y10) (spec_l17Room.j1 (k + 1) y0 y1 y2 y3 y4 y5 y6 y7 y8 y9 y10))
 | 0 => ⟨fun _ _ _ _ _ _ r h => by simp [spec_l17Room.l0] at h, fun _ _ _ _ _ _ _ _ _ _ _ r h => by simp [spec_l17Room.j1] at h⟩
 | k + 1 => by
  obtain ⟨ih0, ih1⟩ := spec_l17Room.mono_l k
  refine ⟨?_, ?_⟩
  · intro y0 y1 y2 y3 y4 y5
    unfold spec_l17Room.l0
    repeat' first
    | (with_reducible exact ih0 _ _ _ _ _ _)
    | (with_reducible exact ih1 _ _ _ _ _ _ _ _ _ _ _)
    | (with_reducible exact spec_l17Reaches.mono _ _ _ _ _ _ _)
    | (with_reducible exact LeO.refl _)
    | (with_reducible exact LeO.none _)
    | (with_reducible refine LeO.ite ?_ ?_)
    | (with_reducible refine LeO.bind ?_ (fun _ => ?_))
    | exact ih0 _ _ _ _ _ _
    | exact ih1 _ _ _ _ _ _ _ _ _ _ _
    | exact spec_l17Reaches.mono _ _ _ _ _ _ _
    | exact LeO.none _
    | refine LeO.ite ?_ ?_
    | refine LeO.bind ?_ (fun _ => ?_)
  · intro y0 y1 y2 y3 y4 y5 y6 y7 y8 y9 y10
    unfold spec_l17Room.j1
    repeat' first
    | (with_reducible exact ih0 _ _ _ _ _ _)
    | (with_reducible exact ih1 _ _ _ _ _ _ _ _ _ _ _)
    | (with_reducible exact spec_l17Reaches.mono _ _ _ _ _ _ _)
    | (with_reducible exact LeO.refl _)
    | (with_reducible exact LeO.none _)
    | (with_reducible refine LeO.ite ?_ ?_)
    | (with_reducible refine LeO.bind ?_ (fun _ => ?_))
    | exact ih0 _ _ _ _ _ _
    | exact ih1 _ _ _ _ _ _ _ _ _ _ _
    | exact spec_l17Reaches.mono _ _ _ _ _ _ _
    | exact LeO.none _
    | refine LeO.ite ?_ ?_
    | refine LeO.bind ?_ (fun _ => ?_)
theorem spec_l17Room.mono : ∀ a0 a1 a2 a3 a4 k, LeO (spec_l17Room.f k a0 a1 a2 a3 a4) (spec_l17Room.f (k + 1) a0 a1 a2 a3 a4) := by
 intro a0 a1 a2 a3 a4 k
 obtain ⟨ih0, ih1⟩ := spec_l17Room.mono_l k
 unfold spec_l17Room.f
 repeat' first
  | (with_reducible exact ih0 _ _ _ _ _ _)
  | (with_reducible exact ih1 _ _ _ _ _ _ _ _ _ _ _)
  | (with_reducible exact spec_l17Reaches.mono _ _ _ _ _ _ _)
  | (with_reducible exact LeO.refl _)
  | (with_reducible exact LeO.none _)
  | (with_reducible refine LeO.ite ?_ ?_)
  | (with_reducible refine LeO.bind ?_ (fun _ => ?_))
  | exact ih0 _ _ _ _ _ _
  | exact ih1 _ _ _ _ _ _ _ _ _ _ _
  | exact spec_l17Reaches.mono _ _ _ _ _ _ _
  | exact LeO.none _
  | refine LeO.ite ?_ ?_
  | refine LeO.bind ?_ (fun _ => ?_)
set_option maxHeartbeats 8000000 in
set_option maxRecDepth 100000 in
theorem spec_l17Room.calls (k : Nat) (A0 : Option Addr) (c0 : Nat) (l0 : List (S38)) (a1 : Int) (a2 : Int) (a3 : Int) (a4 : Int) (r1 : Int) (r2 : Int) (w : World) (hr0 : Kd.C k38 w A0 l0.length l0) (hc0 : l0.length ≤ c0) (h : spec_l17Room.f k l0 a1 a2 a3 a4 = some (r1, r2)) :
 Calls Try.prog 76 #[.slice A0 l0.length c0, .int .i64 a1, .int .i64 a2, .int .i64 a3, .int .i64 a4] w fun e w' => e = .returned (.tuple #[.int .i64 r1, .int .i64 r2]) ∧ Below w.heap.size w w' := by
 have hu34 := Try.underlying34
 have HR0 := aMk hr0
 have HC0 := aMk hc0
 clear hr0 hc0
 have HB := aMk (Below.refl w.heap.size w)
 have H : (spec_l17Room.l0 k l0 a1 a2 a3 a4 0) = some (r1, r2) := h
 clear h
 have H' := aMk H
 clear H
 go_enter Try.func76, Try.ntmps76
 go_wp2
 go_loopg [1, 2, 12] k (fun kq v1 v2 v12 w' => ∃ (x1_1 : Int) (x2_1 : Int) (x12_1 : Int), v1 = .int .i64 x1_1 ∧ v2 = .int .i64 x2_1 ∧ v12 = .int .i64 x12_1 ∧ Aside0 (spec_l17Room.l0 kq l0 x1_1 x2_1 a3 a4 x12_1 = some (r1, r2)) ∧ Aside0 (kq ≤ k) ∧ Aside0 (Below w.heap.size w w'))
 case atStart => exact ⟨(a1), (a2), (0), (by first | rfl | (simp; done) | (simp [*]; done)), (by first | rfl | (simp; done) | (simp [*]; done)), (by first | rfl | (simp; done) | (simp [*]; done)), H', ⟨Nat.le_refl _⟩, ⟨by repeat (first | (with_reducible first | exact HB.out | apply bAl | apply bDn | apply bD1) | exact HB.out)⟩⟩
 case round =>
  clear H'
  try clear p2
  obtain ⟨x1_1, x2_1, x12_1, rfl, rfl, rfl, HA, HK1, HB⟩ := hrel
  cases gk with
  | zero => exact absurd HA.out (by simp [spec_l17Room.l0])
  | succ k1 =>
   have H := HA.out
   clear HA
   simp only [spec_l17Room.l0] at H
   by_cases c6 : x12_1 < (l0.length : Int)
   · rw [if_pos c6] at H
     have c6b0 : decide (x12_1 < (l0.length : Int)) = true := decide_eq_true c6
     clear c6
     by_cases c7 : 0 ≤ x12_1
     · rw [if_pos c7] at H
       have c7b0 : decide (0 ≤ x12_1) = true := decide_eq_true c7
       clear c7
       have HC8 := aMk H
       clear H
       have p128 : 0 ≤ (x12_1 : Int) := oDt (by first | (with_reducible assumption) | assumption)
       have q128 : x12_1 < (l0.length : Int) := oDt (by first | (with_reducible assumption) | assumption)
       obtain ⟨ad128, e128, hx128_0, hx128_1, hx128_2, hx128_3, hx128_4⟩ := at_T38 HR0.out x12_1 p128 q128
       cases e128
       replace hx128_0 := (HB.out.cell (wBl w _ hx128_0)).trans hx128_0
       replace hx128_1 := (HB.out.cell (wBl w _ hx128_1)).trans hx128_1
       replace hx128_2 := (HB.out.cell (wBl w _ hx128_2)).trans hx128_2
       replace hx128_3 := (HB.out.cell (wBl w _ hx128_3)).trans hx128_3
       replace hx128_4 := (HB.out.cell (wBl w _ hx128_4)).trans hx128_4
       replace p128 := eq_true p128
       replace q128 := eq_true q128
       go_upto_region 5 with (first | ((with_reducible refine gate_dst (N := 13) rfl ?_); refine box_event ?hg (N := 13) ?hd (cs := #[.int .i64 0, .int .i64 0, .int .i64 0, .int .i64 0]) (t := 34) ?hr ?_; (case hd => rfl); (case hg => rfl); (case hr => first | (go_simp; done) | (go_simp; rfl)); intro gb129 hg w9 hbox hb; have n0_ := aMk (below_step (by repeat (first | (with_reducible first | exact HB.out | apply bAl | apply bDn | apply bD1) | exact HB.out)) hb); have n1_ := aMk (hbox); have n2_ := aMk ((by rw [hg]; exact (below_size (by repeat (first | (with_reducible first | exact HB.out | apply bAl | apply bDn | apply bD1) | exact HB.out))) : w.heap.size ≤ gb129)); have n3_ := aMk ((by rw [hg]; exact (below_size (by repeat (first | (with_reducible first | exact HB.out | apply bAl | apply bDn | apply bD1) | exact HB.out))) : w.heap.size ≤ gb129)); clear HB; have HB := n0_; have BK129 := n1_; have GW129 := n2_; have GE129 := n3_; clear n0_ n1_ n2_ n3_; clear hb hbox hg; have hcz10_0 : w9.cell? ⟨gb129, 0, none⟩ = some (.int .i64 0) := (bCe BK129.out 0).trans rfl; have hcz10_1 : w9.cell? ⟨gb129, 1, none⟩ = some (.int .i64 0) := (bCe BK129.out 1).trans rfl; have hcz10_2 : w9.cell? ⟨gb129, 2, none⟩ = some (.int .i64 0) := (bCe BK129.out 2).trans rfl; have hcz10_3 : w9.cell? ⟨gb129, 3, none⟩ = some (.int .i64 0) := (bCe BK129.out 3).trans rfl; have hfz10_0 := bFr BK129.out 0; have hfz10_1 := bFr BK129.out 1; have hfz10_2 := bFr BK129.out 2; have hfz10_3 := bFr BK129.out 3))
       (try simp only [Act.put, lSa, lSz, lSs])
       go_cut [41] (fun v41 wc => ∃ (kq : Nat) (x41_7 : Bool), v41 = .bool x41_7 ∧ Aside0 (spec_l17Room.j1 kq l0 x1_1 x2_1 a3 a4 x12_1 x41_7 ((rd_T38 l0 x12_1).f0.f0) ((rd_T38 l0 x12_1).f0.f1) ((rd_T38 l0 x12_1).f0.f2) ((rd_T38 l0 x12_1).f0.f3) = some (r1, r2)) ∧ Aside0 (kq ≤ k1) ∧ Aside0 (wc.heap[gb129]? = some (.cells #[.int .i64 ((rd_T38 l0 x12_1).f0.f0), .int .i64 ((rd_T38 l0 x12_1).f0.f1), .int .i64 ((rd_T38 l0 x12_1).f0.f2), .int .i64 ((rd_T38 l0 x12_1).f0.f3)] 34 (0, 0))) ∧ Aside0 (Below w.heap.size w wc))
       case first =>
        have H := HC8.out
        clear HC8
        replace H := oBm H
        obtain ⟨t130, A110, H⟩ := H
        replace H : (if t130 = true then (if (rd_T38 l0 x12_1).f1 = true then (spec_l17Room.j1 k1 l0 x1_1 x2_1 a3 a4 x12_1 (decide (((rd_T38 l0 x12_1).f0.f0) < x2_1)) ((rd_T38 l0 x12_1).f0.f0) ((rd_T38 l0 x12_1).f0.f1) ((rd_T38 l0 x12_1).f0.f2) ((rd_T38 l0 x12_1).f0.f3)) else (spec_l17Room.j1 k1 l0 x1_1 x2_1 a3 a4 x12_1 false ((rd_T38 l0 x12_1).f0.f0) ((rd_T38 l0 x12_1).f0.f1) ((rd_T38 l0 x12_1).f0.f2) ((rd_T38 l0 x12_1).f0.f3))) else (spec_l17Room.j1 k1 l0 x1_1 x2_1 a3 a4 x12_1 false ((rd_T38 l0 x12_1).f0.f0) ((rd_T38 l0 x12_1).f0.f1) ((rd_T38 l0 x12_1).f0.f2) ((rd_T38 l0 x12_1).f0.f3))) = some (r1, r2) := H
        have A11 := aMk A110
        clear A110
        by_cases c12 : t130 = true
        · subst c12
          have H1 : (if (rd_T38 l0 x12_1).f1 = true then (spec_l17Room.j1 k1 l0 x1_1 x2_1 a3 a4 x12_1 (decide (((rd_T38 l0 x12_1).f0.f0) < x2_1)) ((rd_T38 l0 x12_1).f0.f0) ((rd_T38 l0 x12_1).f0.f1) ((rd_T38 l0 x12_1).f0.f2) ((rd_T38 l0 x12_1).f0.f3)) else (spec_l17Room.j1 k1 l0 x1_1 x2_1 a3 a4 x12_1 false ((rd_T38 l0 x12_1).f0.f0) ((rd_T38 l0 x12_1).f0.f1) ((rd_T38 l0 x12_1).f0.f2) ((rd_T38 l0 x12_1).f0.f3))) = some (r1, r2) := by rw [if_pos rfl] at H; exact H
          clear H
          have H := H1
          clear H1
          obtain ⟨bq13, hbq13⟩ : ∃ b_ : Bool, b_ = ((rd_T38 l0 x12_1).f1) := ⟨_, rfl⟩
          replace H : (if bq13 = true then (spec_l17Room.j1 k1 l0 x1_1 x2_1 a3 a4 x12_1 (decide (((rd_T38 l0 x12_1).f0.f0) < x2_1)) ((rd_T38 l0 x12_1).f0.f0) ((rd_T38 l0 x12_1).f0.f1) ((rd_T38 l0 x12_1).f0.f2) ((rd_T38 l0 x12_1).f0.f3)) else (spec_l17Room.j1 k1 l0 x1_1 x2_1 a3 a4 x12_1 false ((rd_T38 l0 x12_1).f0.f0) ((rd_T38 l0 x12_1).f0.f1) ((rd_T38 l0 x12_1).f0.f2) ((rd_T38 l0 x12_1).f0.f3))) = some (r1, r2) := by rw [← hbq13] at H; exact H
          have Nbq13 := aMk hbq13
          clear hbq13
          (try rw [← Nbq13.out])
          by_cases c14 : bq13 = true
          · subst c14
            have H1 : (spec_l17Room.j1 k1 l0 x1_1 x2_1 a3 a4 x12_1 (decide (((rd_T38 l0 x12_1).f0.f0) < x2_1)) ((rd_T38 l0 x12_1).f0.f0) ((rd_T38 l0 x12_1).f0.f1) ((rd_T38 l0 x12_1).f0.f2) ((rd_T38 l0 x12_1).f0.f3)) = some (r1, r2) := by rw [if_pos rfl] at H; exact H
            clear H
            have H := H1
            clear H1
            have H' := aMk H
            clear H
            have hcz15_0 : w9.cell? ⟨gb129, 0, none⟩ = some (.int .i64 0) := (bCe BK129.out 0).trans rfl
            have hcz15_1 : w9.cell? ⟨gb129, 1, none⟩ = some (.int .i64 0) := (bCe BK129.out 1).trans rfl
            have hcz15_2 : w9.cell? ⟨gb129, 2, none⟩ = some (.int .i64 0) := (bCe BK129.out 2).trans rfl
            have hcz15_3 : w9.cell? ⟨gb129, 3, none⟩ = some (.int .i64 0) := (bCe BK129.out 3).trans rfl
            have hfz15_0 := bFr BK129.out 0
            have hfz15_1 := bFr BK129.out 1
            have hfz15_2 := bFr BK129.out 2
            have hfz15_3 := bFr BK129.out 3
            go_wp2_with (first | ((with_reducible refine gate_callee (f := 123) rfl ?_); refine goesL_ (some 28) rfl rfl Try.func123 (by kernel_rfl) rfl #[.agg #[.int .i64 ((rd_T38 l0 x12_1).f0.f0), .int .i64 ((rd_T38 l0 x12_1).f0.f1), .int .i64 ((rd_T38 l0 x12_1).f0.f2), .int .i64 ((rd_T38 l0 x12_1).f0.f3)], .int .i64 a3, .int .i64 a4] rfl (by (try simp only [List.map_toArray, List.map_cons, List.map_nil]); first | done | rfl | (simp only [List.length_drop, List.length_take]; rfl)) ?_; (with_reducible refine (spec_l17Reaches.calls k1 ((rd_T38 l0 x12_1).f0.f0) ((rd_T38 l0 x12_1).f0.f1) ((rd_T38 l0 x12_1).f0.f2) ((rd_T38 l0 x12_1).f0.f3) a3 a4 true _ A11.out).mono ?_); rintro e w16 ⟨rfl, hb⟩; refine ⟨_, rfl, ?_⟩; have n0_ := aMk (blk_below (g := gb129) (o := .cells #[.int .i64 ((rd_T38 l0 x12_1).f0.f0), .int .i64 ((rd_T38 l0 x12_1).f0.f1), .int .i64 ((rd_T38 l0 x12_1).f0.f2), .int .i64 ((rd_T38 l0 x12_1).f0.f3)] 34 (0, 0)) (by (with_reducible repeat (first | refine bkD ?_ _ | refine blk_drew ?_ | refine bkA ?_ _)); refine blk_put (cs := #[.int .i64 ((rd_T38 l0 x12_1).f0.f0), .int .i64 ((rd_T38 l0 x12_1).f0.f1), .int .i64 ((rd_T38 l0 x12_1).f0.f2), .int .i64 0]) ?_ 3 _ rfl; (with_reducible repeat (first | refine bkD ?_ _ | refine blk_drew ?_ | refine bkA ?_ _)); refine blk_put (cs := #[.int .i64 ((rd_T38 l0 x12_1).f0.f0), .int .i64 ((rd_T38 l0 x12_1).f0.f1), .int .i64 0, .int .i64 0]) ?_ 2 _ rfl; (with_reducible repeat (first | refine bkD ?_ _ | refine blk_drew ?_ | refine bkA ?_ _)); refine blk_put (cs := #[.int .i64 ((rd_T38 l0 x12_1).f0.f0), .int .i64 0, .int .i64 0, .int .i64 0]) ?_ 1 _ rfl; (with_reducible repeat (first | refine bkD ?_ _ | refine blk_drew ?_ | refine bkA ?_ _)); refine blk_put (cs := #[.int .i64 0, .int .i64 0, .int .i64 0, .int .i64 0]) ?_ 0 _ rfl; (with_reducible repeat (first | refine bkD ?_ _ | refine blk_drew ?_ | refine bkA ?_ _)); exact BK129.out) hb); have n1_ := aMk (below_step (by repeat (first | (with_reducible first | exact HB.out | apply bAl | apply bDn | apply bD1 | refine bSe ?_ GE129.out) | exact HB.out)) hb); clear BK129; clear HB; have BK129 := n0_; have HB := n1_; clear n0_ n1_; (try clear hb); (try clear hb2); (try clear hk); (try clear hi); have p131 : 0 ≤ (x12_1 : Int) := oDt (by first | (with_reducible assumption) | assumption); have q131 : x12_1 < (l0.length : Int) := oDt (by first | (with_reducible assumption) | assumption); obtain ⟨ad131, e131, hx131_0, hx131_1, hx131_2, hx131_3, hx131_4⟩ := at_T38 HR0.out x12_1 p131 q131; (try rw [← Nbq13.out] at hx131_4); obtain rfl : ad128 = ad131 := (by injection e131); replace hx131_0 := (HB.out.cell (wBl w _ hx131_0)).trans hx131_0; replace hx131_1 := (HB.out.cell (wBl w _ hx131_1)).trans hx131_1; replace hx131_2 := (HB.out.cell (wBl w _ hx131_2)).trans hx131_2; replace hx131_3 := (HB.out.cell (wBl w _ hx131_3)).trans hx131_3; replace hx131_4 := (HB.out.cell (wBl w _ hx131_4)).trans hx131_4; replace p131 := eq_true p131; replace q131 := eq_true q131; have hcz17_0 : w16.cell? ⟨gb129, 0, none⟩ = some (.int .i64 ((rd_T38 l0 x12_1).f0.f0)) := (bCe BK129.out 0).trans rfl; have hcz17_1 : w16.cell? ⟨gb129, 1, none⟩ = some (.int .i64 ((rd_T38 l0 x12_1).f0.f1)) := (bCe BK129.out 1).trans rfl; have hcz17_2 : w16.cell? ⟨gb129, 2, none⟩ = some (.int .i64 ((rd_T38 l0 x12_1).f0.f2)) := (bCe BK129.out 2).trans rfl; have hcz17_3 : w16.cell? ⟨gb129, 3, none⟩ = some (.int .i64 ((rd_T38 l0 x12_1).f0.f3)) := (bCe BK129.out 3).trans rfl; have hfz17_0 := bFr BK129.out 0; have hfz17_1 := bFr BK129.out 1; have hfz17_2 := bFr BK129.out 2; have hfz17_3 := bFr BK129.out 3))
            go_meet
            case rel => exact ⟨_, (decide (((rd_T38 l0 x12_1).f0.f0) < x2_1)), (by first | rfl | (simp; done) | (simp [*]; done)), H', ⟨by have := HK1.out; first | omega | exact Nat.le_refl _⟩, ⟨by (with_reducible repeat (first | refine bkD ?_ _ | refine blk_drew ?_ | refine bkA ?_ _)); exact BK129.out⟩, ⟨by repeat (first | (with_reducible first | exact HB.out | apply bAl | apply bDn | apply bD1 | refine bSe ?_ GE129.out) | exact HB.out)⟩⟩
          · replace c14 := Bool.eq_false_iff.mpr c14
            subst c14
            have H1 : (spec_l17Room.j1 k1 l0 x1_1 x2_1 a3 a4 x12_1 false ((rd_T38 l0 x12_1).f0.f0) ((rd_T38 l0 x12_1).f0.f1) ((rd_T38 l0 x12_1).f0.f2) ((rd_T38 l0 x12_1).f0.f3)) = some (r1, r2) := by rw [if_neg (show ¬ (false = true) by decide)] at H; exact H
            clear H
            have H := H1
            clear H1
            have H' := aMk H
            clear H
            have hcz18_0 : w9.cell? ⟨gb129, 0, none⟩ = some (.int .i64 0) := (bCe BK129.out 0).trans rfl
            have hcz18_1 : w9.cell? ⟨gb129, 1, none⟩ = some (.int .i64 0) := (bCe BK129.out 1).trans rfl
            have hcz18_2 : w9.cell? ⟨gb129, 2, none⟩ = some (.int .i64 0) := (bCe BK129.out 2).trans rfl
            have hcz18_3 : w9.cell? ⟨gb129, 3, none⟩ = some (.int .i64 0) := (bCe BK129.out 3).trans rfl
            have hfz18_0 := bFr BK129.out 0
            have hfz18_1 := bFr BK129.out 1
            have hfz18_2 := bFr BK129.out 2
            have hfz18_3 := bFr BK129.out 3
            go_wp2_with (first | ((with_reducible refine gate_callee (f := 123) rfl ?_); refine goesL_ (some 28) rfl rfl Try.func123 (by kernel_rfl) rfl #[.agg #[.int .i64 ((rd_T38 l0 x12_1).f0.f0), .int .i64 ((rd_T38 l0 x12_1).f0.f1), .int .i64 ((rd_T38 l0 x12_1).f0.f2), .int .i64 ((rd_T38 l0 x12_1).f0.f3)], .int .i64 a3, .int .i64 a4] rfl (by (try simp only [List.map_toArray, List.map_cons, List.map_nil]); first | done | rfl | (simp only [List.length_drop, List.length_take]; rfl)) ?_; (with_reducible refine (spec_l17Reaches.calls k1 ((rd_T38 l0 x12_1).f0.f0) ((rd_T38 l0 x12_1).f0.f1) ((rd_T38 l0 x12_1).f0.f2) ((rd_T38 l0 x12_1).f0.f3) a3 a4 true _ A11.out).mono ?_); rintro e w19 ⟨rfl, hb⟩; refine ⟨_, rfl, ?_⟩; have n0_ := aMk (blk_below (g := gb129) (o := .cells #[.int .i64 ((rd_T38 l0 x12_1).f0.f0), .int .i64 ((rd_T38 l0 x12_1).f0.f1), .int .i64 ((rd_T38 l0 x12_1).f0.f2), .int .i64 ((rd_T38 l0 x12_1).f0.f3)] 34 (0, 0)) (by (with_reducible repeat (first | refine bkD ?_ _ | refine blk_drew ?_ | refine bkA ?_ _)); refine blk_put (cs := #[.int .i64 ((rd_T38 l0 x12_1).f0.f0), .int .i64 ((rd_T38 l0 x12_1).f0.f1), .int .i64 ((rd_T38 l0 x12_1).f0.f2), .int .i64 0]) ?_ 3 _ rfl; (with_reducible repeat (first | refine bkD ?_ _ | refine blk_drew ?_ | refine bkA ?_ _)); refine blk_put (cs := #[.int .i64 ((rd_T38 l0 x12_1).f0.f0), .int .i64 ((rd_T38 l0 x12_1).f0.f1), .int .i64 0, .int .i64 0]) ?_ 2 _ rfl; (with_reducible repeat (first | refine bkD ?_ _ | refine blk_drew ?_ | refine bkA ?_ _)); refine blk_put (cs := #[.int .i64 ((rd_T38 l0 x12_1).f0.f0), .int .i64 0, .int .i64 0, .int .i64 0]) ?_ 1 _ rfl; (with_reducible repeat (first | refine bkD ?_ _ | refine blk_drew ?_ | refine bkA ?_ _)); refine blk_put (cs := #[.int .i64 0, .int .i64 0, .int .i64 0, .int .i64 0]) ?_ 0 _ rfl; (with_reducible repeat (first | refine bkD ?_ _ | refine blk_drew ?_ | refine bkA ?_ _)); exact BK129.out) hb); have n1_ := aMk (below_step (by repeat (first | (with_reducible first | exact HB.out | apply bAl | apply bDn | apply bD1 | refine bSe ?_ GE129.out) | exact HB.out)) hb); clear BK129; clear HB; have BK129 := n0_; have HB := n1_; clear n0_ n1_; (try clear hb); (try clear hb2); (try clear hk); (try clear hi); have p131 : 0 ≤ (x12_1 : Int) := oDt (by first | (with_reducible assumption) | assumption); have q131 : x12_1 < (l0.length : Int) := oDt (by first | (with_reducible assumption) | assumption); obtain ⟨ad131, e131, hx131_0, hx131_1, hx131_2, hx131_3, hx131_4⟩ := at_T38 HR0.out x12_1 p131 q131; (try rw [← Nbq13.out] at hx131_4); obtain rfl : ad128 = ad131 := (by injection e131); replace hx131_0 := (HB.out.cell (wBl w _ hx131_0)).trans hx131_0; replace hx131_1 := (HB.out.cell (wBl w _ hx131_1)).trans hx131_1; replace hx131_2 := (HB.out.cell (wBl w _ hx131_2)).trans hx131_2; replace hx131_3 := (HB.out.cell (wBl w _ hx131_3)).trans hx131_3; replace hx131_4 := (HB.out.cell (wBl w _ hx131_4)).trans hx131_4; replace p131 := eq_true p131; replace q131 := eq_true q131))
            go_meet
            case rel => exact ⟨_, (false), (by first | rfl | (simp; done) | (simp [*]; done)), H', ⟨by have := HK1.out; first | omega | exact Nat.le_refl _⟩, ⟨by (with_reducible repeat (first | refine bkD ?_ _ | refine blk_drew ?_ | refine bkA ?_ _)); exact BK129.out⟩, ⟨by repeat (first | (with_reducible first | exact HB.out | apply bAl | apply bDn | apply bD1 | refine bSe ?_ GE129.out) | exact HB.out)⟩⟩
        · replace c12 := Bool.eq_false_iff.mpr c12
          subst c12
          have H1 : (spec_l17Room.j1 k1 l0 x1_1 x2_1 a3 a4 x12_1 false ((rd_T38 l0 x12_1).f0.f0) ((rd_T38 l0 x12_1).f0.f1) ((rd_T38 l0 x12_1).f0.f2) ((rd_T38 l0 x12_1).f0.f3)) = some (r1, r2) := by rw [if_neg (show ¬ (false = true) by decide)] at H; exact H
          clear H
          have H := H1
          clear H1
          have H' := aMk H
          clear H
          have hcz20_0 : w9.cell? ⟨gb129, 0, none⟩ = some (.int .i64 0) := (bCe BK129.out 0).trans rfl
          have hcz20_1 : w9.cell? ⟨gb129, 1, none⟩ = some (.int .i64 0) := (bCe BK129.out 1).trans rfl
          have hcz20_2 : w9.cell? ⟨gb129, 2, none⟩ = some (.int .i64 0) := (bCe BK129.out 2).trans rfl
          have hcz20_3 : w9.cell? ⟨gb129, 3, none⟩ = some (.int .i64 0) := (bCe BK129.out 3).trans rfl
          have hfz20_0 := bFr BK129.out 0
          have hfz20_1 := bFr BK129.out 1
          have hfz20_2 := bFr BK129.out 2
          have hfz20_3 := bFr BK129.out 3
          go_wp2_with (first | ((with_reducible refine gate_callee (f := 123) rfl ?_); refine goesL_ (some 28) rfl rfl Try.func123 (by kernel_rfl) rfl #[.agg #[.int .i64 ((rd_T38 l0 x12_1).f0.f0), .int .i64 ((rd_T38 l0 x12_1).f0.f1), .int .i64 ((rd_T38 l0 x12_1).f0.f2), .int .i64 ((rd_T38 l0 x12_1).f0.f3)], .int .i64 a3, .int .i64 a4] rfl (by (try simp only [List.map_toArray, List.map_cons, List.map_nil]); first | done | rfl | (simp only [List.length_drop, List.length_take]; rfl)) ?_; (with_reducible refine (spec_l17Reaches.calls k1 ((rd_T38 l0 x12_1).f0.f0) ((rd_T38 l0 x12_1).f0.f1) ((rd_T38 l0 x12_1).f0.f2) ((rd_T38 l0 x12_1).f0.f3) a3 a4 false _ A11.out).mono ?_); rintro e w21 ⟨rfl, hb⟩; refine ⟨_, rfl, ?_⟩; have n0_ := aMk (blk_below (g := gb129) (o := .cells #[.int .i64 ((rd_T38 l0 x12_1).f0.f0), .int .i64 ((rd_T38 l0 x12_1).f0.f1), .int .i64 ((rd_T38 l0 x12_1).f0.f2), .int .i64 ((rd_T38 l0 x12_1).f0.f3)] 34 (0, 0)) (by (with_reducible repeat (first | refine bkD ?_ _ | refine blk_drew ?_ | refine bkA ?_ _)); refine blk_put (cs := #[.int .i64 ((rd_T38 l0 x12_1).f0.f0), .int .i64 ((rd_T38 l0 x12_1).f0.f1), .int .i64 ((rd_T38 l0 x12_1).f0.f2), .int .i64 0]) ?_ 3 _ rfl; (with_reducible repeat (first | refine bkD ?_ _ | refine blk_drew ?_ | refine bkA ?_ _)); refine blk_put (cs := #[.int .i64 ((rd_T38 l0 x12_1).f0.f0), .int .i64 ((rd_T38 l0 x12_1).f0.f1), .int .i64 0, .int .i64 0]) ?_ 2 _ rfl; (with_reducible repeat (first | refine bkD ?_ _ | refine blk_drew ?_ | refine bkA ?_ _)); refine blk_put (cs := #[.int .i64 ((rd_T38 l0 x12_1).f0.f0), .int .i64 0, .int .i64 0, .int .i64 0]) ?_ 1 _ rfl; (with_reducible repeat (first | refine bkD ?_ _ | refine blk_drew ?_ | refine bkA ?_ _)); refine blk_put (cs := #[.int .i64 0, .int .i64 0, .int .i64 0, .int .i64 0]) ?_ 0 _ rfl; (with_reducible repeat (first | refine bkD ?_ _ | refine blk_drew ?_ | refine bkA ?_ _)); exact BK129.out) hb); have n1_ := aMk (below_step (by repeat (first | (with_reducible first | exact HB.out | apply bAl | apply bDn | apply bD1 | refine bSe ?_ GE129.out) | exact HB.out)) hb); clear BK129; clear HB; have BK129 := n0_; have HB := n1_; clear n0_ n1_; (try clear hb); (try clear hb2); (try clear hk); (try clear hi)))
          go_meet
          case rel => exact ⟨_, (false), (by first | rfl | (simp; done) | (simp [*]; done)), H', ⟨by have := HK1.out; first | omega | exact Nat.le_refl _⟩, ⟨by (with_reducible repeat (first | refine bkD ?_ _ | refine blk_drew ?_ | refine bkA ?_ _)); exact BK129.out⟩, ⟨by repeat (first | (with_reducible first | exact HB.out | apply bAl | apply bDn | apply bD1 | refine bSe ?_ GE129.out) | exact HB.out)⟩⟩
       case rest =>
        clear HC8
        try clear c1
        try clear p1
        try clear q1
        try clear hx1
        try clear p2
        try clear c6
        try clear c6b0
        try clear c7
        try clear c7b0
        try clear c12
        try clear p12
        try clear q12
        try clear hx12
        try clear p13
        try clear q13
        try clear hx13
        try clear c14
        try clear hcz10_0
        try clear hcz10_1
        try clear hcz10_2
        try clear hcz10_3
        try clear hcz15_0
        try clear hcz15_1
        try clear hcz15_2
        try clear hcz15_3
        try clear hcz17_0
        try clear hcz17_1
        try clear hcz17_2
        try clear hcz17_3
        try clear hcz18_0
        try clear hcz18_1
        try clear hcz18_2
        try clear hcz18_3
        try clear hcz20_0
        try clear hcz20_1
        try clear hcz20_2
        try clear hcz20_3
        try clear hfz10_0
        try clear hfz10_1
        try clear hfz10_2
        try clear hfz10_3
        try clear hfz15_0
        try clear hfz15_1
        try clear hfz15_2
        try clear hfz15_3
        try clear hfz17_0
        try clear hfz17_1
        try clear hfz17_2
        try clear hfz17_3
        try clear hfz18_0
        try clear hfz18_1
        try clear hfz18_2
        try clear hfz18_3
        try clear hfz20_0
        try clear hfz20_1
        try clear hfz20_2
        try clear hfz20_3
        try clear hx128_0
        try clear hx128_1
        try clear hx128_2
        try clear hx128_3
        try clear hx128_4
        try clear hx131_0
        try clear hx131_1
        try clear hx131_2
        try clear hx131_3
        try clear hx131_4
        try clear p128
        try clear p131
        try clear p2
        try clear q128
        try clear q131
        obtain ⟨kq, x41_7, rfl, HA, HJ7, BK129, HB⟩ := hcut
        cases kq with
        | zero => exact absurd HA.out (by simp [spec_l17Room.j1])
        | succ kj7 =>
         have H := HA.out
         clear HA
         simp only [spec_l17Room.j1] at H
         by_cases c22 : x41_7 = true
         · subst c22
           have H1 : ((spec_l17Reaches.f kj7 ((rd_T38 l0 x12_1).f0.f0) ((rd_T38 l0 x12_1).f0.f1) ((rd_T38 l0 x12_1).f0.f2) ((rd_T38 l0 x12_1).f0.f3) a3 a4).bind fun t132 => (if t132 = true then (if 0 ≤ x12_1 then (if x12_1 < (l0.length : Int) then (if (rd_T38 l0 x12_1).f1 = true then (spec_l17Room.l0 kj7 l0 x1_1 ((rd_T38 l0 x12_1).f0.f0) a3 a4 (wrap64 (x12_1 + 1))) else (if (wrap64 (((rd_T38 l0 x12_1).f0.f0) + ((rd_T38 l0 x12_1).f0.f2))) > x1_1 then (spec_l17Room.l0 kj7 l0 (wrap64 (((rd_T38 l0 x12_1).f0.f0) + ((rd_T38 l0 x12_1).f0.f2))) ((rd_T38 l0 x12_1).f0.f0) a3 a4 (wrap64 (x12_1 + 1))) else (spec_l17Room.l0 kj7 l0 x1_1 ((rd_T38 l0 x12_1).f0.f0) a3 a4 (wrap64 (x12_1 + 1))))) else (none)) else (none)) else (spec_l17Room.l0 kj7 l0 x1_1 ((rd_T38 l0 x12_1).f0.f0) a3 a4 (wrap64 (x12_1 + 1))))) = some (r1, r2) := by rw [if_pos rfl] at H; exact H
           clear H
           have H := H1
           clear H1
           replace H := oBm H
           obtain ⟨t132, A230, H⟩ := H
           replace H : (if t132 = true then (if 0 ≤ x12_1 then (if x12_1 < (l0.length : Int) then (if (rd_T38 l0 x12_1).f1 = true then (spec_l17Room.l0 kj7 l0 x1_1 ((rd_T38 l0 x12_1).f0.f0) a3 a4 (wrap64 (x12_1 + 1))) else (if (wrap64 (((rd_T38 l0 x12_1).f0.f0) + ((rd_T38 l0 x12_1).f0.f2))) > x1_1 then (spec_l17Room.l0 kj7 l0 (wrap64 (((rd_T38 l0 x12_1).f0.f0) + ((rd_T38 l0 x12_1).f0.f2))) ((rd_T38 l0 x12_1).f0.f0) a3 a4 (wrap64 (x12_1 + 1))) else (spec_l17Room.l0 kj7 l0 x1_1 ((rd_T38 l0 x12_1).f0.f0) a3 a4 (wrap64 (x12_1 + 1))))) else (none)) else (none)) else (spec_l17Room.l0 kj7 l0 x1_1 ((rd_T38 l0 x12_1).f0.f0) a3 a4 (wrap64 (x12_1 + 1)))) = some (r1, r2) := H
           have A23 := aMk A230
           clear A230
           by_cases c24 : t132 = true
           · subst c24
             have H1 : (if 0 ≤ x12_1 then (if x12_1 < (l0.length : Int) then (if (rd_T38 l0 x12_1).f1 = true then (spec_l17Room.l0 kj7 l0 x1_1 ((rd_T38 l0 x12_1).f0.f0) a3 a4 (wrap64 (x12_1 + 1))) else (if (wrap64 (((rd_T38 l0 x12_1).f0.f0) + ((rd_T38 l0 x12_1).f0.f2))) > x1_1 then (spec_l17Room.l0 kj7 l0 (wrap64 (((rd_T38 l0 x12_1).f0.f0) + ((rd_T38 l0 x12_1).f0.f2))) ((rd_T38 l0 x12_1).f0.f0) a3 a4 (wrap64 (x12_1 + 1))) else (spec_l17Room.l0 kj7 l0 x1_1 ((rd_T38 l0 x12_1).f0.f0) a3 a4 (wrap64 (x12_1 + 1))))) else (none)) else (none)) = some (r1, r2) := by rw [if_pos rfl] at H; exact H
             clear H
             have H := H1
             clear H1
             by_cases c25 : 0 ≤ x12_1
             · rw [if_pos c25] at H
               have c25b0 : decide (0 ≤ x12_1) = true := decide_eq_true c25
               clear c25
               by_cases c26 : x12_1 < (l0.length : Int)
               · rw [if_pos c26] at H
                 have c26b0 : decide (x12_1 < (l0.length : Int)) = true := decide_eq_true c26
                 clear c26
                 obtain ⟨bq27, hbq27⟩ : ∃ b_ : Bool, b_ = ((rd_T38 l0 x12_1).f1) := ⟨_, rfl⟩
                 replace H : (if bq27 = true then (spec_l17Room.l0 kj7 l0 x1_1 ((rd_T38 l0 x12_1).f0.f0) a3 a4 (wrap64 (x12_1 + 1))) else (if (wrap64 (((rd_T38 l0 x12_1).f0.f0) + ((rd_T38 l0 x12_1).f0.f2))) > x1_1 then (spec_l17Room.l0 kj7 l0 (wrap64 (((rd_T38 l0 x12_1).f0.f0) + ((rd_T38 l0 x12_1).f0.f2))) ((rd_T38 l0 x12_1).f0.f0) a3 a4 (wrap64 (x12_1 + 1))) else (spec_l17Room.l0 kj7 l0 x1_1 ((rd_T38 l0 x12_1).f0.f0) a3 a4 (wrap64 (x12_1 + 1))))) = some (r1, r2) := by rw [← hbq27] at H; exact H
                 have Nbq27 := aMk hbq27
                 clear hbq27
                 by_cases c28 : bq27 = true
                 · subst c28
                   have H1 : (spec_l17Room.l0 kj7 l0 x1_1 ((rd_T38 l0 x12_1).f0.f0) a3 a4 (wrap64 (x12_1 + 1))) = some (r1, r2) := by rw [if_pos rfl] at H; exact H
                   clear H
                   have H := H1
                   clear H1
                   have H' := aMk H
                   clear H
                   have hcz29_0 : wc.cell? ⟨gb129, 0, none⟩ = some (.int .i64 ((rd_T38 l0 x12_1).f0.f0)) := (bCe BK129.out 0).trans rfl
                   have hcz29_1 : wc.cell? ⟨gb129, 1, none⟩ = some (.int .i64 ((rd_T38 l0 x12_1).f0.f1)) := (bCe BK129.out 1).trans rfl
                   have hcz29_2 : wc.cell? ⟨gb129, 2, none⟩ = some (.int .i64 ((rd_T38 l0 x12_1).f0.f2)) := (bCe BK129.out 2).trans rfl
                   have hcz29_3 : wc.cell? ⟨gb129, 3, none⟩ = some (.int .i64 ((rd_T38 l0 x12_1).f0.f3)) := (bCe BK129.out 3).trans rfl
                   have hfz29_0 := bFr BK129.out 0
                   have hfz29_1 := bFr BK129.out 1
                   have hfz29_2 := bFr BK129.out 2
                   have hfz29_3 := bFr BK129.out 3
                   go_wp2_with (first | ((with_reducible refine gate_callee (f := 123) rfl ?_); refine goesL_ (some 47) rfl rfl Try.func123 (by kernel_rfl) rfl #[.agg #[.int .i64 ((rd_T38 l0 x12_1).f0.f0), .int .i64 ((rd_T38 l0 x12_1).f0.f1), .int .i64 ((rd_T38 l0 x12_1).f0.f2), .int .i64 ((rd_T38 l0 x12_1).f0.f3)], .int .i64 a3, .int .i64 a4] rfl (by (try simp only [List.map_toArray, List.map_cons, List.map_nil]); first | done | rfl | (simp only [List.length_drop, List.length_take]; rfl)) ?_; (with_reducible refine (spec_l17Reaches.calls kj7 ((rd_T38 l0 x12_1).f0.f0) ((rd_T38 l0 x12_1).f0.f1) ((rd_T38 l0 x12_1).f0.f2) ((rd_T38 l0 x12_1).f0.f3) a3 a4 true _ A23.out).mono ?_); rintro e w30 ⟨rfl, hb⟩; refine ⟨_, rfl, ?_⟩; have n0_ := aMk (blk_below (g := gb129) (o := .cells #[.int .i64 ((rd_T38 l0 x12_1).f0.f0), .int .i64 ((rd_T38 l0 x12_1).f0.f1), .int .i64 ((rd_T38 l0 x12_1).f0.f2), .int .i64 ((rd_T38 l0 x12_1).f0.f3)] 34 (0, 0)) (by (with_reducible repeat (first | refine bkD ?_ _ | refine blk_drew ?_ | refine bkA ?_ _)); exact BK129.out) hb); have n1_ := aMk (below_step (by repeat (first | (with_reducible first | exact HB.out | apply bAl | apply bDn | apply bD1 | refine bSe ?_ GE129.out) | exact HB.out)) hb); clear BK129; clear HB; have BK129 := n0_; have HB := n1_; clear n0_ n1_; (try clear hb); (try clear hb2); (try clear hk); (try clear hi); have p133 : 0 ≤ (x12_1 : Int) := oDt (by first | (with_reducible assumption) | assumption); have q133 : x12_1 < (l0.length : Int) := oDt (by first | (with_reducible assumption) | assumption); obtain ⟨ad133, e133, hx133_0, hx133_1, hx133_2, hx133_3, hx133_4⟩ := at_T38 HR0.out x12_1 p133 q133; (try rw [← Nbq27.out] at hx133_4); obtain rfl : ad128 = ad133 := (by injection e133); replace hx133_0 := (HB.out.cell (wBl w _ hx133_0)).trans hx133_0; replace hx133_1 := (HB.out.cell (wBl w _ hx133_1)).trans hx133_1; replace hx133_2 := (HB.out.cell (wBl w _ hx133_2)).trans hx133_2; replace hx133_3 := (HB.out.cell (wBl w _ hx133_3)).trans hx133_3; replace hx133_4 := (HB.out.cell (wBl w _ hx133_4)).trans hx133_4; replace p133 := eq_true p133; replace q133 := eq_true q133))
                   go_roundg kj7
                   case measure => have := HK1.out; have := HJ7.out; omega
                   case rel => exact ⟨(x1_1), (((rd_T38 l0 x12_1).f0.f0)), (wrap64 (x12_1 + 1)), (by first | rfl | (simp; done) | (simp [*]; done)), (by first | rfl | (simp; done) | (simp [*]; done)), (by first | rfl | (simp; done) | (simp [*]; done)), H', ⟨by have := HK1.out; have := HJ7.out; omega⟩, ⟨by repeat (first | (with_reducible first | exact HB.out | apply bAl | apply bDn | apply bD1 | refine bSe ?_ GE129.out) | exact HB.out)⟩⟩
                 · replace c28 := Bool.eq_false_iff.mpr c28
                   subst c28
                   have H1 : (if (wrap64 (((rd_T38 l0 x12_1).f0.f0) + ((rd_T38 l0 x12_1).f0.f2))) > x1_1 then (spec_l17Room.l0 kj7 l0 (wrap64 (((rd_T38 l0 x12_1).f0.f0) + ((rd_T38 l0 x12_1).f0.f2))) ((rd_T38 l0 x12_1).f0.f0) a3 a4 (wrap64 (x12_1 + 1))) else (spec_l17Room.l0 kj7 l0 x1_1 ((rd_T38 l0 x12_1).f0.f0) a3 a4 (wrap64 (x12_1 + 1)))) = some (r1, r2) := by rw [if_neg (show ¬ (false = true) by decide)] at H; exact H
                   clear H
                   have H := H1
                   clear H1
                   by_cases c31 : (wrap64 (((rd_T38 l0 x12_1).f0.f0) + ((rd_T38 l0 x12_1).f0.f2))) > x1_1
                   · rw [if_pos c31] at H
                     have c31b0 : decide (x1_1 < (wrap64 (((rd_T38 l0 x12_1).f0.f0) + ((rd_T38 l0 x12_1).f0.f2)))) = true := decide_eq_true c31
                     clear c31
                     have H' := aMk H
                     clear H
                     have hcz32_0 : wc.cell? ⟨gb129, 0, none⟩ = some (.int .i64 ((rd_T38 l0 x12_1).f0.f0)) := (bCe BK129.out 0).trans rfl
                     have hcz32_1 : wc.cell? ⟨gb129, 1, none⟩ = some (.int .i64 ((rd_T38 l0 x12_1).f0.f1)) := (bCe BK129.out 1).trans rfl
                     have hcz32_2 : wc.cell? ⟨gb129, 2, none⟩ = some (.int .i64 ((rd_T38 l0 x12_1).f0.f2)) := (bCe BK129.out 2).trans rfl
                     have hcz32_3 : wc.cell? ⟨gb129, 3, none⟩ = some (.int .i64 ((rd_T38 l0 x12_1).f0.f3)) := (bCe BK129.out 3).trans rfl
                     have hfz32_0 := bFr BK129.out 0
                     have hfz32_1 := bFr BK129.out 1
                     have hfz32_2 := bFr BK129.out 2
                     have hfz32_3 := bFr BK129.out 3
                     go_wp2_with (first | ((with_reducible refine gate_callee (f := 123) rfl ?_); refine goesL_ (some 47) rfl rfl Try.func123 (by kernel_rfl) rfl #[.agg #[.int .i64 ((rd_T38 l0 x12_1).f0.f0), .int .i64 ((rd_T38 l0 x12_1).f0.f1), .int .i64 ((rd_T38 l0 x12_1).f0.f2), .int .i64 ((rd_T38 l0 x12_1).f0.f3)], .int .i64 a3, .int .i64 a4] rfl (by (try simp only [List.map_toArray, List.map_cons, List.map_nil]); first | done | rfl | (simp only [List.length_drop, List.length_take]; rfl)) ?_; (with_reducible refine (spec_l17Reaches.calls kj7 ((rd_T38 l0 x12_1).f0.f0) ((rd_T38 l0 x12_1).f0.f1) ((rd_T38 l0 x12_1).f0.f2) ((rd_T38 l0 x12_1).f0.f3) a3 a4 true _ A23.out).mono ?_); rintro e w33 ⟨rfl, hb⟩; refine ⟨_, rfl, ?_⟩; have n0_ := aMk (blk_below (g := gb129) (o := .cells #[.int .i64 ((rd_T38 l0 x12_1).f0.f0), .int .i64 ((rd_T38 l0 x12_1).f0.f1), .int .i64 ((rd_T38 l0 x12_1).f0.f2), .int .i64 ((rd_T38 l0 x12_1).f0.f3)] 34 (0, 0)) (by (with_reducible repeat (first | refine bkD ?_ _ | refine blk_drew ?_ | refine bkA ?_ _)); exact BK129.out) hb); have n1_ := aMk (below_step (by repeat (first | (with_reducible first | exact HB.out | apply bAl | apply bDn | apply bD1 | refine bSe ?_ GE129.out) | exact HB.out)) hb); clear BK129; clear HB; have BK129 := n0_; have HB := n1_; clear n0_ n1_; (try clear hb); (try clear hb2); (try clear hk); (try clear hi); have p133 : 0 ≤ (x12_1 : Int) := oDt (by first | (with_reducible assumption) | assumption); have q133 : x12_1 < (l0.length : Int) := oDt (by first | (with_reducible assumption) | assumption); obtain ⟨ad133, e133, hx133_0, hx133_1, hx133_2, hx133_3, hx133_4⟩ := at_T38 HR0.out x12_1 p133 q133; (try rw [← Nbq27.out] at hx133_4); obtain rfl : ad128 = ad133 := (by injection e133); replace hx133_0 := (HB.out.cell (wBl w _ hx133_0)).trans hx133_0; replace hx133_1 := (HB.out.cell (wBl w _ hx133_1)).trans hx133_1; replace hx133_2 := (HB.out.cell (wBl w _ hx133_2)).trans hx133_2; replace hx133_3 := (HB.out.cell (wBl w _ hx133_3)).trans hx133_3; replace hx133_4 := (HB.out.cell (wBl w _ hx133_4)).trans hx133_4; replace p133 := eq_true p133; replace q133 := eq_true q133; have hcz34_0 : w33.cell? ⟨gb129, 0, none⟩ = some (.int .i64 ((rd_T38 l0 x12_1).f0.f0)) := (bCe BK129.out 0).trans rfl; have hcz34_1 : w33.cell? ⟨gb129, 1, none⟩ = some (.int .i64 ((rd_T38 l0 x12_1).f0.f1)) := (bCe BK129.out 1).trans rfl; have hcz34_2 : w33.cell? ⟨gb129, 2, none⟩ = some (.int .i64 ((rd_T38 l0 x12_1).f0.f2)) := (bCe BK129.out 2).trans rfl; have hcz34_3 : w33.cell? ⟨gb129, 3, none⟩ = some (.int .i64 ((rd_T38 l0 x12_1).f0.f3)) := (bCe BK129.out 3).trans rfl; have hfz34_0 := bFr BK129.out 0; have hfz34_1 := bFr BK129.out 1; have hfz34_2 := bFr BK129.out 2; have hfz34_3 := bFr BK129.out 3))
                     go_roundg kj7
                     case measure => have := HK1.out; have := HJ7.out; omega
                     case rel => exact ⟨(wrap64 (((rd_T38 l0 x12_1).f0.f0) + ((rd_T38 l0 x12_1).f0.f2))), (((rd_T38 l0 x12_1).f0.f0)), (wrap64 (x12_1 + 1)), (by first | rfl | (simp; done) | (simp [*]; done)), (by first | rfl | (simp; done) | (simp [*]; done)), (by first | rfl | (simp; done) | (simp [*]; done)), H', ⟨by have := HK1.out; have := HJ7.out; omega⟩, ⟨by repeat (first | (with_reducible first | exact HB.out | apply bAl | apply bDn | apply bD1 | refine bSe ?_ GE129.out) | exact HB.out)⟩⟩
                   · rw [if_neg c31] at H
                     have c31b0 : decide (x1_1 < (wrap64 (((rd_T38 l0 x12_1).f0.f0) + ((rd_T38 l0 x12_1).f0.f2)))) = false := decide_eq_false c31
                     clear c31
                     have H' := aMk H
                     clear H
                     have hcz35_0 : wc.cell? ⟨gb129, 0, none⟩ = some (.int .i64 ((rd_T38 l0 x12_1).f0.f0)) := (bCe BK129.out 0).trans rfl
                     have hcz35_1 : wc.cell? ⟨gb129, 1, none⟩ = some (.int .i64 ((rd_T38 l0 x12_1).f0.f1)) := (bCe BK129.out 1).trans rfl
                     have hcz35_2 : wc.cell? ⟨gb129, 2, none⟩ = some (.int .i64 ((rd_T38 l0 x12_1).f0.f2)) := (bCe BK129.out 2).trans rfl
                     have hcz35_3 : wc.cell? ⟨gb129, 3, none⟩ = some (.int .i64 ((rd_T38 l0 x12_1).f0.f3)) := (bCe BK129.out 3).trans rfl
                     have hfz35_0 := bFr BK129.out 0
                     have hfz35_1 := bFr BK129.out 1
                     have hfz35_2 := bFr BK129.out 2
                     have hfz35_3 := bFr BK129.out 3
                     go_wp2_with (first | ((with_reducible refine gate_callee (f := 123) rfl ?_); refine goesL_ (some 47) rfl rfl Try.func123 (by kernel_rfl) rfl #[.agg #[.int .i64 ((rd_T38 l0 x12_1).f0.f0), .int .i64 ((rd_T38 l0 x12_1).f0.f1), .int .i64 ((rd_T38 l0 x12_1).f0.f2), .int .i64 ((rd_T38 l0 x12_1).f0.f3)], .int .i64 a3, .int .i64 a4] rfl (by (try simp only [List.map_toArray, List.map_cons, List.map_nil]); first | done | rfl | (simp only [List.length_drop, List.length_take]; rfl)) ?_; (with_reducible refine (spec_l17Reaches.calls kj7 ((rd_T38 l0 x12_1).f0.f0) ((rd_T38 l0 x12_1).f0.f1) ((rd_T38 l0 x12_1).f0.f2) ((rd_T38 l0 x12_1).f0.f3) a3 a4 true _ A23.out).mono ?_); rintro e w36 ⟨rfl, hb⟩; refine ⟨_, rfl, ?_⟩; have n0_ := aMk (blk_below (g := gb129) (o := .cells #[.int .i64 ((rd_T38 l0 x12_1).f0.f0), .int .i64 ((rd_T38 l0 x12_1).f0.f1), .int .i64 ((rd_T38 l0 x12_1).f0.f2), .int .i64 ((rd_T38 l0 x12_1).f0.f3)] 34 (0, 0)) (by (with_reducible repeat (first | refine bkD ?_ _ | refine blk_drew ?_ | refine bkA ?_ _)); exact BK129.out) hb); have n1_ := aMk (below_step (by repeat (first | (with_reducible first | exact HB.out | apply bAl | apply bDn | apply bD1 | refine bSe ?_ GE129.out) | exact HB.out)) hb); clear BK129; clear HB; have BK129 := n0_; have HB := n1_; clear n0_ n1_; (try clear hb); (try clear hb2); (try clear hk); (try clear hi); have p133 : 0 ≤ (x12_1 : Int) := oDt (by first | (with_reducible assumption) | assumption); have q133 : x12_1 < (l0.length : Int) := oDt (by first | (with_reducible assumption) | assumption); obtain ⟨ad133, e133, hx133_0, hx133_1, hx133_2, hx133_3, hx133_4⟩ := at_T38 HR0.out x12_1 p133 q133; (try rw [← Nbq27.out] at hx133_4); obtain rfl : ad128 = ad133 := (by injection e133); replace hx133_0 := (HB.out.cell (wBl w _ hx133_0)).trans hx133_0; replace hx133_1 := (HB.out.cell (wBl w _ hx133_1)).trans hx133_1; replace hx133_2 := (HB.out.cell (wBl w _ hx133_2)).trans hx133_2; replace hx133_3 := (HB.out.cell (wBl w _ hx133_3)).trans hx133_3; replace hx133_4 := (HB.out.cell (wBl w _ hx133_4)).trans hx133_4; replace p133 := eq_true p133; replace q133 := eq_true q133; have hcz37_0 : w36.cell? ⟨gb129, 0, none⟩ = some (.int .i64 ((rd_T38 l0 x12_1).f0.f0)) := (bCe BK129.out 0).trans rfl; have hcz37_1 : w36.cell? ⟨gb129, 1, none⟩ = some (.int .i64 ((rd_T38 l0 x12_1).f0.f1)) := (bCe BK129.out 1).trans rfl; have hcz37_2 : w36.cell? ⟨gb129, 2, none⟩ = some (.int .i64 ((rd_T38 l0 x12_1).f0.f2)) := (bCe BK129.out 2).trans rfl; have hcz37_3 : w36.cell? ⟨gb129, 3, none⟩ = some (.int .i64 ((rd_T38 l0 x12_1).f0.f3)) := (bCe BK129.out 3).trans rfl; have hfz37_0 := bFr BK129.out 0; have hfz37_1 := bFr BK129.out 1; have hfz37_2 := bFr BK129.out 2; have hfz37_3 := bFr BK129.out 3))
                     go_roundg kj7
                     case measure => have := HK1.out; have := HJ7.out; omega
                     case rel => exact ⟨(x1_1), (((rd_T38 l0 x12_1).f0.f0)), (wrap64 (x12_1 + 1)), (by first | rfl | (simp; done) | (simp [*]; done)), (by first | rfl | (simp; done) | (simp [*]; done)), (by first | rfl | (simp; done) | (simp [*]; done)), H', ⟨by have := HK1.out; have := HJ7.out; omega⟩, ⟨by repeat (first | (with_reducible first | exact HB.out | apply bAl | apply bDn | apply bD1 | refine bSe ?_ GE129.out) | exact HB.out)⟩⟩
               · rw [if_neg c26] at H
                 exact absurd H (by simp)
             · rw [if_neg c25] at H
               exact absurd H (by simp)
           · replace c24 := Bool.eq_false_iff.mpr c24
             subst c24
             have H1 : (spec_l17Room.l0 kj7 l0 x1_1 ((rd_T38 l0 x12_1).f0.f0) a3 a4 (wrap64 (x12_1 + 1))) = some (r1, r2) := by rw [if_neg (show ¬ (false = true) by decide)] at H; exact H
             clear H
             have H := H1
             clear H1
             have H' := aMk H
             clear H
             have hcz38_0 : wc.cell? ⟨gb129, 0, none⟩ = some (.int .i64 ((rd_T38 l0 x12_1).f0.f0)) := (bCe BK129.out 0).trans rfl
             have hcz38_1 : wc.cell? ⟨gb129, 1, none⟩ = some (.int .i64 ((rd_T38 l0 x12_1).f0.f1)) := (bCe BK129.out 1).trans rfl
             have hcz38_2 : wc.cell? ⟨gb129, 2, none⟩ = some (.int .i64 ((rd_T38 l0 x12_1).f0.f2)) := (bCe BK129.out 2).trans rfl
             have hcz38_3 : wc.cell? ⟨gb129, 3, none⟩ = some (.int .i64 ((rd_T38 l0 x12_1).f0.f3)) := (bCe BK129.out 3).trans rfl
             have hfz38_0 := bFr BK129.out 0
             have hfz38_1 := bFr BK129.out 1
             have hfz38_2 := bFr BK129.out 2
             have hfz38_3 := bFr BK129.out 3
             go_wp2_with (first | ((with_reducible refine gate_callee (f := 123) rfl ?_); refine goesL_ (some 47) rfl rfl Try.func123 (by kernel_rfl) rfl #[.agg #[.int .i64 ((rd_T38 l0 x12_1).f0.f0), .int .i64 ((rd_T38 l0 x12_1).f0.f1), .int .i64 ((rd_T38 l0 x12_1).f0.f2), .int .i64 ((rd_T38 l0 x12_1).f0.f3)], .int .i64 a3, .int .i64 a4] rfl (by (try simp only [List.map_toArray, List.map_cons, List.map_nil]); first | done | rfl | (simp only [List.length_drop, List.length_take]; rfl)) ?_; (with_reducible refine (spec_l17Reaches.calls kj7 ((rd_T38 l0 x12_1).f0.f0) ((rd_T38 l0 x12_1).f0.f1) ((rd_T38 l0 x12_1).f0.f2) ((rd_T38 l0 x12_1).f0.f3) a3 a4 false _ A23.out).mono ?_); rintro e w39 ⟨rfl, hb⟩; refine ⟨_, rfl, ?_⟩; have n0_ := aMk (blk_below (g := gb129) (o := .cells #[.int .i64 ((rd_T38 l0 x12_1).f0.f0), .int .i64 ((rd_T38 l0 x12_1).f0.f1), .int .i64 ((rd_T38 l0 x12_1).f0.f2), .int .i64 ((rd_T38 l0 x12_1).f0.f3)] 34 (0, 0)) (by (with_reducible repeat (first | refine bkD ?_ _ | refine blk_drew ?_ | refine bkA ?_ _)); exact BK129.out) hb); have n1_ := aMk (below_step (by repeat (first | (with_reducible first | exact HB.out | apply bAl | apply bDn | apply bD1 | refine bSe ?_ GE129.out) | exact HB.out)) hb); clear BK129; clear HB; have BK129 := n0_; have HB := n1_; clear n0_ n1_; (try clear hb); (try clear hb2); (try clear hk); (try clear hi)))
             go_roundg kj7
             case measure => have := HK1.out; have := HJ7.out; omega
             case rel => exact ⟨(x1_1), (((rd_T38 l0 x12_1).f0.f0)), (wrap64 (x12_1 + 1)), (by first | rfl | (simp; done) | (simp [*]; done)), (by first | rfl | (simp; done) | (simp [*]; done)), (by first | rfl | (simp; done) | (simp [*]; done)), H', ⟨by have := HK1.out; have := HJ7.out; omega⟩, ⟨by repeat (first | (with_reducible first | exact HB.out | apply bAl | apply bDn | apply bD1 | refine bSe ?_ GE129.out) | exact HB.out)⟩⟩
         · replace c22 := Bool.eq_false_iff.mpr c22
           subst c22
           have H1 : ((spec_l17Reaches.f kj7 ((rd_T38 l0 x12_1).f0.f0) ((rd_T38 l0 x12_1).f0.f1) ((rd_T38 l0 x12_1).f0.f2) ((rd_T38 l0 x12_1).f0.f3) a3 a4).bind fun t134 => (if t134 = true then (if 0 ≤ x12_1 then (if x12_1 < (l0.length : Int) then (if (rd_T38 l0 x12_1).f1 = true then (spec_l17Room.l0 kj7 l0 x1_1 x2_1 a3 a4 (wrap64 (x12_1 + 1))) else (if (wrap64 (((rd_T38 l0 x12_1).f0.f0) + ((rd_T38 l0 x12_1).f0.f2))) > x1_1 then (spec_l17Room.l0 kj7 l0 (wrap64 (((rd_T38 l0 x12_1).f0.f0) + ((rd_T38 l0 x12_1).f0.f2))) x2_1 a3 a4 (wrap64 (x12_1 + 1))) else (spec_l17Room.l0 kj7 l0 x1_1 x2_1 a3 a4 (wrap64 (x12_1 + 1))))) else (none)) else (none)) else (spec_l17Room.l0 kj7 l0 x1_1 x2_1 a3 a4 (wrap64 (x12_1 + 1))))) = some (r1, r2) := by rw [if_neg (show ¬ (false = true) by decide)] at H; exact H
           clear H
           have H := H1
           clear H1
           replace H := oBm H
           obtain ⟨t134, A400, H⟩ := H
           replace H : (if t134 = true then (if 0 ≤ x12_1 then (if x12_1 < (l0.length : Int) then (if (rd_T38 l0 x12_1).f1 = true then (spec_l17Room.l0 kj7 l0 x1_1 x2_1 a3 a4 (wrap64 (x12_1 + 1))) else (if (wrap64 (((rd_T38 l0 x12_1).f0.f0) + ((rd_T38 l0 x12_1).f0.f2))) > x1_1 then (spec_l17Room.l0 kj7 l0 (wrap64 (((rd_T38 l0 x12_1).f0.f0) + ((rd_T38 l0 x12_1).f0.f2))) x2_1 a3 a4 (wrap64 (x12_1 + 1))) else (spec_l17Room.l0 kj7 l0 x1_1 x2_1 a3 a4 (wrap64 (x12_1 + 1))))) else (none)) else (none)) else (spec_l17Room.l0 kj7 l0 x1_1 x2_1 a3 a4 (wrap64 (x12_1 + 1)))) = some (r1, r2) := H
           have A40 := aMk A400
           clear A400
           by_cases c41 : t134 = true
           · subst c41
             have H1 : (if 0 ≤ x12_1 then (if x12_1 < (l0.length : Int) then (if (rd_T38 l0 x12_1).f1 = true then (spec_l17Room.l0 kj7 l0 x1_1 x2_1 a3 a4 (wrap64 (x12_1 + 1))) else (if (wrap64 (((rd_T38 l0 x12_1).f0.f0) + ((rd_T38 l0 x12_1).f0.f2))) > x1_1 then (spec_l17Room.l0 kj7 l0 (wrap64 (((rd_T38 l0 x12_1).f0.f0) + ((rd_T38 l0 x12_1).f0.f2))) x2_1 a3 a4 (wrap64 (x12_1 + 1))) else (spec_l17Room.l0 kj7 l0 x1_1 x2_1 a3 a4 (wrap64 (x12_1 + 1))))) else (none)) else (none)) = some (r1, r2) := by rw [if_pos rfl] at H; exact H
             clear H
             have H := H1
             clear H1
             by_cases c42 : 0 ≤ x12_1
             · rw [if_pos c42] at H
               have c42b0 : decide (0 ≤ x12_1) = true := decide_eq_true c42
               clear c42
               by_cases c43 : x12_1 < (l0.length : Int)
               · rw [if_pos c43] at H
                 have c43b0 : decide (x12_1 < (l0.length : Int)) = true := decide_eq_true c43
                 clear c43
                 obtain ⟨bq44, hbq44⟩ : ∃ b_ : Bool, b_ = ((rd_T38 l0 x12_1).f1) := ⟨_, rfl⟩
                 replace H : (if bq44 = true then (spec_l17Room.l0 kj7 l0 x1_1 x2_1 a3 a4 (wrap64 (x12_1 + 1))) else (if (wrap64 (((rd_T38 l0 x12_1).f0.f0) + ((rd_T38 l0 x12_1).f0.f2))) > x1_1 then (spec_l17Room.l0 kj7 l0 (wrap64 (((rd_T38 l0 x12_1).f0.f0) + ((rd_T38 l0 x12_1).f0.f2))) x2_1 a3 a4 (wrap64 (x12_1 + 1))) else (spec_l17Room.l0 kj7 l0 x1_1 x2_1 a3 a4 (wrap64 (x12_1 + 1))))) = some (r1, r2) := by rw [← hbq44] at H; exact H
                 have Nbq44 := aMk hbq44
                 clear hbq44
                 by_cases c45 : bq44 = true
                 · subst c45
                   have H1 : (spec_l17Room.l0 kj7 l0 x1_1 x2_1 a3 a4 (wrap64 (x12_1 + 1))) = some (r1, r2) := by rw [if_pos rfl] at H; exact H
                   clear H
                   have H := H1
                   clear H1
                   have H' := aMk H
                   clear H
                   have hcz46_0 : wc.cell? ⟨gb129, 0, none⟩ = some (.int .i64 ((rd_T38 l0 x12_1).f0.f0)) := (bCe BK129.out 0).trans rfl
                   have hcz46_1 : wc.cell? ⟨gb129, 1, none⟩ = some (.int .i64 ((rd_T38 l0 x12_1).f0.f1)) := (bCe BK129.out 1).trans rfl
                   have hcz46_2 : wc.cell? ⟨gb129, 2, none⟩ = some (.int .i64 ((rd_T38 l0 x12_1).f0.f2)) := (bCe BK129.out 2).trans rfl
                   have hcz46_3 : wc.cell? ⟨gb129, 3, none⟩ = some (.int .i64 ((rd_T38 l0 x12_1).f0.f3)) := (bCe BK129.out 3).trans rfl
                   have hfz46_0 := bFr BK129.out 0
                   have hfz46_1 := bFr BK129.out 1
                   have hfz46_2 := bFr BK129.out 2
                   have hfz46_3 := bFr BK129.out 3
                   go_wp2_with (first | ((with_reducible refine gate_callee (f := 123) rfl ?_); refine goesL_ (some 47) rfl rfl Try.func123 (by kernel_rfl) rfl #[.agg #[.int .i64 ((rd_T38 l0 x12_1).f0.f0), .int .i64 ((rd_T38 l0 x12_1).f0.f1), .int .i64 ((rd_T38 l0 x12_1).f0.f2), .int .i64 ((rd_T38 l0 x12_1).f0.f3)], .int .i64 a3, .int .i64 a4] rfl (by (try simp only [List.map_toArray, List.map_cons, List.map_nil]); first | done | rfl | (simp only [List.length_drop, List.length_take]; rfl)) ?_; (with_reducible refine (spec_l17Reaches.calls kj7 ((rd_T38 l0 x12_1).f0.f0) ((rd_T38 l0 x12_1).f0.f1) ((rd_T38 l0 x12_1).f0.f2) ((rd_T38 l0 x12_1).f0.f3) a3 a4 true _ A40.out).mono ?_); rintro e w47 ⟨rfl, hb⟩; refine ⟨_, rfl, ?_⟩; have n0_ := aMk (blk_below (g := gb129) (o := .cells #[.int .i64 ((rd_T38 l0 x12_1).f0.f0), .int .i64 ((rd_T38 l0 x12_1).f0.f1), .int .i64 ((rd_T38 l0 x12_1).f0.f2), .int .i64 ((rd_T38 l0 x12_1).f0.f3)] 34 (0, 0)) (by (with_reducible repeat (first | refine bkD ?_ _ | refine blk_drew ?_ | refine bkA ?_ _)); exact BK129.out) hb); have n1_ := aMk (below_step (by repeat (first | (with_reducible first | exact HB.out | apply bAl | apply bDn | apply bD1 | refine bSe ?_ GE129.out) | exact HB.out)) hb); clear BK129; clear HB; have BK129 := n0_; have HB := n1_; clear n0_ n1_; (try clear hb); (try clear hb2); (try clear hk); (try clear hi); have p135 : 0 ≤ (x12_1 : Int) := oDt (by first | (with_reducible assumption) | assumption); have q135 : x12_1 < (l0.length : Int) := oDt (by first | (with_reducible assumption) | assumption); obtain ⟨ad135, e135, hx135_0, hx135_1, hx135_2, hx135_3, hx135_4⟩ := at_T38 HR0.out x12_1 p135 q135; (try rw [← Nbq44.out] at hx135_4); obtain rfl : ad128 = ad135 := (by injection e135); replace hx135_0 := (HB.out.cell (wBl w _ hx135_0)).trans hx135_0; replace hx135_1 := (HB.out.cell (wBl w _ hx135_1)).trans hx135_1; replace hx135_2 := (HB.out.cell (wBl w _ hx135_2)).trans hx135_2; replace hx135_3 := (HB.out.cell (wBl w _ hx135_3)).trans hx135_3; replace hx135_4 := (HB.out.cell (wBl w _ hx135_4)).trans hx135_4; replace p135 := eq_true p135; replace q135 := eq_true q135))
                   go_roundg kj7
                   case measure => have := HK1.out; have := HJ7.out; omega
                   case rel => exact ⟨(x1_1), (x2_1), (wrap64 (x12_1 + 1)), (by first | rfl | (simp; done) | (simp [*]; done)), (by first | rfl | (simp; done) | (simp [*]; done)), (by first | rfl | (simp; done) | (simp [*]; done)), H', ⟨by have := HK1.out; have := HJ7.out; omega⟩, ⟨by repeat (first | (with_reducible first | exact HB.out | apply bAl | apply bDn | apply bD1 | refine bSe ?_ GE129.out) | exact HB.out)⟩⟩
                 · replace c45 := Bool.eq_false_iff.mpr c45
                   subst c45
                   have H1 : (if (wrap64 (((rd_T38 l0 x12_1).f0.f0) + ((rd_T38 l0 x12_1).f0.f2))) > x1_1 then (spec_l17Room.l0 kj7 l0 (wrap64 (((rd_T38 l0 x12_1).f0.f0) + ((rd_T38 l0 x12_1).f0.f2))) x2_1 a3 a4 (wrap64 (x12_1 + 1))) else (spec_l17Room.l0 kj7 l0 x1_1 x2_1 a3 a4 (wrap64 (x12_1 + 1)))) = some (r1, r2) := by rw [if_neg (show ¬ (false = true) by decide)] at H; exact H
                   clear H
                   have H := H1
                   clear H1
                   by_cases c48 : (wrap64 (((rd_T38 l0 x12_1).f0.f0) + ((rd_T38 l0 x12_1).f0.f2))) > x1_1
                   · rw [if_pos c48] at H
                     have c48b0 : decide (x1_1 < (wrap64 (((rd_T38 l0 x12_1).f0.f0) + ((rd_T38 l0 x12_1).f0.f2)))) = true := decide_eq_true c48
                     clear c48
                     have H' := aMk H
                     clear H
                     have hcz49_0 : wc.cell? ⟨gb129, 0, none⟩ = some (.int .i64 ((rd_T38 l0 x12_1).f0.f0)) := (bCe BK129.out 0).trans rfl
                     have hcz49_1 : wc.cell? ⟨gb129, 1, none⟩ = some (.int .i64 ((rd_T38 l0 x12_1).f0.f1)) := (bCe BK129.out 1).trans rfl
                     have hcz49_2 : wc.cell? ⟨gb129, 2, none⟩ = some (.int .i64 ((rd_T38 l0 x12_1).f0.f2)) := (bCe BK129.out 2).trans rfl
                     have hcz49_3 : wc.cell? ⟨gb129, 3, none⟩ = some (.int .i64 ((rd_T38 l0 x12_1).f0.f3)) := (bCe BK129.out 3).trans rfl
                     have hfz49_0 := bFr BK129.out 0
                     have hfz49_1 := bFr BK129.out 1
                     have hfz49_2 := bFr BK129.out 2
                     have hfz49_3 := bFr BK129.out 3
                     go_wp2_with (first | ((with_reducible refine gate_callee (f := 123) rfl ?_); refine goesL_ (some 47) rfl rfl Try.func123 (by kernel_rfl) rfl #[.agg #[.int .i64 ((rd_T38 l0 x12_1).f0.f0), .int .i64 ((rd_T38 l0 x12_1).f0.f1), .int .i64 ((rd_T38 l0 x12_1).f0.f2), .int .i64 ((rd_T38 l0 x12_1).f0.f3)], .int .i64 a3, .int .i64 a4] rfl (by (try simp only [List.map_toArray, List.map_cons, List.map_nil]); first | done | rfl | (simp only [List.length_drop, List.length_take]; rfl)) ?_; (with_reducible refine (spec_l17Reaches.calls kj7 ((rd_T38 l0 x12_1).f0.f0) ((rd_T38 l0 x12_1).f0.f1) ((rd_T38 l0 x12_1).f0.f2) ((rd_T38 l0 x12_1).f0.f3) a3 a4 true _ A40.out).mono ?_); rintro e w50 ⟨rfl, hb⟩; refine ⟨_, rfl, ?_⟩; have n0_ := aMk (blk_below (g := gb129) (o := .cells #[.int .i64 ((rd_T38 l0 x12_1).f0.f0), .int .i64 ((rd_T38 l0 x12_1).f0.f1), .int .i64 ((rd_T38 l0 x12_1).f0.f2), .int .i64 ((rd_T38 l0 x12_1).f0.f3)] 34 (0, 0)) (by (with_reducible repeat (first | refine bkD ?_ _ | refine blk_drew ?_ | refine bkA ?_ _)); exact BK129.out) hb); have n1_ := aMk (below_step (by repeat (first | (with_reducible first | exact HB.out | apply bAl | apply bDn | apply bD1 | refine bSe ?_ GE129.out) | exact HB.out)) hb); clear BK129; clear HB; have BK129 := n0_; have HB := n1_; clear n0_ n1_; (try clear hb); (try clear hb2); (try clear hk); (try clear hi); have p135 : 0 ≤ (x12_1 : Int) := oDt (by first | (with_reducible assumption) | assumption); have q135 : x12_1 < (l0.length : Int) := oDt (by first | (with_reducible assumption) | assumption); obtain ⟨ad135, e135, hx135_0, hx135_1, hx135_2, hx135_3, hx135_4⟩ := at_T38 HR0.out x12_1 p135 q135; (try rw [← Nbq44.out] at hx135_4); obtain rfl : ad128 = ad135 := (by injection e135); replace hx135_0 := (HB.out.cell (wBl w _ hx135_0)).trans hx135_0; replace hx135_1 := (HB.out.cell (wBl w _ hx135_1)).trans hx135_1; replace hx135_2 := (HB.out.cell (wBl w _ hx135_2)).trans hx135_2; replace hx135_3 := (HB.out.cell (wBl w _ hx135_3)).trans hx135_3; replace hx135_4 := (HB.out.cell (wBl w _ hx135_4)).trans hx135_4; replace p135 := eq_true p135; replace q135 := eq_true q135; have hcz51_0 : w50.cell? ⟨gb129, 0, none⟩ = some (.int .i64 ((rd_T38 l0 x12_1).f0.f0)) := (bCe BK129.out 0).trans rfl; have hcz51_1 : w50.cell? ⟨gb129, 1, none⟩ = some (.int .i64 ((rd_T38 l0 x12_1).f0.f1)) := (bCe BK129.out 1).trans rfl; have hcz51_2 : w50.cell? ⟨gb129, 2, none⟩ = some (.int .i64 ((rd_T38 l0 x12_1).f0.f2)) := (bCe BK129.out 2).trans rfl; have hcz51_3 : w50.cell? ⟨gb129, 3, none⟩ = some (.int .i64 ((rd_T38 l0 x12_1).f0.f3)) := (bCe BK129.out 3).trans rfl; have hfz51_0 := bFr BK129.out 0; have hfz51_1 := bFr BK129.out 1; have hfz51_2 := bFr BK129.out 2; have hfz51_3 := bFr BK129.out 3))
                     go_roundg kj7
                     case measure => have := HK1.out; have := HJ7.out; omega
                     case rel => exact ⟨(wrap64 (((rd_T38 l0 x12_1).f0.f0) + ((rd_T38 l0 x12_1).f0.f2))), (x2_1), (wrap64 (x12_1 + 1)), (by first | rfl | (simp; done) | (simp [*]; done)), (by first | rfl | (simp; done) | (simp [*]; done)), (by first | rfl | (simp; done) | (simp [*]; done)), H', ⟨by have := HK1.out; have := HJ7.out; omega⟩, ⟨by repeat (first | (with_reducible first | exact HB.out | apply bAl | apply bDn | apply bD1 | refine bSe ?_ GE129.out) | exact HB.out)⟩⟩
                   · rw [if_neg c48] at H
                     have c48b0 : decide (x1_1 < (wrap64 (((rd_T38 l0 x12_1).f0.f0) + ((rd_T38 l0 x12_1).f0.f2)))) = false := decide_eq_false c48
                     clear c48
                     have H' := aMk H
                     clear H
                     have hcz52_0 : wc.cell? ⟨gb129, 0, none⟩ = some (.int .i64 ((rd_T38 l0 x12_1).f0.f0)) := (bCe BK129.out 0).trans rfl
                     have hcz52_1 : wc.cell? ⟨gb129, 1, none⟩ = some (.int .i64 ((rd_T38 l0 x12_1).f0.f1)) := (bCe BK129.out 1).trans rfl
                     have hcz52_2 : wc.cell? ⟨gb129, 2, none⟩ = some (.int .i64 ((rd_T38 l0 x12_1).f0.f2)) := (bCe BK129.out 2).trans rfl
                     have hcz52_3 : wc.cell? ⟨gb129, 3, none⟩ = some (.int .i64 ((rd_T38 l0 x12_1).f0.f3)) := (bCe BK129.out 3).trans rfl
                     have hfz52_0 := bFr BK129.out 0
                     have hfz52_1 := bFr BK129.out 1
                     have hfz52_2 := bFr BK129.out 2
                     have hfz52_3 := bFr BK129.out 3
                     go_wp2_with (first | ((with_reducible refine gate_callee (f := 123) rfl ?_); refine goesL_ (some 47) rfl rfl Try.func123 (by kernel_rfl) rfl #[.agg #[.int .i64 ((rd_T38 l0 x12_1).f0.f0), .int .i64 ((rd_T38 l0 x12_1).f0.f1), .int .i64 ((rd_T38 l0 x12_1).f0.f2), .int .i64 ((rd_T38 l0 x12_1).f0.f3)], .int .i64 a3, .int .i64 a4] rfl (by (try simp only [List.map_toArray, List.map_cons, List.map_nil]); first | done | rfl | (simp only [List.length_drop, List.length_take]; rfl)) ?_; (with_reducible refine (spec_l17Reaches.calls kj7 ((rd_T38 l0 x12_1).f0.f0) ((rd_T38 l0 x12_1).f0.f1) ((rd_T38 l0 x12_1).f0.f2) ((rd_T38 l0 x12_1).f0.f3) a3 a4 true _ A40.out).mono ?_); rintro e w53 ⟨rfl, hb⟩; refine ⟨_, rfl, ?_⟩; have n0_ := aMk (blk_below (g := gb129) (o := .cells #[.int .i64 ((rd_T38 l0 x12_1).f0.f0), .int .i64 ((rd_T38 l0 x12_1).f0.f1), .int .i64 ((rd_T38 l0 x12_1).f0.f2), .int .i64 ((rd_T38 l0 x12_1).f0.f3)] 34 (0, 0)) (by (with_reducible repeat (first | refine bkD ?_ _ | refine blk_drew ?_ | refine bkA ?_ _)); exact BK129.out) hb); have n1_ := aMk (below_step (by repeat (first | (with_reducible first | exact HB.out | apply bAl | apply bDn | apply bD1 | refine bSe ?_ GE129.out) | exact HB.out)) hb); clear BK129; clear HB; have BK129 := n0_; have HB := n1_; clear n0_ n1_; (try clear hb); (try clear hb2); (try clear hk); (try clear hi); have p135 : 0 ≤ (x12_1 : Int) := oDt (by first | (with_reducible assumption) | assumption); have q135 : x12_1 < (l0.length : Int) := oDt (by first | (with_reducible assumption) | assumption); obtain ⟨ad135, e135, hx135_0, hx135_1, hx135_2, hx135_3, hx135_4⟩ := at_T38 HR0.out x12_1 p135 q135; (try rw [← Nbq44.out] at hx135_4); obtain rfl : ad128 = ad135 := (by injection e135); replace hx135_0 := (HB.out.cell (wBl w _ hx135_0)).trans hx135_0; replace hx135_1 := (HB.out.cell (wBl w _ hx135_1)).trans hx135_1; replace hx135_2 := (HB.out.cell (wBl w _ hx135_2)).trans hx135_2; replace hx135_3 := (HB.out.cell (wBl w _ hx135_3)).trans hx135_3; replace hx135_4 := (HB.out.cell (wBl w _ hx135_4)).trans hx135_4; replace p135 := eq_true p135; replace q135 := eq_true q135; have hcz54_0 : w53.cell? ⟨gb129, 0, none⟩ = some (.int .i64 ((rd_T38 l0 x12_1).f0.f0)) := (bCe BK129.out 0).trans rfl; have hcz54_1 : w53.cell? ⟨gb129, 1, none⟩ = some (.int .i64 ((rd_T38 l0 x12_1).f0.f1)) := (bCe BK129.out 1).trans rfl; have hcz54_2 : w53.cell? ⟨gb129, 2, none⟩ = some (.int .i64 ((rd_T38 l0 x12_1).f0.f2)) := (bCe BK129.out 2).trans rfl; have hcz54_3 : w53.cell? ⟨gb129, 3, none⟩ = some (.int .i64 ((rd_T38 l0 x12_1).f0.f3)) := (bCe BK129.out 3).trans rfl; have hfz54_0 := bFr BK129.out 0; have hfz54_1 := bFr BK129.out 1; have hfz54_2 := bFr BK129.out 2; have hfz54_3 := bFr BK129.out 3))
                     go_roundg kj7
                     case measure => have := HK1.out; have := HJ7.out; omega
                     case rel => exact ⟨(x1_1), (x2_1), (wrap64 (x12_1 + 1)), (by first | rfl | (simp; done) | (simp [*]; done)), (by first | rfl | (simp; done) | (simp [*]; done)), (by first | rfl | (simp; done) | (simp [*]; done)), H', ⟨by have := HK1.out; have := HJ7.out; omega⟩, ⟨by repeat (first | (with_reducible first | exact HB.out | apply bAl | apply bDn | apply bD1 | refine bSe ?_ GE129.out) | exact HB.out)⟩⟩
               · rw [if_neg c43] at H
                 exact absurd H (by simp)
             · rw [if_neg c42] at H
               exact absurd H (by simp)
           · replace c41 := Bool.eq_false_iff.mpr c41
             subst c41
             have H1 : (spec_l17Room.l0 kj7 l0 x1_1 x2_1 a3 a4 (wrap64 (x12_1 + 1))) = some (r1, r2) := by rw [if_neg (show ¬ (false = true) by decide)] at H; exact H
             clear H
             have H := H1
             clear H1
             have H' := aMk H
             clear H
             have hcz55_0 : wc.cell? ⟨gb129, 0, none⟩ = some (.int .i64 ((rd_T38 l0 x12_1).f0.f0)) := (bCe BK129.out 0).trans rfl
             have hcz55_1 : wc.cell? ⟨gb129, 1, none⟩ = some (.int .i64 ((rd_T38 l0 x12_1).f0.f1)) := (bCe BK129.out 1).trans rfl
             have hcz55_2 : wc.cell? ⟨gb129, 2, none⟩ = some (.int .i64 ((rd_T38 l0 x12_1).f0.f2)) := (bCe BK129.out 2).trans rfl
             have hcz55_3 : wc.cell? ⟨gb129, 3, none⟩ = some (.int .i64 ((rd_T38 l0 x12_1).f0.f3)) := (bCe BK129.out 3).trans rfl
             have hfz55_0 := bFr BK129.out 0
             have hfz55_1 := bFr BK129.out 1
             have hfz55_2 := bFr BK129.out 2
             have hfz55_3 := bFr BK129.out 3
             go_wp2_with (first | ((with_reducible refine gate_callee (f := 123) rfl ?_); refine goesL_ (some 47) rfl rfl Try.func123 (by kernel_rfl) rfl #[.agg #[.int .i64 ((rd_T38 l0 x12_1).f0.f0), .int .i64 ((rd_T38 l0 x12_1).f0.f1), .int .i64 ((rd_T38 l0 x12_1).f0.f2), .int .i64 ((rd_T38 l0 x12_1).f0.f3)], .int .i64 a3, .int .i64 a4] rfl (by (try simp only [List.map_toArray, List.map_cons, List.map_nil]); first | done | rfl | (simp only [List.length_drop, List.length_take]; rfl)) ?_; (with_reducible refine (spec_l17Reaches.calls kj7 ((rd_T38 l0 x12_1).f0.f0) ((rd_T38 l0 x12_1).f0.f1) ((rd_T38 l0 x12_1).f0.f2) ((rd_T38 l0 x12_1).f0.f3) a3 a4 false _ A40.out).mono ?_); rintro e w56 ⟨rfl, hb⟩; refine ⟨_, rfl, ?_⟩; have n0_ := aMk (blk_below (g := gb129) (o := .cells #[.int .i64 ((rd_T38 l0 x12_1).f0.f0), .int .i64 ((rd_T38 l0 x12_1).f0.f1), .int .i64 ((rd_T38 l0 x12_1).f0.f2), .int .i64 ((rd_T38 l0 x12_1).f0.f3)] 34 (0, 0)) (by (with_reducible repeat (first | refine bkD ?_ _ | refine blk_drew ?_ | refine bkA ?_ _)); exact BK129.out) hb); have n1_ := aMk (below_step (by repeat (first | (with_reducible first | exact HB.out | apply bAl | apply bDn | apply bD1 | refine bSe ?_ GE129.out) | exact HB.out)) hb); clear BK129; clear HB; have BK129 := n0_; have HB := n1_; clear n0_ n1_; (try clear hb); (try clear hb2); (try clear hk); (try clear hi)))
             go_roundg kj7
             case measure => have := HK1.out; have := HJ7.out; omega
             case rel => exact ⟨(x1_1), (x2_1), (wrap64 (x12_1 + 1)), (by first | rfl | (simp; done) | (simp [*]; done)), (by first | rfl | (simp; done) | (simp [*]; done)), (by first | rfl | (simp; done) | (simp [*]; done)), H', ⟨by have := HK1.out; have := HJ7.out; omega⟩, ⟨by repeat (first | (with_reducible first | exact HB.out | apply bAl | apply bDn | apply bD1 | refine bSe ?_ GE129.out) | exact HB.out)⟩⟩
     · rw [if_neg c7] at H
       exact absurd H (by simp)
   · rw [if_neg c6] at H
     have c6b0 : decide (x12_1 < (l0.length : Int)) = false := decide_eq_false c6
     clear c6
     simp only [Option.some.injEq, Prod.mk.injEq] at H
     obtain ⟨rfl, rfl⟩ := H
     go_wp2
     go_ret2
     exact ⟨by first | rfl | (simp [errW_none, errW_some] <;> rfl) | (simp [*, errW_none, errW_some] <;> rfl), by repeat (first | (with_reducible first | exact HB.out | apply bAl | apply bDn | apply bD1) | exact HB.out)⟩

/-! ### spec_l17Free: function 77 -/
def spec_l17Free.l0 : Nat → List (S38) → Int → Int → Int → Option (Bool)
 | 0, _, _, _, _ => none
 | k + 1, x0, x1, x2, x7 => if x7 < (x0.length : Int) then (if 0 ≤ x7 then ((spec_l17Reaches.f k ((rd_T38 x0 x7).f0.f0) ((rd_T38 x0 x7).f0.f1) ((rd_T38 x0 x7).f0.f2) ((rd_T38 x0 x7).f0.f3) x1 x2).bind fun t137 => (if t137 = true then (some false) else (spec_l17Free.l0 k x0 x1 x2 (wrap64 (x7 + 1))))) else (none)) else (some true)
def spec_l17Free.f (k : Nat) (l0 : List (S38)) (a1 : Int) (a2 : Int) : Option (Bool) := spec_l17Free.l0 k l0 a1 a2 0
theorem spec_l17Free.mono_l : ∀ k, (∀ y0 y1 y2 y3, LeO (spec_l17Free.l0 k y0 y1 y2 y3) (spec_l17Free.l0 (k + 1) y0 y1 y2 y3))
 | 0 => fun _ _ _ _ r h => by simp [spec_l17Free.l0] at h
 | k + 1 => by
  have ih0 := spec_l17Free.mono_l k
  · intro y0 y1 y2 y3
    unfold spec_l17Free.l0
    repeat' first
    | (with_reducible exact ih0 _ _ _ _)
    | (with_reducible exact spec_l17Reaches.mono _ _ _ _ _ _ _)
    | (with_reducible exact LeO.refl _)
    | (with_reducible exact LeO.none _)
    | (with_reducible refine LeO.ite ?_ ?_)
    | (with_reducible refine LeO.bind ?_ (fun _ => ?_))
    | exact ih0 _ _ _ _
    | exact spec_l17Reaches.mono _ _ _ _ _ _ _
    | exact LeO.none _
    | refine LeO.ite ?_ ?_
    | refine LeO.bind ?_ (fun _ => ?_)
theorem spec_l17Free.mono : ∀ a0 a1 a2 k, LeO (spec_l17Free.f k a0 a1 a2) (spec_l17Free.f (k + 1) a0 a1 a2) := by
 intro a0 a1 a2 k
 have ih0 := spec_l17Free.mono_l k
 unfold spec_l17Free.f
 repeat' first
  | (with_reducible exact ih0 _ _ _ _)
  | (with_reducible exact spec_l17Reaches.mono _ _ _ _ _ _ _)
  | (with_reducible exact LeO.refl _)
  | (with_reducible exact LeO.none _)
  | (with_reducible refine LeO.ite ?_ ?_)
  | (with_reducible refine LeO.bind ?_ (fun _ => ?_))
  | exact ih0 _ _ _ _
  | exact spec_l17Reaches.mono _ _ _ _ _ _ _
  | exact LeO.none _
  | refine LeO.ite ?_ ?_
  | refine LeO.bind ?_ (fun _ => ?_)
set_option maxHeartbeats 8000000 in
set_option maxRecDepth 100000 in
theorem spec_l17Free.calls (k : Nat) (A0 : Option Addr) (c0 : Nat) (l0 : List (S38)) (a1 : Int) (a2 : Int) (r : Bool) (w : World) (hr0 : Kd.C k38 w A0 l0.length l0) (hc0 : l0.length ≤ c0) (h : spec_l17Free.f k l0 a1 a2 = some r) :
 Calls Try.prog 77 #[.slice A0 l0.length c0, .int .i64 a1, .int .i64 a2] w fun e w' => e = .returned (.bool r) ∧ Below w.heap.size w w' := by
 have hu34 := Try.underlying34
 have HR0 := aMk hr0
 have HC0 := aMk hc0
 clear hr0 hc0
 have HB := aMk (Below.refl w.heap.size w)
 have H : (spec_l17Free.l0 k l0 a1 a2 0) = some r := h
 clear h
 have H' := aMk H
 clear H
 go_enter Try.func77, Try.ntmps77
 go_wp2
 go_loopg [7] k (fun kq v7 w' => ∃ (x7_1 : Int), v7 = .int .i64 x7_1 ∧ Aside0 (spec_l17Free.l0 kq l0 a1 a2 x7_1 = some r) ∧ Aside0 (kq ≤ k) ∧ Aside0 (Below w.heap.size w w'))
 case atStart => exact ⟨(0), (by first | rfl | (simp; done) | (simp [*]; done)), H', ⟨Nat.le_refl _⟩, ⟨by repeat (first | (with_reducible first | exact HB.out | apply bAl | apply bDn | apply bD1) | exact HB.out)⟩⟩
 case round =>
  clear H'
  try clear p2
  obtain ⟨x7_1, rfl, HA, HK1, HB⟩ := hrel
  cases gk with
  | zero => exact absurd HA.out (by simp [spec_l17Free.l0])
  | succ k1 =>
   have H := HA.out
   clear HA
   simp only [spec_l17Free.l0] at H
   by_cases c4 : x7_1 < (l0.length : Int)
   · rw [if_pos c4] at H
     have c4b0 : decide (x7_1 < (l0.length : Int)) = true := decide_eq_true c4
     clear c4
     by_cases c5 : 0 ≤ x7_1
     · rw [if_pos c5] at H
       have c5b0 : decide (0 ≤ x7_1) = true := decide_eq_true c5
       clear c5
       replace H := oBm H
       obtain ⟨t137, A60, H⟩ := H
       replace H : (if t137 = true then (some false) else (spec_l17Free.l0 k1 l0 a1 a2 (wrap64 (x7_1 + 1)))) = some r := H
       have A6 := aMk A60
       clear A60
       by_cases c7 : t137 = true
       · subst c7
         have H1 : (some false) = some r := by rw [if_pos rfl] at H; exact H
         clear H
         have H := H1
         clear H1
         obtain rfl := Option.some.inj H
         have p136 : 0 ≤ (x7_1 : Int) := oDt (by first | (with_reducible assumption) | assumption)
         have q136 : x7_1 < (l0.length : Int) := oDt (by first | (with_reducible assumption) | assumption)
         obtain ⟨ad136, e136, hx136_0, hx136_1, hx136_2, hx136_3, hx136_4⟩ := at_T38 HR0.out x7_1 p136 q136
         cases e136
         replace hx136_0 := (HB.out.cell (wBl w _ hx136_0)).trans hx136_0
         replace hx136_1 := (HB.out.cell (wBl w _ hx136_1)).trans hx136_1
         replace hx136_2 := (HB.out.cell (wBl w _ hx136_2)).trans hx136_2
         replace hx136_3 := (HB.out.cell (wBl w _ hx136_3)).trans hx136_3
         replace hx136_4 := (HB.out.cell (wBl w _ hx136_4)).trans hx136_4
         replace p136 := eq_true p136
         replace q136 := eq_true q136
         go_wp2_with (first | ((with_reducible refine gate_callee (f := 123) rfl ?_); refine goesL_ (some 21) rfl rfl Try.func123 (by kernel_rfl) rfl #[.agg #[.int .i64 ((rd_T38 l0 x7_1).f0.f0), .int .i64 ((rd_T38 l0 x7_1).f0.f1), .int .i64 ((rd_T38 l0 x7_1).f0.f2), .int .i64 ((rd_T38 l0 x7_1).f0.f3)], .int .i64 a1, .int .i64 a2] rfl (by (try simp only [List.map_toArray, List.map_cons, List.map_nil]); first | done | rfl | (simp only [List.length_drop, List.length_take]; rfl)) ?_; (with_reducible refine (spec_l17Reaches.calls k1 ((rd_T38 l0 x7_1).f0.f0) ((rd_T38 l0 x7_1).f0.f1) ((rd_T38 l0 x7_1).f0.f2) ((rd_T38 l0 x7_1).f0.f3) a1 a2 true _ A6.out).mono ?_); rintro e w8 ⟨rfl, hb⟩; refine ⟨_, rfl, ?_⟩; have n0_ := aMk (below_step (by repeat (first | (with_reducible first | exact HB.out | apply bAl | apply bDn | apply bD1) | exact HB.out)) hb); clear HB; have HB := n0_; clear n0_; (try clear hb); (try clear hb2); (try clear hk); (try clear hi)))
         go_ret
         exact ⟨by first | rfl | (simp [errW_none, errW_some] <;> rfl) | (simp [*, errW_none, errW_some] <;> rfl), by repeat (first | (with_reducible first | exact HB.out | apply bAl | apply bDn | apply bD1) | exact HB.out)⟩
       · replace c7 := Bool.eq_false_iff.mpr c7
         subst c7
         have H1 : (spec_l17Free.l0 k1 l0 a1 a2 (wrap64 (x7_1 + 1))) = some r := by rw [if_neg (show ¬ (false = true) by decide)] at H; exact H
         clear H
         have H := H1
         clear H1
         have H' := aMk H
         clear H
         have p136 : 0 ≤ (x7_1 : Int) := oDt (by first | (with_reducible assumption) | assumption)
         have q136 : x7_1 < (l0.length : Int) := oDt (by first | (with_reducible assumption) | assumption)
         obtain ⟨ad136, e136, hx136_0, hx136_1, hx136_2, hx136_3, hx136_4⟩ := at_T38 HR0.out x7_1 p136 q136
         cases e136
         replace hx136_0 := (HB.out.cell (wBl w _ hx136_0)).trans hx136_0
         replace hx136_1 := (HB.out.cell (wBl w _ hx136_1)).trans hx136_1
         replace hx136_2 := (HB.out.cell (wBl w _ hx136_2)).trans hx136_2
         replace hx136_3 := (HB.out.cell (wBl w _ hx136_3)).trans hx136_3
         replace hx136_4 := (HB.out.cell (wBl w _ hx136_4)).trans hx136_4
         replace p136 := eq_true p136
         replace q136 := eq_true q136
         go_wp2_with (first | ((with_reducible refine gate_callee (f := 123) rfl ?_); refine goesL_ (some 21) rfl rfl Try.func123 (by kernel_rfl) rfl #[.agg #[.int .i64 ((rd_T38 l0 x7_1).f0.f0), .int .i64 ((rd_T38 l0 x7_1).f0.f1), .int .i64 ((rd_T38 l0 x7_1).f0.f2), .int .i64 ((rd_T38 l0 x7_1).f0.f3)], .int .i64 a1, .int .i64 a2] rfl (by (try simp only [List.map_toArray, List.map_cons, List.map_nil]); first | done | rfl | (simp only [List.length_drop, List.length_take]; rfl)) ?_; (with_reducible refine (spec_l17Reaches.calls k1 ((rd_T38 l0 x7_1).f0.f0) ((rd_T38 l0 x7_1).f0.f1) ((rd_T38 l0 x7_1).f0.f2) ((rd_T38 l0 x7_1).f0.f3) a1 a2 false _ A6.out).mono ?_); rintro e w9 ⟨rfl, hb⟩; refine ⟨_, rfl, ?_⟩; have n0_ := aMk (below_step (by repeat (first | (with_reducible first | exact HB.out | apply bAl | apply bDn | apply bD1) | exact HB.out)) hb); clear HB; have HB := n0_; clear n0_; (try clear hb); (try clear hb2); (try clear hk); (try clear hi)))
         go_roundg k1
         case measure => have := HK1.out; omega
         case rel => exact ⟨(wrap64 (x7_1 + 1)), (by first | rfl | (simp; done) | (simp [*]; done)), H', ⟨by have := HK1.out; omega⟩, ⟨by repeat (first | (with_reducible first | exact HB.out | apply bAl | apply bDn | apply bD1) | exact HB.out)⟩⟩
     · rw [if_neg c5] at H
       exact absurd H (by simp)
   · rw [if_neg c4] at H
     have c4b0 : decide (x7_1 < (l0.length : Int)) = false := decide_eq_false c4
     clear c4
     obtain rfl := Option.some.inj H
     go_wp2
     go_ret
     exact ⟨by first | rfl | (simp [errW_none, errW_some] <;> rfl) | (simp [*, errW_none, errW_some] <;> rfl), by repeat (first | (with_reducible first | exact HB.out | apply bAl | apply bDn | apply bD1) | exact HB.out)⟩

/-! ### spec_l17Down: function 78 -/
def spec_l17Down.l0 : Nat → List (S38) → Int → Int → Bool → Int → Option (Int)
 | 0, _, _, _, _, _ => none
 | k + 1, x0, x1, x5, x6, x7 => if x7 < (x0.length : Int) then (if 0 ≤ x7 then (if (wrap64 (((rd_T38 x0 x7).f0.f1) + ((rd_T38 x0 x7).f0.f3))) > x1 then (if x6 = true then (if (wrap64 (((rd_T38 x0 x7).f0.f1) + ((rd_T38 x0 x7).f0.f3))) < x5 then (spec_l17Down.l0 k x0 x1 (wrap64 (((rd_T38 x0 x7).f0.f1) + ((rd_T38 x0 x7).f0.f3))) true (wrap64 (x7 + 1))) else (spec_l17Down.l0 k x0 x1 x5 x6 (wrap64 (x7 + 1)))) else (spec_l17Down.l0 k x0 x1 (wrap64 (((rd_T38 x0 x7).f0.f1) + ((rd_T38 x0 x7).f0.f3))) true (wrap64 (x7 + 1)))) else (spec_l17Down.l0 k x0 x1 x5 x6 (wrap64 (x7 + 1)))) else (none)) else (some x5)
def spec_l17Down.f (k : Nat) (l0 : List (S38)) (a1 : Int) : Option (Int) := spec_l17Down.l0 k l0 a1 0 false 0
theorem spec_l17Down.mono_l : ∀ k, (∀ y0 y1 y2 y3 y4, LeO (spec_l17Down.l0 k y0 y1 y2 y3 y4) (spec_l17Down.l0 (k + 1) y0 y1 y2 y3 y4))
 | 0 => fun _ _ _ _ _ r h => by simp [spec_l17Down.l0] at h
 | k + 1 => by
  have ih0 := spec_l17Down.mono_l k
  · intro y0 y1 y2 y3 y4
    unfold spec_l17Down.l0
    repeat' first
    | (with_reducible exact ih0 _ _ _ _ _)
    | (with_reducible exact LeO.refl _)
    | (with_reducible exact LeO.none _)
    | (with_reducible refine LeO.ite ?_ ?_)
    | (with_reducible refine LeO.bind ?_ (fun _ => ?_))
    | exact ih0 _ _ _ _ _
    | exact LeO.none _
    | refine LeO.ite ?_ ?_
    | refine LeO.bind ?_ (fun _ => ?_)
theorem spec_l17Down.mono : ∀ a0 a1 k, LeO (spec_l17Down.f k a0 a1) (spec_l17Down.f (k + 1) a0 a1) := by
 intro a0 a1 k
 have ih0 := spec_l17Down.mono_l k
 unfold spec_l17Down.f
 repeat' first
  | (with_reducible exact ih0 _ _ _ _ _)
  | (with_reducible exact LeO.refl _)
  | (with_reducible exact LeO.none _)
  | (with_reducible refine LeO.ite ?_ ?_)
  | (with_reducible refine LeO.bind ?_ (fun _ => ?_))
  | exact ih0 _ _ _ _ _
  | exact LeO.none _
  | refine LeO.ite ?_ ?_
  | refine LeO.bind ?_ (fun _ => ?_)
set_option maxHeartbeats 8000000 in
set_option maxRecDepth 100000 in
theorem spec_l17Down.calls (k : Nat) (A0 : Option Addr) (c0 : Nat) (l0 : List (S38)) (a1 : Int) (r : Int) (w : World) (hr0 : Kd.C k38 w A0 l0.length l0) (hc0 : l0.length ≤ c0) (h : spec_l17Down.f k l0 a1 = some r) :
 Calls Try.prog 78 #[.slice A0 l0.length c0, .int .i64 a1] w fun e w' => e = .returned (.int .i64 r) ∧ Drawn0 w w' := by
 have HR0 := aMk hr0
 have HC0 := aMk hc0
 clear hr0 hc0
 have H : (spec_l17Down.l0 k l0 a1 0 false 0) = some r := h
 clear h
 have H' := aMk H
 clear H
 go_enter Try.func78, Try.ntmps78
 go_wp2
 repeat (go_quiet (fail); try go_wp2)
 go_loopg [5, 6, 7] k (fun kq v5 v6 v7 w' => ∃ (x5_1 : Int) (x6_1 : Bool) (x7_1 : Int), v5 = .int .i64 x5_1 ∧ v6 = .bool x6_1 ∧ v7 = .int .i64 x7_1 ∧ Aside0 (spec_l17Down.l0 kq l0 a1 x5_1 x6_1 x7_1 = some r) ∧ Aside0 (kq ≤ k) ∧ Drawn0 w w')
 case atStart => exact ⟨(0), (false), (0), (by first | rfl | (simp; done) | (simp [*]; done)), (by first | rfl | (simp; done) | (simp [*]; done)), (by first | rfl | (simp; done) | (simp [*]; done)), H', ⟨Nat.le_refl _⟩, by repeat (first | exact Drawn0.refl _ | apply Drawn0.step)⟩
 case round =>
  clear H'
  try clear p2
  obtain ⟨x5_1, x6_1, x7_1, rfl, rfl, rfl, HA, HK1, ⟨m1, rfl⟩⟩ := hrel
  cases gk with
  | zero => exact absurd HA.out (by simp [spec_l17Down.l0])
  | succ k1 =>
   have H := HA.out
   clear HA
   simp only [spec_l17Down.l0] at H
   by_cases c3 : x7_1 < (l0.length : Int)
   · rw [if_pos c3] at H
     have c3b0 : decide (x7_1 < (l0.length : Int)) = true := decide_eq_true c3
     clear c3
     by_cases c4 : 0 ≤ x7_1
     · rw [if_pos c4] at H
       have c4b0 : decide (0 ≤ x7_1) = true := decide_eq_true c4
       clear c4
       by_cases c5 : (wrap64 (((rd_T38 l0 x7_1).f0.f1) + ((rd_T38 l0 x7_1).f0.f3))) > a1
       · rw [if_pos c5] at H
         have c5b0 : decide (a1 < (wrap64 (((rd_T38 l0 x7_1).f0.f1) + ((rd_T38 l0 x7_1).f0.f3)))) = true := decide_eq_true c5
         clear c5
         by_cases c6 : x6_1 = true
         · subst c6
           have H1 : (if (wrap64 (((rd_T38 l0 x7_1).f0.f1) + ((rd_T38 l0 x7_1).f0.f3))) < x5_1 then (spec_l17Down.l0 k1 l0 a1 (wrap64 (((rd_T38 l0 x7_1).f0.f1) + ((rd_T38 l0 x7_1).f0.f3))) true (wrap64 (x7_1 + 1))) else (spec_l17Down.l0 k1 l0 a1 x5_1 true (wrap64 (x7_1 + 1)))) = some r := by rw [if_pos rfl] at H; exact H
           clear H
           have H := H1
           clear H1
           by_cases c7 : (wrap64 (((rd_T38 l0 x7_1).f0.f1) + ((rd_T38 l0 x7_1).f0.f3))) < x5_1
           · rw [if_pos c7] at H
             have c7b0 : decide ((wrap64 (((rd_T38 l0 x7_1).f0.f1) + ((rd_T38 l0 x7_1).f0.f3))) < x5_1) = true := decide_eq_true c7
             clear c7
             have H' := aMk H
             clear H
             have p138 : 0 ≤ (x7_1 : Int) := oDt (by first | (with_reducible assumption) | assumption)
             have q138 : x7_1 < (l0.length : Int) := oDt (by first | (with_reducible assumption) | assumption)
             obtain ⟨ad138, e138, hx138_0, hx138_1, hx138_2, hx138_3, hx138_4⟩ := at_T38 HR0.out x7_1 p138 q138
             cases e138
             replace p138 := eq_true p138
             replace q138 := eq_true q138
             have p139 : 0 ≤ (x7_1 : Int) := oDt (by first | (with_reducible assumption) | assumption)
             have q139 : x7_1 < (l0.length : Int) := oDt (by first | (with_reducible assumption) | assumption)
             obtain ⟨ad139, e139, hx139_0, hx139_1, hx139_2, hx139_3, hx139_4⟩ := at_T38 HR0.out x7_1 p139 q139
             obtain rfl : ad138 = ad139 := (by injection e139)
             replace p139 := eq_true p139
             replace q139 := eq_true q139
             go_wp2
             repeat (go_quiet (fail); try go_wp2)
             go_roundg k1
             case measure => have := HK1.out; omega
             case rel => exact ⟨(wrap64 (((rd_T38 l0 x7_1).f0.f1) + ((rd_T38 l0 x7_1).f0.f3))), (true), (wrap64 (x7_1 + 1)), (by first | rfl | (simp; done) | (simp [*]; done)), (by first | rfl | (simp; done) | (simp [*]; done)), (by first | rfl | (simp; done) | (simp [*]; done)), H', ⟨by have := HK1.out; omega⟩, by repeat (first | exact Drawn0.refl _ | apply Drawn0.step)⟩
           · rw [if_neg c7] at H
             have c7b0 : decide ((wrap64 (((rd_T38 l0 x7_1).f0.f1) + ((rd_T38 l0 x7_1).f0.f3))) < x5_1) = false := decide_eq_false c7
             clear c7
             have H' := aMk H
             clear H
             have p138 : 0 ≤ (x7_1 : Int) := oDt (by first | (with_reducible assumption) | assumption)
             have q138 : x7_1 < (l0.length : Int) := oDt (by first | (with_reducible assumption) | assumption)
             obtain ⟨ad138, e138, hx138_0, hx138_1, hx138_2, hx138_3, hx138_4⟩ := at_T38 HR0.out x7_1 p138 q138
             cases e138
             replace p138 := eq_true p138
             replace q138 := eq_true q138
             have p139 : 0 ≤ (x7_1 : Int) := oDt (by first | (with_reducible assumption) | assumption)
             have q139 : x7_1 < (l0.length : Int) := oDt (by first | (with_reducible assumption) | assumption)
             obtain ⟨ad139, e139, hx139_0, hx139_1, hx139_2, hx139_3, hx139_4⟩ := at_T38 HR0.out x7_1 p139 q139
             obtain rfl : ad138 = ad139 := (by injection e139)
             replace p139 := eq_true p139
             replace q139 := eq_true q139
             go_wp2
             repeat (go_quiet (fail); try go_wp2)
             go_roundg k1
             case measure => have := HK1.out; omega
             case rel => exact ⟨(x5_1), (true), (wrap64 (x7_1 + 1)), (by first | rfl | (simp; done) | (simp [*]; done)), (by first | rfl | (simp; done) | (simp [*]; done)), (by first | rfl | (simp; done) | (simp [*]; done)), H', ⟨by have := HK1.out; omega⟩, by repeat (first | exact Drawn0.refl _ | apply Drawn0.step)⟩
         · replace c6 := Bool.eq_false_iff.mpr c6
           subst c6
           have H1 : (spec_l17Down.l0 k1 l0 a1 (wrap64 (((rd_T38 l0 x7_1).f0.f1) + ((rd_T38 l0 x7_1).f0.f3))) true (wrap64 (x7_1 + 1))) = some r := by rw [if_neg (show ¬ (false = true) by decide)] at H; exact H
           clear H
           have H := H1
           clear H1
           have H' := aMk H
           clear H
           have p138 : 0 ≤ (x7_1 : Int) := oDt (by first | (with_reducible assumption) | assumption)
           have q138 : x7_1 < (l0.length : Int) := oDt (by first | (with_reducible assumption) | assumption)
           obtain ⟨ad138, e138, hx138_0, hx138_1, hx138_2, hx138_3, hx138_4⟩ := at_T38 HR0.out x7_1 p138 q138
           cases e138
           replace p138 := eq_true p138
           replace q138 := eq_true q138
           have p139 : 0 ≤ (x7_1 : Int) := oDt (by first | (with_reducible assumption) | assumption)
           have q139 : x7_1 < (l0.length : Int) := oDt (by first | (with_reducible assumption) | assumption)
           obtain ⟨ad139, e139, hx139_0, hx139_1, hx139_2, hx139_3, hx139_4⟩ := at_T38 HR0.out x7_1 p139 q139
           obtain rfl : ad138 = ad139 := (by injection e139)
           replace p139 := eq_true p139
           replace q139 := eq_true q139
           go_wp2
           repeat (go_quiet (fail); try go_wp2)
           go_roundg k1
           case measure => have := HK1.out; omega
           case rel => exact ⟨(wrap64 (((rd_T38 l0 x7_1).f0.f1) + ((rd_T38 l0 x7_1).f0.f3))), (true), (wrap64 (x7_1 + 1)), (by first | rfl | (simp; done) | (simp [*]; done)), (by first | rfl | (simp; done) | (simp [*]; done)), (by first | rfl | (simp; done) | (simp [*]; done)), H', ⟨by have := HK1.out; omega⟩, by repeat (first | exact Drawn0.refl _ | apply Drawn0.step)⟩
       · rw [if_neg c5] at H
         have c5b0 : decide (a1 < (wrap64 (((rd_T38 l0 x7_1).f0.f1) + ((rd_T38 l0 x7_1).f0.f3)))) = false := decide_eq_false c5
         clear c5
         have H' := aMk H
         clear H
         have p138 : 0 ≤ (x7_1 : Int) := oDt (by first | (with_reducible assumption) | assumption)
         have q138 : x7_1 < (l0.length : Int) := oDt (by first | (with_reducible assumption) | assumption)
         obtain ⟨ad138, e138, hx138_0, hx138_1, hx138_2, hx138_3, hx138_4⟩ := at_T38 HR0.out x7_1 p138 q138
         cases e138
         replace p138 := eq_true p138
         replace q138 := eq_true q138
         have p139 : 0 ≤ (x7_1 : Int) := oDt (by first | (with_reducible assumption) | assumption)
         have q139 : x7_1 < (l0.length : Int) := oDt (by first | (with_reducible assumption) | assumption)
         obtain ⟨ad139, e139, hx139_0, hx139_1, hx139_2, hx139_3, hx139_4⟩ := at_T38 HR0.out x7_1 p139 q139
         obtain rfl : ad138 = ad139 := (by injection e139)
         replace p139 := eq_true p139
         replace q139 := eq_true q139
         go_wp2
         repeat (go_quiet (fail); try go_wp2)
         go_roundg k1
         case measure => have := HK1.out; omega
         case rel => exact ⟨(x5_1), (x6_1), (wrap64 (x7_1 + 1)), (by first | rfl | (simp; done) | (simp [*]; done)), (by first | rfl | (simp; done) | (simp [*]; done)), (by first | rfl | (simp; done) | (simp [*]; done)), H', ⟨by have := HK1.out; omega⟩, by repeat (first | exact Drawn0.refl _ | apply Drawn0.step)⟩
     · rw [if_neg c4] at H
       exact absurd H (by simp)
   · rw [if_neg c3] at H
     have c3b0 : decide (x7_1 < (l0.length : Int)) = false := decide_eq_false c3
     clear c3
     obtain rfl := Option.some.inj H
     go_wp2
     repeat (go_quiet (fail); try go_wp2)
     go_ret
     exact ⟨by first | rfl | (simp; done) | (simp [*]; done), by repeat (first | exact Drawn0.refl _ | apply Drawn0.step)⟩

end Go.Proofs.Ytppjmcfcacgbdaa.MFnFloats
