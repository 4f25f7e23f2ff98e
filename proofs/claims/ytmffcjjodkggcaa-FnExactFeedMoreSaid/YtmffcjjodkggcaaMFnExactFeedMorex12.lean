-- Written by this session's own program (wip/gen/myprint.py).
import Derived.Test.YtmffcjjodkggcaaMFnExactFeedMorex0
import Derived.Test.YtmffcjjodkggcaaMFnExactFeedMorex1
import Derived.Test.YtmffcjjodkggcaaMFnExactFeedMorex5
import Derived.Test.YtmffcjjodkggcaaMFnExactFeedMorex10
import Derived.Test.YtmffcjjodkggcaaMFnExactFeedMorex11
namespace Go.Proofs.Ytmffcjjodkggcaa.MFnExactFeedMore
open Go.RowKit Go.Proofs.YtmffcjjodkggcaaW.PrintWords Go.Proofs.YtmffcjjodkggcaaW.PrintLast Go.Proofs.YtmffcjjodkggcaaW.PrintMore
attribute [local go_sem] max2_int min2_int max_two min_two max_three min_three max_four min_four   -- for this text's walks alone
set_option linter.unusedVariables false
set_option linter.unusedSimpArgs false
mutual
def laws_FnExactFeedMore.j0 : Nat → List Int → ByteArray → List Int → ByteArray → Bool → Int → Bool → List Int → Int → Bool → List Int → Int → Bool → List Int → Int → Bool → List Int → Option (Bool)
 | 0, _, _, _, _, _, _, _, _, _, _, _, _, _, _, _, _, _ => none
 | k + 1, x1, x7, x9, x11, x51, x284000, x284001, x284002, x300000, x300001, x300002, x306000, x306001, x306002, x316000, x316001, x316002 => if x51 = true then (some false) else ((laws_toFeed.f k x284000 x284001 x284002).bind fun bt317 => ((laws_eqFeed.f k x306000 x306001 x306002 bt317.1 bt317.2.1 bt317.2.2).bind fun t322 => (if t322 = true then ((laws_toByteS.f k x1).bind fun t323 => ((laws_eqByteS.f k x9 t323).bind fun t326 => (if t326 = true then ((laws_markFeed.f k x306000 x306001 x306002 1).bind fun bt327 => ((laws_markByteS.f k x9 bt327.1).bind fun bt329 => (if bt329.1 < 0 then (laws_FnExactFeedMore.j1 k x1 x7 true x284000 x284001 x284002 x300000 x300001 x300002 x316000 x316001 x316002) else ((laws_eqFeed.f k x316000 x316001 x316002 x300000 x300001 x300002).bind fun t331 => (if t331 = true then (laws_FnExactFeedMore.j1 k x1 x7 (x11.toList != x7.toList) x284000 x284001 x284002 x300000 x300001 x300002 x316000 x316001 x316002) else (laws_FnExactFeedMore.j1 k x1 x7 true x284000 x284001 x284002 x300000 x300001 x300002 x316000 x316001 x316002)))))) else (some false)))) else (some false))))
def laws_FnExactFeedMore.j1 : Nat → List Int → ByteArray → Bool → Int → Bool → List Int → Int → Bool → List Int → Int → Bool → List Int → Option (Bool)
 | 0, _, _, _, _, _, _, _, _, _, _, _, _ => none
 | k + 1, x1, x7, x80, x284000, x284001, x284002, x300000, x300001, x300002, x316000, x316001, x316002 => if x80 = true then (some false) else ((laws_markFeed.f k x316000 x316001 x316002 1).bind fun bt332 => ((laws_heldFeed.f k x316000 x316001 bt332.2 1).bind fun t334 => (if t334 < 0 then (some false) else (if t334 = bt332.1 then ((laws_toFeed.f k x284000 x284001 x284002).bind fun bt335 => ((laws_toByteS.f k x1).bind fun t340 => ((impl_FeedMore.f k bt335.1 bt335.2.1 bt335.2.2 t340).bind fun bt343 => ((laws_eqFeed.f k bt343.1 bt343.2.1 bt343.2.2.1 x300000 x300001 x300002).bind fun t350 => (if t350 = true then (laws_FnExactFeedMore.j2 k bt332.1 (bt343.2.2.2.toList != x7.toList) x316000 x316001 bt332.2) else (laws_FnExactFeedMore.j2 k bt332.1 true x316000 x316001 bt332.2)))))) else (some false)))))
def laws_FnExactFeedMore.j2 : Nat → Int → Bool → Int → Bool → List Int → Option (Bool)
 | 0, _, _, _, _, _ => none
 | k + 1, x13, x108, x316000, x316001, x316002 => if x108 = true then (some false) else ((laws_heldFeed.f k x316000 x316001 x316002 1).bind fun t351 => (if t351 < 0 then (some false) else (if t351 = x13 then (some true) else (some false))))
end
def laws_FnExactFeedMore.f (k : Nat) (a0_0 : Int) (a0_1 : Bool) (l0_2 : List Int) (l1 : List Int) : Option (Bool) := if (l1.length : Int) > 1048576 then (some true) else ((laws_szFeed.f a0_0 a0_1 l0_2 1048576).bind fun t284 => (if t284 < 0 then (some true) else ((laws_toFeed.f k a0_0 a0_1 l0_2).bind fun bt285 => ((laws_toByteS.f k l1).bind fun t290 => ((spec_FeedMore.f k bt285.1 bt285.2.1 bt285.2.2 t290).bind fun bt293 => ((laws_toFeed.f k a0_0 a0_1 l0_2).bind fun bt300 => ((laws_toByteS.f k l1).bind fun t306 => ((impl_FeedMore.f k bt300.1 bt300.2.1 bt300.2.2 t306).bind fun bt309 => ((laws_eqFeed.f k bt309.1 bt309.2.1 bt309.2.2.1 bt293.1 bt293.2.1 bt293.2.2.1).bind fun t316 => (if t316 = true then (laws_FnExactFeedMore.j0 k l1 bt293.2.2.2 t306 bt309.2.2.2 (bt309.2.2.2.toList != bt293.2.2.2.toList) a0_0 a0_1 l0_2 bt293.1 bt293.2.1 bt293.2.2.1 bt300.1 bt300.2.1 bt300.2.2 bt309.1 bt309.2.1 bt309.2.2.1) else (laws_FnExactFeedMore.j0 k l1 bt293.2.2.2 t306 bt309.2.2.2 true a0_0 a0_1 l0_2 bt293.1 bt293.2.1 bt293.2.2.1 bt300.1 bt300.2.1 bt300.2.2 bt309.1 bt309.2.1 bt309.2.2.1)))))))))))
set_option maxHeartbeats 8000000 in
set_option maxRecDepth 100000 in
theorem laws_FnExactFeedMore.calls (k : Nat) (a0_0 : Int) (a0_1 : Bool) (A0_2 : Option Addr) (c0_2 : Nat) (l0_2 : List Int) (A1 : Option Addr) (c1 : Nat) (l1 : List Int) (r : Bool) (w : World) (hr0_2 : Kd.C (Kd.int .u8) w A0_2 l0_2.length l0_2) (hc0_2 : l0_2.length ≤ c0_2) (hr1 : Kd.C (Kd.int .u8) w A1 l1.length l1) (hc1 : l1.length ≤ c1) (h : laws_FnExactFeedMore.f k a0_0 a0_1 l0_2 l1 = some r) :
 Calls Try.prog 6 #[.agg #[.int .i64 a0_0, .bool a0_1, .slice A0_2 l0_2.length c0_2], .slice A1 l1.length c1] w fun e w' => e = .returned (.bool r) ∧ Below w.heap.size w w' := by
 have hu35 := Try.underlying35
 have hu38 := Try.underlying38
 have HR0_2 := aMk hr0_2
 have HC0_2 := aMk hc0_2
 clear hr0_2 hc0_2
 have HR1 := aMk hr1
 have HC1 := aMk hc1
 clear hr1 hc1
 have HB := aMk (Below.refl w.heap.size w)
 have H : (if (l1.length : Int) > 1048576 then (some true) else ((laws_szFeed.f a0_0 a0_1 l0_2 1048576).bind fun t284 => (if t284 < 0 then (some true) else ((laws_toFeed.f k a0_0 a0_1 l0_2).bind fun bt285 => ((laws_toByteS.f k l1).bind fun t290 => ((spec_FeedMore.f k bt285.1 bt285.2.1 bt285.2.2 t290).bind fun bt293 => ((laws_toFeed.f k a0_0 a0_1 l0_2).bind fun bt300 => ((laws_toByteS.f k l1).bind fun t306 => ((impl_FeedMore.f k bt300.1 bt300.2.1 bt300.2.2 t306).bind fun bt309 => ((laws_eqFeed.f k bt309.1 bt309.2.1 bt309.2.2.1 bt293.1 bt293.2.1 bt293.2.2.1).bind fun t316 => (if t316 = true then (laws_FnExactFeedMore.j0 k l1 bt293.2.2.2 t306 bt309.2.2.2 (bt309.2.2.2.toList != bt293.2.2.2.toList) a0_0 a0_1 l0_2 bt293.1 bt293.2.1 bt293.2.2.1 bt300.1 bt300.2.1 bt300.2.2 bt309.1 bt309.2.1 bt309.2.2.1) else (laws_FnExactFeedMore.j0 k l1 bt293.2.2.2 t306 bt309.2.2.2 true a0_0 a0_1 l0_2 bt293.1 bt293.2.1 bt293.2.2.1 bt300.1 bt300.2.1 bt300.2.2 bt309.1 bt309.2.1 bt309.2.2.1)))))))))))) = some r := h
 clear h
 by_cases c3 : (l1.length : Int) > 1048576
 · rw [if_pos c3] at H
   have c3b0 : decide (1048576 < (l1.length : Int)) = true := decide_eq_true c3
   have c3b1 : decide (1048576 < l1.length) = true := decide_eq_true (by omega)
   clear c3
   obtain rfl := Option.some.inj H
   go_enter Try.func6, Try.ntmps6
   go_wp2_with (first | ((with_reducible refine gate_dst (N := 2) rfl ?_); refine box_event ?hg (N := 2) ?hd (cs := #[.int .i64 a0_0, .bool a0_1, .slice A0_2 l0_2.length c0_2]) (t := 35) ?hr ?_; (case hd => rfl); (case hg => rfl); (case hr => first | (go_simp; done) | (go_simp; rfl)); intro gb283 hg w4 hbox hb; have n0_ := aMk (below_step (by repeat (first | (with_reducible first | exact HB.out | apply bAl | apply bDn | apply bD1) | exact HB.out)) hb); have n1_ := aMk (hbox); have n2_ := aMk ((by rw [hg]; exact (below_size (by repeat (first | (with_reducible first | exact HB.out | apply bAl | apply bDn | apply bD1) | exact HB.out))) : w.heap.size ≤ gb283)); have n3_ := aMk ((by rw [hg]; exact (below_size (by repeat (first | (with_reducible first | exact HB.out | apply bAl | apply bDn | apply bD1) | exact HB.out))) : w.heap.size ≤ gb283)); clear HB; have HB := n0_; have BK283 := n1_; have GW283 := n2_; have GE283 := n3_; clear n0_ n1_ n2_ n3_; clear hb hbox hg))
   go_ret
   exact ⟨by first | rfl | (simp [errW_none, errW_some] <;> rfl) | (simp [*, errW_none, errW_some] <;> rfl), by repeat (first | (with_reducible first | exact HB.out | apply bAl | apply bDn | apply bD1 | refine bSe ?_ GE283.out) | exact HB.out)⟩
 · rw [if_neg c3] at H
   have c3b0 : decide (1048576 < (l1.length : Int)) = false := decide_eq_false c3
   have c3b1 : decide (1048576 < l1.length) = false := decide_eq_false (by omega)
   clear c3
   replace H := oBm H
   obtain ⟨t284, A50, H⟩ := H
   replace H : (if t284 < 0 then (some true) else ((laws_toFeed.f k a0_0 a0_1 l0_2).bind fun bt285 => ((laws_toByteS.f k l1).bind fun t290 => ((spec_FeedMore.f k bt285.1 bt285.2.1 bt285.2.2 t290).bind fun bt293 => ((laws_toFeed.f k a0_0 a0_1 l0_2).bind fun bt300 => ((laws_toByteS.f k l1).bind fun t306 => ((impl_FeedMore.f k bt300.1 bt300.2.1 bt300.2.2 t306).bind fun bt309 => ((laws_eqFeed.f k bt309.1 bt309.2.1 bt309.2.2.1 bt293.1 bt293.2.1 bt293.2.2.1).bind fun t316 => (if t316 = true then (laws_FnExactFeedMore.j0 k l1 bt293.2.2.2 t306 bt309.2.2.2 (bt309.2.2.2.toList != bt293.2.2.2.toList) a0_0 a0_1 l0_2 bt293.1 bt293.2.1 bt293.2.2.1 bt300.1 bt300.2.1 bt300.2.2 bt309.1 bt309.2.1 bt309.2.2.1) else (laws_FnExactFeedMore.j0 k l1 bt293.2.2.2 t306 bt309.2.2.2 true a0_0 a0_1 l0_2 bt293.1 bt293.2.1 bt293.2.2.1 bt300.1 bt300.2.1 bt300.2.2 bt309.1 bt309.2.1 bt309.2.2.1)))))))))) = some r := H
   have A5 := aMk A50
   clear A50
   by_cases c6 : t284 < 0
   · rw [if_pos c6] at H
     have c6b0 : decide (t284 < 0) = true := decide_eq_true c6
     clear c6
     obtain rfl := Option.some.inj H
     go_enter Try.func6, Try.ntmps6
     go_wp2_with (first | ((with_reducible refine gate_dst (N := 2) rfl ?_); refine box_event ?hg (N := 2) ?hd (cs := #[.int .i64 a0_0, .bool a0_1, .slice A0_2 l0_2.length c0_2]) (t := 35) ?hr ?_; (case hd => rfl); (case hg => rfl); (case hr => first | (go_simp; done) | (go_simp; rfl)); intro gb283 hg w7 hbox hb; have n0_ := aMk (below_step (by repeat (first | (with_reducible first | exact HB.out | apply bAl | apply bDn | apply bD1) | exact HB.out)) hb); have n1_ := aMk (hbox); have n2_ := aMk ((by rw [hg]; exact (below_size (by repeat (first | (with_reducible first | exact HB.out | apply bAl | apply bDn | apply bD1) | exact HB.out))) : w.heap.size ≤ gb283)); have n3_ := aMk ((by rw [hg]; exact (below_size (by repeat (first | (with_reducible first | exact HB.out | apply bAl | apply bDn | apply bD1) | exact HB.out))) : w.heap.size ≤ gb283)); clear HB; have HB := n0_; have BK283 := n1_; have GW283 := n2_; have GE283 := n3_; clear n0_ n1_ n2_ n3_; clear hb hbox hg; have hcz8_0 : w7.cell? ⟨gb283, 0, none⟩ = some (.int .i64 a0_0) := (bCe BK283.out 0).trans rfl; have hcz8_1 : w7.cell? ⟨gb283, 1, none⟩ = some (.bool a0_1) := (bCe BK283.out 1).trans rfl; have hcz8_2 : w7.cell? ⟨gb283, 2, none⟩ = some (.slice A0_2 l0_2.length c0_2) := (bCe BK283.out 2).trans rfl; have hfz8_0 := bFr BK283.out 0; have hfz8_1 := bFr BK283.out 1; have hfz8_2 := bFr BK283.out 2) | ((with_reducible refine gate_callee (f := 21) rfl ?_); refine goesL_ (some 22) rfl rfl Try.func21 (by kernel_rfl) rfl #[.agg #[.int .i64 a0_0, .bool a0_1, .slice A0_2 l0_2.length c0_2], .int .i64 1048576] rfl (by (try simp only [List.map_toArray, List.map_cons, List.map_nil]); first | done | rfl | (simp only [List.length_drop, List.length_take]; rfl)) ?_; (with_reducible refine (laws_szFeed.calls a0_0 a0_1 _ _ l0_2 1048576 t284 _ ?side1 ?side2 A5.out).mono ?_); (case side1 => repeat (first | exact (Kd.C_below HR0_2.out HB.out) | (with_reducible refine Kd.C_alloc ?_ _) | (with_reducible refine Kd.C_drewN ?_ _) | (with_reducible refine Kd.C_drew ?_))); (case side2 => exact HC0_2.out); rintro e w9 ⟨rfl, hb⟩; refine ⟨_, rfl, ?_⟩; have n0_ := aMk (blk_below (g := gb283) (o := .cells #[.int .i64 a0_0, .bool a0_1, .slice A0_2 l0_2.length c0_2] 35 (0, 0)) (by (with_reducible repeat (first | refine bkD ?_ _ | refine blk_drew ?_ | refine bkA ?_ _)); exact BK283.out) hb); have n1_ := aMk (below_step (by repeat (first | (with_reducible first | exact HB.out | apply bAl | apply bDn | apply bD1 | refine bSe ?_ GE283.out) | exact HB.out)) hb); clear BK283; clear HB; have BK283 := n0_; have HB := n1_; clear n0_ n1_; (try clear hb); (try clear hb2); (try clear hk); (try clear hi)))
     go_ret
     exact ⟨by first | rfl | (simp [errW_none, errW_some] <;> rfl) | (simp [*, errW_none, errW_some] <;> rfl), by repeat (first | (with_reducible first | exact HB.out | apply bAl | apply bDn | apply bD1 | refine bSe ?_ GE283.out) | exact HB.out)⟩
   · rw [if_neg c6] at H
     have c6b0 : decide (t284 < 0) = false := decide_eq_false c6
     clear c6
     replace H := oBm H
     obtain ⟨⟨t285, t286, t287⟩, A100, H⟩ := H
     replace H : ((laws_toByteS.f k l1).bind fun t290 => ((spec_FeedMore.f k t285 t286 t287 t290).bind fun bt293 => ((laws_toFeed.f k a0_0 a0_1 l0_2).bind fun bt300 => ((laws_toByteS.f k l1).bind fun t306 => ((impl_FeedMore.f k bt300.1 bt300.2.1 bt300.2.2 t306).bind fun bt309 => ((laws_eqFeed.f k bt309.1 bt309.2.1 bt309.2.2.1 bt293.1 bt293.2.1 bt293.2.2.1).bind fun t316 => (if t316 = true then (laws_FnExactFeedMore.j0 k l1 bt293.2.2.2 t306 bt309.2.2.2 (bt309.2.2.2.toList != bt293.2.2.2.toList) a0_0 a0_1 l0_2 bt293.1 bt293.2.1 bt293.2.2.1 bt300.1 bt300.2.1 bt300.2.2 bt309.1 bt309.2.1 bt309.2.2.1) else (laws_FnExactFeedMore.j0 k l1 bt293.2.2.2 t306 bt309.2.2.2 true a0_0 a0_1 l0_2 bt293.1 bt293.2.1 bt293.2.2.1 bt300.1 bt300.2.1 bt300.2.2 bt309.1 bt309.2.1 bt309.2.2.1)))))))) = some r := H
     have A10 := aMk A100
     clear A100
     replace H := oBm H
     obtain ⟨t290, A110, H⟩ := H
     replace H : ((spec_FeedMore.f k t285 t286 t287 t290).bind fun bt293 => ((laws_toFeed.f k a0_0 a0_1 l0_2).bind fun bt300 => ((laws_toByteS.f k l1).bind fun t306 => ((impl_FeedMore.f k bt300.1 bt300.2.1 bt300.2.2 t306).bind fun bt309 => ((laws_eqFeed.f k bt309.1 bt309.2.1 bt309.2.2.1 bt293.1 bt293.2.1 bt293.2.2.1).bind fun t316 => (if t316 = true then (laws_FnExactFeedMore.j0 k l1 bt293.2.2.2 t306 bt309.2.2.2 (bt309.2.2.2.toList != bt293.2.2.2.toList) a0_0 a0_1 l0_2 bt293.1 bt293.2.1 bt293.2.2.1 bt300.1 bt300.2.1 bt300.2.2 bt309.1 bt309.2.1 bt309.2.2.1) else (laws_FnExactFeedMore.j0 k l1 bt293.2.2.2 t306 bt309.2.2.2 true a0_0 a0_1 l0_2 bt293.1 bt293.2.1 bt293.2.2.1 bt300.1 bt300.2.1 bt300.2.2 bt309.1 bt309.2.1 bt309.2.2.1))))))) = some r := H
     have A11 := aMk A110
     clear A110
     replace H := oBm H
     obtain ⟨⟨t293, t294, t295, t298⟩, A120, H⟩ := H
     replace H : ((laws_toFeed.f k a0_0 a0_1 l0_2).bind fun bt300 => ((laws_toByteS.f k l1).bind fun t306 => ((impl_FeedMore.f k bt300.1 bt300.2.1 bt300.2.2 t306).bind fun bt309 => ((laws_eqFeed.f k bt309.1 bt309.2.1 bt309.2.2.1 t293 t294 t295).bind fun t316 => (if t316 = true then (laws_FnExactFeedMore.j0 k l1 t298 t306 bt309.2.2.2 (bt309.2.2.2.toList != t298.toList) a0_0 a0_1 l0_2 t293 t294 t295 bt300.1 bt300.2.1 bt300.2.2 bt309.1 bt309.2.1 bt309.2.2.1) else (laws_FnExactFeedMore.j0 k l1 t298 t306 bt309.2.2.2 true a0_0 a0_1 l0_2 t293 t294 t295 bt300.1 bt300.2.1 bt300.2.2 bt309.1 bt309.2.1 bt309.2.2.1)))))) = some r := H
     have A12 := aMk A120
     clear A120
     replace H := oBm H
     obtain ⟨⟨t300, t301, t302⟩, A130, H⟩ := H
     replace H : ((laws_toByteS.f k l1).bind fun t306 => ((impl_FeedMore.f k t300 t301 t302 t306).bind fun bt309 => ((laws_eqFeed.f k bt309.1 bt309.2.1 bt309.2.2.1 t293 t294 t295).bind fun t316 => (if t316 = true then (laws_FnExactFeedMore.j0 k l1 t298 t306 bt309.2.2.2 (bt309.2.2.2.toList != t298.toList) a0_0 a0_1 l0_2 t293 t294 t295 t300 t301 t302 bt309.1 bt309.2.1 bt309.2.2.1) else (laws_FnExactFeedMore.j0 k l1 t298 t306 bt309.2.2.2 true a0_0 a0_1 l0_2 t293 t294 t295 t300 t301 t302 bt309.1 bt309.2.1 bt309.2.2.1))))) = some r := H
     have A13 := aMk A130
     clear A130
     replace H := oBm H
     obtain ⟨t306, A140, H⟩ := H
     replace H : ((impl_FeedMore.f k t300 t301 t302 t306).bind fun bt309 => ((laws_eqFeed.f k bt309.1 bt309.2.1 bt309.2.2.1 t293 t294 t295).bind fun t316 => (if t316 = true then (laws_FnExactFeedMore.j0 k l1 t298 t306 bt309.2.2.2 (bt309.2.2.2.toList != t298.toList) a0_0 a0_1 l0_2 t293 t294 t295 t300 t301 t302 bt309.1 bt309.2.1 bt309.2.2.1) else (laws_FnExactFeedMore.j0 k l1 t298 t306 bt309.2.2.2 true a0_0 a0_1 l0_2 t293 t294 t295 t300 t301 t302 bt309.1 bt309.2.1 bt309.2.2.1)))) = some r := H
     have A14 := aMk A140
     clear A140
     replace H := oBm H
     obtain ⟨⟨t309, t310, t311, t314⟩, A150, H⟩ := H
     replace H : ((laws_eqFeed.f k t309 t310 t311 t293 t294 t295).bind fun t316 => (if t316 = true then (laws_FnExactFeedMore.j0 k l1 t298 t306 t314 (t314.toList != t298.toList) a0_0 a0_1 l0_2 t293 t294 t295 t300 t301 t302 t309 t310 t311) else (laws_FnExactFeedMore.j0 k l1 t298 t306 t314 true a0_0 a0_1 l0_2 t293 t294 t295 t300 t301 t302 t309 t310 t311))) = some r := H
     have A15 := aMk A150
     clear A150
     have HC16 := aMk H
     clear H
     go_enter Try.func6, Try.ntmps6
     go_upto_region 11 with (first | ((with_reducible refine gate_dst (N := 2) rfl ?_); refine box_event ?hg (N := 2) ?hd (cs := #[.int .i64 a0_0, .bool a0_1, .slice A0_2 l0_2.length c0_2]) (t := 35) ?hr ?_; (case hd => rfl); (case hg => rfl); (case hr => first | (go_simp; done) | (go_simp; rfl)); intro gb283 hg w17 hbox hb; have n0_ := aMk (below_step (by repeat (first | (with_reducible first | exact HB.out | apply bAl | apply bDn | apply bD1) | exact HB.out)) hb); have n1_ := aMk (hbox); have n2_ := aMk ((by rw [hg]; exact (below_size (by repeat (first | (with_reducible first | exact HB.out | apply bAl | apply bDn | apply bD1) | exact HB.out))) : w.heap.size ≤ gb283)); have n3_ := aMk ((by rw [hg]; exact (below_size (by repeat (first | (with_reducible first | exact HB.out | apply bAl | apply bDn | apply bD1) | exact HB.out))) : w.heap.size ≤ gb283)); clear HB; have HB := n0_; have BK283 := n1_; have GW283 := n2_; have GE283 := n3_; clear n0_ n1_ n2_ n3_; clear hb hbox hg; have hcz18_0 : w17.cell? ⟨gb283, 0, none⟩ = some (.int .i64 a0_0) := (bCe BK283.out 0).trans rfl; have hcz18_1 : w17.cell? ⟨gb283, 1, none⟩ = some (.bool a0_1) := (bCe BK283.out 1).trans rfl; have hcz18_2 : w17.cell? ⟨gb283, 2, none⟩ = some (.slice A0_2 l0_2.length c0_2) := (bCe BK283.out 2).trans rfl; have hfz18_0 := bFr BK283.out 0; have hfz18_1 := bFr BK283.out 1; have hfz18_2 := bFr BK283.out 2) | ((with_reducible refine gate_callee (f := 21) rfl ?_); refine goesL_ (some 22) rfl rfl Try.func21 (by kernel_rfl) rfl #[.agg #[.int .i64 a0_0, .bool a0_1, .slice A0_2 l0_2.length c0_2], .int .i64 1048576] rfl (by (try simp only [List.map_toArray, List.map_cons, List.map_nil]); first | done | rfl | (simp only [List.length_drop, List.length_take]; rfl)) ?_; (with_reducible refine (laws_szFeed.calls a0_0 a0_1 _ _ l0_2 1048576 t284 _ ?side1 ?side2 A5.out).mono ?_); (case side1 => repeat (first | exact (Kd.C_below HR0_2.out HB.out) | (with_reducible refine Kd.C_alloc ?_ _) | (with_reducible refine Kd.C_drewN ?_ _) | (with_reducible refine Kd.C_drew ?_))); (case side2 => exact HC0_2.out); rintro e w19 ⟨rfl, hb⟩; refine ⟨_, rfl, ?_⟩; have n0_ := aMk (blk_below (g := gb283) (o := .cells #[.int .i64 a0_0, .bool a0_1, .slice A0_2 l0_2.length c0_2] 35 (0, 0)) (by (with_reducible repeat (first | refine bkD ?_ _ | refine blk_drew ?_ | refine bkA ?_ _)); exact BK283.out) hb); have n1_ := aMk (below_step (by repeat (first | (with_reducible first | exact HB.out | apply bAl | apply bDn | apply bD1 | refine bSe ?_ GE283.out) | exact HB.out)) hb); clear BK283; clear HB; have BK283 := n0_; have HB := n1_; clear n0_ n1_; (try clear hb); (try clear hb2); (try clear hk); (try clear hi); have hcz20_0 : w19.cell? ⟨gb283, 0, none⟩ = some (.int .i64 a0_0) := (bCe BK283.out 0).trans rfl; have hcz20_1 : w19.cell? ⟨gb283, 1, none⟩ = some (.bool a0_1) := (bCe BK283.out 1).trans rfl; have hcz20_2 : w19.cell? ⟨gb283, 2, none⟩ = some (.slice A0_2 l0_2.length c0_2) := (bCe BK283.out 2).trans rfl; have hfz20_0 := bFr BK283.out 0; have hfz20_1 := bFr BK283.out 1; have hfz20_2 := bFr BK283.out 2) | ((with_reducible refine gate_callee (f := 23) rfl ?_); refine goesL_ (some 27) rfl rfl Try.func23 (by kernel_rfl) rfl #[.agg #[.int .i64 a0_0, .bool a0_1, .slice A0_2 l0_2.length c0_2]] rfl (by (try simp only [List.map_toArray, List.map_cons, List.map_nil]); first | done | rfl | (simp only [List.length_drop, List.length_take]; rfl)) ?_; (with_reducible refine (laws_toFeed.calls k a0_0 a0_1 _ _ l0_2 t285 t286 t287 _ ?side1 ?side2 A10.out).mono ?_); (case side1 => repeat (first | exact (Kd.C_below HR0_2.out HB.out) | (with_reducible refine Kd.C_alloc ?_ _) | (with_reducible refine Kd.C_drewN ?_ _) | (with_reducible refine Kd.C_drew ?_))); (case side2 => exact HC0_2.out); rintro e w21 ⟨v288, rfl, ho0, hb⟩; refine ⟨_, rfl, ?_⟩; have n0_ := aMk (Kd.R_lower ho0 (below_size (by repeat (first | (with_reducible first | exact HB.out | apply bAl | apply bDn | apply bD1 | refine bSe ?_ GE283.out) | exact HB.out)))); have n1_ := aMk (blk_below (g := gb283) (o := .cells #[.int .i64 a0_0, .bool a0_1, .slice A0_2 l0_2.length c0_2] 35 (0, 0)) (by (with_reducible repeat (first | refine bkD ?_ _ | refine blk_drew ?_ | refine bkA ?_ _)); exact BK283.out) hb); have n2_ := aMk (below_step (by repeat (first | (with_reducible first | exact HB.out | apply bAl | apply bDn | apply bD1 | refine bSe ?_ GE283.out) | exact HB.out)) hb); clear BK283; clear HB; have HO289 := n0_; have BK283 := n1_; have HB := n2_; clear n0_ n1_ n2_; (try clear hb); (try clear hb2); (try clear hk); (try clear hi); (try clear ho0)) | ((with_reducible refine gate_callee (f := 19) rfl ?_); refine goesL_ (some 29) rfl rfl Try.func19 (by kernel_rfl) rfl #[.slice A1 l1.length c1] rfl (by (try simp only [List.map_toArray, List.map_cons, List.map_nil]); first | done | rfl | (simp only [List.length_drop, List.length_take]; rfl)) ?_; (with_reducible refine (laws_toByteS.calls k _ _ l1 t290 _ ?side1 ?side2 A11.out).mono ?_); (case side1 => repeat (first | exact (Kd.C_below HR1.out HB.out) | (with_reducible refine Kd.C_alloc ?_ _) | (with_reducible refine Kd.C_drewN ?_ _) | (with_reducible refine Kd.C_drew ?_))); (case side2 => exact HC1.out); rintro e w22 ⟨v291, rfl, ho0, hb⟩; refine ⟨_, rfl, ?_⟩; have n0_ := aMk (Kd.R_elder' (by (with_reducible repeat (first | apply Kd.R_alloc | apply Kd.R_drewN | apply Kd.R_drew)); exact HO289.out) (Kd.R_base ho0) hb); have n1_ := aMk (Kd.R_lower (Kd.R_new' ho0 (Kd.R_lt (by (with_reducible repeat (first | apply Kd.R_alloc | apply Kd.R_drewN | apply Kd.R_drew)); exact HO289.out))) (below_size (by repeat (first | (with_reducible first | exact HB.out | apply bAl | apply bDn | apply bD1 | refine bSe ?_ GE283.out) | exact HB.out)))); have n2_ := aMk (blk_below (g := gb283) (o := .cells #[.int .i64 a0_0, .bool a0_1, .slice A0_2 l0_2.length c0_2] 35 (0, 0)) (by (with_reducible repeat (first | refine bkD ?_ _ | refine blk_drew ?_ | refine bkA ?_ _)); exact BK283.out) hb); have n3_ := aMk (below_step (by repeat (first | (with_reducible first | exact HB.out | apply bAl | apply bDn | apply bD1 | refine bSe ?_ GE283.out) | exact HB.out)) hb); clear HO289; clear BK283; clear HB; have HO289 := n0_; have HO292 := n1_; have BK283 := n2_; have HB := n3_; clear n0_ n1_ n2_ n3_; (try clear hb); (try clear hb2); (try clear hk); (try clear hi); (try clear ho0); obtain ⟨Ao23, co23, eo23⟩ := Kd.R_slice HO289.out; subst eo23; obtain ⟨Ao24, co24, eo24⟩ := Kd.R_slice HO292.out; subst eo24) | ((with_reducible refine gate_callee (f := 26) rfl ?_); refine goesL_ (some 30) rfl rfl Try.func26 (by kernel_rfl) rfl #[.agg #[.int .i64 t285, .bool t286, .slice Ao23 t287.length co23], .slice Ao24 t290.length co24] rfl (by (try simp only [List.map_toArray, List.map_cons, List.map_nil]); first | done | rfl | (simp only [List.length_drop, List.length_take]; rfl)) ?_; (with_reducible refine (spec_FeedMore.calls k t285 t286 _ _ t287 _ _ t290 t293 t294 t295 t298 _ ?side1 ?side2 ?side3 ?side4 A12.out).mono ?_); (case side1 => repeat (first | exact (Kd.R_reads' HO289.out).2.2 | (with_reducible refine Kd.C_alloc ?_ _) | (with_reducible refine Kd.C_drewN ?_ _) | (with_reducible refine Kd.C_drew ?_))); (case side2 => exact (Kd.R_reads' HO289.out).2.1); (case side3 => repeat (first | exact (Kd.R_reads' HO292.out).2.2 | (with_reducible refine Kd.C_alloc ?_ _) | (with_reducible refine Kd.C_drewN ?_ _) | (with_reducible refine Kd.C_drew ?_))); (case side4 => exact (Kd.R_reads' HO292.out).2.1); rintro e w25 ⟨v296, rfl, ho0, hb⟩; refine ⟨_, rfl, ?_⟩; have n0_ := aMk (Kd.R_elder' (by (with_reducible repeat (first | apply Kd.R_alloc | apply Kd.R_drewN | apply Kd.R_drew)); exact HO289.out) (Kd.R_base ho0) hb); have n1_ := aMk (Kd.R_elder' (by (with_reducible repeat (first | apply Kd.R_alloc | apply Kd.R_drewN | apply Kd.R_drew)); exact HO292.out) (Kd.R_base ho0) hb); have n2_ := aMk (Kd.R_lower (Kd.R_new' (Kd.R_new' ho0 (Kd.R_lt (by (with_reducible repeat (first | apply Kd.R_alloc | apply Kd.R_drewN | apply Kd.R_drew)); exact HO289.out))) (Kd.R_lt (by (with_reducible repeat (first | apply Kd.R_alloc | apply Kd.R_drewN | apply Kd.R_drew)); exact HO292.out))) (below_size (by repeat (first | (with_reducible first | exact HB.out | apply bAl | apply bDn | apply bD1 | refine bSe ?_ GE283.out) | exact HB.out)))); have n3_ := aMk (blk_below (g := gb283) (o := .cells #[.int .i64 a0_0, .bool a0_1, .slice A0_2 l0_2.length c0_2] 35 (0, 0)) (by (with_reducible repeat (first | refine bkD ?_ _ | refine blk_drew ?_ | refine bkA ?_ _)); exact BK283.out) hb); have n4_ := aMk (below_step (by repeat (first | (with_reducible first | exact HB.out | apply bAl | apply bDn | apply bD1 | refine bSe ?_ GE283.out) | exact HB.out)) hb); clear HO289; clear HO292; clear BK283; clear HB; have HO289 := n0_; have HO292 := n1_; have HO297 := n2_; have BK283 := n3_; have HB := n4_; clear n0_ n1_ n2_ n3_ n4_; (try clear hb); (try clear hb2); (try clear hk); (try clear hi); (try clear ho0)) | ((with_reducible refine gate_dst (N := 6) rfl ?_); refine box_event ?hg (N := 6) ?hd (cs := #[.int .i64 0, .bool false, .slice none 0 0]) (t := 38) ?hr ?_; (case hd => rfl); (case hg => rfl); (case hr => first | (go_simp; done) | (go_simp; rfl)); intro gb299 hg w26 hbox hb; have n0_ := aMk (Kd.R_below (by (with_reducible repeat (first | apply Kd.R_alloc | apply Kd.R_drewN | apply Kd.R_drew)); exact HO289.out) hb); have n1_ := aMk (Kd.R_below (by (with_reducible repeat (first | apply Kd.R_alloc | apply Kd.R_drewN | apply Kd.R_drew)); exact HO292.out) hb); have n2_ := aMk (Kd.R_below (by (with_reducible repeat (first | apply Kd.R_alloc | apply Kd.R_drewN | apply Kd.R_drew)); exact HO297.out) hb); have n3_ := aMk (blk_below (g := gb283) (o := .cells #[.int .i64 a0_0, .bool a0_1, .slice A0_2 l0_2.length c0_2] 35 (0, 0)) (by (with_reducible repeat (first | refine bkD ?_ _ | refine blk_drew ?_ | refine bkA ?_ _)); exact BK283.out) hb); have n4_ := aMk (below_step (by repeat (first | (with_reducible first | exact HB.out | apply bAl | apply bDn | apply bD1 | refine bSe ?_ GE283.out) | exact HB.out)) hb); have n5_ := aMk (hbox); have n6_ := aMk ((by rw [hg]; exact (below_size (by repeat (first | (with_reducible first | exact HB.out | apply bAl | apply bDn | apply bD1 | refine bSe ?_ GE283.out) | exact HB.out))) : w.heap.size ≤ gb299)); have n7_ := aMk ((by rw [hg]; exact (below_size (by repeat (first | (with_reducible first | exact HB.out | apply bAl | apply bDn | apply bD1 | refine bSe ?_ GE283.out) | exact HB.out))) : w.heap.size ≤ gb299)); have n8_ := aMk ((by rw [hg]; exact Nat.ne_of_lt (blk_lt (g := gb283) (o := .cells #[.int .i64 a0_0, .bool a0_1, .slice A0_2 l0_2.length c0_2] 35 (0, 0)) (by (with_reducible repeat (first | refine bkD ?_ _ | refine blk_drew ?_ | refine bkA ?_ _)); exact BK283.out)) : gb283 ≠ gb299)); have n9_ := aMk ((by rw [hg]; exact Nat.ne_of_gt (blk_lt (g := gb283) (o := .cells #[.int .i64 a0_0, .bool a0_1, .slice A0_2 l0_2.length c0_2] 35 (0, 0)) (by (with_reducible repeat (first | refine bkD ?_ _ | refine blk_drew ?_ | refine bkA ?_ _)); exact BK283.out)) : gb299 ≠ gb283)); clear HO289; clear HO292; clear HO297; clear BK283; clear HB; have HO289 := n0_; have HO292 := n1_; have HO297 := n2_; have BK283 := n3_; have HB := n4_; have BK299 := n5_; have GW299 := n6_; have GE299 := n7_; have NB283_299 := n8_; have NB299_283 := n9_; clear n0_ n1_ n2_ n3_ n4_ n5_ n6_ n7_ n8_ n9_; clear hb hbox hg; have hnb27 := NB299_283.out; have hnc27 := NB283_299.out; have hcz28_0 : w26.cell? ⟨gb299, 0, none⟩ = some (.int .i64 0) := (bCe BK299.out 0).trans rfl; have hcz28_1 : w26.cell? ⟨gb299, 1, none⟩ = some (.bool false) := (bCe BK299.out 1).trans rfl; have hcz28_2 : w26.cell? ⟨gb299, 2, none⟩ = some (.slice none 0 0) := (bCe BK299.out 2).trans rfl; have hfz28_0 := bFr BK299.out 0; have hfz28_1 := bFr BK299.out 1; have hfz28_2 := bFr BK299.out 2; obtain ⟨Ao29, co29, eo29⟩ := Kd.R_slice HO297.out; subst eo29; have hcz30_0 : w26.cell? ⟨gb283, 0, none⟩ = some (.int .i64 a0_0) := (bCe BK283.out 0).trans rfl; have hcz30_1 : w26.cell? ⟨gb283, 1, none⟩ = some (.bool a0_1) := (bCe BK283.out 1).trans rfl; have hcz30_2 : w26.cell? ⟨gb283, 2, none⟩ = some (.slice A0_2 l0_2.length c0_2) := (bCe BK283.out 2).trans rfl; have hfz30_0 := bFr BK283.out 0; have hfz30_1 := bFr BK283.out 1; have hfz30_2 := bFr BK283.out 2) | ((with_reducible refine gate_callee (f := 23) rfl ?_); refine goesL_ (some 34) rfl rfl Try.func23 (by kernel_rfl) rfl #[.agg #[.int .i64 a0_0, .bool a0_1, .slice A0_2 l0_2.length c0_2]] rfl (by (try simp only [List.map_toArray, List.map_cons, List.map_nil]); first | done | rfl | (simp only [List.length_drop, List.length_take]; rfl)) ?_; (with_reducible refine (laws_toFeed.calls k a0_0 a0_1 _ _ l0_2 t300 t301 t302 _ ?side1 ?side2 A13.out).mono ?_); (case side1 => exact Kd.C_below HR0_2.out (by repeat (first | (with_reducible first | exact HB.out | apply bAl | apply bDn | apply bD1 | refine bSe ?_ GE283.out | refine bSe ?_ GE299.out) | exact HB.out))); (case side2 => exact HC0_2.out); rintro e w31 ⟨v303, rfl, ho0, hb⟩; refine ⟨_, rfl, ?_⟩; have n0_ := aMk (Kd.R_elder' (by (with_reducible repeat (first | apply Kd.R_alloc | apply Kd.R_drewN | apply Kd.R_drew)); exact (Kd.R_mono (Kd.R_far (p := ⟨gb299, 2, none⟩) (Kd.R_far (p := ⟨gb299, 1, none⟩) (Kd.R_far (p := ⟨gb299, 0, none⟩) (Kd.R_types HO289.out BK299.out (by decide)) (fun _ hk => hk.2) (.int .i64 t293)) (fun _ hk => hk.2) (.bool t294)) (fun _ hk => hk.2) (.slice Ao29 t295.length co29)) (fun _ h_ => h_.1))) (Kd.R_base ho0) hb); have n1_ := aMk (Kd.R_elder' (by (with_reducible repeat (first | apply Kd.R_alloc | apply Kd.R_drewN | apply Kd.R_drew)); exact (Kd.R_mono (Kd.R_far (p := ⟨gb299, 2, none⟩) (Kd.R_far (p := ⟨gb299, 1, none⟩) (Kd.R_far (p := ⟨gb299, 0, none⟩) (Kd.R_types HO292.out BK299.out (by decide)) (fun _ hk => hk.2) (.int .i64 t293)) (fun _ hk => hk.2) (.bool t294)) (fun _ hk => hk.2) (.slice Ao29 t295.length co29)) (fun _ h_ => h_.1))) (Kd.R_base ho0) hb); have n2_ := aMk (Kd.R_elder' (by (with_reducible repeat (first | apply Kd.R_alloc | apply Kd.R_drewN | apply Kd.R_drew)); exact (Kd.R_mono (Kd.R_far (p := ⟨gb299, 2, none⟩) (Kd.R_far (p := ⟨gb299, 1, none⟩) (Kd.R_far (p := ⟨gb299, 0, none⟩) (Kd.R_types HO297.out BK299.out (by decide)) (fun _ hk => hk.2) (.int .i64 t293)) (fun _ hk => hk.2) (.bool t294)) (fun _ hk => hk.2) (.slice Ao29 t295.length co29)) (fun _ h_ => h_.1))) (Kd.R_base ho0) hb); have n3_ := aMk (Kd.R_lower (Kd.R_new' (Kd.R_new' (Kd.R_new' ho0 (Kd.R_lt (by (with_reducible repeat (first | apply Kd.R_alloc | apply Kd.R_drewN | apply Kd.R_drew)); exact (Kd.R_mono (Kd.R_far (p := ⟨gb299, 2, none⟩) (Kd.R_far (p := ⟨gb299, 1, none⟩) (Kd.R_far (p := ⟨gb299, 0, none⟩) (Kd.R_types HO289.out BK299.out (by decide)) (fun _ hk => hk.2) (.int .i64 t293)) (fun _ hk => hk.2) (.bool t294)) (fun _ hk => hk.2) (.slice Ao29 t295.length co29)) (fun _ h_ => h_.1))))) (Kd.R_lt (by (with_reducible repeat (first | apply Kd.R_alloc | apply Kd.R_drewN | apply Kd.R_drew)); exact (Kd.R_mono (Kd.R_far (p := ⟨gb299, 2, none⟩) (Kd.R_far (p := ⟨gb299, 1, none⟩) (Kd.R_far (p := ⟨gb299, 0, none⟩) (Kd.R_types HO292.out BK299.out (by decide)) (fun _ hk => hk.2) (.int .i64 t293)) (fun _ hk => hk.2) (.bool t294)) (fun _ hk => hk.2) (.slice Ao29 t295.length co29)) (fun _ h_ => h_.1))))) (Kd.R_lt (by (with_reducible repeat (first | apply Kd.R_alloc | apply Kd.R_drewN | apply Kd.R_drew)); exact (Kd.R_mono (Kd.R_far (p := ⟨gb299, 2, none⟩) (Kd.R_far (p := ⟨gb299, 1, none⟩) (Kd.R_far (p := ⟨gb299, 0, none⟩) (Kd.R_types HO297.out BK299.out (by decide)) (fun _ hk => hk.2) (.int .i64 t293)) (fun _ hk => hk.2) (.bool t294)) (fun _ hk => hk.2) (.slice Ao29 t295.length co29)) (fun _ h_ => h_.1))))) (below_size (by repeat (first | (with_reducible first | exact HB.out | apply bAl | apply bDn | apply bD1 | refine bSe ?_ GE283.out | refine bSe ?_ GE299.out) | exact HB.out)))); have n4_ := aMk (blk_below (g := gb283) (o := .cells #[.int .i64 a0_0, .bool a0_1, .slice A0_2 l0_2.length c0_2] 35 (0, 0)) (by (with_reducible repeat (first | refine bkD ?_ _ | refine blk_drew ?_ | refine bkA ?_ _)); refine blk_far ?_ NB283_299.out _; (with_reducible repeat (first | refine bkD ?_ _ | refine blk_drew ?_ | refine bkA ?_ _)); refine blk_far ?_ NB283_299.out _; (with_reducible repeat (first | refine bkD ?_ _ | refine blk_drew ?_ | refine bkA ?_ _)); refine blk_far ?_ NB283_299.out _; (with_reducible repeat (first | refine bkD ?_ _ | refine blk_drew ?_ | refine bkA ?_ _)); exact BK283.out) hb); have n5_ := aMk (blk_below (g := gb299) (o := .cells #[.int .i64 t293, .bool t294, .slice Ao29 t295.length co29] 38 (0, 0)) (by (with_reducible repeat (first | refine bkD ?_ _ | refine blk_drew ?_ | refine bkA ?_ _)); refine blk_put (cs := #[.int .i64 t293, .bool t294, .slice none 0 0]) ?_ 2 _ rfl; (with_reducible repeat (first | refine bkD ?_ _ | refine blk_drew ?_ | refine bkA ?_ _)); refine blk_put (cs := #[.int .i64 t293, .bool false, .slice none 0 0]) ?_ 1 _ rfl; (with_reducible repeat (first | refine bkD ?_ _ | refine blk_drew ?_ | refine bkA ?_ _)); refine blk_put (cs := #[.int .i64 0, .bool false, .slice none 0 0]) ?_ 0 _ rfl; (with_reducible repeat (first | refine bkD ?_ _ | refine blk_drew ?_ | refine bkA ?_ _)); exact BK299.out) hb); have n6_ := aMk (below_step (by repeat (first | (with_reducible first | exact HB.out | apply bAl | apply bDn | apply bD1 | refine bSe ?_ GE283.out | refine bSe ?_ GE299.out) | exact HB.out)) hb); clear HO289; clear HO292; clear HO297; clear BK283; clear BK299; clear HB; have HO289 := n0_; have HO292 := n1_; have HO297 := n2_; have HO304 := n3_; have BK283 := n4_; have BK299 := n5_; have HB := n6_; clear n0_ n1_ n2_ n3_ n4_ n5_ n6_; (try clear hb); (try clear hb2); (try clear hk); (try clear hi); (try clear ho0)) | ((with_reducible refine gate_dst (N := 8) rfl ?_); refine box_event ?hg (N := 8) ?hd (cs := #[.int .i64 0, .bool false, .slice none 0 0]) (t := 38) ?hr ?_; (case hd => rfl); (case hg => rfl); (case hr => first | (go_simp; done) | (go_simp; rfl)); intro gb305 hg w32 hbox hb; have n0_ := aMk (Kd.R_below (by (with_reducible repeat (first | apply Kd.R_alloc | apply Kd.R_drewN | apply Kd.R_drew)); exact HO289.out) hb); have n1_ := aMk (Kd.R_below (by (with_reducible repeat (first | apply Kd.R_alloc | apply Kd.R_drewN | apply Kd.R_drew)); exact HO292.out) hb); have n2_ := aMk (Kd.R_below (by (with_reducible repeat (first | apply Kd.R_alloc | apply Kd.R_drewN | apply Kd.R_drew)); exact HO297.out) hb); have n3_ := aMk (Kd.R_below (by (with_reducible repeat (first | apply Kd.R_alloc | apply Kd.R_drewN | apply Kd.R_drew)); exact HO304.out) hb); have n4_ := aMk (blk_below (g := gb283) (o := .cells #[.int .i64 a0_0, .bool a0_1, .slice A0_2 l0_2.length c0_2] 35 (0, 0)) (by (with_reducible repeat (first | refine bkD ?_ _ | refine blk_drew ?_ | refine bkA ?_ _)); exact BK283.out) hb); have n5_ := aMk (blk_below (g := gb299) (o := .cells #[.int .i64 t293, .bool t294, .slice Ao29 t295.length co29] 38 (0, 0)) (by (with_reducible repeat (first | refine bkD ?_ _ | refine blk_drew ?_ | refine bkA ?_ _)); exact BK299.out) hb); have n6_ := aMk (below_step (by repeat (first | (with_reducible first | exact HB.out | apply bAl | apply bDn | apply bD1 | refine bSe ?_ GE283.out | refine bSe ?_ GE299.out) | exact HB.out)) hb); have n7_ := aMk (hbox); have n8_ := aMk ((by rw [hg]; exact (below_size (by repeat (first | (with_reducible first | exact HB.out | apply bAl | apply bDn | apply bD1 | refine bSe ?_ GE283.out | refine bSe ?_ GE299.out) | exact HB.out))) : w.heap.size ≤ gb305)); have n9_ := aMk ((by rw [hg]; exact (below_size (by repeat (first | (with_reducible first | exact HB.out | apply bAl | apply bDn | apply bD1 | refine bSe ?_ GE283.out | refine bSe ?_ GE299.out) | exact HB.out))) : w.heap.size ≤ gb305)); have n10_ := aMk ((by rw [hg]; exact Nat.ne_of_lt (blk_lt (g := gb283) (o := .cells #[.int .i64 a0_0, .bool a0_1, .slice A0_2 l0_2.length c0_2] 35 (0, 0)) (by (with_reducible repeat (first | refine bkD ?_ _ | refine blk_drew ?_ | refine bkA ?_ _)); exact BK283.out)) : gb283 ≠ gb305)); have n11_ := aMk ((by rw [hg]; exact Nat.ne_of_gt (blk_lt (g := gb283) (o := .cells #[.int .i64 a0_0, .bool a0_1, .slice A0_2 l0_2.length c0_2] 35 (0, 0)) (by (with_reducible repeat (first | refine bkD ?_ _ | refine blk_drew ?_ | refine bkA ?_ _)); exact BK283.out)) : gb305 ≠ gb283)); have n12_ := aMk ((by rw [hg]; exact Nat.ne_of_lt (blk_lt (g := gb299) (o := .cells #[.int .i64 t293, .bool t294, .slice Ao29 t295.length co29] 38 (0, 0)) (by (with_reducible repeat (first | refine bkD ?_ _ | refine blk_drew ?_ | refine bkA ?_ _)); exact BK299.out)) : gb299 ≠ gb305)); have n13_ := aMk ((by rw [hg]; exact Nat.ne_of_gt (blk_lt (g := gb299) (o := .cells #[.int .i64 t293, .bool t294, .slice Ao29 t295.length co29] 38 (0, 0)) (by (with_reducible repeat (first | refine bkD ?_ _ | refine blk_drew ?_ | refine bkA ?_ _)); exact BK299.out)) : gb305 ≠ gb299)); clear HO289; clear HO292; clear HO297; clear HO304; clear BK283; clear BK299; clear HB; have HO289 := n0_; have HO292 := n1_; have HO297 := n2_; have HO304 := n3_; have BK283 := n4_; have BK299 := n5_; have HB := n6_; have BK305 := n7_; have GW305 := n8_; have GE305 := n9_; have NB283_305 := n10_; have NB305_283 := n11_; have NB299_305 := n12_; have NB305_299 := n13_; clear n0_ n1_ n2_ n3_ n4_ n5_ n6_ n7_ n8_ n9_ n10_ n11_ n12_ n13_; clear hb hbox hg; have hnb33 := NB305_283.out; have hnc33 := NB283_305.out; have hnb34 := NB305_299.out; have hnc34 := NB299_305.out; have hcz35_0 : w32.cell? ⟨gb305, 0, none⟩ = some (.int .i64 0) := (bCe BK305.out 0).trans rfl; have hcz35_1 : w32.cell? ⟨gb305, 1, none⟩ = some (.bool false) := (bCe BK305.out 1).trans rfl; have hcz35_2 : w32.cell? ⟨gb305, 2, none⟩ = some (.slice none 0 0) := (bCe BK305.out 2).trans rfl; have hfz35_0 := bFr BK305.out 0; have hfz35_1 := bFr BK305.out 1; have hfz35_2 := bFr BK305.out 2; obtain ⟨Ao36, co36, eo36⟩ := Kd.R_slice HO304.out; subst eo36) | ((with_reducible refine gate_callee (f := 19) rfl ?_); refine goesL_ (some 36) rfl rfl Try.func19 (by kernel_rfl) rfl #[.slice A1 l1.length c1] rfl (by (try simp only [List.map_toArray, List.map_cons, List.map_nil]); first | done | rfl | (simp only [List.length_drop, List.length_take]; rfl)) ?_; (with_reducible refine (laws_toByteS.calls k _ _ l1 t306 _ ?side1 ?side2 A14.out).mono ?_); (case side1 => exact Kd.C_below HR1.out (by repeat (first | (with_reducible first | exact HB.out | apply bAl | apply bDn | apply bD1 | refine bSe ?_ GE283.out | refine bSe ?_ GE299.out | refine bSe ?_ GE305.out) | exact HB.out))); (case side2 => exact HC1.out); rintro e w37 ⟨v307, rfl, ho0, hb⟩; refine ⟨_, rfl, ?_⟩; have n0_ := aMk (Kd.R_elder' (by (with_reducible repeat (first | apply Kd.R_alloc | apply Kd.R_drewN | apply Kd.R_drew)); exact (Kd.R_mono (Kd.R_far (p := ⟨gb305, 2, none⟩) (Kd.R_far (p := ⟨gb305, 1, none⟩) (Kd.R_far (p := ⟨gb305, 0, none⟩) (Kd.R_types HO289.out BK305.out (by decide)) (fun _ hk => hk.2) (.int .i64 t300)) (fun _ hk => hk.2) (.bool t301)) (fun _ hk => hk.2) (.slice Ao36 t302.length co36)) (fun _ h_ => h_.1))) (Kd.R_base ho0) hb); have n1_ := aMk (Kd.R_elder' (by (with_reducible repeat (first | apply Kd.R_alloc | apply Kd.R_drewN | apply Kd.R_drew)); exact (Kd.R_mono (Kd.R_far (p := ⟨gb305, 2, none⟩) (Kd.R_far (p := ⟨gb305, 1, none⟩) (Kd.R_far (p := ⟨gb305, 0, none⟩) (Kd.R_types HO292.out BK305.out (by decide)) (fun _ hk => hk.2) (.int .i64 t300)) (fun _ hk => hk.2) (.bool t301)) (fun _ hk => hk.2) (.slice Ao36 t302.length co36)) (fun _ h_ => h_.1))) (Kd.R_base ho0) hb); have n2_ := aMk (Kd.R_elder' (by (with_reducible repeat (first | apply Kd.R_alloc | apply Kd.R_drewN | apply Kd.R_drew)); exact (Kd.R_mono (Kd.R_far (p := ⟨gb305, 2, none⟩) (Kd.R_far (p := ⟨gb305, 1, none⟩) (Kd.R_far (p := ⟨gb305, 0, none⟩) (Kd.R_types HO297.out BK305.out (by decide)) (fun _ hk => hk.2) (.int .i64 t300)) (fun _ hk => hk.2) (.bool t301)) (fun _ hk => hk.2) (.slice Ao36 t302.length co36)) (fun _ h_ => h_.1))) (Kd.R_base ho0) hb); have n3_ := aMk (Kd.R_elder' (by (with_reducible repeat (first | apply Kd.R_alloc | apply Kd.R_drewN | apply Kd.R_drew)); exact (Kd.R_mono (Kd.R_far (p := ⟨gb305, 2, none⟩) (Kd.R_far (p := ⟨gb305, 1, none⟩) (Kd.R_far (p := ⟨gb305, 0, none⟩) (Kd.R_types HO304.out BK305.out (by decide)) (fun _ hk => hk.2) (.int .i64 t300)) (fun _ hk => hk.2) (.bool t301)) (fun _ hk => hk.2) (.slice Ao36 t302.length co36)) (fun _ h_ => h_.1))) (Kd.R_base ho0) hb); have n4_ := aMk (Kd.R_lower (Kd.R_new' (Kd.R_new' (Kd.R_new' (Kd.R_new' ho0 (Kd.R_lt (by (with_reducible repeat (first | apply Kd.R_alloc | apply Kd.R_drewN | apply Kd.R_drew)); exact (Kd.R_mono (Kd.R_far (p := ⟨gb305, 2, none⟩) (Kd.R_far (p := ⟨gb305, 1, none⟩) (Kd.R_far (p := ⟨gb305, 0, none⟩) (Kd.R_types HO289.out BK305.out (by decide)) (fun _ hk => hk.2) (.int .i64 t300)) (fun _ hk => hk.2) (.bool t301)) (fun _ hk => hk.2) (.slice Ao36 t302.length co36)) (fun _ h_ => h_.1))))) (Kd.R_lt (by (with_reducible repeat (first | apply Kd.R_alloc | apply Kd.R_drewN | apply Kd.R_drew)); exact (Kd.R_mono (Kd.R_far (p := ⟨gb305, 2, none⟩) (Kd.R_far (p := ⟨gb305, 1, none⟩) (Kd.R_far (p := ⟨gb305, 0, none⟩) (Kd.R_types HO292.out BK305.out (by decide)) (fun _ hk => hk.2) (.int .i64 t300)) (fun _ hk => hk.2) (.bool t301)) (fun _ hk => hk.2) (.slice Ao36 t302.length co36)) (fun _ h_ => h_.1))))) (Kd.R_lt (by (with_reducible repeat (first | apply Kd.R_alloc | apply Kd.R_drewN | apply Kd.R_drew)); exact (Kd.R_mono (Kd.R_far (p := ⟨gb305, 2, none⟩) (Kd.R_far (p := ⟨gb305, 1, none⟩) (Kd.R_far (p := ⟨gb305, 0, none⟩) (Kd.R_types HO297.out BK305.out (by decide)) (fun _ hk => hk.2) (.int .i64 t300)) (fun _ hk => hk.2) (.bool t301)) (fun _ hk => hk.2) (.slice Ao36 t302.length co36)) (fun _ h_ => h_.1))))) (Kd.R_lt (by (with_reducible repeat (first | apply Kd.R_alloc | apply Kd.R_drewN | apply Kd.R_drew)); exact (Kd.R_mono (Kd.R_far (p := ⟨gb305, 2, none⟩) (Kd.R_far (p := ⟨gb305, 1, none⟩) (Kd.R_far (p := ⟨gb305, 0, none⟩) (Kd.R_types HO304.out BK305.out (by decide)) (fun _ hk => hk.2) (.int .i64 t300)) (fun _ hk => hk.2) (.bool t301)) (fun _ hk => hk.2) (.slice Ao36 t302.length co36)) (fun _ h_ => h_.1))))) (below_size (by repeat (first | (with_reducible first | exact HB.out | apply bAl | apply bDn | apply bD1 | refine bSe ?_ GE283.out | refine bSe ?_ GE299.out | refine bSe ?_ GE305.out) | exact HB.out)))); have n5_ := aMk (blk_below (g := gb283) (o := .cells #[.int .i64 a0_0, .bool a0_1, .slice A0_2 l0_2.length c0_2] 35 (0, 0)) (by (with_reducible repeat (first | refine bkD ?_ _ | refine blk_drew ?_ | refine bkA ?_ _)); refine blk_far ?_ NB283_305.out _; (with_reducible repeat (first | refine bkD ?_ _ | refine blk_drew ?_ | refine bkA ?_ _)); refine blk_far ?_ NB283_305.out _; (with_reducible repeat (first | refine bkD ?_ _ | refine blk_drew ?_ | refine bkA ?_ _)); refine blk_far ?_ NB283_305.out _; (with_reducible repeat (first | refine bkD ?_ _ | refine blk_drew ?_ | refine bkA ?_ _)); exact BK283.out) hb); have n6_ := aMk (blk_below (g := gb299) (o := .cells #[.int .i64 t293, .bool t294, .slice Ao29 t295.length co29] 38 (0, 0)) (by (with_reducible repeat (first | refine bkD ?_ _ | refine blk_drew ?_ | refine bkA ?_ _)); refine blk_far ?_ NB299_305.out _; (with_reducible repeat (first | refine bkD ?_ _ | refine blk_drew ?_ | refine bkA ?_ _)); refine blk_far ?_ NB299_305.out _; (with_reducible repeat (first | refine bkD ?_ _ | refine blk_drew ?_ | refine bkA ?_ _)); refine blk_far ?_ NB299_305.out _; (with_reducible repeat (first | refine bkD ?_ _ | refine blk_drew ?_ | refine bkA ?_ _)); exact BK299.out) hb); have n7_ := aMk (blk_below (g := gb305) (o := .cells #[.int .i64 t300, .bool t301, .slice Ao36 t302.length co36] 38 (0, 0)) (by (with_reducible repeat (first | refine bkD ?_ _ | refine blk_drew ?_ | refine bkA ?_ _)); refine blk_put (cs := #[.int .i64 t300, .bool t301, .slice none 0 0]) ?_ 2 _ rfl; (with_reducible repeat (first | refine bkD ?_ _ | refine blk_drew ?_ | refine bkA ?_ _)); refine blk_put (cs := #[.int .i64 t300, .bool false, .slice none 0 0]) ?_ 1 _ rfl; (with_reducible repeat (first | refine bkD ?_ _ | refine blk_drew ?_ | refine bkA ?_ _)); refine blk_put (cs := #[.int .i64 0, .bool false, .slice none 0 0]) ?_ 0 _ rfl; (with_reducible repeat (first | refine bkD ?_ _ | refine blk_drew ?_ | refine bkA ?_ _)); exact BK305.out) hb); have n8_ := aMk (below_step (by repeat (first | (with_reducible first | exact HB.out | apply bAl | apply bDn | apply bD1 | refine bSe ?_ GE283.out | refine bSe ?_ GE299.out | refine bSe ?_ GE305.out) | exact HB.out)) hb); clear HO289; clear HO292; clear HO297; clear HO304; clear BK283; clear BK299; clear BK305; clear HB; have HO289 := n0_; have HO292 := n1_; have HO297 := n2_; have HO304 := n3_; have HO308 := n4_; have BK283 := n5_; have BK299 := n6_; have BK305 := n7_; have HB := n8_; clear n0_ n1_ n2_ n3_ n4_ n5_ n6_ n7_ n8_; (try clear hb); (try clear hb2); (try clear hk); (try clear hi); (try clear ho0); have hcz38_0 : w37.cell? ⟨gb305, 0, none⟩ = some (.int .i64 t300) := (bCe BK305.out 0).trans rfl; have hcz38_1 : w37.cell? ⟨gb305, 1, none⟩ = some (.bool t301) := (bCe BK305.out 1).trans rfl; have hcz38_2 : w37.cell? ⟨gb305, 2, none⟩ = some (.slice Ao36 t302.length co36) := (bCe BK305.out 2).trans rfl; have hfz38_0 := bFr BK305.out 0; have hfz38_1 := bFr BK305.out 1; have hfz38_2 := bFr BK305.out 2; obtain ⟨Ao39, co39, eo39⟩ := Kd.R_slice HO308.out; subst eo39) | ((with_reducible refine gate_callee (f := 27) rfl ?_); refine goesL_ (some 40) rfl rfl Try.func27 (by kernel_rfl) rfl #[.agg #[.int .i64 t300, .bool t301, .slice Ao36 t302.length co36], .slice Ao39 t306.length co39] rfl (by (try simp only [List.map_toArray, List.map_cons, List.map_nil]); first | done | rfl | (simp only [List.length_drop, List.length_take]; rfl)) ?_; (with_reducible refine (impl_FeedMore.calls k t300 t301 _ _ t302 _ _ t306 t309 t310 t311 t314 _ ?side1 ?side2 ?side3 ?side4 A15.out).mono ?_); (case side1 => repeat (first | exact (Kd.R_reads' HO304.out).2.2 | (with_reducible refine Kd.C_alloc ?_ _) | (with_reducible refine Kd.C_drewN ?_ _) | (with_reducible refine Kd.C_drew ?_))); (case side2 => exact (Kd.R_reads' HO304.out).2.1); (case side3 => repeat (first | exact (Kd.R_reads' HO308.out).2.2 | (with_reducible refine Kd.C_alloc ?_ _) | (with_reducible refine Kd.C_drewN ?_ _) | (with_reducible refine Kd.C_drew ?_))); (case side4 => exact (Kd.R_reads' HO308.out).2.1); rintro e w40 ⟨v312, rfl, ho0, hb⟩; refine ⟨_, rfl, ?_⟩; have n0_ := aMk (Kd.R_elder' (by (with_reducible repeat (first | apply Kd.R_alloc | apply Kd.R_drewN | apply Kd.R_drew)); exact HO289.out) (Kd.R_base ho0) hb); have n1_ := aMk (Kd.R_elder' (by (with_reducible repeat (first | apply Kd.R_alloc | apply Kd.R_drewN | apply Kd.R_drew)); exact HO292.out) (Kd.R_base ho0) hb); have n2_ := aMk (Kd.R_elder' (by (with_reducible repeat (first | apply Kd.R_alloc | apply Kd.R_drewN | apply Kd.R_drew)); exact HO297.out) (Kd.R_base ho0) hb); have n3_ := aMk (Kd.R_elder' (by (with_reducible repeat (first | apply Kd.R_alloc | apply Kd.R_drewN | apply Kd.R_drew)); exact HO304.out) (Kd.R_base ho0) hb); have n4_ := aMk (Kd.R_elder' (by (with_reducible repeat (first | apply Kd.R_alloc | apply Kd.R_drewN | apply Kd.R_drew)); exact HO308.out) (Kd.R_base ho0) hb); have n5_ := aMk (Kd.R_lower (Kd.R_new' (Kd.R_new' (Kd.R_new' (Kd.R_new' (Kd.R_new' ho0 (Kd.R_lt (by (with_reducible repeat (first | apply Kd.R_alloc | apply Kd.R_drewN | apply Kd.R_drew)); exact HO289.out))) (Kd.R_lt (by (with_reducible repeat (first | apply Kd.R_alloc | apply Kd.R_drewN | apply Kd.R_drew)); exact HO292.out))) (Kd.R_lt (by (with_reducible repeat (first | apply Kd.R_alloc | apply Kd.R_drewN | apply Kd.R_drew)); exact HO297.out))) (Kd.R_lt (by (with_reducible repeat (first | apply Kd.R_alloc | apply Kd.R_drewN | apply Kd.R_drew)); exact HO304.out))) (Kd.R_lt (by (with_reducible repeat (first | apply Kd.R_alloc | apply Kd.R_drewN | apply Kd.R_drew)); exact HO308.out))) (below_size (by repeat (first | (with_reducible first | exact HB.out | apply bAl | apply bDn | apply bD1 | refine bSe ?_ GE283.out | refine bSe ?_ GE299.out | refine bSe ?_ GE305.out) | exact HB.out)))); have n6_ := aMk (blk_below (g := gb283) (o := .cells #[.int .i64 a0_0, .bool a0_1, .slice A0_2 l0_2.length c0_2] 35 (0, 0)) (by (with_reducible repeat (first | refine bkD ?_ _ | refine blk_drew ?_ | refine bkA ?_ _)); exact BK283.out) hb); have n7_ := aMk (blk_below (g := gb299) (o := .cells #[.int .i64 t293, .bool t294, .slice Ao29 t295.length co29] 38 (0, 0)) (by (with_reducible repeat (first | refine bkD ?_ _ | refine blk_drew ?_ | refine bkA ?_ _)); exact BK299.out) hb); have n8_ := aMk (blk_below (g := gb305) (o := .cells #[.int .i64 t300, .bool t301, .slice Ao36 t302.length co36] 38 (0, 0)) (by (with_reducible repeat (first | refine bkD ?_ _ | refine blk_drew ?_ | refine bkA ?_ _)); exact BK305.out) hb); have n9_ := aMk (below_step (by repeat (first | (with_reducible first | exact HB.out | apply bAl | apply bDn | apply bD1 | refine bSe ?_ GE283.out | refine bSe ?_ GE299.out | refine bSe ?_ GE305.out) | exact HB.out)) hb); clear HO289; clear HO292; clear HO297; clear HO304; clear HO308; clear BK283; clear BK299; clear BK305; clear HB; have HO289 := n0_; have HO292 := n1_; have HO297 := n2_; have HO304 := n3_; have HO308 := n4_; have HO313 := n5_; have BK283 := n6_; have BK299 := n7_; have BK305 := n8_; have HB := n9_; clear n0_ n1_ n2_ n3_ n4_ n5_ n6_ n7_ n8_ n9_; (try clear hb); (try clear hb2); (try clear hk); (try clear hi); (try clear ho0)) | ((with_reducible refine gate_dst (N := 10) rfl ?_); refine box_event ?hg (N := 10) ?hd (cs := #[.int .i64 0, .bool false, .slice none 0 0]) (t := 38) ?hr ?_; (case hd => rfl); (case hg => rfl); (case hr => first | (go_simp; done) | (go_simp; rfl)); intro gb315 hg w41 hbox hb; have n0_ := aMk (Kd.R_below (by (with_reducible repeat (first | apply Kd.R_alloc | apply Kd.R_drewN | apply Kd.R_drew)); exact HO289.out) hb); have n1_ := aMk (Kd.R_below (by (with_reducible repeat (first | apply Kd.R_alloc | apply Kd.R_drewN | apply Kd.R_drew)); exact HO292.out) hb); have n2_ := aMk (Kd.R_below (by (with_reducible repeat (first | apply Kd.R_alloc | apply Kd.R_drewN | apply Kd.R_drew)); exact HO297.out) hb); have n3_ := aMk (Kd.R_below (by (with_reducible repeat (first | apply Kd.R_alloc | apply Kd.R_drewN | apply Kd.R_drew)); exact HO304.out) hb); have n4_ := aMk (Kd.R_below (by (with_reducible repeat (first | apply Kd.R_alloc | apply Kd.R_drewN | apply Kd.R_drew)); exact HO308.out) hb); have n5_ := aMk (Kd.R_below (by (with_reducible repeat (first | apply Kd.R_alloc | apply Kd.R_drewN | apply Kd.R_drew)); exact HO313.out) hb); have n6_ := aMk (blk_below (g := gb283) (o := .cells #[.int .i64 a0_0, .bool a0_1, .slice A0_2 l0_2.length c0_2] 35 (0, 0)) (by (with_reducible repeat (first | refine bkD ?_ _ | refine blk_drew ?_ | refine bkA ?_ _)); exact BK283.out) hb); have n7_ := aMk (blk_below (g := gb299) (o := .cells #[.int .i64 t293, .bool t294, .slice Ao29 t295.length co29] 38 (0, 0)) (by (with_reducible repeat (first | refine bkD ?_ _ | refine blk_drew ?_ | refine bkA ?_ _)); exact BK299.out) hb); have n8_ := aMk (blk_below (g := gb305) (o := .cells #[.int .i64 t300, .bool t301, .slice Ao36 t302.length co36] 38 (0, 0)) (by (with_reducible repeat (first | refine bkD ?_ _ | refine blk_drew ?_ | refine bkA ?_ _)); exact BK305.out) hb); have n9_ := aMk (below_step (by repeat (first | (with_reducible first | exact HB.out | apply bAl | apply bDn | apply bD1 | refine bSe ?_ GE283.out | refine bSe ?_ GE299.out | refine bSe ?_ GE305.out) | exact HB.out)) hb); have n10_ := aMk (hbox); have n11_ := aMk ((by rw [hg]; exact (below_size (by repeat (first | (with_reducible first | exact HB.out | apply bAl | apply bDn | apply bD1 | refine bSe ?_ GE283.out | refine bSe ?_ GE299.out | refine bSe ?_ GE305.out) | exact HB.out))) : w.heap.size ≤ gb315)); have n12_ := aMk ((by rw [hg]; exact (below_size (by repeat (first | (with_reducible first | exact HB.out | apply bAl | apply bDn | apply bD1 | refine bSe ?_ GE283.out | refine bSe ?_ GE299.out | refine bSe ?_ GE305.out) | exact HB.out))) : w.heap.size ≤ gb315)); have n13_ := aMk ((by rw [hg]; exact Nat.ne_of_lt (blk_lt (g := gb283) (o := .cells #[.int .i64 a0_0, .bool a0_1, .slice A0_2 l0_2.length c0_2] 35 (0, 0)) (by (with_reducible repeat (first | refine bkD ?_ _ | refine blk_drew ?_ | refine bkA ?_ _)); exact BK283.out)) : gb283 ≠ gb315)); have n14_ := aMk ((by rw [hg]; exact Nat.ne_of_gt (blk_lt (g := gb283) (o := .cells #[.int .i64 a0_0, .bool a0_1, .slice A0_2 l0_2.length c0_2] 35 (0, 0)) (by (with_reducible repeat (first | refine bkD ?_ _ | refine blk_drew ?_ | refine bkA ?_ _)); exact BK283.out)) : gb315 ≠ gb283)); have n15_ := aMk ((by rw [hg]; exact Nat.ne_of_lt (blk_lt (g := gb299) (o := .cells #[.int .i64 t293, .bool t294, .slice Ao29 t295.length co29] 38 (0, 0)) (by (with_reducible repeat (first | refine bkD ?_ _ | refine blk_drew ?_ | refine bkA ?_ _)); exact BK299.out)) : gb299 ≠ gb315)); have n16_ := aMk ((by rw [hg]; exact Nat.ne_of_gt (blk_lt (g := gb299) (o := .cells #[.int .i64 t293, .bool t294, .slice Ao29 t295.length co29] 38 (0, 0)) (by (with_reducible repeat (first | refine bkD ?_ _ | refine blk_drew ?_ | refine bkA ?_ _)); exact BK299.out)) : gb315 ≠ gb299)); have n17_ := aMk ((by rw [hg]; exact Nat.ne_of_lt (blk_lt (g := gb305) (o := .cells #[.int .i64 t300, .bool t301, .slice Ao36 t302.length co36] 38 (0, 0)) (by (with_reducible repeat (first | refine bkD ?_ _ | refine blk_drew ?_ | refine bkA ?_ _)); exact BK305.out)) : gb305 ≠ gb315)); have n18_ := aMk ((by rw [hg]; exact Nat.ne_of_gt (blk_lt (g := gb305) (o := .cells #[.int .i64 t300, .bool t301, .slice Ao36 t302.length co36] 38 (0, 0)) (by (with_reducible repeat (first | refine bkD ?_ _ | refine blk_drew ?_ | refine bkA ?_ _)); exact BK305.out)) : gb315 ≠ gb305)); clear HO289; clear HO292; clear HO297; clear HO304; clear HO308; clear HO313; clear BK283; clear BK299; clear BK305; clear HB; have HO289 := n0_; have HO292 := n1_; have HO297 := n2_; have HO304 := n3_; have HO308 := n4_; have HO313 := n5_; have BK283 := n6_; have BK299 := n7_; have BK305 := n8_; have HB := n9_; have BK315 := n10_; have GW315 := n11_; have GE315 := n12_; have NB283_315 := n13_; have NB315_283 := n14_; have NB299_315 := n15_; have NB315_299 := n16_; have NB305_315 := n17_; have NB315_305 := n18_; clear n0_ n1_ n2_ n3_ n4_ n5_ n6_ n7_ n8_ n9_ n10_ n11_ n12_ n13_ n14_ n15_ n16_ n17_ n18_; clear hb hbox hg; have hnb42 := NB315_283.out; have hnc42 := NB283_315.out; have hnb43 := NB315_299.out; have hnc43 := NB299_315.out; have hnb44 := NB315_305.out; have hnc44 := NB305_315.out; have hcz45_0 : w41.cell? ⟨gb315, 0, none⟩ = some (.int .i64 0) := (bCe BK315.out 0).trans rfl; have hcz45_1 : w41.cell? ⟨gb315, 1, none⟩ = some (.bool false) := (bCe BK315.out 1).trans rfl; have hcz45_2 : w41.cell? ⟨gb315, 2, none⟩ = some (.slice none 0 0) := (bCe BK315.out 2).trans rfl; have hfz45_0 := bFr BK315.out 0; have hfz45_1 := bFr BK315.out 1; have hfz45_2 := bFr BK315.out 2; obtain ⟨Ao46, co46, eo46⟩ := Kd.R_slice HO313.out; subst eo46))
     (try simp only [Act.put, lSa, lSz, lSs])
     go_cut [51] (fun v51 wc => ∃ (kq : Nat) (x51_15 : Bool), v51 = .bool x51_15 ∧ Aside0 (laws_FnExactFeedMore.j0 kq l1 t298 t306 t314 x51_15 a0_0 a0_1 l0_2 t293 t294 t295 t300 t301 t302 t309 t310 t311 = some r) ∧ Aside0 (kq ≤ k) ∧ Aside0 (Kd.R (Kd.int .u8) 5 wc w.heap.size (fun k_ => some k_ ≠ ((.slice Ao29 t295.length co29) : Value).ownBlock ∧ some k_ ≠ ((.slice Ao36 t302.length co36) : Value).ownBlock ∧ some k_ ≠ ((.slice Ao46 t311.length co46) : Value).ownBlock) (.slice Ao39 t306.length co39) t306) ∧ Aside0 (Kd.R (Kd.int .u8) 5 wc w.heap.size (fun k_ => some k_ ≠ ((.slice Ao39 t306.length co39) : Value).ownBlock ∧ some k_ ≠ ((.slice Ao36 t302.length co36) : Value).ownBlock ∧ some k_ ≠ ((.slice Ao46 t311.length co46) : Value).ownBlock) (.slice Ao29 t295.length co29) t295) ∧ Aside0 (Kd.R (Kd.int .u8) 5 wc w.heap.size (fun k_ => some k_ ≠ ((.slice Ao39 t306.length co39) : Value).ownBlock ∧ some k_ ≠ ((.slice Ao29 t295.length co29) : Value).ownBlock ∧ some k_ ≠ ((.slice Ao46 t311.length co46) : Value).ownBlock) (.slice Ao36 t302.length co36) t302) ∧ Aside0 (Kd.R (Kd.int .u8) 5 wc w.heap.size (fun k_ => some k_ ≠ ((.slice Ao39 t306.length co39) : Value).ownBlock ∧ some k_ ≠ ((.slice Ao29 t295.length co29) : Value).ownBlock ∧ some k_ ≠ ((.slice Ao36 t302.length co36) : Value).ownBlock) (.slice Ao46 t311.length co46) t311) ∧ Aside0 (wc.heap[gb283]? = some (.cells #[.int .i64 a0_0, .bool a0_1, (.slice A0_2 l0_2.length c0_2)] 35 (0, 0))) ∧ Aside0 (wc.heap[gb299]? = some (.cells #[.int .i64 t293, .bool t294, (.slice Ao29 t295.length co29)] 38 (0, 0))) ∧ Aside0 (wc.heap[gb305]? = some (.cells #[.int .i64 t300, .bool t301, (.slice Ao36 t302.length co36)] 38 (0, 0))) ∧ Aside0 (wc.heap[gb315]? = some (.cells #[.int .i64 t309, .bool t310, (.slice Ao46 t311.length co46)] 38 (0, 0))) ∧ Aside0 (Below w.heap.size w wc))
     case first =>
      have H := HC16.out
      clear HC16
      replace H := oBm H
      obtain ⟨t316, A470, H⟩ := H
      replace H : (if t316 = true then (laws_FnExactFeedMore.j0 k l1 t298 t306 t314 (t314.toList != t298.toList) a0_0 a0_1 l0_2 t293 t294 t295 t300 t301 t302 t309 t310 t311) else (laws_FnExactFeedMore.j0 k l1 t298 t306 t314 true a0_0 a0_1 l0_2 t293 t294 t295 t300 t301 t302 t309 t310 t311)) = some r := H
      have A47 := aMk A470
      clear A470
      by_cases c48 : t316 = true
      · subst c48
        have H1 : (laws_FnExactFeedMore.j0 k l1 t298 t306 t314 (t314.toList != t298.toList) a0_0 a0_1 l0_2 t293 t294 t295 t300 t301 t302 t309 t310 t311) = some r := by rw [if_pos rfl] at H; exact H
        clear H
        have H := H1
        clear H1
        have H' := aMk H
        clear H
        have hnb49 := NB315_283.out
        have hnc49 := NB283_315.out
        have hnb50 := NB315_299.out
        have hnc50 := NB299_315.out
        have hnb51 := NB315_305.out
        have hnc51 := NB305_315.out
        have hcz52_0 : w41.cell? ⟨gb315, 0, none⟩ = some (.int .i64 0) := (bCe BK315.out 0).trans rfl
        have hcz52_1 : w41.cell? ⟨gb315, 1, none⟩ = some (.bool false) := (bCe BK315.out 1).trans rfl
        have hcz52_2 : w41.cell? ⟨gb315, 2, none⟩ = some (.slice none 0 0) := (bCe BK315.out 2).trans rfl
        have hfz52_0 := bFr BK315.out 0
        have hfz52_1 := bFr BK315.out 1
        have hfz52_2 := bFr BK315.out 2
        have hnb53 := NB299_283.out
        have hnc53 := NB283_299.out
        have hnb54 := NB299_305.out
        have hnc54 := NB305_299.out
        have hcz55_0 : w41.cell? ⟨gb299, 0, none⟩ = some (.int .i64 t293) := (bCe BK299.out 0).trans rfl
        have hcz55_1 : w41.cell? ⟨gb299, 1, none⟩ = some (.bool t294) := (bCe BK299.out 1).trans rfl
        have hcz55_2 : w41.cell? ⟨gb299, 2, none⟩ = some (.slice Ao29 t295.length co29) := (bCe BK299.out 2).trans rfl
        have hfz55_0 := bFr BK299.out 0
        have hfz55_1 := bFr BK299.out 1
        have hfz55_2 := bFr BK299.out 2
        go_wp2_with (first | ((with_reducible refine gate_callee (f := 25) rfl ?_); refine goesL_ (some 45) rfl rfl Try.func25 (by kernel_rfl) rfl #[.agg #[.int .i64 t309, .bool t310, .slice Ao46 t311.length co46], .agg #[.int .i64 t293, .bool t294, .slice Ao29 t295.length co29]] rfl (by (try simp only [List.map_toArray, List.map_cons, List.map_nil]); first | done | rfl | (simp only [List.length_drop, List.length_take]; rfl)) ?_; (with_reducible refine (laws_eqFeed.calls k t309 t310 _ _ t311 t293 t294 _ _ t295 true _ ?side1 ?side2 ?side3 ?side4 A47.out).mono ?_); (case side1 => refine (Kd.R_reads' (e := 5) (base := w.heap.size) (ok := fun k_ => (((((True ∧ some k_ ≠ (.slice Ao23 t287.length co23 : Value).ownBlock) ∧ some k_ ≠ (.slice Ao24 t290.length co24 : Value).ownBlock) ∧ some k_ ≠ (.slice Ao29 t295.length co29 : Value).ownBlock) ∧ some k_ ≠ (.slice Ao36 t302.length co36 : Value).ownBlock) ∧ some k_ ≠ (.slice Ao39 t306.length co39 : Value).ownBlock)) (n := t311.length) (c := co46) ?_).2.2; exact (by (with_reducible repeat (first | apply Kd.R_alloc | apply Kd.R_drewN | apply Kd.R_drew)); exact (Kd.R_mono (Kd.R_far (p := ⟨gb315, 2, none⟩) (Kd.R_far (p := ⟨gb315, 1, none⟩) (Kd.R_far (p := ⟨gb315, 0, none⟩) (Kd.R_types HO313.out BK315.out (by decide)) (fun _ hk => hk.2) (.int .i64 t309)) (fun _ hk => hk.2) (.bool t310)) (fun _ hk => hk.2) (.slice Ao46 t311.length co46)) (fun _ h_ => h_.1)))); (case side2 => exact (Kd.R_reads' HO313.out).2.1); (case side3 => refine (Kd.R_reads' (e := 5) (base := w.heap.size) (ok := fun k_ => (((((True ∧ some k_ ≠ (.slice Ao23 t287.length co23 : Value).ownBlock) ∧ some k_ ≠ (.slice Ao24 t290.length co24 : Value).ownBlock) ∧ some k_ ≠ (.slice Ao36 t302.length co36 : Value).ownBlock) ∧ some k_ ≠ (.slice Ao39 t306.length co39 : Value).ownBlock) ∧ some k_ ≠ (.slice Ao46 t311.length co46 : Value).ownBlock)) (n := t295.length) (c := co29) ?_).2.2; exact (by (with_reducible repeat (first | apply Kd.R_alloc | apply Kd.R_drewN | apply Kd.R_drew)); exact (Kd.R_mono (Kd.R_far (p := ⟨gb315, 2, none⟩) (Kd.R_far (p := ⟨gb315, 1, none⟩) (Kd.R_far (p := ⟨gb315, 0, none⟩) (Kd.R_types HO297.out BK315.out (by decide)) (fun _ hk => hk.2) (.int .i64 t309)) (fun _ hk => hk.2) (.bool t310)) (fun _ hk => hk.2) (.slice Ao46 t311.length co46)) (fun _ h_ => h_.1)))); (case side4 => exact (Kd.R_reads' HO297.out).2.1); rintro e w56 ⟨rfl, hb⟩; refine ⟨_, rfl, ?_⟩; have n0_ := aMk (Kd.R_below (by (with_reducible repeat (first | apply Kd.R_alloc | apply Kd.R_drewN | apply Kd.R_drew)); exact (Kd.R_mono (Kd.R_far (p := ⟨gb315, 2, none⟩) (Kd.R_far (p := ⟨gb315, 1, none⟩) (Kd.R_far (p := ⟨gb315, 0, none⟩) (Kd.R_types HO289.out BK315.out (by decide)) (fun _ hk => hk.2) (.int .i64 t309)) (fun _ hk => hk.2) (.bool t310)) (fun _ hk => hk.2) (.slice Ao46 t311.length co46)) (fun _ h_ => h_.1))) hb); have n1_ := aMk (Kd.R_below (by (with_reducible repeat (first | apply Kd.R_alloc | apply Kd.R_drewN | apply Kd.R_drew)); exact (Kd.R_mono (Kd.R_far (p := ⟨gb315, 2, none⟩) (Kd.R_far (p := ⟨gb315, 1, none⟩) (Kd.R_far (p := ⟨gb315, 0, none⟩) (Kd.R_types HO292.out BK315.out (by decide)) (fun _ hk => hk.2) (.int .i64 t309)) (fun _ hk => hk.2) (.bool t310)) (fun _ hk => hk.2) (.slice Ao46 t311.length co46)) (fun _ h_ => h_.1))) hb); have n2_ := aMk (Kd.R_below (by (with_reducible repeat (first | apply Kd.R_alloc | apply Kd.R_drewN | apply Kd.R_drew)); exact (Kd.R_mono (Kd.R_far (p := ⟨gb315, 2, none⟩) (Kd.R_far (p := ⟨gb315, 1, none⟩) (Kd.R_far (p := ⟨gb315, 0, none⟩) (Kd.R_types HO297.out BK315.out (by decide)) (fun _ hk => hk.2) (.int .i64 t309)) (fun _ hk => hk.2) (.bool t310)) (fun _ hk => hk.2) (.slice Ao46 t311.length co46)) (fun _ h_ => h_.1))) hb); have n3_ := aMk (Kd.R_below (by (with_reducible repeat (first | apply Kd.R_alloc | apply Kd.R_drewN | apply Kd.R_drew)); exact (Kd.R_mono (Kd.R_far (p := ⟨gb315, 2, none⟩) (Kd.R_far (p := ⟨gb315, 1, none⟩) (Kd.R_far (p := ⟨gb315, 0, none⟩) (Kd.R_types HO304.out BK315.out (by decide)) (fun _ hk => hk.2) (.int .i64 t309)) (fun _ hk => hk.2) (.bool t310)) (fun _ hk => hk.2) (.slice Ao46 t311.length co46)) (fun _ h_ => h_.1))) hb); have n4_ := aMk (Kd.R_below (by (with_reducible repeat (first | apply Kd.R_alloc | apply Kd.R_drewN | apply Kd.R_drew)); exact (Kd.R_mono (Kd.R_far (p := ⟨gb315, 2, none⟩) (Kd.R_far (p := ⟨gb315, 1, none⟩) (Kd.R_far (p := ⟨gb315, 0, none⟩) (Kd.R_types HO308.out BK315.out (by decide)) (fun _ hk => hk.2) (.int .i64 t309)) (fun _ hk => hk.2) (.bool t310)) (fun _ hk => hk.2) (.slice Ao46 t311.length co46)) (fun _ h_ => h_.1))) hb); have n5_ := aMk (Kd.R_below (by (with_reducible repeat (first | apply Kd.R_alloc | apply Kd.R_drewN | apply Kd.R_drew)); exact (Kd.R_mono (Kd.R_far (p := ⟨gb315, 2, none⟩) (Kd.R_far (p := ⟨gb315, 1, none⟩) (Kd.R_far (p := ⟨gb315, 0, none⟩) (Kd.R_types HO313.out BK315.out (by decide)) (fun _ hk => hk.2) (.int .i64 t309)) (fun _ hk => hk.2) (.bool t310)) (fun _ hk => hk.2) (.slice Ao46 t311.length co46)) (fun _ h_ => h_.1))) hb); have n6_ := aMk (blk_below (g := gb283) (o := .cells #[.int .i64 a0_0, .bool a0_1, .slice A0_2 l0_2.length c0_2] 35 (0, 0)) (by (with_reducible repeat (first | refine bkD ?_ _ | refine blk_drew ?_ | refine bkA ?_ _)); refine blk_far ?_ NB283_315.out _; (with_reducible repeat (first | refine bkD ?_ _ | refine blk_drew ?_ | refine bkA ?_ _)); refine blk_far ?_ NB283_315.out _; (with_reducible repeat (first | refine bkD ?_ _ | refine blk_drew ?_ | refine bkA ?_ _)); refine blk_far ?_ NB283_315.out _; (with_reducible repeat (first | refine bkD ?_ _ | refine blk_drew ?_ | refine bkA ?_ _)); exact BK283.out) hb); have n7_ := aMk (blk_below (g := gb299) (o := .cells #[.int .i64 t293, .bool t294, .slice Ao29 t295.length co29] 38 (0, 0)) (by (with_reducible repeat (first | refine bkD ?_ _ | refine blk_drew ?_ | refine bkA ?_ _)); refine blk_far ?_ NB299_315.out _; (with_reducible repeat (first | refine bkD ?_ _ | refine blk_drew ?_ | refine bkA ?_ _)); refine blk_far ?_ NB299_315.out _; (with_reducible repeat (first | refine bkD ?_ _ | refine blk_drew ?_ | refine bkA ?_ _)); refine blk_far ?_ NB299_315.out _; (with_reducible repeat (first | refine bkD ?_ _ | refine blk_drew ?_ | refine bkA ?_ _)); exact BK299.out) hb); have n8_ := aMk (blk_below (g := gb305) (o := .cells #[.int .i64 t300, .bool t301, .slice Ao36 t302.length co36] 38 (0, 0)) (by (with_reducible repeat (first | refine bkD ?_ _ | refine blk_drew ?_ | refine bkA ?_ _)); refine blk_far ?_ NB305_315.out _; (with_reducible repeat (first | refine bkD ?_ _ | refine blk_drew ?_ | refine bkA ?_ _)); refine blk_far ?_ NB305_315.out _; (with_reducible repeat (first | refine bkD ?_ _ | refine blk_drew ?_ | refine bkA ?_ _)); refine blk_far ?_ NB305_315.out _; (with_reducible repeat (first | refine bkD ?_ _ | refine blk_drew ?_ | refine bkA ?_ _)); exact BK305.out) hb); have n9_ := aMk (blk_below (g := gb315) (o := .cells #[.int .i64 t309, .bool t310, .slice Ao46 t311.length co46] 38 (0, 0)) (by (with_reducible repeat (first | refine bkD ?_ _ | refine blk_drew ?_ | refine bkA ?_ _)); refine blk_put (cs := #[.int .i64 t309, .bool t310, .slice none 0 0]) ?_ 2 _ rfl; (with_reducible repeat (first | refine bkD ?_ _ | refine blk_drew ?_ | refine bkA ?_ _)); refine blk_put (cs := #[.int .i64 t309, .bool false, .slice none 0 0]) ?_ 1 _ rfl; (with_reducible repeat (first | refine bkD ?_ _ | refine blk_drew ?_ | refine bkA ?_ _)); refine blk_put (cs := #[.int .i64 0, .bool false, .slice none 0 0]) ?_ 0 _ rfl; (with_reducible repeat (first | refine bkD ?_ _ | refine blk_drew ?_ | refine bkA ?_ _)); exact BK315.out) hb); have n10_ := aMk (below_step (by repeat (first | (with_reducible first | exact HB.out | apply bAl | apply bDn | apply bD1 | refine bSe ?_ GE283.out | refine bSe ?_ GE299.out | refine bSe ?_ GE305.out | refine bSe ?_ GE315.out) | exact HB.out)) hb); clear HO289; clear HO292; clear HO297; clear HO304; clear HO308; clear HO313; clear BK283; clear BK299; clear BK305; clear BK315; clear HB; have HO289 := n0_; have HO292 := n1_; have HO297 := n2_; have HO304 := n3_; have HO308 := n4_; have HO313 := n5_; have BK283 := n6_; have BK299 := n7_; have BK305 := n8_; have BK315 := n9_; have HB := n10_; clear n0_ n1_ n2_ n3_ n4_ n5_ n6_ n7_ n8_ n9_ n10_; (try clear hb); (try clear hb2); (try clear hk); (try clear hi)))
        go_meet
        case rel => exact ⟨_, ((t314.toList != t298.toList)), (by first | rfl | (simp; done) | (simp [*]; done)), H', ⟨by first | omega | exact Nat.le_refl _⟩, ⟨by (with_reducible repeat (first | apply Kd.R_alloc | apply Kd.R_drewN | apply Kd.R_drew)); exact Kd.R_mono HO308.out (fun _ hk => ⟨hk.1.1.2, ⟨hk.1.2, hk.2⟩⟩)⟩, ⟨by (with_reducible repeat (first | apply Kd.R_alloc | apply Kd.R_drewN | apply Kd.R_drew)); exact Kd.R_mono HO297.out (fun _ hk => ⟨hk.1.2, ⟨hk.1.1.2, hk.2⟩⟩)⟩, ⟨by (with_reducible repeat (first | apply Kd.R_alloc | apply Kd.R_drewN | apply Kd.R_drew)); exact Kd.R_mono HO304.out (fun _ hk => ⟨hk.1.2, ⟨hk.1.1.2, hk.2⟩⟩)⟩, ⟨by (with_reducible repeat (first | apply Kd.R_alloc | apply Kd.R_drewN | apply Kd.R_drew)); exact Kd.R_mono HO313.out (fun _ hk => ⟨hk.2, ⟨hk.1.1.2, hk.1.2⟩⟩)⟩, ⟨by (with_reducible repeat (first | refine bkD ?_ _ | refine blk_drew ?_ | refine bkA ?_ _)); exact BK283.out⟩, ⟨by (with_reducible repeat (first | refine bkD ?_ _ | refine blk_drew ?_ | refine bkA ?_ _)); exact BK299.out⟩, ⟨by (with_reducible repeat (first | refine bkD ?_ _ | refine blk_drew ?_ | refine bkA ?_ _)); exact BK305.out⟩, ⟨by (with_reducible repeat (first | refine bkD ?_ _ | refine blk_drew ?_ | refine bkA ?_ _)); exact BK315.out⟩, ⟨by repeat (first | (with_reducible first | exact HB.out | apply bAl | apply bDn | apply bD1 | refine bSe ?_ GE283.out | refine bSe ?_ GE299.out | refine bSe ?_ GE305.out | refine bSe ?_ GE315.out) | exact HB.out)⟩⟩
      · replace c48 := Bool.eq_false_iff.mpr c48
        subst c48
        have H1 : (laws_FnExactFeedMore.j0 k l1 t298 t306 t314 true a0_0 a0_1 l0_2 t293 t294 t295 t300 t301 t302 t309 t310 t311) = some r := by rw [if_neg (show ¬ (false = true) by decide)] at H; exact H
        clear H
        have H := H1
        clear H1
        have H' := aMk H
        clear H
        have hnb57 := NB315_283.out
        have hnc57 := NB283_315.out
        have hnb58 := NB315_299.out
        have hnc58 := NB299_315.out
        have hnb59 := NB315_305.out
        have hnc59 := NB305_315.out
        have hcz60_0 : w41.cell? ⟨gb315, 0, none⟩ = some (.int .i64 0) := (bCe BK315.out 0).trans rfl
        have hcz60_1 : w41.cell? ⟨gb315, 1, none⟩ = some (.bool false) := (bCe BK315.out 1).trans rfl
        have hcz60_2 : w41.cell? ⟨gb315, 2, none⟩ = some (.slice none 0 0) := (bCe BK315.out 2).trans rfl
        have hfz60_0 := bFr BK315.out 0
        have hfz60_1 := bFr BK315.out 1
        have hfz60_2 := bFr BK315.out 2
        have hnb61 := NB299_283.out
        have hnc61 := NB283_299.out
        have hnb62 := NB299_305.out
        have hnc62 := NB305_299.out
        have hcz63_0 : w41.cell? ⟨gb299, 0, none⟩ = some (.int .i64 t293) := (bCe BK299.out 0).trans rfl
        have hcz63_1 : w41.cell? ⟨gb299, 1, none⟩ = some (.bool t294) := (bCe BK299.out 1).trans rfl
        have hcz63_2 : w41.cell? ⟨gb299, 2, none⟩ = some (.slice Ao29 t295.length co29) := (bCe BK299.out 2).trans rfl
        have hfz63_0 := bFr BK299.out 0
        have hfz63_1 := bFr BK299.out 1
        have hfz63_2 := bFr BK299.out 2
        go_wp2_with (first | ((with_reducible refine gate_callee (f := 25) rfl ?_); refine goesL_ (some 45) rfl rfl Try.func25 (by kernel_rfl) rfl #[.agg #[.int .i64 t309, .bool t310, .slice Ao46 t311.length co46], .agg #[.int .i64 t293, .bool t294, .slice Ao29 t295.length co29]] rfl (by (try simp only [List.map_toArray, List.map_cons, List.map_nil]); first | done | rfl | (simp only [List.length_drop, List.length_take]; rfl)) ?_; (with_reducible refine (laws_eqFeed.calls k t309 t310 _ _ t311 t293 t294 _ _ t295 false _ ?side1 ?side2 ?side3 ?side4 A47.out).mono ?_); (case side1 => refine (Kd.R_reads' (e := 5) (base := w.heap.size) (ok := fun k_ => (((((True ∧ some k_ ≠ (.slice Ao23 t287.length co23 : Value).ownBlock) ∧ some k_ ≠ (.slice Ao24 t290.length co24 : Value).ownBlock) ∧ some k_ ≠ (.slice Ao29 t295.length co29 : Value).ownBlock) ∧ some k_ ≠ (.slice Ao36 t302.length co36 : Value).ownBlock) ∧ some k_ ≠ (.slice Ao39 t306.length co39 : Value).ownBlock)) (n := t311.length) (c := co46) ?_).2.2; exact (by (with_reducible repeat (first | apply Kd.R_alloc | apply Kd.R_drewN | apply Kd.R_drew)); exact (Kd.R_mono (Kd.R_far (p := ⟨gb315, 2, none⟩) (Kd.R_far (p := ⟨gb315, 1, none⟩) (Kd.R_far (p := ⟨gb315, 0, none⟩) (Kd.R_types HO313.out BK315.out (by decide)) (fun _ hk => hk.2) (.int .i64 t309)) (fun _ hk => hk.2) (.bool t310)) (fun _ hk => hk.2) (.slice Ao46 t311.length co46)) (fun _ h_ => h_.1)))); (case side2 => exact (Kd.R_reads' HO313.out).2.1); (case side3 => refine (Kd.R_reads' (e := 5) (base := w.heap.size) (ok := fun k_ => (((((True ∧ some k_ ≠ (.slice Ao23 t287.length co23 : Value).ownBlock) ∧ some k_ ≠ (.slice Ao24 t290.length co24 : Value).ownBlock) ∧ some k_ ≠ (.slice Ao36 t302.length co36 : Value).ownBlock) ∧ some k_ ≠ (.slice Ao39 t306.length co39 : Value).ownBlock) ∧ some k_ ≠ (.slice Ao46 t311.length co46 : Value).ownBlock)) (n := t295.length) (c := co29) ?_).2.2; exact (by (with_reducible repeat (first | apply Kd.R_alloc | apply Kd.R_drewN | apply Kd.R_drew)); exact (Kd.R_mono (Kd.R_far (p := ⟨gb315, 2, none⟩) (Kd.R_far (p := ⟨gb315, 1, none⟩) (Kd.R_far (p := ⟨gb315, 0, none⟩) (Kd.R_types HO297.out BK315.out (by decide)) (fun _ hk => hk.2) (.int .i64 t309)) (fun _ hk => hk.2) (.bool t310)) (fun _ hk => hk.2) (.slice Ao46 t311.length co46)) (fun _ h_ => h_.1)))); (case side4 => exact (Kd.R_reads' HO297.out).2.1); rintro e w64 ⟨rfl, hb⟩; refine ⟨_, rfl, ?_⟩; have n0_ := aMk (Kd.R_below (by (with_reducible repeat (first | apply Kd.R_alloc | apply Kd.R_drewN | apply Kd.R_drew)); exact (Kd.R_mono (Kd.R_far (p := ⟨gb315, 2, none⟩) (Kd.R_far (p := ⟨gb315, 1, none⟩) (Kd.R_far (p := ⟨gb315, 0, none⟩) (Kd.R_types HO289.out BK315.out (by decide)) (fun _ hk => hk.2) (.int .i64 t309)) (fun _ hk => hk.2) (.bool t310)) (fun _ hk => hk.2) (.slice Ao46 t311.length co46)) (fun _ h_ => h_.1))) hb); have n1_ := aMk (Kd.R_below (by (with_reducible repeat (first | apply Kd.R_alloc | apply Kd.R_drewN | apply Kd.R_drew)); exact (Kd.R_mono (Kd.R_far (p := ⟨gb315, 2, none⟩) (Kd.R_far (p := ⟨gb315, 1, none⟩) (Kd.R_far (p := ⟨gb315, 0, none⟩) (Kd.R_types HO292.out BK315.out (by decide)) (fun _ hk => hk.2) (.int .i64 t309)) (fun _ hk => hk.2) (.bool t310)) (fun _ hk => hk.2) (.slice Ao46 t311.length co46)) (fun _ h_ => h_.1))) hb); have n2_ := aMk (Kd.R_below (by (with_reducible repeat (first | apply Kd.R_alloc | apply Kd.R_drewN | apply Kd.R_drew)); exact (Kd.R_mono (Kd.R_far (p := ⟨gb315, 2, none⟩) (Kd.R_far (p := ⟨gb315, 1, none⟩) (Kd.R_far (p := ⟨gb315, 0, none⟩) (Kd.R_types HO297.out BK315.out (by decide)) (fun _ hk => hk.2) (.int .i64 t309)) (fun _ hk => hk.2) (.bool t310)) (fun _ hk => hk.2) (.slice Ao46 t311.length co46)) (fun _ h_ => h_.1))) hb); have n3_ := aMk (Kd.R_below (by (with_reducible repeat (first | apply Kd.R_alloc | apply Kd.R_drewN | apply Kd.R_drew)); exact (Kd.R_mono (Kd.R_far (p := ⟨gb315, 2, none⟩) (Kd.R_far (p := ⟨gb315, 1, none⟩) (Kd.R_far (p := ⟨gb315, 0, none⟩) (Kd.R_types HO304.out BK315.out (by decide)) (fun _ hk => hk.2) (.int .i64 t309)) (fun _ hk => hk.2) (.bool t310)) (fun _ hk => hk.2) (.slice Ao46 t311.length co46)) (fun _ h_ => h_.1))) hb); have n4_ := aMk (Kd.R_below (by (with_reducible repeat (first | apply Kd.R_alloc | apply Kd.R_drewN | apply Kd.R_drew)); exact (Kd.R_mono (Kd.R_far (p := ⟨gb315, 2, none⟩) (Kd.R_far (p := ⟨gb315, 1, none⟩) (Kd.R_far (p := ⟨gb315, 0, none⟩) (Kd.R_types HO308.out BK315.out (by decide)) (fun _ hk => hk.2) (.int .i64 t309)) (fun _ hk => hk.2) (.bool t310)) (fun _ hk => hk.2) (.slice Ao46 t311.length co46)) (fun _ h_ => h_.1))) hb); have n5_ := aMk (Kd.R_below (by (with_reducible repeat (first | apply Kd.R_alloc | apply Kd.R_drewN | apply Kd.R_drew)); exact (Kd.R_mono (Kd.R_far (p := ⟨gb315, 2, none⟩) (Kd.R_far (p := ⟨gb315, 1, none⟩) (Kd.R_far (p := ⟨gb315, 0, none⟩) (Kd.R_types HO313.out BK315.out (by decide)) (fun _ hk => hk.2) (.int .i64 t309)) (fun _ hk => hk.2) (.bool t310)) (fun _ hk => hk.2) (.slice Ao46 t311.length co46)) (fun _ h_ => h_.1))) hb); have n6_ := aMk (blk_below (g := gb283) (o := .cells #[.int .i64 a0_0, .bool a0_1, .slice A0_2 l0_2.length c0_2] 35 (0, 0)) (by (with_reducible repeat (first | refine bkD ?_ _ | refine blk_drew ?_ | refine bkA ?_ _)); refine blk_far ?_ NB283_315.out _; (with_reducible repeat (first | refine bkD ?_ _ | refine blk_drew ?_ | refine bkA ?_ _)); refine blk_far ?_ NB283_315.out _; (with_reducible repeat (first | refine bkD ?_ _ | refine blk_drew ?_ | refine bkA ?_ _)); refine blk_far ?_ NB283_315.out _; (with_reducible repeat (first | refine bkD ?_ _ | refine blk_drew ?_ | refine bkA ?_ _)); exact BK283.out) hb); have n7_ := aMk (blk_below (g := gb299) (o := .cells #[.int .i64 t293, .bool t294, .slice Ao29 t295.length co29] 38 (0, 0)) (by (with_reducible repeat (first | refine bkD ?_ _ | refine blk_drew ?_ | refine bkA ?_ _)); refine blk_far ?_ NB299_315.out _; (with_reducible repeat (first | refine bkD ?_ _ | refine blk_drew ?_ | refine bkA ?_ _)); refine blk_far ?_ NB299_315.out _; (with_reducible repeat (first | refine bkD ?_ _ | refine blk_drew ?_ | refine bkA ?_ _)); refine blk_far ?_ NB299_315.out _; (with_reducible repeat (first | refine bkD ?_ _ | refine blk_drew ?_ | refine bkA ?_ _)); exact BK299.out) hb); have n8_ := aMk (blk_below (g := gb305) (o := .cells #[.int .i64 t300, .bool t301, .slice Ao36 t302.length co36] 38 (0, 0)) (by (with_reducible repeat (first | refine bkD ?_ _ | refine blk_drew ?_ | refine bkA ?_ _)); refine blk_far ?_ NB305_315.out _; (with_reducible repeat (first | refine bkD ?_ _ | refine blk_drew ?_ | refine bkA ?_ _)); refine blk_far ?_ NB305_315.out _; (with_reducible repeat (first | refine bkD ?_ _ | refine blk_drew ?_ | refine bkA ?_ _)); refine blk_far ?_ NB305_315.out _; (with_reducible repeat (first | refine bkD ?_ _ | refine blk_drew ?_ | refine bkA ?_ _)); exact BK305.out) hb); have n9_ := aMk (blk_below (g := gb315) (o := .cells #[.int .i64 t309, .bool t310, .slice Ao46 t311.length co46] 38 (0, 0)) (by (with_reducible repeat (first | refine bkD ?_ _ | refine blk_drew ?_ | refine bkA ?_ _)); refine blk_put (cs := #[.int .i64 t309, .bool t310, .slice none 0 0]) ?_ 2 _ rfl; (with_reducible repeat (first | refine bkD ?_ _ | refine blk_drew ?_ | refine bkA ?_ _)); refine blk_put (cs := #[.int .i64 t309, .bool false, .slice none 0 0]) ?_ 1 _ rfl; (with_reducible repeat (first | refine bkD ?_ _ | refine blk_drew ?_ | refine bkA ?_ _)); refine blk_put (cs := #[.int .i64 0, .bool false, .slice none 0 0]) ?_ 0 _ rfl; (with_reducible repeat (first | refine bkD ?_ _ | refine blk_drew ?_ | refine bkA ?_ _)); exact BK315.out) hb); have n10_ := aMk (below_step (by repeat (first | (with_reducible first | exact HB.out | apply bAl | apply bDn | apply bD1 | refine bSe ?_ GE283.out | refine bSe ?_ GE299.out | refine bSe ?_ GE305.out | refine bSe ?_ GE315.out) | exact HB.out)) hb); clear HO289; clear HO292; clear HO297; clear HO304; clear HO308; clear HO313; clear BK283; clear BK299; clear BK305; clear BK315; clear HB; have HO289 := n0_; have HO292 := n1_; have HO297 := n2_; have HO304 := n3_; have HO308 := n4_; have HO313 := n5_; have BK283 := n6_; have BK299 := n7_; have BK305 := n8_; have BK315 := n9_; have HB := n10_; clear n0_ n1_ n2_ n3_ n4_ n5_ n6_ n7_ n8_ n9_ n10_; (try clear hb); (try clear hb2); (try clear hk); (try clear hi)))
        go_meet
        case rel => exact ⟨_, (true), (by first | rfl | (simp; done) | (simp [*]; done)), H', ⟨by first | omega | exact Nat.le_refl _⟩, ⟨by (with_reducible repeat (first | apply Kd.R_alloc | apply Kd.R_drewN | apply Kd.R_drew)); exact Kd.R_mono HO308.out (fun _ hk => ⟨hk.1.1.2, ⟨hk.1.2, hk.2⟩⟩)⟩, ⟨by (with_reducible repeat (first | apply Kd.R_alloc | apply Kd.R_drewN | apply Kd.R_drew)); exact Kd.R_mono HO297.out (fun _ hk => ⟨hk.1.2, ⟨hk.1.1.2, hk.2⟩⟩)⟩, ⟨by (with_reducible repeat (first | apply Kd.R_alloc | apply Kd.R_drewN | apply Kd.R_drew)); exact Kd.R_mono HO304.out (fun _ hk => ⟨hk.1.2, ⟨hk.1.1.2, hk.2⟩⟩)⟩, ⟨by (with_reducible repeat (first | apply Kd.R_alloc | apply Kd.R_drewN | apply Kd.R_drew)); exact Kd.R_mono HO313.out (fun _ hk => ⟨hk.2, ⟨hk.1.1.2, hk.1.2⟩⟩)⟩, ⟨by (with_reducible repeat (first | refine bkD ?_ _ | refine blk_drew ?_ | refine bkA ?_ _)); exact BK283.out⟩, ⟨by (with_reducible repeat (first | refine bkD ?_ _ | refine blk_drew ?_ | refine bkA ?_ _)); exact BK299.out⟩, ⟨by (with_reducible repeat (first | refine bkD ?_ _ | refine blk_drew ?_ | refine bkA ?_ _)); exact BK305.out⟩, ⟨by (with_reducible repeat (first | refine bkD ?_ _ | refine blk_drew ?_ | refine bkA ?_ _)); exact BK315.out⟩, ⟨by repeat (first | (with_reducible first | exact HB.out | apply bAl | apply bDn | apply bD1 | refine bSe ?_ GE283.out | refine bSe ?_ GE299.out | refine bSe ?_ GE305.out | refine bSe ?_ GE315.out) | exact HB.out)⟩⟩
     case rest =>
      clear HC16
      try clear c1
      try clear c2
      try clear p2
      try clear c3
      try clear c3b0
      try clear c3b1
      try clear c4
      try clear c5
      try clear c6
      try clear c6b0
      try clear c19
      try clear c21
      try clear c23
      try clear c25
      try clear c26
      try clear c27
      try clear c33
      try clear c34
      try clear c42
      try clear c43
      try clear c44
      try clear c48
      try clear c49
      try clear c50
      try clear c51
      try clear c53
      try clear c54
      try clear c57
      try clear c58
      try clear c59
      try clear c61
      try clear c62
      try clear hcz18_0
      try clear hcz18_1
      try clear hcz18_2
      try clear hcz20_0
      try clear hcz20_1
      try clear hcz20_2
      try clear hcz28_0
      try clear hcz28_1
      try clear hcz28_2
      try clear hcz30_0
      try clear hcz30_1
      try clear hcz30_2
      try clear hcz35_0
      try clear hcz35_1
      try clear hcz35_2
      try clear hcz38_0
      try clear hcz38_1
      try clear hcz38_2
      try clear hcz45_0
      try clear hcz45_1
      try clear hcz45_2
      try clear hcz52_0
      try clear hcz52_1
      try clear hcz52_2
      try clear hcz55_0
      try clear hcz55_1
      try clear hcz55_2
      try clear hcz60_0
      try clear hcz60_1
      try clear hcz60_2
      try clear hcz63_0
      try clear hcz63_1
      try clear hcz63_2
      try clear hcz8_0
      try clear hcz8_1
      try clear hcz8_2
      try clear hfz18_0
      try clear hfz18_1
      try clear hfz18_2
      try clear hfz20_0
      try clear hfz20_1
      try clear hfz20_2
      try clear hfz28_0
      try clear hfz28_1
      try clear hfz28_2
      try clear hfz30_0
      try clear hfz30_1
      try clear hfz30_2
      try clear hfz35_0
      try clear hfz35_1
      try clear hfz35_2
      try clear hfz38_0
      try clear hfz38_1
      try clear hfz38_2
      try clear hfz45_0
      try clear hfz45_1
      try clear hfz45_2
      try clear hfz52_0
      try clear hfz52_1
      try clear hfz52_2
      try clear hfz55_0
      try clear hfz55_1
      try clear hfz55_2
      try clear hfz60_0
      try clear hfz60_1
      try clear hfz60_2
      try clear hfz63_0
      try clear hfz63_1
      try clear hfz63_2
      try clear hfz8_0
      try clear hfz8_1
      try clear hfz8_2
      obtain ⟨kq, x51_15, rfl, HA, HJ15, HO_9, HO_300002, HO_306002, HO_316002, BK283, BK299, BK305, BK315, HB⟩ := hcut
      cases kq with
      | zero => exact absurd HA.out (by simp [laws_FnExactFeedMore.j0])
      | succ kj15 =>
       have H := HA.out
       clear HA
       simp only [laws_FnExactFeedMore.j0] at H
       by_cases c65 : x51_15 = true
       · subst c65
         have H1 : (some false) = some r := by rw [if_pos rfl] at H; exact H
         clear H
         have H := H1
         clear H1
         obtain rfl := Option.some.inj H
         go_wp2
         go_ret
         exact ⟨by first | rfl | (simp [errW_none, errW_some] <;> rfl) | (simp [*, errW_none, errW_some] <;> rfl), by repeat (first | (with_reducible first | exact HB.out | apply bAl | apply bDn | apply bD1 | refine bSe ?_ GE283.out | refine bSe ?_ GE299.out | refine bSe ?_ GE305.out | refine bSe ?_ GE315.out) | exact HB.out)⟩
       · replace c65 := Bool.eq_false_iff.mpr c65
         subst c65
         have H1 : ((laws_toFeed.f kj15 a0_0 a0_1 l0_2).bind fun bt317 => ((laws_eqFeed.f kj15 t300 t301 t302 bt317.1 bt317.2.1 bt317.2.2).bind fun t322 => (if t322 = true then ((laws_toByteS.f kj15 l1).bind fun t323 => ((laws_eqByteS.f kj15 t306 t323).bind fun t326 => (if t326 = true then ((laws_markFeed.f kj15 t300 t301 t302 1).bind fun bt327 => ((laws_markByteS.f kj15 t306 bt327.1).bind fun bt329 => (if bt329.1 < 0 then (laws_FnExactFeedMore.j1 kj15 l1 t298 true a0_0 a0_1 l0_2 t293 t294 t295 t309 t310 t311) else ((laws_eqFeed.f kj15 t309 t310 t311 t293 t294 t295).bind fun t331 => (if t331 = true then (laws_FnExactFeedMore.j1 kj15 l1 t298 (t314.toList != t298.toList) a0_0 a0_1 l0_2 t293 t294 t295 t309 t310 t311) else (laws_FnExactFeedMore.j1 kj15 l1 t298 true a0_0 a0_1 l0_2 t293 t294 t295 t309 t310 t311)))))) else (some false)))) else (some false)))) = some r := by rw [if_neg (show ¬ (false = true) by decide)] at H; exact H
         clear H
         have H := H1
         clear H1
         replace H := oBm H
         obtain ⟨⟨t317, t318, t319⟩, A660, H⟩ := H
         replace H : ((laws_eqFeed.f kj15 t300 t301 t302 t317 t318 t319).bind fun t322 => (if t322 = true then ((laws_toByteS.f kj15 l1).bind fun t323 => ((laws_eqByteS.f kj15 t306 t323).bind fun t326 => (if t326 = true then ((laws_markFeed.f kj15 t300 t301 t302 1).bind fun bt327 => ((laws_markByteS.f kj15 t306 bt327.1).bind fun bt329 => (if bt329.1 < 0 then (laws_FnExactFeedMore.j1 kj15 l1 t298 true a0_0 a0_1 l0_2 t293 t294 t295 t309 t310 t311) else ((laws_eqFeed.f kj15 t309 t310 t311 t293 t294 t295).bind fun t331 => (if t331 = true then (laws_FnExactFeedMore.j1 kj15 l1 t298 (t314.toList != t298.toList) a0_0 a0_1 l0_2 t293 t294 t295 t309 t310 t311) else (laws_FnExactFeedMore.j1 kj15 l1 t298 true a0_0 a0_1 l0_2 t293 t294 t295 t309 t310 t311)))))) else (some false)))) else (some false))) = some r := H
         have A66 := aMk A660
         clear A660
         replace H := oBm H
         obtain ⟨t322, A670, H⟩ := H
         replace H : (if t322 = true then ((laws_toByteS.f kj15 l1).bind fun t323 => ((laws_eqByteS.f kj15 t306 t323).bind fun t326 => (if t326 = true then ((laws_markFeed.f kj15 t300 t301 t302 1).bind fun bt327 => ((laws_markByteS.f kj15 t306 bt327.1).bind fun bt329 => (if bt329.1 < 0 then (laws_FnExactFeedMore.j1 kj15 l1 t298 true a0_0 a0_1 l0_2 t293 t294 t295 t309 t310 t311) else ((laws_eqFeed.f kj15 t309 t310 t311 t293 t294 t295).bind fun t331 => (if t331 = true then (laws_FnExactFeedMore.j1 kj15 l1 t298 (t314.toList != t298.toList) a0_0 a0_1 l0_2 t293 t294 t295 t309 t310 t311) else (laws_FnExactFeedMore.j1 kj15 l1 t298 true a0_0 a0_1 l0_2 t293 t294 t295 t309 t310 t311)))))) else (some false)))) else (some false)) = some r := H
         have A67 := aMk A670
         clear A670
         by_cases c68 : t322 = true
         · subst c68
           have H1 : ((laws_toByteS.f kj15 l1).bind fun t323 => ((laws_eqByteS.f kj15 t306 t323).bind fun t326 => (if t326 = true then ((laws_markFeed.f kj15 t300 t301 t302 1).bind fun bt327 => ((laws_markByteS.f kj15 t306 bt327.1).bind fun bt329 => (if bt329.1 < 0 then (laws_FnExactFeedMore.j1 kj15 l1 t298 true a0_0 a0_1 l0_2 t293 t294 t295 t309 t310 t311) else ((laws_eqFeed.f kj15 t309 t310 t311 t293 t294 t295).bind fun t331 => (if t331 = true then (laws_FnExactFeedMore.j1 kj15 l1 t298 (t314.toList != t298.toList) a0_0 a0_1 l0_2 t293 t294 t295 t309 t310 t311) else (laws_FnExactFeedMore.j1 kj15 l1 t298 true a0_0 a0_1 l0_2 t293 t294 t295 t309 t310 t311)))))) else (some false)))) = some r := by rw [if_pos rfl] at H; exact H
           clear H
           have H := H1
           clear H1
           replace H := oBm H
           obtain ⟨t323, A690, H⟩ := H
           replace H : ((laws_eqByteS.f kj15 t306 t323).bind fun t326 => (if t326 = true then ((laws_markFeed.f kj15 t300 t301 t302 1).bind fun bt327 => ((laws_markByteS.f kj15 t306 bt327.1).bind fun bt329 => (if bt329.1 < 0 then (laws_FnExactFeedMore.j1 kj15 l1 t298 true a0_0 a0_1 l0_2 t293 t294 t295 t309 t310 t311) else ((laws_eqFeed.f kj15 t309 t310 t311 t293 t294 t295).bind fun t331 => (if t331 = true then (laws_FnExactFeedMore.j1 kj15 l1 t298 (t314.toList != t298.toList) a0_0 a0_1 l0_2 t293 t294 t295 t309 t310 t311) else (laws_FnExactFeedMore.j1 kj15 l1 t298 true a0_0 a0_1 l0_2 t293 t294 t295 t309 t310 t311)))))) else (some false))) = some r := H
           have A69 := aMk A690
           clear A690
           replace H := oBm H
           obtain ⟨t326, A700, H⟩ := H
           replace H : (if t326 = true then ((laws_markFeed.f kj15 t300 t301 t302 1).bind fun bt327 => ((laws_markByteS.f kj15 t306 bt327.1).bind fun bt329 => (if bt329.1 < 0 then (laws_FnExactFeedMore.j1 kj15 l1 t298 true a0_0 a0_1 l0_2 t293 t294 t295 t309 t310 t311) else ((laws_eqFeed.f kj15 t309 t310 t311 t293 t294 t295).bind fun t331 => (if t331 = true then (laws_FnExactFeedMore.j1 kj15 l1 t298 (t314.toList != t298.toList) a0_0 a0_1 l0_2 t293 t294 t295 t309 t310 t311) else (laws_FnExactFeedMore.j1 kj15 l1 t298 true a0_0 a0_1 l0_2 t293 t294 t295 t309 t310 t311)))))) else (some false)) = some r := H
           have A70 := aMk A700
           clear A700
           by_cases c71 : t326 = true
           · subst c71
             have H1 : ((laws_markFeed.f kj15 t300 t301 t302 1).bind fun bt327 => ((laws_markByteS.f kj15 t306 bt327.1).bind fun bt329 => (if bt329.1 < 0 then (laws_FnExactFeedMore.j1 kj15 l1 t298 true a0_0 a0_1 l0_2 t293 t294 t295 t309 t310 t311) else ((laws_eqFeed.f kj15 t309 t310 t311 t293 t294 t295).bind fun t331 => (if t331 = true then (laws_FnExactFeedMore.j1 kj15 l1 t298 (t314.toList != t298.toList) a0_0 a0_1 l0_2 t293 t294 t295 t309 t310 t311) else (laws_FnExactFeedMore.j1 kj15 l1 t298 true a0_0 a0_1 l0_2 t293 t294 t295 t309 t310 t311)))))) = some r := by rw [if_pos rfl] at H; exact H
             clear H
             have H := H1
             clear H1
             replace H := oBm H
             obtain ⟨⟨t327, t328⟩, A720, H⟩ := H
             replace H : ((laws_markByteS.f kj15 t306 t327).bind fun bt329 => (if bt329.1 < 0 then (laws_FnExactFeedMore.j1 kj15 l1 t298 true a0_0 a0_1 l0_2 t293 t294 t295 t309 t310 t311) else ((laws_eqFeed.f kj15 t309 t310 t311 t293 t294 t295).bind fun t331 => (if t331 = true then (laws_FnExactFeedMore.j1 kj15 l1 t298 (t314.toList != t298.toList) a0_0 a0_1 l0_2 t293 t294 t295 t309 t310 t311) else (laws_FnExactFeedMore.j1 kj15 l1 t298 true a0_0 a0_1 l0_2 t293 t294 t295 t309 t310 t311))))) = some r := H
             have A72 := aMk A720
             clear A720
             replace H := oBm H
             obtain ⟨⟨t329, t330⟩, A730, H⟩ := H
             replace H : (if t329 < 0 then (laws_FnExactFeedMore.j1 kj15 l1 t298 true a0_0 a0_1 l0_2 t293 t294 t295 t309 t310 t311) else ((laws_eqFeed.f kj15 t309 t310 t311 t293 t294 t295).bind fun t331 => (if t331 = true then (laws_FnExactFeedMore.j1 kj15 l1 t298 (t314.toList != t298.toList) a0_0 a0_1 l0_2 t293 t294 t295 t309 t310 t311) else (laws_FnExactFeedMore.j1 kj15 l1 t298 true a0_0 a0_1 l0_2 t293 t294 t295 t309 t310 t311)))) = some r := H
             have A73 := aMk A730
             clear A730
             have HC74 := aMk H
             clear H
             try go_wp2
             have n0_ := aMk (Kd.R_drew HO_9.out)
             have n1_ := aMk (Kd.R_drew HO_300002.out)
             have n2_ := aMk (Kd.R_drew HO_306002.out)
             have n3_ := aMk (Kd.R_drew HO_316002.out)
             have n4_ := aMk (blk_drew BK283.out)
             have n5_ := aMk (blk_drew BK299.out)
             have n6_ := aMk (blk_drew BK305.out)
             have n7_ := aMk (blk_drew BK315.out)
             have n8_ := aMk (bD1 HB.out)
             clear HO_9
             clear HO_300002
             clear HO_306002
             clear HO_316002
             clear BK283
             clear BK299
             clear BK305
             clear BK315
             clear HB
             have HO_9 := n0_
             have HO_300002 := n1_
             have HO_306002 := n2_
             have HO_316002 := n3_
             have BK283 := n4_
             have BK299 := n5_
             have BK305 := n6_
             have BK315 := n7_
             have HB := n8_
             clear n0_ n1_ n2_ n3_ n4_ n5_ n6_ n7_ n8_
             refine start_ (n := 5) (S := fun w' => w'.cell? ⟨gb305, 0, none⟩ = some (.int .i64 t300) ∧ w'.cell? ⟨gb305, 1, none⟩ = some (.bool t301) ∧ w'.cell? ⟨gb305, 2, none⟩ = some (.slice Ao36 t302.length co36) ∧ w'.cell? ⟨gb283, 0, none⟩ = some (.int .i64 a0_0) ∧ w'.cell? ⟨gb283, 1, none⟩ = some (.bool a0_1) ∧ w'.cell? ⟨gb283, 2, none⟩ = some (.slice A0_2 l0_2.length c0_2)) (ds := []) #[false, false, false, false, false] (by kernel_rfl) rfl rfl ⟨(bCe BK305.out 0).trans rfl, (bCe BK305.out 1).trans rfl, (bCe BK305.out 2).trans rfl, (bCe BK283.out 0).trans rfl, (bCe BK283.out 1).trans rfl, (bCe BK283.out 2).trans rfl⟩ (fun hHeld => ?_)
             generalize wc.drew = w75 at HO_9 HO_300002 HO_306002 HO_316002 BK283 BK299 BK305 BK315 HB hHeld ⊢
             refine take_ (i := 0) (N := some 52) (v := ?_) (a' := ?_) #[true, false, false, false, false] rfl rfl (by kernel_rfl) (fun _ _ _ h => h) (Or.inl ⟨by rfl, ?_⟩) hHeld ?_ ?_
             rotate_left
             · rintro w' ⟨s0, s1, s2, s3, s4, s5⟩
               go_simp
               with_reducible rfl
             rotate_left
             · simp only [Act.put, lSa, lSz, lSs, i64_w, i32_w]
               rfl
             refine take_ (i := 1) (N := some 53) (v := ?_) (a' := ?_) #[true, true, false, false, false] rfl rfl (by kernel_rfl) (fun _ _ _ h => h) (Or.inl ⟨by rfl, ?_⟩) hHeld ?_ ?_
             rotate_left
             · rintro w' ⟨s0, s1, s2, s3, s4, s5⟩
               go_simp
               with_reducible rfl
             rotate_left
             · simp only [Act.put, lSa, lSz, lSs, i64_w, i32_w]
               rfl
             refine one_ (i := 2) (N := some 54) #[true, true, true, false, false] rfl rfl (by kernel_rfl) (by decide) (fun K hK => ?_)
             refine goes_ Try.func23 (by kernel_rfl) rfl #[.agg #[.int .i64 a0_0, .bool a0_1, .slice A0_2 l0_2.length c0_2]] (by rfl) rfl rfl (by (try simp only [List.map_toArray, List.map_cons, List.map_nil]); first | done | rfl | (simp only [List.length_drop, List.length_take]; rfl)) ?_
             with_reducible refine (laws_toFeed.calls kj15 a0_0 a0_1 _ _ l0_2 t317 t318 t319 _ ?side1 ?side2 A66.out).mono ?_
             (case side1 => repeat (first | exact (Kd.C_below HR0_2.out HB.out) | (with_reducible refine Kd.C_alloc ?_ _) | (with_reducible refine Kd.C_drewN ?_ _) | (with_reducible refine Kd.C_drew ?_)))
             (case side2 => exact HC0_2.out)
             rintro e w76 ⟨v320, rfl, ho0, hb⟩
             refine ⟨_, rfl, ?_⟩
             have n0_ := aMk (Kd.R_elder' (by (with_reducible repeat (first | apply Kd.R_alloc | apply Kd.R_drewN | apply Kd.R_drew)); exact HO_9.out) (Kd.R_base ho0) hb)
             have n1_ := aMk (Kd.R_elder' (by (with_reducible repeat (first | apply Kd.R_alloc | apply Kd.R_drewN | apply Kd.R_drew)); exact HO_300002.out) (Kd.R_base ho0) hb)
             have n2_ := aMk (Kd.R_elder' (by (with_reducible repeat (first | apply Kd.R_alloc | apply Kd.R_drewN | apply Kd.R_drew)); exact HO_306002.out) (Kd.R_base ho0) hb)
             have n3_ := aMk (Kd.R_elder' (by (with_reducible repeat (first | apply Kd.R_alloc | apply Kd.R_drewN | apply Kd.R_drew)); exact HO_316002.out) (Kd.R_base ho0) hb)
             have n4_ := aMk (Kd.R_lower (Kd.R_new' (Kd.R_new' (Kd.R_new' (Kd.R_new' ho0 (Kd.R_lt (by (with_reducible repeat (first | apply Kd.R_alloc | apply Kd.R_drewN | apply Kd.R_drew)); exact HO_9.out))) (Kd.R_lt (by (with_reducible repeat (first | apply Kd.R_alloc | apply Kd.R_drewN | apply Kd.R_drew)); exact HO_300002.out))) (Kd.R_lt (by (with_reducible repeat (first | apply Kd.R_alloc | apply Kd.R_drewN | apply Kd.R_drew)); exact HO_306002.out))) (Kd.R_lt (by (with_reducible repeat (first | apply Kd.R_alloc | apply Kd.R_drewN | apply Kd.R_drew)); exact HO_316002.out))) (below_size (by repeat (first | (with_reducible first | exact HB.out | apply bAl | apply bDn | apply bD1 | refine bSe ?_ GE283.out | refine bSe ?_ GE299.out | refine bSe ?_ GE305.out | refine bSe ?_ GE315.out) | exact HB.out))))
             have n5_ := aMk (blk_below (g := gb283) (o := .cells #[.int .i64 a0_0, .bool a0_1, .slice A0_2 l0_2.length c0_2] 35 (0, 0)) (by (with_reducible repeat (first | refine bkD ?_ _ | refine blk_drew ?_ | refine bkA ?_ _)); exact BK283.out) hb)
             have n6_ := aMk (blk_below (g := gb299) (o := .cells #[.int .i64 t293, .bool t294, .slice Ao29 t295.length co29] 38 (0, 0)) (by (with_reducible repeat (first | refine bkD ?_ _ | refine blk_drew ?_ | refine bkA ?_ _)); exact BK299.out) hb)
             have n7_ := aMk (blk_below (g := gb305) (o := .cells #[.int .i64 t300, .bool t301, .slice Ao36 t302.length co36] 38 (0, 0)) (by (with_reducible repeat (first | refine bkD ?_ _ | refine blk_drew ?_ | refine bkA ?_ _)); exact BK305.out) hb)
             have n8_ := aMk (blk_below (g := gb315) (o := .cells #[.int .i64 t309, .bool t310, .slice Ao46 t311.length co46] 38 (0, 0)) (by (with_reducible repeat (first | refine bkD ?_ _ | refine blk_drew ?_ | refine bkA ?_ _)); exact BK315.out) hb)
             have n9_ := aMk (below_step (by repeat (first | (with_reducible first | exact HB.out | apply bAl | apply bDn | apply bD1 | refine bSe ?_ GE283.out | refine bSe ?_ GE299.out | refine bSe ?_ GE305.out | refine bSe ?_ GE315.out) | exact HB.out)) hb)
             clear HO_9
             clear HO_300002
             clear HO_306002
             clear HO_316002
             clear BK283
             clear BK299
             clear BK305
             clear BK315
             clear HB
             have HO_9 := n0_
             have HO_300002 := n1_
             have HO_306002 := n2_
             have HO_316002 := n3_
             have HO321 := n4_
             have BK283 := n5_
             have BK299 := n6_
             have BK305 := n7_
             have BK315 := n8_
             have HB := n9_
             clear n0_ n1_ n2_ n3_ n4_ n5_ n6_ n7_ n8_ n9_
             (try clear hb)
             (try clear hb2)
             (try clear hk)
             (try clear hi)
             (try clear ho0)
             obtain ⟨Ao77, co77, eo77⟩ := Kd.R_slice HO321.out
             (first | subst eo77 | (injection eo77 with f1_ f2_ f3_; have f4_ := f1_.symm; have f5_ := f3_.symm; clear f1_ f2_ f3_; subst f4_; subst f5_))
             refine hK.out _ _ ⟨(bCe BK305.out 0).trans rfl, (bCe BK305.out 1).trans rfl, (bCe BK305.out 2).trans rfl, (bCe BK283.out 0).trans rfl, (bCe BK283.out 1).trans rfl, (bCe BK283.out 2).trans rfl⟩ (fun hHeld => ?_)
             clear hK K
             refine norm_ (a' := ?_) ?_ ?_
             rotate_left
             · show Act.put _ (some 54) _ = _
               simp only [Act.put, lSa, lSz, lSs, i64_w, i32_w]
               rfl
             refine one_ (i := 3) (N := some 55) #[true, true, true, true, false] rfl rfl (by kernel_rfl) (by decide) (fun K hK => ?_)
             refine goes_ Try.func25 (by kernel_rfl) rfl #[.agg #[.int .i64 t300, .bool t301, .slice Ao36 t302.length co36], .agg #[.int .i64 t317, .bool t318, .slice Ao77 t319.length co77]] (by rfl) rfl rfl (by (try simp only [List.map_toArray, List.map_cons, List.map_nil]); first | done | rfl | (simp only [List.length_drop, List.length_take]; rfl)) ?_
             with_reducible refine (laws_eqFeed.calls kj15 t300 t301 _ _ t302 t317 t318 _ _ t319 true _ ?side1 ?side2 ?side3 ?side4 A67.out).mono ?_
             (case side1 => repeat (first | exact (Kd.R_reads' HO_306002.out).2.2 | (with_reducible refine Kd.C_alloc ?_ _) | (with_reducible refine Kd.C_drewN ?_ _) | (with_reducible refine Kd.C_drew ?_)))
             (case side2 => exact (Kd.R_reads' HO_306002.out).2.1)
             (case side3 => repeat (first | exact (Kd.R_reads' HO321.out).2.2 | (with_reducible refine Kd.C_alloc ?_ _) | (with_reducible refine Kd.C_drewN ?_ _) | (with_reducible refine Kd.C_drew ?_)))
             (case side4 => exact (Kd.R_reads' HO321.out).2.1)
             rintro e w78 ⟨rfl, hb⟩
             refine ⟨_, rfl, ?_⟩
             have n0_ := aMk (Kd.R_below (by (with_reducible repeat (first | apply Kd.R_alloc | apply Kd.R_drewN | apply Kd.R_drew)); exact HO_9.out) hb)
             have n1_ := aMk (Kd.R_below (by (with_reducible repeat (first | apply Kd.R_alloc | apply Kd.R_drewN | apply Kd.R_drew)); exact HO_300002.out) hb)
             have n2_ := aMk (Kd.R_below (by (with_reducible repeat (first | apply Kd.R_alloc | apply Kd.R_drewN | apply Kd.R_drew)); exact HO_306002.out) hb)
             have n3_ := aMk (Kd.R_below (by (with_reducible repeat (first | apply Kd.R_alloc | apply Kd.R_drewN | apply Kd.R_drew)); exact HO_316002.out) hb)
             have n4_ := aMk (Kd.R_below (by (with_reducible repeat (first | apply Kd.R_alloc | apply Kd.R_drewN | apply Kd.R_drew)); exact HO321.out) hb)
             have n5_ := aMk (blk_below (g := gb283) (o := .cells #[.int .i64 a0_0, .bool a0_1, .slice A0_2 l0_2.length c0_2] 35 (0, 0)) (by (with_reducible repeat (first | refine bkD ?_ _ | refine blk_drew ?_ | refine bkA ?_ _)); exact BK283.out) hb)
             have n6_ := aMk (blk_below (g := gb299) (o := .cells #[.int .i64 t293, .bool t294, .slice Ao29 t295.length co29] 38 (0, 0)) (by (with_reducible repeat (first | refine bkD ?_ _ | refine blk_drew ?_ | refine bkA ?_ _)); exact BK299.out) hb)
             have n7_ := aMk (blk_below (g := gb305) (o := .cells #[.int .i64 t300, .bool t301, .slice Ao36 t302.length co36] 38 (0, 0)) (by (with_reducible repeat (first | refine bkD ?_ _ | refine blk_drew ?_ | refine bkA ?_ _)); exact BK305.out) hb)
             have n8_ := aMk (blk_below (g := gb315) (o := .cells #[.int .i64 t309, .bool t310, .slice Ao46 t311.length co46] 38 (0, 0)) (by (with_reducible repeat (first | refine bkD ?_ _ | refine blk_drew ?_ | refine bkA ?_ _)); exact BK315.out) hb)
             have n9_ := aMk (below_step (by repeat (first | (with_reducible first | exact HB.out | apply bAl | apply bDn | apply bD1 | refine bSe ?_ GE283.out | refine bSe ?_ GE299.out | refine bSe ?_ GE305.out | refine bSe ?_ GE315.out) | exact HB.out)) hb)
             clear HO_9
             clear HO_300002
             clear HO_306002
             clear HO_316002
             clear HO321
             clear BK283
             clear BK299
             clear BK305
             clear BK315
             clear HB
             have HO_9 := n0_
             have HO_300002 := n1_
             have HO_306002 := n2_
             have HO_316002 := n3_
             have HO321 := n4_
             have BK283 := n5_
             have BK299 := n6_
             have BK305 := n7_
             have BK315 := n8_
             have HB := n9_
             clear n0_ n1_ n2_ n3_ n4_ n5_ n6_ n7_ n8_ n9_
             (try clear hb)
             (try clear hb2)
             (try clear hk)
             (try clear hi)
             refine hK.out _ _ ⟨(bCe BK305.out 0).trans rfl, (bCe BK305.out 1).trans rfl, (bCe BK305.out 2).trans rfl, (bCe BK283.out 0).trans rfl, (bCe BK283.out 1).trans rfl, (bCe BK283.out 2).trans rfl⟩ (fun hHeld => ?_)
             clear hK K
             refine norm_ (a' := ?_) ?_ ?_
             rotate_left
             · show Act.put _ (some 55) _ = _
               simp only [Act.put, lSa, lSz, lSs, i64_w, i32_w]
               rfl
             refine pure_ (i := 4) (N := some 56) (v := ?_) (a' := ?_) #[true, true, true, true, true] rfl rfl (by kernel_rfl) (fun _ _ _ h => h) (Or.inl ⟨by rfl, ?_⟩) ?_ ?_
             rotate_left
             · intro w'
               go_simp
               with_reducible rfl
             rotate_left
             · simp only [Act.put, lSa, lSz, lSs, i64_w, i32_w]
               rfl
             refine done_ (by kernel_rfl) ?_
             go_upto_region 20 with (first | ((with_reducible refine gate_callee (f := 19) rfl ?_); refine goesL_ (some 59) rfl rfl Try.func19 (by kernel_rfl) rfl #[.slice A1 l1.length c1] rfl (by (try simp only [List.map_toArray, List.map_cons, List.map_nil]); first | done | rfl | (simp only [List.length_drop, List.length_take]; rfl)) ?_; (with_reducible refine (laws_toByteS.calls kj15 _ _ l1 t323 _ ?side1 ?side2 A69.out).mono ?_); (case side1 => repeat (first | exact (Kd.C_below HR1.out HB.out) | (with_reducible refine Kd.C_alloc ?_ _) | (with_reducible refine Kd.C_drewN ?_ _) | (with_reducible refine Kd.C_drew ?_))); (case side2 => exact HC1.out); rintro e w79 ⟨v324, rfl, ho0, hb⟩; refine ⟨_, rfl, ?_⟩; have n0_ := aMk (Kd.R_elder' (by (with_reducible repeat (first | apply Kd.R_alloc | apply Kd.R_drewN | apply Kd.R_drew)); exact HO_9.out) (Kd.R_base ho0) hb); have n1_ := aMk (Kd.R_elder' (by (with_reducible repeat (first | apply Kd.R_alloc | apply Kd.R_drewN | apply Kd.R_drew)); exact HO_300002.out) (Kd.R_base ho0) hb); have n2_ := aMk (Kd.R_elder' (by (with_reducible repeat (first | apply Kd.R_alloc | apply Kd.R_drewN | apply Kd.R_drew)); exact HO_306002.out) (Kd.R_base ho0) hb); have n3_ := aMk (Kd.R_elder' (by (with_reducible repeat (first | apply Kd.R_alloc | apply Kd.R_drewN | apply Kd.R_drew)); exact HO_316002.out) (Kd.R_base ho0) hb); have n4_ := aMk (Kd.R_elder' (by (with_reducible repeat (first | apply Kd.R_alloc | apply Kd.R_drewN | apply Kd.R_drew)); exact HO321.out) (Kd.R_base ho0) hb); have n5_ := aMk (Kd.R_lower (Kd.R_new' (Kd.R_new' (Kd.R_new' (Kd.R_new' (Kd.R_new' ho0 (Kd.R_lt (by (with_reducible repeat (first | apply Kd.R_alloc | apply Kd.R_drewN | apply Kd.R_drew)); exact HO_9.out))) (Kd.R_lt (by (with_reducible repeat (first | apply Kd.R_alloc | apply Kd.R_drewN | apply Kd.R_drew)); exact HO_300002.out))) (Kd.R_lt (by (with_reducible repeat (first | apply Kd.R_alloc | apply Kd.R_drewN | apply Kd.R_drew)); exact HO_306002.out))) (Kd.R_lt (by (with_reducible repeat (first | apply Kd.R_alloc | apply Kd.R_drewN | apply Kd.R_drew)); exact HO_316002.out))) (Kd.R_lt (by (with_reducible repeat (first | apply Kd.R_alloc | apply Kd.R_drewN | apply Kd.R_drew)); exact HO321.out))) (below_size (by repeat (first | (with_reducible first | exact HB.out | apply bAl | apply bDn | apply bD1 | refine bSe ?_ GE283.out | refine bSe ?_ GE299.out | refine bSe ?_ GE305.out | refine bSe ?_ GE315.out) | exact HB.out)))); have n6_ := aMk (blk_below (g := gb283) (o := .cells #[.int .i64 a0_0, .bool a0_1, .slice A0_2 l0_2.length c0_2] 35 (0, 0)) (by (with_reducible repeat (first | refine bkD ?_ _ | refine blk_drew ?_ | refine bkA ?_ _)); exact BK283.out) hb); have n7_ := aMk (blk_below (g := gb299) (o := .cells #[.int .i64 t293, .bool t294, .slice Ao29 t295.length co29] 38 (0, 0)) (by (with_reducible repeat (first | refine bkD ?_ _ | refine blk_drew ?_ | refine bkA ?_ _)); exact BK299.out) hb); have n8_ := aMk (blk_below (g := gb305) (o := .cells #[.int .i64 t300, .bool t301, .slice Ao36 t302.length co36] 38 (0, 0)) (by (with_reducible repeat (first | refine bkD ?_ _ | refine blk_drew ?_ | refine bkA ?_ _)); exact BK305.out) hb); have n9_ := aMk (blk_below (g := gb315) (o := .cells #[.int .i64 t309, .bool t310, .slice Ao46 t311.length co46] 38 (0, 0)) (by (with_reducible repeat (first | refine bkD ?_ _ | refine blk_drew ?_ | refine bkA ?_ _)); exact BK315.out) hb); have n10_ := aMk (below_step (by repeat (first | (with_reducible first | exact HB.out | apply bAl | apply bDn | apply bD1 | refine bSe ?_ GE283.out | refine bSe ?_ GE299.out | refine bSe ?_ GE305.out | refine bSe ?_ GE315.out) | exact HB.out)) hb); clear HO_9; clear HO_300002; clear HO_306002; clear HO_316002; clear HO321; clear BK283; clear BK299; clear BK305; clear BK315; clear HB; have HO_9 := n0_; have HO_300002 := n1_; have HO_306002 := n2_; have HO_316002 := n3_; have HO321 := n4_; have HO325 := n5_; have BK283 := n6_; have BK299 := n7_; have BK305 := n8_; have BK315 := n9_; have HB := n10_; clear n0_ n1_ n2_ n3_ n4_ n5_ n6_ n7_ n8_ n9_ n10_; (try clear hb); (try clear hb2); (try clear hk); (try clear hi); (try clear ho0); obtain ⟨Ao80, co80, eo80⟩ := Kd.R_slice HO325.out; subst eo80) | ((with_reducible refine gate_callee (f := 20) rfl ?_); refine goesL_ (some 60) rfl rfl Try.func20 (by kernel_rfl) rfl #[.slice Ao39 t306.length co39, .slice Ao80 t323.length co80] rfl (by (try simp only [List.map_toArray, List.map_cons, List.map_nil]); first | done | rfl | (simp only [List.length_drop, List.length_take]; rfl)) ?_; (with_reducible refine (laws_eqByteS.calls kj15 _ _ t306 _ _ t323 true _ ?side1 ?side2 ?side3 ?side4 A70.out).mono ?_); (case side1 => repeat (first | exact (Kd.R_reads' HO_9.out).2.2 | (with_reducible refine Kd.C_alloc ?_ _) | (with_reducible refine Kd.C_drewN ?_ _) | (with_reducible refine Kd.C_drew ?_))); (case side2 => exact (Kd.R_reads' HO_9.out).2.1); (case side3 => repeat (first | exact (Kd.R_reads' HO325.out).2.2 | (with_reducible refine Kd.C_alloc ?_ _) | (with_reducible refine Kd.C_drewN ?_ _) | (with_reducible refine Kd.C_drew ?_))); (case side4 => exact (Kd.R_reads' HO325.out).2.1); rintro e w' ⟨rfl, ⟨nd, rfl⟩⟩; refine ⟨_, rfl, ?_⟩; have hnb81 := NB305_283.out; have hnc81 := NB283_305.out; have hnb82 := NB305_299.out; have hnc82 := NB299_305.out; have hnb83 := NB305_315.out; have hnc83 := NB315_305.out; have hcz84_0 : w79.cell? ⟨gb305, 0, none⟩ = some (.int .i64 t300) := (bCe BK305.out 0).trans rfl; have hcz84_1 : w79.cell? ⟨gb305, 1, none⟩ = some (.bool t301) := (bCe BK305.out 1).trans rfl; have hcz84_2 : w79.cell? ⟨gb305, 2, none⟩ = some (.slice Ao36 t302.length co36) := (bCe BK305.out 2).trans rfl; have hfz84_0 := bFr BK305.out 0; have hfz84_1 := bFr BK305.out 1; have hfz84_2 := bFr BK305.out 2) | ((with_reducible refine gate_callee (f := 28) rfl ?_); refine goesL_ (some 64) rfl rfl Try.func28 (by kernel_rfl) rfl #[.agg #[.int .i64 t300, .bool t301, .slice Ao36 t302.length co36], .int .i64 1] rfl (by (try simp only [List.map_toArray, List.map_cons, List.map_nil]); first | done | rfl | (simp only [List.length_drop, List.length_take]; rfl)) ?_; (with_reducible refine (laws_markFeed.calls kj15 t300 t301 (fun k_ => some k_ = (.slice Ao36 t302.length co36 : Value).ownBlock) (.slice Ao36 t302.length co36) t302 1 t327 t328 w _ ?side1 ?side2 A72.out).mono ?_); (case side1 => repeat (first | (with_reducible first | exact HB.out | apply bAl | apply bDn | apply bD1 | refine bSe ?_ GE283.out | refine bSe ?_ GE299.out | refine bSe ?_ GE305.out | refine bSe ?_ GE315.out) | exact HB.out)); (case side2 => exact Kd.R_tight rfl HO_306002.out); rintro e w85 ⟨rfl, hy0, hb, hkp⟩; refine ⟨_, rfl, ?_⟩; have n0_ := aMk (Kd.R_mono (ok' := fun k_ => some k_ ≠ (.slice Ao29 t295.length co29 : Value).ownBlock ∧ some k_ ≠ (.slice Ao36 t302.length co36 : Value).ownBlock ∧ some k_ ≠ (.slice Ao46 t311.length co46 : Value).ownBlock ∧ some k_ ≠ (.slice Ao77 t319.length co77 : Value).ownBlock ∧ some k_ ≠ (.slice Ao80 t323.length co80 : Value).ownBlock) (Kd.R_keptB (HO_9.out) hkp (fun k_ hk_ hs_ => (hk_.1.1.2.1) hs_)) (fun k_ hk_ => ⟨hk_.1.1.1.1, hk_.1.1.1.2.1, hk_.1.1.1.2.2, hk_.1.1.2, hk_.1.2⟩)); have n1_ := aMk (Kd.R_mono (ok' := fun k_ => some k_ ≠ (.slice Ao39 t306.length co39 : Value).ownBlock ∧ some k_ ≠ (.slice Ao36 t302.length co36 : Value).ownBlock ∧ some k_ ≠ (.slice Ao46 t311.length co46 : Value).ownBlock ∧ some k_ ≠ (.slice Ao77 t319.length co77 : Value).ownBlock ∧ some k_ ≠ (.slice Ao80 t323.length co80 : Value).ownBlock) (Kd.R_keptB (HO_300002.out) hkp (fun k_ hk_ hs_ => (hk_.1.1.2.1) hs_)) (fun k_ hk_ => ⟨hk_.1.1.1.1, hk_.1.1.1.2.1, hk_.1.1.1.2.2, hk_.1.1.2, hk_.1.2⟩)); have n2_ := aMk (Kd.R_reok rfl hy0 (fun k_ e_ => HO_306002.out.1 k_ e_)); have n3_ := aMk (Kd.R_mono (ok' := fun k_ => some k_ ≠ (.slice Ao39 t306.length co39 : Value).ownBlock ∧ some k_ ≠ (.slice Ao29 t295.length co29 : Value).ownBlock ∧ some k_ ≠ (.slice Ao36 t302.length co36 : Value).ownBlock ∧ some k_ ≠ (.slice Ao77 t319.length co77 : Value).ownBlock ∧ some k_ ≠ (.slice Ao80 t323.length co80 : Value).ownBlock) (Kd.R_keptB (HO_316002.out) hkp (fun k_ hk_ hs_ => (hk_.1.1.2.2) hs_)) (fun k_ hk_ => ⟨hk_.1.1.1.1, hk_.1.1.1.2.1, hk_.1.1.1.2.2, hk_.1.1.2, hk_.1.2⟩)); have n4_ := aMk (blk_kept (by (with_reducible repeat (first | refine bkD ?_ _ | refine blk_drew ?_ | refine bkA ?_ _)); exact BK283.out) hkp (fun hs_ => (fun e_ => (Kd.R_ne HO_306002.out BK283.out (by decide)) e_) hs_)); have n5_ := aMk (blk_kept (by (with_reducible repeat (first | refine bkD ?_ _ | refine blk_drew ?_ | refine bkA ?_ _)); exact BK299.out) hkp (fun hs_ => (fun e_ => (Kd.R_ne HO_306002.out BK299.out (by decide)) e_) hs_)); have n6_ := aMk (blk_kept (by (with_reducible repeat (first | refine bkD ?_ _ | refine blk_drew ?_ | refine bkA ?_ _)); exact BK305.out) hkp (fun hs_ => (fun e_ => (Kd.R_ne HO_306002.out BK305.out (by decide)) e_) hs_)); have n7_ := aMk (blk_kept (by (with_reducible repeat (first | refine bkD ?_ _ | refine blk_drew ?_ | refine bkA ?_ _)); exact BK315.out) hkp (fun hs_ => (fun e_ => (Kd.R_ne HO_306002.out BK315.out (by decide)) e_) hs_)); have n8_ := aMk (Kd.R_mono (ok' := fun k_ => some k_ ≠ (.slice Ao39 t306.length co39 : Value).ownBlock ∧ some k_ ≠ (.slice Ao29 t295.length co29 : Value).ownBlock ∧ some k_ ≠ (.slice Ao36 t302.length co36 : Value).ownBlock ∧ some k_ ≠ (.slice Ao46 t311.length co46 : Value).ownBlock ∧ some k_ ≠ (.slice Ao80 t323.length co80 : Value).ownBlock) (Kd.R_keptB (HO321.out) hkp (fun k_ hk_ hs_ => (hk_.1.1.2) hs_)) (fun k_ hk_ => ⟨hk_.1.1.1.1.1.2, hk_.1.1.1.1.2, hk_.1.1.1.2, hk_.1.1.2, hk_.1.2⟩)); have n9_ := aMk (Kd.R_mono (ok' := fun k_ => some k_ ≠ (.slice Ao39 t306.length co39 : Value).ownBlock ∧ some k_ ≠ (.slice Ao29 t295.length co29 : Value).ownBlock ∧ some k_ ≠ (.slice Ao36 t302.length co36 : Value).ownBlock ∧ some k_ ≠ (.slice Ao46 t311.length co46 : Value).ownBlock ∧ some k_ ≠ (.slice Ao77 t319.length co77 : Value).ownBlock) (Kd.R_keptB (HO325.out) hkp (fun k_ hk_ hs_ => (hk_.1.1.2) hs_)) (fun k_ hk_ => ⟨hk_.1.1.1.1.1.2, hk_.1.1.1.1.2, hk_.1.1.1.2, hk_.1.1.2, hk_.1.2⟩)); have n10_ := aMk (hb); clear HO_9; clear HO_300002; clear HO_306002; clear HO_316002; clear BK283; clear BK299; clear BK305; clear BK315; clear HO321; clear HO325; clear HB; have HO_9 := n0_; have HO_300002 := n1_; have HO_306002 := n2_; have HO_316002 := n3_; have BK283 := n4_; have BK299 := n5_; have BK305 := n6_; have BK315 := n7_; have HO321 := n8_; have HO325 := n9_; have HB := n10_; clear n0_ n1_ n2_ n3_ n4_ n5_ n6_ n7_ n8_ n9_ n10_; (try clear hb); (try clear hkp); (try clear hy0)) | ((with_reducible refine gate_callee (f := 29) rfl ?_); refine goesL_ (some 67) rfl rfl Try.func29 (by kernel_rfl) rfl #[.slice Ao39 t306.length co39, .int .i64 t327] rfl (by (try simp only [List.map_toArray, List.map_cons, List.map_nil]); first | done | rfl | (simp only [List.length_drop, List.length_take]; rfl)) ?_; (with_reducible refine (laws_markByteS.calls kj15 (fun k_ => some k_ = (.slice Ao39 t306.length co39 : Value).ownBlock) (.slice Ao39 t306.length co39) t306 t327 t329 t330 w _ ?side1 ?side2 A73.out).mono ?_); (case side1 => repeat (first | (with_reducible first | exact HB.out | apply bAl | apply bDn | apply bD1 | refine bSe ?_ GE283.out | refine bSe ?_ GE299.out | refine bSe ?_ GE305.out | refine bSe ?_ GE315.out) | exact HB.out)); (case side2 => exact Kd.R_tight rfl HO_9.out); rintro e w86 ⟨rfl, hy0, hb, hkp⟩; refine ⟨_, rfl, ?_⟩; have n0_ := aMk (Kd.R_reok rfl hy0 (fun k_ e_ => HO_9.out.1 k_ e_)); have n1_ := aMk (Kd.R_mono (ok' := fun k_ => some k_ ≠ (.slice Ao39 t306.length co39 : Value).ownBlock ∧ some k_ ≠ (.slice Ao36 t302.length co36 : Value).ownBlock ∧ some k_ ≠ (.slice Ao46 t311.length co46 : Value).ownBlock ∧ some k_ ≠ (.slice Ao77 t319.length co77 : Value).ownBlock ∧ some k_ ≠ (.slice Ao80 t323.length co80 : Value).ownBlock) (Kd.R_keptB (HO_300002.out) hkp (fun k_ hk_ hs_ => (hk_.1) hs_)) (fun k_ hk_ => ⟨hk_.1.1, hk_.1.2.1, hk_.1.2.2.1, hk_.1.2.2.2.1, hk_.1.2.2.2.2⟩)); have n2_ := aMk (Kd.R_mono (ok' := fun k_ => some k_ ≠ (.slice Ao39 t306.length co39 : Value).ownBlock ∧ some k_ ≠ (.slice Ao29 t295.length co29 : Value).ownBlock ∧ some k_ ≠ (.slice Ao46 t311.length co46 : Value).ownBlock ∧ some k_ ≠ (.slice Ao77 t319.length co77 : Value).ownBlock ∧ some k_ ≠ (.slice Ao80 t323.length co80 : Value).ownBlock) (Kd.R_keptB (HO_306002.out) hkp (fun k_ hk_ hs_ => (hk_.1.1.1) hs_)) (fun k_ hk_ => ⟨hk_.1.1.1.1, hk_.1.1.1.2.1, hk_.1.1.1.2.2, hk_.1.1.2, hk_.1.2⟩)); have n3_ := aMk (Kd.R_mono (ok' := fun k_ => some k_ ≠ (.slice Ao39 t306.length co39 : Value).ownBlock ∧ some k_ ≠ (.slice Ao29 t295.length co29 : Value).ownBlock ∧ some k_ ≠ (.slice Ao36 t302.length co36 : Value).ownBlock ∧ some k_ ≠ (.slice Ao77 t319.length co77 : Value).ownBlock ∧ some k_ ≠ (.slice Ao80 t323.length co80 : Value).ownBlock) (Kd.R_keptB (HO_316002.out) hkp (fun k_ hk_ hs_ => (hk_.1) hs_)) (fun k_ hk_ => ⟨hk_.1.1, hk_.1.2.1, hk_.1.2.2.1, hk_.1.2.2.2.1, hk_.1.2.2.2.2⟩)); have n4_ := aMk (blk_kept (by (with_reducible repeat (first | refine bkD ?_ _ | refine blk_drew ?_ | refine bkA ?_ _)); exact BK283.out) hkp (fun hs_ => (fun e_ => (Kd.R_ne HO_9.out BK283.out (by decide)) e_) hs_)); have n5_ := aMk (blk_kept (by (with_reducible repeat (first | refine bkD ?_ _ | refine blk_drew ?_ | refine bkA ?_ _)); exact BK299.out) hkp (fun hs_ => (fun e_ => (Kd.R_ne HO_9.out BK299.out (by decide)) e_) hs_)); have n6_ := aMk (blk_kept (by (with_reducible repeat (first | refine bkD ?_ _ | refine blk_drew ?_ | refine bkA ?_ _)); exact BK305.out) hkp (fun hs_ => (fun e_ => (Kd.R_ne HO_9.out BK305.out (by decide)) e_) hs_)); have n7_ := aMk (blk_kept (by (with_reducible repeat (first | refine bkD ?_ _ | refine blk_drew ?_ | refine bkA ?_ _)); exact BK315.out) hkp (fun hs_ => (fun e_ => (Kd.R_ne HO_9.out BK315.out (by decide)) e_) hs_)); have n8_ := aMk (Kd.R_mono (ok' := fun k_ => some k_ ≠ (.slice Ao39 t306.length co39 : Value).ownBlock ∧ some k_ ≠ (.slice Ao29 t295.length co29 : Value).ownBlock ∧ some k_ ≠ (.slice Ao36 t302.length co36 : Value).ownBlock ∧ some k_ ≠ (.slice Ao46 t311.length co46 : Value).ownBlock ∧ some k_ ≠ (.slice Ao80 t323.length co80 : Value).ownBlock) (Kd.R_keptB (HO321.out) hkp (fun k_ hk_ hs_ => (hk_.1) hs_)) (fun k_ hk_ => ⟨hk_.1.1, hk_.1.2.1, hk_.1.2.2.1, hk_.1.2.2.2.1, hk_.1.2.2.2.2⟩)); have n9_ := aMk (Kd.R_mono (ok' := fun k_ => some k_ ≠ (.slice Ao39 t306.length co39 : Value).ownBlock ∧ some k_ ≠ (.slice Ao29 t295.length co29 : Value).ownBlock ∧ some k_ ≠ (.slice Ao36 t302.length co36 : Value).ownBlock ∧ some k_ ≠ (.slice Ao46 t311.length co46 : Value).ownBlock ∧ some k_ ≠ (.slice Ao77 t319.length co77 : Value).ownBlock) (Kd.R_keptB (HO325.out) hkp (fun k_ hk_ hs_ => (hk_.1) hs_)) (fun k_ hk_ => ⟨hk_.1.1, hk_.1.2.1, hk_.1.2.2.1, hk_.1.2.2.2.1, hk_.1.2.2.2.2⟩)); have n10_ := aMk (hb); clear HO_9; clear HO_300002; clear HO_306002; clear HO_316002; clear BK283; clear BK299; clear BK305; clear BK315; clear HO321; clear HO325; clear HB; have HO_9 := n0_; have HO_300002 := n1_; have HO_306002 := n2_; have HO_316002 := n3_; have BK283 := n4_; have BK299 := n5_; have BK305 := n6_; have BK315 := n7_; have HO321 := n8_; have HO325 := n9_; have HB := n10_; clear n0_ n1_ n2_ n3_ n4_ n5_ n6_ n7_ n8_ n9_ n10_; (try clear hb); (try clear hkp); (try clear hy0)))
             (try simp only [Act.put, lSa, lSz, lSs])
             go_cut [80] (fun v80 wc => ∃ (kq : Nat) (x80_73 : Bool), v80 = .bool x80_73 ∧ Aside0 (laws_FnExactFeedMore.j1 kq l1 t298 x80_73 a0_0 a0_1 l0_2 t293 t294 t295 t309 t310 t311 = some r) ∧ Aside0 (kq ≤ kj15) ∧ Aside0 (Kd.R (Kd.int .u8) 5 wc w.heap.size (fun k_ => some k_ ≠ ((.slice Ao36 t302.length co36) : Value).ownBlock ∧ some k_ ≠ ((.slice Ao46 t311.length co46) : Value).ownBlock) (.slice Ao29 t295.length co29) t295) ∧ Aside0 (Kd.R (Kd.int .u8) 5 wc w.heap.size (fun k_ => some k_ ≠ ((.slice Ao29 t295.length co29) : Value).ownBlock ∧ some k_ ≠ ((.slice Ao46 t311.length co46) : Value).ownBlock) (.slice Ao36 t302.length co36) t328) ∧ Aside0 (Kd.R (Kd.int .u8) 5 wc w.heap.size (fun k_ => some k_ ≠ ((.slice Ao29 t295.length co29) : Value).ownBlock ∧ some k_ ≠ ((.slice Ao36 t302.length co36) : Value).ownBlock) (.slice Ao46 t311.length co46) t311) ∧ Aside0 (wc.heap[gb283]? = some (.cells #[.int .i64 a0_0, .bool a0_1, (.slice A0_2 l0_2.length c0_2)] 35 (0, 0))) ∧ Aside0 (wc.heap[gb299]? = some (.cells #[.int .i64 t293, .bool t294, (.slice Ao29 t295.length co29)] 38 (0, 0))) ∧ Aside0 (wc.heap[gb305]? = some (.cells #[.int .i64 t300, .bool t301, (.slice Ao36 t302.length co36)] 38 (0, 0))) ∧ Aside0 (wc.heap[gb315]? = some (.cells #[.int .i64 t309, .bool t310, (.slice Ao46 t311.length co46)] 38 (0, 0))) ∧ Aside0 (Below w.heap.size w wc))
             case first =>
              have H := HC74.out
              clear HC74
              by_cases c87 : t329 < 0
              · rw [if_pos c87] at H
                have c87b0 : decide (t329 < 0) = true := decide_eq_true c87
                clear c87
                (first | rw [c87b0] | (simp only [i64_w, i32_w]; rw [c87b0]) | skip)
                have H' := aMk H
                clear H
                go_wp2
                go_meet
                case rel => exact ⟨_, (true), (by first | rfl | (simp; done) | (simp [*]; done)), H', ⟨by have := HJ15.out; first | omega | exact Nat.le_refl _⟩, ⟨by (with_reducible repeat (first | apply Kd.R_alloc | apply Kd.R_drewN | apply Kd.R_drew)); exact Kd.R_mono HO_300002.out (fun _ hk => ⟨hk.2.1, hk.2.2.1⟩)⟩, ⟨by (with_reducible repeat (first | apply Kd.R_alloc | apply Kd.R_drewN | apply Kd.R_drew)); exact Kd.R_mono HO_306002.out (fun _ hk => ⟨hk.2.1, hk.2.2.1⟩)⟩, ⟨by (with_reducible repeat (first | apply Kd.R_alloc | apply Kd.R_drewN | apply Kd.R_drew)); exact Kd.R_mono HO_316002.out (fun _ hk => ⟨hk.2.1, hk.2.2.1⟩)⟩, ⟨by (with_reducible repeat (first | refine bkD ?_ _ | refine blk_drew ?_ | refine bkA ?_ _)); exact BK283.out⟩, ⟨by (with_reducible repeat (first | refine bkD ?_ _ | refine blk_drew ?_ | refine bkA ?_ _)); exact BK299.out⟩, ⟨by (with_reducible repeat (first | refine bkD ?_ _ | refine blk_drew ?_ | refine bkA ?_ _)); exact BK305.out⟩, ⟨by (with_reducible repeat (first | refine bkD ?_ _ | refine blk_drew ?_ | refine bkA ?_ _)); exact BK315.out⟩, ⟨by repeat (first | (with_reducible first | exact HB.out | apply bAl | apply bDn | apply bD1 | refine bSe ?_ GE283.out | refine bSe ?_ GE299.out | refine bSe ?_ GE305.out | refine bSe ?_ GE315.out) | exact HB.out)⟩⟩
              · rw [if_neg c87] at H
                have c87b0 : decide (t329 < 0) = false := decide_eq_false c87
                clear c87
                (first | rw [c87b0] | (simp only [i64_w, i32_w]; rw [c87b0]) | skip)
                replace H := oBm H
                obtain ⟨t331, A880, H⟩ := H
                replace H : (if t331 = true then (laws_FnExactFeedMore.j1 kj15 l1 t298 (t314.toList != t298.toList) a0_0 a0_1 l0_2 t293 t294 t295 t309 t310 t311) else (laws_FnExactFeedMore.j1 kj15 l1 t298 true a0_0 a0_1 l0_2 t293 t294 t295 t309 t310 t311)) = some r := H
                have A88 := aMk A880
                clear A880
                by_cases c89 : t331 = true
                · subst c89
                  have H1 : (laws_FnExactFeedMore.j1 kj15 l1 t298 (t314.toList != t298.toList) a0_0 a0_1 l0_2 t293 t294 t295 t309 t310 t311) = some r := by rw [if_pos rfl] at H; exact H
                  clear H
                  have H := H1
                  clear H1
                  have H' := aMk H
                  clear H
                  have hnb90 := NB315_283.out
                  have hnc90 := NB283_315.out
                  have hnb91 := NB315_299.out
                  have hnc91 := NB299_315.out
                  have hnb92 := NB315_305.out
                  have hnc92 := NB305_315.out
                  have hcz93_0 : w86.cell? ⟨gb315, 0, none⟩ = some (.int .i64 t309) := (bCe BK315.out 0).trans rfl
                  have hcz93_1 : w86.cell? ⟨gb315, 1, none⟩ = some (.bool t310) := (bCe BK315.out 1).trans rfl
                  have hcz93_2 : w86.cell? ⟨gb315, 2, none⟩ = some (.slice Ao46 t311.length co46) := (bCe BK315.out 2).trans rfl
                  have hfz93_0 := bFr BK315.out 0
                  have hfz93_1 := bFr BK315.out 1
                  have hfz93_2 := bFr BK315.out 2
                  have hnb94 := NB299_283.out
                  have hnc94 := NB283_299.out
                  have hnb95 := NB299_305.out
                  have hnc95 := NB305_299.out
                  have hcz96_0 : w86.cell? ⟨gb299, 0, none⟩ = some (.int .i64 t293) := (bCe BK299.out 0).trans rfl
                  have hcz96_1 : w86.cell? ⟨gb299, 1, none⟩ = some (.bool t294) := (bCe BK299.out 1).trans rfl
                  have hcz96_2 : w86.cell? ⟨gb299, 2, none⟩ = some (.slice Ao29 t295.length co29) := (bCe BK299.out 2).trans rfl
                  have hfz96_0 := bFr BK299.out 0
                  have hfz96_1 := bFr BK299.out 1
                  have hfz96_2 := bFr BK299.out 2
                  go_wp2_with (first | (go_at_call 25; (with_reducible refine (laws_eqFeed.calls kj15 t309 t310 _ _ t311 t293 t294 _ _ t295 true _ ?side1 ?side2 ?side3 ?side4 A88.out).mono ?_); (case side1 => repeat (first | exact (Kd.R_reads' HO_316002.out).2.2 | (with_reducible refine Kd.C_alloc ?_ _) | (with_reducible refine Kd.C_drewN ?_ _) | (with_reducible refine Kd.C_drew ?_))); (case side2 => exact (Kd.R_reads' HO_316002.out).2.1); (case side3 => repeat (first | exact (Kd.R_reads' HO_300002.out).2.2 | (with_reducible refine Kd.C_alloc ?_ _) | (with_reducible refine Kd.C_drewN ?_ _) | (with_reducible refine Kd.C_drew ?_))); (case side4 => exact (Kd.R_reads' HO_300002.out).2.1); rintro e w97 ⟨rfl, hb⟩; have n0_ := aMk (Kd.R_below (by (with_reducible repeat (first | apply Kd.R_alloc | apply Kd.R_drewN | apply Kd.R_drew)); exact HO_9.out) hb); have n1_ := aMk (Kd.R_below (by (with_reducible repeat (first | apply Kd.R_alloc | apply Kd.R_drewN | apply Kd.R_drew)); exact HO_300002.out) hb); have n2_ := aMk (Kd.R_below (by (with_reducible repeat (first | apply Kd.R_alloc | apply Kd.R_drewN | apply Kd.R_drew)); exact HO_306002.out) hb); have n3_ := aMk (Kd.R_below (by (with_reducible repeat (first | apply Kd.R_alloc | apply Kd.R_drewN | apply Kd.R_drew)); exact HO_316002.out) hb); have n4_ := aMk (Kd.R_below (by (with_reducible repeat (first | apply Kd.R_alloc | apply Kd.R_drewN | apply Kd.R_drew)); exact HO321.out) hb); have n5_ := aMk (Kd.R_below (by (with_reducible repeat (first | apply Kd.R_alloc | apply Kd.R_drewN | apply Kd.R_drew)); exact HO325.out) hb); have n6_ := aMk (blk_below (g := gb283) (o := .cells #[.int .i64 a0_0, .bool a0_1, .slice A0_2 l0_2.length c0_2] 35 (0, 0)) (by (with_reducible repeat (first | refine bkD ?_ _ | refine blk_drew ?_ | refine bkA ?_ _)); exact BK283.out) hb); have n7_ := aMk (blk_below (g := gb299) (o := .cells #[.int .i64 t293, .bool t294, .slice Ao29 t295.length co29] 38 (0, 0)) (by (with_reducible repeat (first | refine bkD ?_ _ | refine blk_drew ?_ | refine bkA ?_ _)); exact BK299.out) hb); have n8_ := aMk (blk_below (g := gb305) (o := .cells #[.int .i64 t300, .bool t301, .slice Ao36 t302.length co36] 38 (0, 0)) (by (with_reducible repeat (first | refine bkD ?_ _ | refine blk_drew ?_ | refine bkA ?_ _)); exact BK305.out) hb); have n9_ := aMk (blk_below (g := gb315) (o := .cells #[.int .i64 t309, .bool t310, .slice Ao46 t311.length co46] 38 (0, 0)) (by (with_reducible repeat (first | refine bkD ?_ _ | refine blk_drew ?_ | refine bkA ?_ _)); exact BK315.out) hb); have n10_ := aMk (below_step (by repeat (first | (with_reducible first | exact HB.out | apply bAl | apply bDn | apply bD1 | refine bSe ?_ GE283.out | refine bSe ?_ GE299.out | refine bSe ?_ GE305.out | refine bSe ?_ GE315.out) | exact HB.out)) hb); clear HO_9; clear HO_300002; clear HO_306002; clear HO_316002; clear HO321; clear HO325; clear BK283; clear BK299; clear BK305; clear BK315; clear HB; have HO_9 := n0_; have HO_300002 := n1_; have HO_306002 := n2_; have HO_316002 := n3_; have HO321 := n4_; have HO325 := n5_; have BK283 := n6_; have BK299 := n7_; have BK305 := n8_; have BK315 := n9_; have HB := n10_; clear n0_ n1_ n2_ n3_ n4_ n5_ n6_ n7_ n8_ n9_ n10_; (try clear hb); (try clear hb2); (try clear hk); (try clear hi)))
                  go_meet
                  case rel => exact ⟨_, ((t314.toList != t298.toList)), (by first | rfl | (simp; done) | (simp [*]; done)), H', ⟨by have := HJ15.out; first | omega | exact Nat.le_refl _⟩, ⟨by (with_reducible repeat (first | apply Kd.R_alloc | apply Kd.R_drewN | apply Kd.R_drew)); exact Kd.R_mono HO_300002.out (fun _ hk => ⟨hk.2.1, hk.2.2.1⟩)⟩, ⟨by (with_reducible repeat (first | apply Kd.R_alloc | apply Kd.R_drewN | apply Kd.R_drew)); exact Kd.R_mono HO_306002.out (fun _ hk => ⟨hk.2.1, hk.2.2.1⟩)⟩, ⟨by (with_reducible repeat (first | apply Kd.R_alloc | apply Kd.R_drewN | apply Kd.R_drew)); exact Kd.R_mono HO_316002.out (fun _ hk => ⟨hk.2.1, hk.2.2.1⟩)⟩, ⟨by (with_reducible repeat (first | refine bkD ?_ _ | refine blk_drew ?_ | refine bkA ?_ _)); exact BK283.out⟩, ⟨by (with_reducible repeat (first | refine bkD ?_ _ | refine blk_drew ?_ | refine bkA ?_ _)); exact BK299.out⟩, ⟨by (with_reducible repeat (first | refine bkD ?_ _ | refine blk_drew ?_ | refine bkA ?_ _)); exact BK305.out⟩, ⟨by (with_reducible repeat (first | refine bkD ?_ _ | refine blk_drew ?_ | refine bkA ?_ _)); exact BK315.out⟩, ⟨by repeat (first | (with_reducible first | exact HB.out | apply bAl | apply bDn | apply bD1 | refine bSe ?_ GE283.out | refine bSe ?_ GE299.out | refine bSe ?_ GE305.out | refine bSe ?_ GE315.out) | exact HB.out)⟩⟩
                · replace c89 := Bool.eq_false_iff.mpr c89
                  subst c89
                  have H1 : (laws_FnExactFeedMore.j1 kj15 l1 t298 true a0_0 a0_1 l0_2 t293 t294 t295 t309 t310 t311) = some r := by rw [if_neg (show ¬ (false = true) by decide)] at H; exact H
                  clear H
                  have H := H1
                  clear H1
                  have H' := aMk H
                  clear H
                  have hnb98 := NB315_283.out
                  have hnc98 := NB283_315.out
                  have hnb99 := NB315_299.out
                  have hnc99 := NB299_315.out
                  have hnb100 := NB315_305.out
                  have hnc100 := NB305_315.out
                  have hcz101_0 : w86.cell? ⟨gb315, 0, none⟩ = some (.int .i64 t309) := (bCe BK315.out 0).trans rfl
                  have hcz101_1 : w86.cell? ⟨gb315, 1, none⟩ = some (.bool t310) := (bCe BK315.out 1).trans rfl
                  have hcz101_2 : w86.cell? ⟨gb315, 2, none⟩ = some (.slice Ao46 t311.length co46) := (bCe BK315.out 2).trans rfl
                  have hfz101_0 := bFr BK315.out 0
                  have hfz101_1 := bFr BK315.out 1
                  have hfz101_2 := bFr BK315.out 2
                  have hnb102 := NB299_283.out
                  have hnc102 := NB283_299.out
                  have hnb103 := NB299_305.out
                  have hnc103 := NB305_299.out
                  have hcz104_0 : w86.cell? ⟨gb299, 0, none⟩ = some (.int .i64 t293) := (bCe BK299.out 0).trans rfl
                  have hcz104_1 : w86.cell? ⟨gb299, 1, none⟩ = some (.bool t294) := (bCe BK299.out 1).trans rfl
                  have hcz104_2 : w86.cell? ⟨gb299, 2, none⟩ = some (.slice Ao29 t295.length co29) := (bCe BK299.out 2).trans rfl
                  have hfz104_0 := bFr BK299.out 0
                  have hfz104_1 := bFr BK299.out 1
                  have hfz104_2 := bFr BK299.out 2
                  go_wp2_with (first | (go_at_call 25; (with_reducible refine (laws_eqFeed.calls kj15 t309 t310 _ _ t311 t293 t294 _ _ t295 false _ ?side1 ?side2 ?side3 ?side4 A88.out).mono ?_); (case side1 => repeat (first | exact (Kd.R_reads' HO_316002.out).2.2 | (with_reducible refine Kd.C_alloc ?_ _) | (with_reducible refine Kd.C_drewN ?_ _) | (with_reducible refine Kd.C_drew ?_))); (case side2 => exact (Kd.R_reads' HO_316002.out).2.1); (case side3 => repeat (first | exact (Kd.R_reads' HO_300002.out).2.2 | (with_reducible refine Kd.C_alloc ?_ _) | (with_reducible refine Kd.C_drewN ?_ _) | (with_reducible refine Kd.C_drew ?_))); (case side4 => exact (Kd.R_reads' HO_300002.out).2.1); rintro e w105 ⟨rfl, hb⟩; have n0_ := aMk (Kd.R_below (by (with_reducible repeat (first | apply Kd.R_alloc | apply Kd.R_drewN | apply Kd.R_drew)); exact HO_9.out) hb); have n1_ := aMk (Kd.R_below (by (with_reducible repeat (first | apply Kd.R_alloc | apply Kd.R_drewN | apply Kd.R_drew)); exact HO_300002.out) hb); have n2_ := aMk (Kd.R_below (by (with_reducible repeat (first | apply Kd.R_alloc | apply Kd.R_drewN | apply Kd.R_drew)); exact HO_306002.out) hb); have n3_ := aMk (Kd.R_below (by (with_reducible repeat (first | apply Kd.R_alloc | apply Kd.R_drewN | apply Kd.R_drew)); exact HO_316002.out) hb); have n4_ := aMk (Kd.R_below (by (with_reducible repeat (first | apply Kd.R_alloc | apply Kd.R_drewN | apply Kd.R_drew)); exact HO321.out) hb); have n5_ := aMk (Kd.R_below (by (with_reducible repeat (first | apply Kd.R_alloc | apply Kd.R_drewN | apply Kd.R_drew)); exact HO325.out) hb); have n6_ := aMk (blk_below (g := gb283) (o := .cells #[.int .i64 a0_0, .bool a0_1, .slice A0_2 l0_2.length c0_2] 35 (0, 0)) (by (with_reducible repeat (first | refine bkD ?_ _ | refine blk_drew ?_ | refine bkA ?_ _)); exact BK283.out) hb); have n7_ := aMk (blk_below (g := gb299) (o := .cells #[.int .i64 t293, .bool t294, .slice Ao29 t295.length co29] 38 (0, 0)) (by (with_reducible repeat (first | refine bkD ?_ _ | refine blk_drew ?_ | refine bkA ?_ _)); exact BK299.out) hb); have n8_ := aMk (blk_below (g := gb305) (o := .cells #[.int .i64 t300, .bool t301, .slice Ao36 t302.length co36] 38 (0, 0)) (by (with_reducible repeat (first | refine bkD ?_ _ | refine blk_drew ?_ | refine bkA ?_ _)); exact BK305.out) hb); have n9_ := aMk (blk_below (g := gb315) (o := .cells #[.int .i64 t309, .bool t310, .slice Ao46 t311.length co46] 38 (0, 0)) (by (with_reducible repeat (first | refine bkD ?_ _ | refine blk_drew ?_ | refine bkA ?_ _)); exact BK315.out) hb); have n10_ := aMk (below_step (by repeat (first | (with_reducible first | exact HB.out | apply bAl | apply bDn | apply bD1 | refine bSe ?_ GE283.out | refine bSe ?_ GE299.out | refine bSe ?_ GE305.out | refine bSe ?_ GE315.out) | exact HB.out)) hb); clear HO_9; clear HO_300002; clear HO_306002; clear HO_316002; clear HO321; clear HO325; clear BK283; clear BK299; clear BK305; clear BK315; clear HB; have HO_9 := n0_; have HO_300002 := n1_; have HO_306002 := n2_; have HO_316002 := n3_; have HO321 := n4_; have HO325 := n5_; have BK283 := n6_; have BK299 := n7_; have BK305 := n8_; have BK315 := n9_; have HB := n10_; clear n0_ n1_ n2_ n3_ n4_ n5_ n6_ n7_ n8_ n9_ n10_; (try clear hb); (try clear hb2); (try clear hk); (try clear hi)))
                  go_meet
                  case rel => exact ⟨_, (true), (by first | rfl | (simp; done) | (simp [*]; done)), H', ⟨by have := HJ15.out; first | omega | exact Nat.le_refl _⟩, ⟨by (with_reducible repeat (first | apply Kd.R_alloc | apply Kd.R_drewN | apply Kd.R_drew)); exact Kd.R_mono HO_300002.out (fun _ hk => ⟨hk.2.1, hk.2.2.1⟩)⟩, ⟨by (with_reducible repeat (first | apply Kd.R_alloc | apply Kd.R_drewN | apply Kd.R_drew)); exact Kd.R_mono HO_306002.out (fun _ hk => ⟨hk.2.1, hk.2.2.1⟩)⟩, ⟨by (with_reducible repeat (first | apply Kd.R_alloc | apply Kd.R_drewN | apply Kd.R_drew)); exact Kd.R_mono HO_316002.out (fun _ hk => ⟨hk.2.1, hk.2.2.1⟩)⟩, ⟨by (with_reducible repeat (first | refine bkD ?_ _ | refine blk_drew ?_ | refine bkA ?_ _)); exact BK283.out⟩, ⟨by (with_reducible repeat (first | refine bkD ?_ _ | refine blk_drew ?_ | refine bkA ?_ _)); exact BK299.out⟩, ⟨by (with_reducible repeat (first | refine bkD ?_ _ | refine blk_drew ?_ | refine bkA ?_ _)); exact BK305.out⟩, ⟨by (with_reducible repeat (first | refine bkD ?_ _ | refine blk_drew ?_ | refine bkA ?_ _)); exact BK315.out⟩, ⟨by repeat (first | (with_reducible first | exact HB.out | apply bAl | apply bDn | apply bD1 | refine bSe ?_ GE283.out | refine bSe ?_ GE299.out | refine bSe ?_ GE305.out | refine bSe ?_ GE315.out) | exact HB.out)⟩⟩
             case rest =>
              clear HC74
              try clear c1
              try clear c2
              try clear p2
              try clear c3
              try clear c3b0
              try clear c3b1
              try clear c4
              try clear c5
              try clear c6
              try clear c6b0
              try clear c7
              try clear c8
              try clear c9
              try clear c10
              try clear c19
              try clear c20
              try clear c21
              try clear c23
              try clear c25
              try clear c26
              try clear c27
              try clear c28
              try clear c29
              try clear c33
              try clear c34
              try clear c42
              try clear c43
              try clear c44
              try clear c48
              try clear c49
              try clear c50
              try clear c51
              try clear c53
              try clear c54
              try clear c57
              try clear c58
              try clear c59
              try clear c61
              try clear c62
              try clear c65
              try clear c68
              try clear c71
              try clear c81
              try clear c82
              try clear c83
              try clear c87
              try clear c87b0
              try clear c89
              try clear c90
              try clear c91
              try clear c92
              try clear c94
              try clear c95
              try clear c98
              try clear c99
              try clear c100
              try clear c102
              try clear c103
              try clear hcz101_0
              try clear hcz101_1
              try clear hcz101_2
              try clear hcz104_0
              try clear hcz104_1
              try clear hcz104_2
              try clear hcz18_0
              try clear hcz18_1
              try clear hcz18_2
              try clear hcz20_0
              try clear hcz20_1
              try clear hcz20_2
              try clear hcz28_0
              try clear hcz28_1
              try clear hcz28_2
              try clear hcz30_0
              try clear hcz30_1
              try clear hcz30_2
              try clear hcz35_0
              try clear hcz35_1
              try clear hcz35_2
              try clear hcz38_0
              try clear hcz38_1
              try clear hcz38_2
              try clear hcz45_0
              try clear hcz45_1
              try clear hcz45_2
              try clear hcz52_0
              try clear hcz52_1
              try clear hcz52_2
              try clear hcz55_0
              try clear hcz55_1
              try clear hcz55_2
              try clear hcz60_0
              try clear hcz60_1
              try clear hcz60_2
              try clear hcz63_0
              try clear hcz63_1
              try clear hcz63_2
              try clear hcz84_0
              try clear hcz84_1
              try clear hcz84_2
              try clear hcz8_0
              try clear hcz8_1
              try clear hcz8_2
              try clear hcz93_0
              try clear hcz93_1
              try clear hcz93_2
              try clear hcz96_0
              try clear hcz96_1
              try clear hcz96_2
              try clear hfz101_0
              try clear hfz101_1
              try clear hfz101_2
              try clear hfz104_0
              try clear hfz104_1
              try clear hfz104_2
              try clear hfz18_0
              try clear hfz18_1
              try clear hfz18_2
              try clear hfz20_0
              try clear hfz20_1
              try clear hfz20_2
              try clear hfz28_0
              try clear hfz28_1
              try clear hfz28_2
              try clear hfz30_0
              try clear hfz30_1
              try clear hfz30_2
              try clear hfz35_0
              try clear hfz35_1
              try clear hfz35_2
              try clear hfz38_0
              try clear hfz38_1
              try clear hfz38_2
              try clear hfz45_0
              try clear hfz45_1
              try clear hfz45_2
              try clear hfz52_0
              try clear hfz52_1
              try clear hfz52_2
              try clear hfz55_0
              try clear hfz55_1
              try clear hfz55_2
              try clear hfz60_0
              try clear hfz60_1
              try clear hfz60_2
              try clear hfz63_0
              try clear hfz63_1
              try clear hfz63_2
              try clear hfz84_0
              try clear hfz84_1
              try clear hfz84_2
              try clear hfz8_0
              try clear hfz8_1
              try clear hfz8_2
              try clear hfz93_0
              try clear hfz93_1
              try clear hfz93_2
              try clear hfz96_0
              try clear hfz96_1
              try clear hfz96_2
              try clear p2
              obtain ⟨kq, x80_73, rfl, HA, HJ73, HO_300002, HO_306002, HO_316002, BK283, BK299, BK305, BK315, HB⟩ := hcut
              have hl306002_73 := (Kd.R_reads' HO_306002.out).1
              rw [hl306002_73] at HO_306002
              (try simp only [hl306002_73])
              (try simp only [hl306002_73] at BK283)
              (try simp only [hl306002_73] at BK299)
              (try simp only [hl306002_73] at BK305)
              (try simp only [hl306002_73] at BK315)
              (try simp only [hl306002_73] at HO_300002)
              (try simp only [hl306002_73] at HO_316002)
              cases kq with
              | zero => exact absurd HA.out (by simp [laws_FnExactFeedMore.j1])
              | succ kj73 =>
               have H := HA.out
               clear HA
               simp only [laws_FnExactFeedMore.j1] at H
               by_cases c106 : x80_73 = true
               · subst c106
                 have H1 : (some false) = some r := by rw [if_pos rfl] at H; exact H
                 clear H
                 have H := H1
                 clear H1
                 obtain rfl := Option.some.inj H
                 go_wp2
                 go_ret
                 exact ⟨by first | rfl | (simp [errW_none, errW_some] <;> rfl) | (simp [*, errW_none, errW_some] <;> rfl), by repeat (first | (with_reducible first | exact HB.out | apply bAl | apply bDn | apply bD1 | refine bSe ?_ GE283.out | refine bSe ?_ GE299.out | refine bSe ?_ GE305.out | refine bSe ?_ GE315.out) | exact HB.out)⟩
               · replace c106 := Bool.eq_false_iff.mpr c106
                 subst c106
                 have H1 : ((laws_markFeed.f kj73 t309 t310 t311 1).bind fun bt332 => ((laws_heldFeed.f kj73 t309 t310 bt332.2 1).bind fun t334 => (if t334 < 0 then (some false) else (if t334 = bt332.1 then ((laws_toFeed.f kj73 a0_0 a0_1 l0_2).bind fun bt335 => ((laws_toByteS.f kj73 l1).bind fun t340 => ((impl_FeedMore.f kj73 bt335.1 bt335.2.1 bt335.2.2 t340).bind fun bt343 => ((laws_eqFeed.f kj73 bt343.1 bt343.2.1 bt343.2.2.1 t293 t294 t295).bind fun t350 => (if t350 = true then (laws_FnExactFeedMore.j2 kj73 bt332.1 (bt343.2.2.2.toList != t298.toList) t309 t310 bt332.2) else (laws_FnExactFeedMore.j2 kj73 bt332.1 true t309 t310 bt332.2)))))) else (some false))))) = some r := by rw [if_neg (show ¬ (false = true) by decide)] at H; exact H
                 clear H
                 have H := H1
                 clear H1
                 replace H := oBm H
                 obtain ⟨⟨t332, t333⟩, A1070, H⟩ := H
                 replace H : ((laws_heldFeed.f kj73 t309 t310 t333 1).bind fun t334 => (if t334 < 0 then (some false) else (if t334 = t332 then ((laws_toFeed.f kj73 a0_0 a0_1 l0_2).bind fun bt335 => ((laws_toByteS.f kj73 l1).bind fun t340 => ((impl_FeedMore.f kj73 bt335.1 bt335.2.1 bt335.2.2 t340).bind fun bt343 => ((laws_eqFeed.f kj73 bt343.1 bt343.2.1 bt343.2.2.1 t293 t294 t295).bind fun t350 => (if t350 = true then (laws_FnExactFeedMore.j2 kj73 t332 (bt343.2.2.2.toList != t298.toList) t309 t310 t333) else (laws_FnExactFeedMore.j2 kj73 t332 true t309 t310 t333)))))) else (some false)))) = some r := H
                 have A107 := aMk A1070
                 clear A1070
                 replace H := oBm H
                 obtain ⟨t334, A1080, H⟩ := H
                 replace H : (if t334 < 0 then (some false) else (if t334 = t332 then ((laws_toFeed.f kj73 a0_0 a0_1 l0_2).bind fun bt335 => ((laws_toByteS.f kj73 l1).bind fun t340 => ((impl_FeedMore.f kj73 bt335.1 bt335.2.1 bt335.2.2 t340).bind fun bt343 => ((laws_eqFeed.f kj73 bt343.1 bt343.2.1 bt343.2.2.1 t293 t294 t295).bind fun t350 => (if t350 = true then (laws_FnExactFeedMore.j2 kj73 t332 (bt343.2.2.2.toList != t298.toList) t309 t310 t333) else (laws_FnExactFeedMore.j2 kj73 t332 true t309 t310 t333)))))) else (some false))) = some r := H
                 have A108 := aMk A1080
                 clear A1080
                 by_cases c109 : t334 < 0
                 · rw [if_pos c109] at H
                   have c109b0 : decide (t334 < 0) = true := decide_eq_true c109
                   clear c109
                   obtain rfl := Option.some.inj H
                   have hnb110 := NB315_283.out
                   have hnc110 := NB283_315.out
                   have hnb111 := NB315_299.out
                   have hnc111 := NB299_315.out
                   have hnb112 := NB315_305.out
                   have hnc112 := NB305_315.out
                   have hcz113_0 : wc.cell? ⟨gb315, 0, none⟩ = some (.int .i64 t309) := (bCe BK315.out 0).trans rfl
                   have hcz113_1 : wc.cell? ⟨gb315, 1, none⟩ = some (.bool t310) := (bCe BK315.out 1).trans rfl
                   have hcz113_2 : wc.cell? ⟨gb315, 2, none⟩ = some (.slice Ao46 t311.length co46) := (bCe BK315.out 2).trans rfl
                   have hfz113_0 := bFr BK315.out 0
                   have hfz113_1 := bFr BK315.out 1
                   have hfz113_2 := bFr BK315.out 2
                   go_wp2_with (first | ((with_reducible refine gate_callee (f := 28) rfl ?_); refine goesL_ (some 83) rfl rfl Try.func28 (by kernel_rfl) rfl #[.agg #[.int .i64 t309, .bool t310, .slice Ao46 t311.length co46], .int .i64 1] rfl (by (try simp only [List.map_toArray, List.map_cons, List.map_nil]); first | done | rfl | (simp only [List.length_drop, List.length_take]; rfl)) ?_; (with_reducible refine (laws_markFeed.calls kj73 t309 t310 (fun k_ => some k_ = (.slice Ao46 t311.length co46 : Value).ownBlock) (.slice Ao46 t311.length co46) t311 1 t332 t333 w _ ?side1 ?side2 A107.out).mono ?_); (case side1 => repeat (first | (with_reducible first | exact HB.out | apply bAl | apply bDn | apply bD1 | refine bSe ?_ GE283.out | refine bSe ?_ GE299.out | refine bSe ?_ GE305.out | refine bSe ?_ GE315.out) | exact HB.out)); (case side2 => exact Kd.R_tight rfl HO_316002.out); rintro e w114 ⟨rfl, hy0, hb, hkp⟩; refine ⟨_, rfl, ?_⟩; have n0_ := aMk (Kd.R_mono (ok' := fun k_ => some k_ ≠ (.slice Ao36 t328.length co36 : Value).ownBlock ∧ some k_ ≠ (.slice Ao46 t311.length co46 : Value).ownBlock) (Kd.R_keptB (HO_300002.out) hkp (fun k_ hk_ hs_ => (hk_.2) hs_)) (fun k_ hk_ => ⟨hk_.1.1, hk_.1.2⟩)); have n1_ := aMk (Kd.R_mono (ok' := fun k_ => some k_ ≠ (.slice Ao29 t295.length co29 : Value).ownBlock ∧ some k_ ≠ (.slice Ao46 t311.length co46 : Value).ownBlock) (Kd.R_keptB (HO_306002.out) hkp (fun k_ hk_ hs_ => (hk_.2) hs_)) (fun k_ hk_ => ⟨hk_.1.1, hk_.1.2⟩)); have n2_ := aMk (Kd.R_reok rfl hy0 (fun k_ e_ => HO_316002.out.1 k_ e_)); have n3_ := aMk (blk_kept (by (with_reducible repeat (first | refine bkD ?_ _ | refine blk_drew ?_ | refine bkA ?_ _)); exact BK283.out) hkp (fun hs_ => (fun e_ => (Kd.R_ne HO_316002.out BK283.out (by decide)) e_) hs_)); have n4_ := aMk (blk_kept (by (with_reducible repeat (first | refine bkD ?_ _ | refine blk_drew ?_ | refine bkA ?_ _)); exact BK299.out) hkp (fun hs_ => (fun e_ => (Kd.R_ne HO_316002.out BK299.out (by decide)) e_) hs_)); have n5_ := aMk (blk_kept (by (with_reducible repeat (first | refine bkD ?_ _ | refine blk_drew ?_ | refine bkA ?_ _)); exact BK305.out) hkp (fun hs_ => (fun e_ => (Kd.R_ne HO_316002.out BK305.out (by decide)) e_) hs_)); have n6_ := aMk (blk_kept (by (with_reducible repeat (first | refine bkD ?_ _ | refine blk_drew ?_ | refine bkA ?_ _)); exact BK315.out) hkp (fun hs_ => (fun e_ => (Kd.R_ne HO_316002.out BK315.out (by decide)) e_) hs_)); have n7_ := aMk (hb); clear HO_300002; clear HO_306002; clear HO_316002; clear BK283; clear BK299; clear BK305; clear BK315; clear HB; have HO_300002 := n0_; have HO_306002 := n1_; have HO_316002 := n2_; have BK283 := n3_; have BK299 := n4_; have BK305 := n5_; have BK315 := n6_; have HB := n7_; clear n0_ n1_ n2_ n3_ n4_ n5_ n6_ n7_; (try clear hb); (try clear hkp); (try clear hy0); have hcz115_0 : w114.cell? ⟨gb315, 0, none⟩ = some (.int .i64 t309) := (bCe BK315.out 0).trans rfl; have hcz115_1 : w114.cell? ⟨gb315, 1, none⟩ = some (.bool t310) := (bCe BK315.out 1).trans rfl; have hcz115_2 : w114.cell? ⟨gb315, 2, none⟩ = some (.slice Ao46 t311.length co46) := (bCe BK315.out 2).trans rfl; have hfz115_0 := bFr BK315.out 0; have hfz115_1 := bFr BK315.out 1; have hfz115_2 := bFr BK315.out 2) | ((with_reducible refine gate_callee (f := 30) rfl ?_); refine goesL_ (some 86) rfl rfl Try.func30 (by kernel_rfl) rfl #[.agg #[.int .i64 t309, .bool t310, .slice Ao46 t333.length co46], .int .i64 1] rfl (by (try simp only [List.map_toArray, List.map_cons, List.map_nil]); first | done | (rw [show t333.length = t311.length from (Kd.R_reads' HO_316002.out).1.symm] <;> rfl) | rfl | (simp only [List.length_drop, List.length_take]; rfl)) ?_; (with_reducible refine (laws_heldFeed.calls kj73 t309 t310 _ _ t333 1 t334 _ ?side1 ?side2 A108.out).mono ?_); (case side1 => repeat (first | exact (Kd.R_reads' HO_316002.out).2.2 | (with_reducible refine Kd.C_alloc ?_ _) | (with_reducible refine Kd.C_drewN ?_ _) | (with_reducible refine Kd.C_drew ?_))); (case side2 => rw [show t333.length = t311.length from (Kd.R_reads' HO_316002.out).1.symm]; exact (Kd.R_reads' HO_316002.out).2.1); rintro e w116 ⟨rfl, hb⟩; refine ⟨_, rfl, ?_⟩; have n0_ := aMk (Kd.R_below (by (with_reducible repeat (first | apply Kd.R_alloc | apply Kd.R_drewN | apply Kd.R_drew)); exact HO_300002.out) hb); have n1_ := aMk (Kd.R_below (by (with_reducible repeat (first | apply Kd.R_alloc | apply Kd.R_drewN | apply Kd.R_drew)); exact HO_306002.out) hb); have n2_ := aMk (Kd.R_below (by (with_reducible repeat (first | apply Kd.R_alloc | apply Kd.R_drewN | apply Kd.R_drew)); exact HO_316002.out) hb); have n3_ := aMk (blk_below (g := gb283) (o := .cells #[.int .i64 a0_0, .bool a0_1, .slice A0_2 l0_2.length c0_2] 35 (0, 0)) (by (with_reducible repeat (first | refine bkD ?_ _ | refine blk_drew ?_ | refine bkA ?_ _)); exact BK283.out) hb); have n4_ := aMk (blk_below (g := gb299) (o := .cells #[.int .i64 t293, .bool t294, .slice Ao29 t295.length co29] 38 (0, 0)) (by (with_reducible repeat (first | refine bkD ?_ _ | refine blk_drew ?_ | refine bkA ?_ _)); exact BK299.out) hb); have n5_ := aMk (blk_below (g := gb305) (o := .cells #[.int .i64 t300, .bool t301, .slice Ao36 t328.length co36] 38 (0, 0)) (by (with_reducible repeat (first | refine bkD ?_ _ | refine blk_drew ?_ | refine bkA ?_ _)); exact BK305.out) hb); have n6_ := aMk (blk_below (g := gb315) (o := .cells #[.int .i64 t309, .bool t310, .slice Ao46 t311.length co46] 38 (0, 0)) (by (with_reducible repeat (first | refine bkD ?_ _ | refine blk_drew ?_ | refine bkA ?_ _)); exact BK315.out) hb); have n7_ := aMk (below_step (by repeat (first | (with_reducible first | exact HB.out | apply bAl | apply bDn | apply bD1 | refine bSe ?_ GE283.out | refine bSe ?_ GE299.out | refine bSe ?_ GE305.out | refine bSe ?_ GE315.out) | exact HB.out)) hb); clear HO_300002; clear HO_306002; clear HO_316002; clear BK283; clear BK299; clear BK305; clear BK315; clear HB; have HO_300002 := n0_; have HO_306002 := n1_; have HO_316002 := n2_; have BK283 := n3_; have BK299 := n4_; have BK305 := n5_; have BK315 := n6_; have HB := n7_; clear n0_ n1_ n2_ n3_ n4_ n5_ n6_ n7_; (try clear hb); (try clear hb2); (try clear hk); (try clear hi)))
                   go_ret
                   exact ⟨by first | rfl | (simp [errW_none, errW_some] <;> rfl) | (simp [*, errW_none, errW_some] <;> rfl), by repeat (first | (with_reducible first | exact HB.out | apply bAl | apply bDn | apply bD1 | refine bSe ?_ GE283.out | refine bSe ?_ GE299.out | refine bSe ?_ GE305.out | refine bSe ?_ GE315.out) | exact HB.out)⟩
                 · rw [if_neg c109] at H
                   have c109b0 : decide (t334 < 0) = false := decide_eq_false c109
                   clear c109
                   by_cases c117 : t334 = t332
                   · rw [if_pos c117] at H
                     have c117b0 : (t334 == t332) = true := beq_iff_eq.mpr c117
                     have c117b1 : (t334 != t332) = false := bne_eq_false_iff_eq.mpr c117
                     clear c117
                     replace H := oBm H
                     obtain ⟨⟨t335, t336, t337⟩, A1180, H⟩ := H
                     replace H : ((laws_toByteS.f kj73 l1).bind fun t340 => ((impl_FeedMore.f kj73 t335 t336 t337 t340).bind fun bt343 => ((laws_eqFeed.f kj73 bt343.1 bt343.2.1 bt343.2.2.1 t293 t294 t295).bind fun t350 => (if t350 = true then (laws_FnExactFeedMore.j2 kj73 t332 (bt343.2.2.2.toList != t298.toList) t309 t310 t333) else (laws_FnExactFeedMore.j2 kj73 t332 true t309 t310 t333))))) = some r := H
                     have A118 := aMk A1180
                     clear A1180
                     replace H := oBm H
                     obtain ⟨t340, A1190, H⟩ := H
                     replace H : ((impl_FeedMore.f kj73 t335 t336 t337 t340).bind fun bt343 => ((laws_eqFeed.f kj73 bt343.1 bt343.2.1 bt343.2.2.1 t293 t294 t295).bind fun t350 => (if t350 = true then (laws_FnExactFeedMore.j2 kj73 t332 (bt343.2.2.2.toList != t298.toList) t309 t310 t333) else (laws_FnExactFeedMore.j2 kj73 t332 true t309 t310 t333)))) = some r := H
                     have A119 := aMk A1190
                     clear A1190
                     replace H := oBm H
                     obtain ⟨⟨t343, t344, t345, t348⟩, A1200, H⟩ := H
                     replace H : ((laws_eqFeed.f kj73 t343 t344 t345 t293 t294 t295).bind fun t350 => (if t350 = true then (laws_FnExactFeedMore.j2 kj73 t332 (t348.toList != t298.toList) t309 t310 t333) else (laws_FnExactFeedMore.j2 kj73 t332 true t309 t310 t333))) = some r := H
                     have A120 := aMk A1200
                     clear A1200
                     have HC121 := aMk H
                     clear H
                     have hnb122 := NB315_283.out
                     have hnc122 := NB283_315.out
                     have hnb123 := NB315_299.out
                     have hnc123 := NB299_315.out
                     have hnb124 := NB315_305.out
                     have hnc124 := NB305_315.out
                     have hcz125_0 : wc.cell? ⟨gb315, 0, none⟩ = some (.int .i64 t309) := (bCe BK315.out 0).trans rfl
                     have hcz125_1 : wc.cell? ⟨gb315, 1, none⟩ = some (.bool t310) := (bCe BK315.out 1).trans rfl
                     have hcz125_2 : wc.cell? ⟨gb315, 2, none⟩ = some (.slice Ao46 t311.length co46) := (bCe BK315.out 2).trans rfl
                     have hfz125_0 := bFr BK315.out 0
                     have hfz125_1 := bFr BK315.out 1
                     have hfz125_2 := bFr BK315.out 2
                     go_upto_region 31 with (first | ((with_reducible refine gate_callee (f := 28) rfl ?_); refine goesL_ (some 83) rfl rfl Try.func28 (by kernel_rfl) rfl #[.agg #[.int .i64 t309, .bool t310, .slice Ao46 t311.length co46], .int .i64 1] rfl (by (try simp only [List.map_toArray, List.map_cons, List.map_nil]); first | done | rfl | (simp only [List.length_drop, List.length_take]; rfl)) ?_; (with_reducible refine (laws_markFeed.calls kj73 t309 t310 (fun k_ => some k_ = (.slice Ao46 t311.length co46 : Value).ownBlock) (.slice Ao46 t311.length co46) t311 1 t332 t333 w _ ?side1 ?side2 A107.out).mono ?_); (case side1 => repeat (first | (with_reducible first | exact HB.out | apply bAl | apply bDn | apply bD1 | refine bSe ?_ GE283.out | refine bSe ?_ GE299.out | refine bSe ?_ GE305.out | refine bSe ?_ GE315.out) | exact HB.out)); (case side2 => exact Kd.R_tight rfl HO_316002.out); rintro e w126 ⟨rfl, hy0, hb, hkp⟩; refine ⟨_, rfl, ?_⟩; have n0_ := aMk (Kd.R_mono (ok' := fun k_ => some k_ ≠ (.slice Ao36 t328.length co36 : Value).ownBlock ∧ some k_ ≠ (.slice Ao46 t311.length co46 : Value).ownBlock) (Kd.R_keptB (HO_300002.out) hkp (fun k_ hk_ hs_ => (hk_.2) hs_)) (fun k_ hk_ => ⟨hk_.1.1, hk_.1.2⟩)); have n1_ := aMk (Kd.R_mono (ok' := fun k_ => some k_ ≠ (.slice Ao29 t295.length co29 : Value).ownBlock ∧ some k_ ≠ (.slice Ao46 t311.length co46 : Value).ownBlock) (Kd.R_keptB (HO_306002.out) hkp (fun k_ hk_ hs_ => (hk_.2) hs_)) (fun k_ hk_ => ⟨hk_.1.1, hk_.1.2⟩)); have n2_ := aMk (Kd.R_reok rfl hy0 (fun k_ e_ => HO_316002.out.1 k_ e_)); have n3_ := aMk (blk_kept (by (with_reducible repeat (first | refine bkD ?_ _ | refine blk_drew ?_ | refine bkA ?_ _)); exact BK283.out) hkp (fun hs_ => (fun e_ => (Kd.R_ne HO_316002.out BK283.out (by decide)) e_) hs_)); have n4_ := aMk (blk_kept (by (with_reducible repeat (first | refine bkD ?_ _ | refine blk_drew ?_ | refine bkA ?_ _)); exact BK299.out) hkp (fun hs_ => (fun e_ => (Kd.R_ne HO_316002.out BK299.out (by decide)) e_) hs_)); have n5_ := aMk (blk_kept (by (with_reducible repeat (first | refine bkD ?_ _ | refine blk_drew ?_ | refine bkA ?_ _)); exact BK305.out) hkp (fun hs_ => (fun e_ => (Kd.R_ne HO_316002.out BK305.out (by decide)) e_) hs_)); have n6_ := aMk (blk_kept (by (with_reducible repeat (first | refine bkD ?_ _ | refine blk_drew ?_ | refine bkA ?_ _)); exact BK315.out) hkp (fun hs_ => (fun e_ => (Kd.R_ne HO_316002.out BK315.out (by decide)) e_) hs_)); have n7_ := aMk (hb); clear HO_300002; clear HO_306002; clear HO_316002; clear BK283; clear BK299; clear BK305; clear BK315; clear HB; have HO_300002 := n0_; have HO_306002 := n1_; have HO_316002 := n2_; have BK283 := n3_; have BK299 := n4_; have BK305 := n5_; have BK315 := n6_; have HB := n7_; clear n0_ n1_ n2_ n3_ n4_ n5_ n6_ n7_; (try clear hb); (try clear hkp); (try clear hy0); have hcz127_0 : w126.cell? ⟨gb315, 0, none⟩ = some (.int .i64 t309) := (bCe BK315.out 0).trans rfl; have hcz127_1 : w126.cell? ⟨gb315, 1, none⟩ = some (.bool t310) := (bCe BK315.out 1).trans rfl; have hcz127_2 : w126.cell? ⟨gb315, 2, none⟩ = some (.slice Ao46 t311.length co46) := (bCe BK315.out 2).trans rfl; have hfz127_0 := bFr BK315.out 0; have hfz127_1 := bFr BK315.out 1; have hfz127_2 := bFr BK315.out 2) | ((with_reducible refine gate_callee (f := 30) rfl ?_); refine goesL_ (some 86) rfl rfl Try.func30 (by kernel_rfl) rfl #[.agg #[.int .i64 t309, .bool t310, .slice Ao46 t333.length co46], .int .i64 1] rfl (by (try simp only [List.map_toArray, List.map_cons, List.map_nil]); first | done | (rw [show t333.length = t311.length from (Kd.R_reads' HO_316002.out).1.symm] <;> rfl) | rfl | (simp only [List.length_drop, List.length_take]; rfl)) ?_; (with_reducible refine (laws_heldFeed.calls kj73 t309 t310 _ _ t333 1 t334 _ ?side1 ?side2 A108.out).mono ?_); (case side1 => repeat (first | exact (Kd.R_reads' HO_316002.out).2.2 | (with_reducible refine Kd.C_alloc ?_ _) | (with_reducible refine Kd.C_drewN ?_ _) | (with_reducible refine Kd.C_drew ?_))); (case side2 => rw [show t333.length = t311.length from (Kd.R_reads' HO_316002.out).1.symm]; exact (Kd.R_reads' HO_316002.out).2.1); rintro e w128 ⟨rfl, hb⟩; refine ⟨_, rfl, ?_⟩; have n0_ := aMk (Kd.R_below (by (with_reducible repeat (first | apply Kd.R_alloc | apply Kd.R_drewN | apply Kd.R_drew)); exact HO_300002.out) hb); have n1_ := aMk (Kd.R_below (by (with_reducible repeat (first | apply Kd.R_alloc | apply Kd.R_drewN | apply Kd.R_drew)); exact HO_306002.out) hb); have n2_ := aMk (Kd.R_below (by (with_reducible repeat (first | apply Kd.R_alloc | apply Kd.R_drewN | apply Kd.R_drew)); exact HO_316002.out) hb); have n3_ := aMk (blk_below (g := gb283) (o := .cells #[.int .i64 a0_0, .bool a0_1, .slice A0_2 l0_2.length c0_2] 35 (0, 0)) (by (with_reducible repeat (first | refine bkD ?_ _ | refine blk_drew ?_ | refine bkA ?_ _)); exact BK283.out) hb); have n4_ := aMk (blk_below (g := gb299) (o := .cells #[.int .i64 t293, .bool t294, .slice Ao29 t295.length co29] 38 (0, 0)) (by (with_reducible repeat (first | refine bkD ?_ _ | refine blk_drew ?_ | refine bkA ?_ _)); exact BK299.out) hb); have n5_ := aMk (blk_below (g := gb305) (o := .cells #[.int .i64 t300, .bool t301, .slice Ao36 t328.length co36] 38 (0, 0)) (by (with_reducible repeat (first | refine bkD ?_ _ | refine blk_drew ?_ | refine bkA ?_ _)); exact BK305.out) hb); have n6_ := aMk (blk_below (g := gb315) (o := .cells #[.int .i64 t309, .bool t310, .slice Ao46 t311.length co46] 38 (0, 0)) (by (with_reducible repeat (first | refine bkD ?_ _ | refine blk_drew ?_ | refine bkA ?_ _)); exact BK315.out) hb); have n7_ := aMk (below_step (by repeat (first | (with_reducible first | exact HB.out | apply bAl | apply bDn | apply bD1 | refine bSe ?_ GE283.out | refine bSe ?_ GE299.out | refine bSe ?_ GE305.out | refine bSe ?_ GE315.out) | exact HB.out)) hb); clear HO_300002; clear HO_306002; clear HO_316002; clear BK283; clear BK299; clear BK305; clear BK315; clear HB; have HO_300002 := n0_; have HO_306002 := n1_; have HO_316002 := n2_; have BK283 := n3_; have BK299 := n4_; have BK305 := n5_; have BK315 := n6_; have HB := n7_; clear n0_ n1_ n2_ n3_ n4_ n5_ n6_ n7_; (try clear hb); (try clear hb2); (try clear hk); (try clear hi); have hnb129 := NB283_299.out; have hnc129 := NB299_283.out; have hnb130 := NB283_305.out; have hnc130 := NB305_283.out; have hcz131_0 : w128.cell? ⟨gb283, 0, none⟩ = some (.int .i64 a0_0) := (bCe BK283.out 0).trans rfl; have hcz131_1 : w128.cell? ⟨gb283, 1, none⟩ = some (.bool a0_1) := (bCe BK283.out 1).trans rfl; have hcz131_2 : w128.cell? ⟨gb283, 2, none⟩ = some (.slice A0_2 l0_2.length c0_2) := (bCe BK283.out 2).trans rfl; have hfz131_0 := bFr BK283.out 0; have hfz131_1 := bFr BK283.out 1; have hfz131_2 := bFr BK283.out 2) | ((with_reducible refine gate_callee (f := 23) rfl ?_); refine goesL_ (some 94) rfl rfl Try.func23 (by kernel_rfl) rfl #[.agg #[.int .i64 a0_0, .bool a0_1, .slice A0_2 l0_2.length c0_2]] rfl (by (try simp only [List.map_toArray, List.map_cons, List.map_nil]); first | done | rfl | (simp only [List.length_drop, List.length_take]; rfl)) ?_; (with_reducible refine (laws_toFeed.calls kj73 a0_0 a0_1 _ _ l0_2 t335 t336 t337 _ ?side1 ?side2 A118.out).mono ?_); (case side1 => repeat (first | exact (Kd.C_below HR0_2.out HB.out) | (with_reducible refine Kd.C_alloc ?_ _) | (with_reducible refine Kd.C_drewN ?_ _) | (with_reducible refine Kd.C_drew ?_))); (case side2 => exact HC0_2.out); rintro e w132 ⟨v338, rfl, ho0, hb⟩; refine ⟨_, rfl, ?_⟩; have n0_ := aMk (Kd.R_elder' (by (with_reducible repeat (first | apply Kd.R_alloc | apply Kd.R_drewN | apply Kd.R_drew)); exact HO_300002.out) (Kd.R_base ho0) hb); have n1_ := aMk (Kd.R_elder' (by (with_reducible repeat (first | apply Kd.R_alloc | apply Kd.R_drewN | apply Kd.R_drew)); exact HO_306002.out) (Kd.R_base ho0) hb); have n2_ := aMk (Kd.R_elder' (by (with_reducible repeat (first | apply Kd.R_alloc | apply Kd.R_drewN | apply Kd.R_drew)); exact HO_316002.out) (Kd.R_base ho0) hb); have n3_ := aMk (Kd.R_lower (Kd.R_new' (Kd.R_new' (Kd.R_new' ho0 (Kd.R_lt (by (with_reducible repeat (first | apply Kd.R_alloc | apply Kd.R_drewN | apply Kd.R_drew)); exact HO_300002.out))) (Kd.R_lt (by (with_reducible repeat (first | apply Kd.R_alloc | apply Kd.R_drewN | apply Kd.R_drew)); exact HO_306002.out))) (Kd.R_lt (by (with_reducible repeat (first | apply Kd.R_alloc | apply Kd.R_drewN | apply Kd.R_drew)); exact HO_316002.out))) (below_size (by repeat (first | (with_reducible first | exact HB.out | apply bAl | apply bDn | apply bD1 | refine bSe ?_ GE283.out | refine bSe ?_ GE299.out | refine bSe ?_ GE305.out | refine bSe ?_ GE315.out) | exact HB.out)))); have n4_ := aMk (blk_below (g := gb283) (o := .cells #[.int .i64 a0_0, .bool a0_1, .slice A0_2 l0_2.length c0_2] 35 (0, 0)) (by (with_reducible repeat (first | refine bkD ?_ _ | refine blk_drew ?_ | refine bkA ?_ _)); exact BK283.out) hb); have n5_ := aMk (blk_below (g := gb299) (o := .cells #[.int .i64 t293, .bool t294, .slice Ao29 t295.length co29] 38 (0, 0)) (by (with_reducible repeat (first | refine bkD ?_ _ | refine blk_drew ?_ | refine bkA ?_ _)); exact BK299.out) hb); have n6_ := aMk (blk_below (g := gb305) (o := .cells #[.int .i64 t300, .bool t301, .slice Ao36 t328.length co36] 38 (0, 0)) (by (with_reducible repeat (first | refine bkD ?_ _ | refine blk_drew ?_ | refine bkA ?_ _)); exact BK305.out) hb); have n7_ := aMk (blk_below (g := gb315) (o := .cells #[.int .i64 t309, .bool t310, .slice Ao46 t311.length co46] 38 (0, 0)) (by (with_reducible repeat (first | refine bkD ?_ _ | refine blk_drew ?_ | refine bkA ?_ _)); exact BK315.out) hb); have n8_ := aMk (below_step (by repeat (first | (with_reducible first | exact HB.out | apply bAl | apply bDn | apply bD1 | refine bSe ?_ GE283.out | refine bSe ?_ GE299.out | refine bSe ?_ GE305.out | refine bSe ?_ GE315.out) | exact HB.out)) hb); clear HO_300002; clear HO_306002; clear HO_316002; clear BK283; clear BK299; clear BK305; clear BK315; clear HB; have HO_300002 := n0_; have HO_306002 := n1_; have HO_316002 := n2_; have HO339 := n3_; have BK283 := n4_; have BK299 := n5_; have BK305 := n6_; have BK315 := n7_; have HB := n8_; clear n0_ n1_ n2_ n3_ n4_ n5_ n6_ n7_ n8_; (try clear hb); (try clear hb2); (try clear hk); (try clear hi); (try clear ho0)) | ((with_reducible refine gate_callee (f := 19) rfl ?_); refine goesL_ (some 96) rfl rfl Try.func19 (by kernel_rfl) rfl #[.slice A1 l1.length c1] rfl (by (try simp only [List.map_toArray, List.map_cons, List.map_nil]); first | done | rfl | (simp only [List.length_drop, List.length_take]; rfl)) ?_; (with_reducible refine (laws_toByteS.calls kj73 _ _ l1 t340 _ ?side1 ?side2 A119.out).mono ?_); (case side1 => repeat (first | exact (Kd.C_below HR1.out HB.out) | (with_reducible refine Kd.C_alloc ?_ _) | (with_reducible refine Kd.C_drewN ?_ _) | (with_reducible refine Kd.C_drew ?_))); (case side2 => exact HC1.out); rintro e w133 ⟨v341, rfl, ho0, hb⟩; refine ⟨_, rfl, ?_⟩; have n0_ := aMk (Kd.R_elder' (by (with_reducible repeat (first | apply Kd.R_alloc | apply Kd.R_drewN | apply Kd.R_drew)); exact HO_300002.out) (Kd.R_base ho0) hb); have n1_ := aMk (Kd.R_elder' (by (with_reducible repeat (first | apply Kd.R_alloc | apply Kd.R_drewN | apply Kd.R_drew)); exact HO_306002.out) (Kd.R_base ho0) hb); have n2_ := aMk (Kd.R_elder' (by (with_reducible repeat (first | apply Kd.R_alloc | apply Kd.R_drewN | apply Kd.R_drew)); exact HO_316002.out) (Kd.R_base ho0) hb); have n3_ := aMk (Kd.R_elder' (by (with_reducible repeat (first | apply Kd.R_alloc | apply Kd.R_drewN | apply Kd.R_drew)); exact HO339.out) (Kd.R_base ho0) hb); have n4_ := aMk (Kd.R_lower (Kd.R_new' (Kd.R_new' (Kd.R_new' (Kd.R_new' ho0 (Kd.R_lt (by (with_reducible repeat (first | apply Kd.R_alloc | apply Kd.R_drewN | apply Kd.R_drew)); exact HO_300002.out))) (Kd.R_lt (by (with_reducible repeat (first | apply Kd.R_alloc | apply Kd.R_drewN | apply Kd.R_drew)); exact HO_306002.out))) (Kd.R_lt (by (with_reducible repeat (first | apply Kd.R_alloc | apply Kd.R_drewN | apply Kd.R_drew)); exact HO_316002.out))) (Kd.R_lt (by (with_reducible repeat (first | apply Kd.R_alloc | apply Kd.R_drewN | apply Kd.R_drew)); exact HO339.out))) (below_size (by repeat (first | (with_reducible first | exact HB.out | apply bAl | apply bDn | apply bD1 | refine bSe ?_ GE283.out | refine bSe ?_ GE299.out | refine bSe ?_ GE305.out | refine bSe ?_ GE315.out) | exact HB.out)))); have n5_ := aMk (blk_below (g := gb283) (o := .cells #[.int .i64 a0_0, .bool a0_1, .slice A0_2 l0_2.length c0_2] 35 (0, 0)) (by (with_reducible repeat (first | refine bkD ?_ _ | refine blk_drew ?_ | refine bkA ?_ _)); exact BK283.out) hb); have n6_ := aMk (blk_below (g := gb299) (o := .cells #[.int .i64 t293, .bool t294, .slice Ao29 t295.length co29] 38 (0, 0)) (by (with_reducible repeat (first | refine bkD ?_ _ | refine blk_drew ?_ | refine bkA ?_ _)); exact BK299.out) hb); have n7_ := aMk (blk_below (g := gb305) (o := .cells #[.int .i64 t300, .bool t301, .slice Ao36 t328.length co36] 38 (0, 0)) (by (with_reducible repeat (first | refine bkD ?_ _ | refine blk_drew ?_ | refine bkA ?_ _)); exact BK305.out) hb); have n8_ := aMk (blk_below (g := gb315) (o := .cells #[.int .i64 t309, .bool t310, .slice Ao46 t311.length co46] 38 (0, 0)) (by (with_reducible repeat (first | refine bkD ?_ _ | refine blk_drew ?_ | refine bkA ?_ _)); exact BK315.out) hb); have n9_ := aMk (below_step (by repeat (first | (with_reducible first | exact HB.out | apply bAl | apply bDn | apply bD1 | refine bSe ?_ GE283.out | refine bSe ?_ GE299.out | refine bSe ?_ GE305.out | refine bSe ?_ GE315.out) | exact HB.out)) hb); clear HO_300002; clear HO_306002; clear HO_316002; clear HO339; clear BK283; clear BK299; clear BK305; clear BK315; clear HB; have HO_300002 := n0_; have HO_306002 := n1_; have HO_316002 := n2_; have HO339 := n3_; have HO342 := n4_; have BK283 := n5_; have BK299 := n6_; have BK305 := n7_; have BK315 := n8_; have HB := n9_; clear n0_ n1_ n2_ n3_ n4_ n5_ n6_ n7_ n8_ n9_; (try clear hb); (try clear hb2); (try clear hk); (try clear hi); (try clear ho0); obtain ⟨Ao134, co134, eo134⟩ := Kd.R_slice HO339.out; subst eo134; obtain ⟨Ao135, co135, eo135⟩ := Kd.R_slice HO342.out; subst eo135) | ((with_reducible refine gate_callee (f := 27) rfl ?_); refine goesL_ (some 97) rfl rfl Try.func27 (by kernel_rfl) rfl #[.agg #[.int .i64 t335, .bool t336, .slice Ao134 t337.length co134], .slice Ao135 t340.length co135] rfl (by (try simp only [List.map_toArray, List.map_cons, List.map_nil]); first | done | rfl | (simp only [List.length_drop, List.length_take]; rfl)) ?_; (with_reducible refine (impl_FeedMore.calls kj73 t335 t336 _ _ t337 _ _ t340 t343 t344 t345 t348 _ ?side1 ?side2 ?side3 ?side4 A120.out).mono ?_); (case side1 => repeat (first | exact (Kd.R_reads' HO339.out).2.2 | (with_reducible refine Kd.C_alloc ?_ _) | (with_reducible refine Kd.C_drewN ?_ _) | (with_reducible refine Kd.C_drew ?_))); (case side2 => exact (Kd.R_reads' HO339.out).2.1); (case side3 => repeat (first | exact (Kd.R_reads' HO342.out).2.2 | (with_reducible refine Kd.C_alloc ?_ _) | (with_reducible refine Kd.C_drewN ?_ _) | (with_reducible refine Kd.C_drew ?_))); (case side4 => exact (Kd.R_reads' HO342.out).2.1); rintro e w136 ⟨v346, rfl, ho0, hb⟩; refine ⟨_, rfl, ?_⟩; have n0_ := aMk (Kd.R_elder' (by (with_reducible repeat (first | apply Kd.R_alloc | apply Kd.R_drewN | apply Kd.R_drew)); exact HO_300002.out) (Kd.R_base ho0) hb); have n1_ := aMk (Kd.R_elder' (by (with_reducible repeat (first | apply Kd.R_alloc | apply Kd.R_drewN | apply Kd.R_drew)); exact HO_306002.out) (Kd.R_base ho0) hb); have n2_ := aMk (Kd.R_elder' (by (with_reducible repeat (first | apply Kd.R_alloc | apply Kd.R_drewN | apply Kd.R_drew)); exact HO_316002.out) (Kd.R_base ho0) hb); have n3_ := aMk (Kd.R_elder' (by (with_reducible repeat (first | apply Kd.R_alloc | apply Kd.R_drewN | apply Kd.R_drew)); exact HO339.out) (Kd.R_base ho0) hb); have n4_ := aMk (Kd.R_elder' (by (with_reducible repeat (first | apply Kd.R_alloc | apply Kd.R_drewN | apply Kd.R_drew)); exact HO342.out) (Kd.R_base ho0) hb); have n5_ := aMk (Kd.R_lower (Kd.R_new' (Kd.R_new' (Kd.R_new' (Kd.R_new' (Kd.R_new' ho0 (Kd.R_lt (by (with_reducible repeat (first | apply Kd.R_alloc | apply Kd.R_drewN | apply Kd.R_drew)); exact HO_300002.out))) (Kd.R_lt (by (with_reducible repeat (first | apply Kd.R_alloc | apply Kd.R_drewN | apply Kd.R_drew)); exact HO_306002.out))) (Kd.R_lt (by (with_reducible repeat (first | apply Kd.R_alloc | apply Kd.R_drewN | apply Kd.R_drew)); exact HO_316002.out))) (Kd.R_lt (by (with_reducible repeat (first | apply Kd.R_alloc | apply Kd.R_drewN | apply Kd.R_drew)); exact HO339.out))) (Kd.R_lt (by (with_reducible repeat (first | apply Kd.R_alloc | apply Kd.R_drewN | apply Kd.R_drew)); exact HO342.out))) (below_size (by repeat (first | (with_reducible first | exact HB.out | apply bAl | apply bDn | apply bD1 | refine bSe ?_ GE283.out | refine bSe ?_ GE299.out | refine bSe ?_ GE305.out | refine bSe ?_ GE315.out) | exact HB.out)))); have n6_ := aMk (blk_below (g := gb283) (o := .cells #[.int .i64 a0_0, .bool a0_1, .slice A0_2 l0_2.length c0_2] 35 (0, 0)) (by (with_reducible repeat (first | refine bkD ?_ _ | refine blk_drew ?_ | refine bkA ?_ _)); exact BK283.out) hb); have n7_ := aMk (blk_below (g := gb299) (o := .cells #[.int .i64 t293, .bool t294, .slice Ao29 t295.length co29] 38 (0, 0)) (by (with_reducible repeat (first | refine bkD ?_ _ | refine blk_drew ?_ | refine bkA ?_ _)); exact BK299.out) hb); have n8_ := aMk (blk_below (g := gb305) (o := .cells #[.int .i64 t300, .bool t301, .slice Ao36 t328.length co36] 38 (0, 0)) (by (with_reducible repeat (first | refine bkD ?_ _ | refine blk_drew ?_ | refine bkA ?_ _)); exact BK305.out) hb); have n9_ := aMk (blk_below (g := gb315) (o := .cells #[.int .i64 t309, .bool t310, .slice Ao46 t311.length co46] 38 (0, 0)) (by (with_reducible repeat (first | refine bkD ?_ _ | refine blk_drew ?_ | refine bkA ?_ _)); exact BK315.out) hb); have n10_ := aMk (below_step (by repeat (first | (with_reducible first | exact HB.out | apply bAl | apply bDn | apply bD1 | refine bSe ?_ GE283.out | refine bSe ?_ GE299.out | refine bSe ?_ GE305.out | refine bSe ?_ GE315.out) | exact HB.out)) hb); clear HO_300002; clear HO_306002; clear HO_316002; clear HO339; clear HO342; clear BK283; clear BK299; clear BK305; clear BK315; clear HB; have HO_300002 := n0_; have HO_306002 := n1_; have HO_316002 := n2_; have HO339 := n3_; have HO342 := n4_; have HO347 := n5_; have BK283 := n6_; have BK299 := n7_; have BK305 := n8_; have BK315 := n9_; have HB := n10_; clear n0_ n1_ n2_ n3_ n4_ n5_ n6_ n7_ n8_ n9_ n10_; (try clear hb); (try clear hb2); (try clear hk); (try clear hi); (try clear ho0)) | ((with_reducible refine gate_dst (N := 15) rfl ?_); refine box_event ?hg (N := 15) ?hd (cs := #[.int .i64 0, .bool false, .slice none 0 0]) (t := 38) ?hr ?_; (case hd => rfl); (case hg => rfl); (case hr => first | (go_simp; done) | (go_simp; rfl)); intro gb349 hg w137 hbox hb; have n0_ := aMk (Kd.R_below (by (with_reducible repeat (first | apply Kd.R_alloc | apply Kd.R_drewN | apply Kd.R_drew)); exact HO_300002.out) hb); have n1_ := aMk (Kd.R_below (by (with_reducible repeat (first | apply Kd.R_alloc | apply Kd.R_drewN | apply Kd.R_drew)); exact HO_306002.out) hb); have n2_ := aMk (Kd.R_below (by (with_reducible repeat (first | apply Kd.R_alloc | apply Kd.R_drewN | apply Kd.R_drew)); exact HO_316002.out) hb); have n3_ := aMk (Kd.R_below (by (with_reducible repeat (first | apply Kd.R_alloc | apply Kd.R_drewN | apply Kd.R_drew)); exact HO339.out) hb); have n4_ := aMk (Kd.R_below (by (with_reducible repeat (first | apply Kd.R_alloc | apply Kd.R_drewN | apply Kd.R_drew)); exact HO342.out) hb); have n5_ := aMk (Kd.R_below (by (with_reducible repeat (first | apply Kd.R_alloc | apply Kd.R_drewN | apply Kd.R_drew)); exact HO347.out) hb); have n6_ := aMk (blk_below (g := gb283) (o := .cells #[.int .i64 a0_0, .bool a0_1, .slice A0_2 l0_2.length c0_2] 35 (0, 0)) (by (with_reducible repeat (first | refine bkD ?_ _ | refine blk_drew ?_ | refine bkA ?_ _)); exact BK283.out) hb); have n7_ := aMk (blk_below (g := gb299) (o := .cells #[.int .i64 t293, .bool t294, .slice Ao29 t295.length co29] 38 (0, 0)) (by (with_reducible repeat (first | refine bkD ?_ _ | refine blk_drew ?_ | refine bkA ?_ _)); exact BK299.out) hb); have n8_ := aMk (blk_below (g := gb305) (o := .cells #[.int .i64 t300, .bool t301, .slice Ao36 t328.length co36] 38 (0, 0)) (by (with_reducible repeat (first | refine bkD ?_ _ | refine blk_drew ?_ | refine bkA ?_ _)); exact BK305.out) hb); have n9_ := aMk (blk_below (g := gb315) (o := .cells #[.int .i64 t309, .bool t310, .slice Ao46 t311.length co46] 38 (0, 0)) (by (with_reducible repeat (first | refine bkD ?_ _ | refine blk_drew ?_ | refine bkA ?_ _)); exact BK315.out) hb); have n10_ := aMk (below_step (by repeat (first | (with_reducible first | exact HB.out | apply bAl | apply bDn | apply bD1 | refine bSe ?_ GE283.out | refine bSe ?_ GE299.out | refine bSe ?_ GE305.out | refine bSe ?_ GE315.out) | exact HB.out)) hb); have n11_ := aMk (hbox); have n12_ := aMk ((by rw [hg]; exact (below_size (by repeat (first | (with_reducible first | exact HB.out | apply bAl | apply bDn | apply bD1 | refine bSe ?_ GE283.out | refine bSe ?_ GE299.out | refine bSe ?_ GE305.out | refine bSe ?_ GE315.out) | exact HB.out))) : w.heap.size ≤ gb349)); have n13_ := aMk ((by rw [hg]; exact (below_size (by repeat (first | (with_reducible first | exact HB.out | apply bAl | apply bDn | apply bD1 | refine bSe ?_ GE283.out | refine bSe ?_ GE299.out | refine bSe ?_ GE305.out | refine bSe ?_ GE315.out) | exact HB.out))) : w.heap.size ≤ gb349)); have n14_ := aMk ((by rw [hg]; exact Nat.ne_of_lt (blk_lt (g := gb283) (o := .cells #[.int .i64 a0_0, .bool a0_1, .slice A0_2 l0_2.length c0_2] 35 (0, 0)) (by (with_reducible repeat (first | refine bkD ?_ _ | refine blk_drew ?_ | refine bkA ?_ _)); exact BK283.out)) : gb283 ≠ gb349)); have n15_ := aMk ((by rw [hg]; exact Nat.ne_of_gt (blk_lt (g := gb283) (o := .cells #[.int .i64 a0_0, .bool a0_1, .slice A0_2 l0_2.length c0_2] 35 (0, 0)) (by (with_reducible repeat (first | refine bkD ?_ _ | refine blk_drew ?_ | refine bkA ?_ _)); exact BK283.out)) : gb349 ≠ gb283)); have n16_ := aMk ((by rw [hg]; exact Nat.ne_of_lt (blk_lt (g := gb299) (o := .cells #[.int .i64 t293, .bool t294, .slice Ao29 t295.length co29] 38 (0, 0)) (by (with_reducible repeat (first | refine bkD ?_ _ | refine blk_drew ?_ | refine bkA ?_ _)); exact BK299.out)) : gb299 ≠ gb349)); have n17_ := aMk ((by rw [hg]; exact Nat.ne_of_gt (blk_lt (g := gb299) (o := .cells #[.int .i64 t293, .bool t294, .slice Ao29 t295.length co29] 38 (0, 0)) (by (with_reducible repeat (first | refine bkD ?_ _ | refine blk_drew ?_ | refine bkA ?_ _)); exact BK299.out)) : gb349 ≠ gb299)); have n18_ := aMk ((by rw [hg]; exact Nat.ne_of_lt (blk_lt (g := gb305) (o := .cells #[.int .i64 t300, .bool t301, .slice Ao36 t328.length co36] 38 (0, 0)) (by (with_reducible repeat (first | refine bkD ?_ _ | refine blk_drew ?_ | refine bkA ?_ _)); exact BK305.out)) : gb305 ≠ gb349)); have n19_ := aMk ((by rw [hg]; exact Nat.ne_of_gt (blk_lt (g := gb305) (o := .cells #[.int .i64 t300, .bool t301, .slice Ao36 t328.length co36] 38 (0, 0)) (by (with_reducible repeat (first | refine bkD ?_ _ | refine blk_drew ?_ | refine bkA ?_ _)); exact BK305.out)) : gb349 ≠ gb305)); have n20_ := aMk ((by rw [hg]; exact Nat.ne_of_lt (blk_lt (g := gb315) (o := .cells #[.int .i64 t309, .bool t310, .slice Ao46 t311.length co46] 38 (0, 0)) (by (with_reducible repeat (first | refine bkD ?_ _ | refine blk_drew ?_ | refine bkA ?_ _)); exact BK315.out)) : gb315 ≠ gb349)); have n21_ := aMk ((by rw [hg]; exact Nat.ne_of_gt (blk_lt (g := gb315) (o := .cells #[.int .i64 t309, .bool t310, .slice Ao46 t311.length co46] 38 (0, 0)) (by (with_reducible repeat (first | refine bkD ?_ _ | refine blk_drew ?_ | refine bkA ?_ _)); exact BK315.out)) : gb349 ≠ gb315)); clear HO_300002; clear HO_306002; clear HO_316002; clear HO339; clear HO342; clear HO347; clear BK283; clear BK299; clear BK305; clear BK315; clear HB; have HO_300002 := n0_; have HO_306002 := n1_; have HO_316002 := n2_; have HO339 := n3_; have HO342 := n4_; have HO347 := n5_; have BK283 := n6_; have BK299 := n7_; have BK305 := n8_; have BK315 := n9_; have HB := n10_; have BK349 := n11_; have GW349 := n12_; have GE349 := n13_; have NB283_349 := n14_; have NB349_283 := n15_; have NB299_349 := n16_; have NB349_299 := n17_; have NB305_349 := n18_; have NB349_305 := n19_; have NB315_349 := n20_; have NB349_315 := n21_; clear n0_ n1_ n2_ n3_ n4_ n5_ n6_ n7_ n8_ n9_ n10_ n11_ n12_ n13_ n14_ n15_ n16_ n17_ n18_ n19_ n20_ n21_; clear hb hbox hg; have hnb138 := NB349_283.out; have hnc138 := NB283_349.out; have hnb139 := NB349_299.out; have hnc139 := NB299_349.out; have hnb140 := NB349_305.out; have hnc140 := NB305_349.out; have hnb141 := NB349_315.out; have hnc141 := NB315_349.out; have hcz142_0 : w137.cell? ⟨gb349, 0, none⟩ = some (.int .i64 0) := (bCe BK349.out 0).trans rfl; have hcz142_1 : w137.cell? ⟨gb349, 1, none⟩ = some (.bool false) := (bCe BK349.out 1).trans rfl; have hcz142_2 : w137.cell? ⟨gb349, 2, none⟩ = some (.slice none 0 0) := (bCe BK349.out 2).trans rfl; have hfz142_0 := bFr BK349.out 0; have hfz142_1 := bFr BK349.out 1; have hfz142_2 := bFr BK349.out 2; obtain ⟨Ao143, co143, eo143⟩ := Kd.R_slice HO347.out; subst eo143))
                     (try simp only [Act.put, lSa, lSz, lSs])
                     go_cut [108] (fun v108 wc => ∃ (kq : Nat) (x108_120 : Bool), v108 = .bool x108_120 ∧ Aside0 (laws_FnExactFeedMore.j2 kq t332 x108_120 t309 t310 t333 = some r) ∧ Aside0 (kq ≤ kj73) ∧ Aside0 (Kd.R (Kd.int .u8) 5 wc w.heap.size (fun k_ => some k_ ≠ ((.slice Ao36 t328.length co36) : Value).ownBlock ∧ some k_ ≠ ((.slice Ao46 t311.length co46) : Value).ownBlock ∧ some k_ ≠ ((.slice Ao143 t345.length co143) : Value).ownBlock) (.slice Ao29 t295.length co29) t295) ∧ Aside0 (Kd.R (Kd.int .u8) 5 wc w.heap.size (fun k_ => some k_ ≠ ((.slice Ao29 t295.length co29) : Value).ownBlock ∧ some k_ ≠ ((.slice Ao46 t311.length co46) : Value).ownBlock ∧ some k_ ≠ ((.slice Ao143 t345.length co143) : Value).ownBlock) (.slice Ao36 t328.length co36) t328) ∧ Aside0 (Kd.R (Kd.int .u8) 5 wc w.heap.size (fun k_ => some k_ ≠ ((.slice Ao29 t295.length co29) : Value).ownBlock ∧ some k_ ≠ ((.slice Ao36 t328.length co36) : Value).ownBlock ∧ some k_ ≠ ((.slice Ao143 t345.length co143) : Value).ownBlock) (.slice Ao46 t311.length co46) t333) ∧ Aside0 (Kd.R (Kd.int .u8) 5 wc w.heap.size (fun k_ => some k_ ≠ ((.slice Ao29 t295.length co29) : Value).ownBlock ∧ some k_ ≠ ((.slice Ao36 t328.length co36) : Value).ownBlock ∧ some k_ ≠ ((.slice Ao46 t311.length co46) : Value).ownBlock) (.slice Ao143 t345.length co143) t345) ∧ Aside0 (wc.heap[gb283]? = some (.cells #[.int .i64 a0_0, .bool a0_1, (.slice A0_2 l0_2.length c0_2)] 35 (0, 0))) ∧ Aside0 (wc.heap[gb299]? = some (.cells #[.int .i64 t293, .bool t294, (.slice Ao29 t295.length co29)] 38 (0, 0))) ∧ Aside0 (wc.heap[gb305]? = some (.cells #[.int .i64 t300, .bool t301, (.slice Ao36 t328.length co36)] 38 (0, 0))) ∧ Aside0 (wc.heap[gb315]? = some (.cells #[.int .i64 t309, .bool t310, (.slice Ao46 t311.length co46)] 38 (0, 0))) ∧ Aside0 (wc.heap[gb349]? = some (.cells #[.int .i64 t343, .bool t344, (.slice Ao143 t345.length co143)] 38 (0, 0))) ∧ Aside0 (Below w.heap.size w wc))
                     case first =>
                      have H := HC121.out
                      clear HC121
                      replace H := oBm H
                      obtain ⟨t350, A1440, H⟩ := H
                      replace H : (if t350 = true then (laws_FnExactFeedMore.j2 kj73 t332 (t348.toList != t298.toList) t309 t310 t333) else (laws_FnExactFeedMore.j2 kj73 t332 true t309 t310 t333)) = some r := H
                      have A144 := aMk A1440
                      clear A1440
                      by_cases c145 : t350 = true
                      · subst c145
                        have H1 : (laws_FnExactFeedMore.j2 kj73 t332 (t348.toList != t298.toList) t309 t310 t333) = some r := by rw [if_pos rfl] at H; exact H
                        clear H
                        have H := H1
                        clear H1
                        have H' := aMk H
                        clear H
                        have hnb146 := NB349_283.out
                        have hnc146 := NB283_349.out
                        have hnb147 := NB349_299.out
                        have hnc147 := NB299_349.out
                        have hnb148 := NB349_305.out
                        have hnc148 := NB305_349.out
                        have hnb149 := NB349_315.out
                        have hnc149 := NB315_349.out
                        have hcz150_0 : w137.cell? ⟨gb349, 0, none⟩ = some (.int .i64 0) := (bCe BK349.out 0).trans rfl
                        have hcz150_1 : w137.cell? ⟨gb349, 1, none⟩ = some (.bool false) := (bCe BK349.out 1).trans rfl
                        have hcz150_2 : w137.cell? ⟨gb349, 2, none⟩ = some (.slice none 0 0) := (bCe BK349.out 2).trans rfl
                        have hfz150_0 := bFr BK349.out 0
                        have hfz150_1 := bFr BK349.out 1
                        have hfz150_2 := bFr BK349.out 2
                        have hnb151 := NB299_283.out
                        have hnc151 := NB283_299.out
                        have hnb152 := NB299_305.out
                        have hnc152 := NB305_299.out
                        have hnb153 := NB299_315.out
                        have hnc153 := NB315_299.out
                        have hcz154_0 : w137.cell? ⟨gb299, 0, none⟩ = some (.int .i64 t293) := (bCe BK299.out 0).trans rfl
                        have hcz154_1 : w137.cell? ⟨gb299, 1, none⟩ = some (.bool t294) := (bCe BK299.out 1).trans rfl
                        have hcz154_2 : w137.cell? ⟨gb299, 2, none⟩ = some (.slice Ao29 t295.length co29) := (bCe BK299.out 2).trans rfl
                        have hfz154_0 := bFr BK299.out 0
                        have hfz154_1 := bFr BK299.out 1
                        have hfz154_2 := bFr BK299.out 2
                        go_wp2_with (first | ((with_reducible refine gate_callee (f := 25) rfl ?_); refine goesL_ (some 102) rfl rfl Try.func25 (by kernel_rfl) rfl #[.agg #[.int .i64 t343, .bool t344, .slice Ao143 t345.length co143], .agg #[.int .i64 t293, .bool t294, .slice Ao29 t295.length co29]] rfl (by (try simp only [List.map_toArray, List.map_cons, List.map_nil]); first | done | rfl | (simp only [List.length_drop, List.length_take]; rfl)) ?_; (with_reducible refine (laws_eqFeed.calls kj73 t343 t344 _ _ t345 t293 t294 _ _ t295 true _ ?side1 ?side2 ?side3 ?side4 A144.out).mono ?_); (case side1 => refine (Kd.R_reads' (e := 5) (base := w.heap.size) (ok := fun k_ => (((((True ∧ some k_ ≠ (.slice Ao29 t295.length co29 : Value).ownBlock) ∧ some k_ ≠ (.slice Ao36 t328.length co36 : Value).ownBlock) ∧ some k_ ≠ (.slice Ao46 t311.length co46 : Value).ownBlock) ∧ some k_ ≠ (.slice Ao134 t337.length co134 : Value).ownBlock) ∧ some k_ ≠ (.slice Ao135 t340.length co135 : Value).ownBlock)) (n := t345.length) (c := co143) ?_).2.2; exact (by (with_reducible repeat (first | apply Kd.R_alloc | apply Kd.R_drewN | apply Kd.R_drew)); exact (Kd.R_mono (Kd.R_far (p := ⟨gb349, 2, none⟩) (Kd.R_far (p := ⟨gb349, 1, none⟩) (Kd.R_far (p := ⟨gb349, 0, none⟩) (Kd.R_types HO347.out BK349.out (by decide)) (fun _ hk => hk.2) (.int .i64 t343)) (fun _ hk => hk.2) (.bool t344)) (fun _ hk => hk.2) (.slice Ao143 t345.length co143)) (fun _ h_ => h_.1)))); (case side2 => exact (Kd.R_reads' HO347.out).2.1); (case side3 => refine (Kd.R_reads' (e := 5) (base := w.heap.size) (ok := fun k_ => ((((some k_ ≠ (.slice Ao36 t328.length co36 : Value).ownBlock ∧ some k_ ≠ (.slice Ao46 t311.length co46 : Value).ownBlock) ∧ some k_ ≠ (.slice Ao134 t337.length co134 : Value).ownBlock) ∧ some k_ ≠ (.slice Ao135 t340.length co135 : Value).ownBlock) ∧ some k_ ≠ (.slice Ao143 t345.length co143 : Value).ownBlock)) (n := t295.length) (c := co29) ?_).2.2; exact (by (with_reducible repeat (first | apply Kd.R_alloc | apply Kd.R_drewN | apply Kd.R_drew)); exact (Kd.R_mono (Kd.R_far (p := ⟨gb349, 2, none⟩) (Kd.R_far (p := ⟨gb349, 1, none⟩) (Kd.R_far (p := ⟨gb349, 0, none⟩) (Kd.R_types HO_300002.out BK349.out (by decide)) (fun _ hk => hk.2) (.int .i64 t343)) (fun _ hk => hk.2) (.bool t344)) (fun _ hk => hk.2) (.slice Ao143 t345.length co143)) (fun _ h_ => h_.1)))); (case side4 => exact (Kd.R_reads' HO_300002.out).2.1); rintro e w155 ⟨rfl, hb⟩; refine ⟨_, rfl, ?_⟩; have n0_ := aMk (Kd.R_below (by (with_reducible repeat (first | apply Kd.R_alloc | apply Kd.R_drewN | apply Kd.R_drew)); exact (Kd.R_mono (Kd.R_far (p := ⟨gb349, 2, none⟩) (Kd.R_far (p := ⟨gb349, 1, none⟩) (Kd.R_far (p := ⟨gb349, 0, none⟩) (Kd.R_types HO_300002.out BK349.out (by decide)) (fun _ hk => hk.2) (.int .i64 t343)) (fun _ hk => hk.2) (.bool t344)) (fun _ hk => hk.2) (.slice Ao143 t345.length co143)) (fun _ h_ => h_.1))) hb); have n1_ := aMk (Kd.R_below (by (with_reducible repeat (first | apply Kd.R_alloc | apply Kd.R_drewN | apply Kd.R_drew)); exact (Kd.R_mono (Kd.R_far (p := ⟨gb349, 2, none⟩) (Kd.R_far (p := ⟨gb349, 1, none⟩) (Kd.R_far (p := ⟨gb349, 0, none⟩) (Kd.R_types HO_306002.out BK349.out (by decide)) (fun _ hk => hk.2) (.int .i64 t343)) (fun _ hk => hk.2) (.bool t344)) (fun _ hk => hk.2) (.slice Ao143 t345.length co143)) (fun _ h_ => h_.1))) hb); have n2_ := aMk (Kd.R_below (by (with_reducible repeat (first | apply Kd.R_alloc | apply Kd.R_drewN | apply Kd.R_drew)); exact (Kd.R_mono (Kd.R_far (p := ⟨gb349, 2, none⟩) (Kd.R_far (p := ⟨gb349, 1, none⟩) (Kd.R_far (p := ⟨gb349, 0, none⟩) (Kd.R_types HO_316002.out BK349.out (by decide)) (fun _ hk => hk.2) (.int .i64 t343)) (fun _ hk => hk.2) (.bool t344)) (fun _ hk => hk.2) (.slice Ao143 t345.length co143)) (fun _ h_ => h_.1))) hb); have n3_ := aMk (Kd.R_below (by (with_reducible repeat (first | apply Kd.R_alloc | apply Kd.R_drewN | apply Kd.R_drew)); exact (Kd.R_mono (Kd.R_far (p := ⟨gb349, 2, none⟩) (Kd.R_far (p := ⟨gb349, 1, none⟩) (Kd.R_far (p := ⟨gb349, 0, none⟩) (Kd.R_types HO339.out BK349.out (by decide)) (fun _ hk => hk.2) (.int .i64 t343)) (fun _ hk => hk.2) (.bool t344)) (fun _ hk => hk.2) (.slice Ao143 t345.length co143)) (fun _ h_ => h_.1))) hb); have n4_ := aMk (Kd.R_below (by (with_reducible repeat (first | apply Kd.R_alloc | apply Kd.R_drewN | apply Kd.R_drew)); exact (Kd.R_mono (Kd.R_far (p := ⟨gb349, 2, none⟩) (Kd.R_far (p := ⟨gb349, 1, none⟩) (Kd.R_far (p := ⟨gb349, 0, none⟩) (Kd.R_types HO342.out BK349.out (by decide)) (fun _ hk => hk.2) (.int .i64 t343)) (fun _ hk => hk.2) (.bool t344)) (fun _ hk => hk.2) (.slice Ao143 t345.length co143)) (fun _ h_ => h_.1))) hb); have n5_ := aMk (Kd.R_below (by (with_reducible repeat (first | apply Kd.R_alloc | apply Kd.R_drewN | apply Kd.R_drew)); exact (Kd.R_mono (Kd.R_far (p := ⟨gb349, 2, none⟩) (Kd.R_far (p := ⟨gb349, 1, none⟩) (Kd.R_far (p := ⟨gb349, 0, none⟩) (Kd.R_types HO347.out BK349.out (by decide)) (fun _ hk => hk.2) (.int .i64 t343)) (fun _ hk => hk.2) (.bool t344)) (fun _ hk => hk.2) (.slice Ao143 t345.length co143)) (fun _ h_ => h_.1))) hb); have n6_ := aMk (blk_below (g := gb283) (o := .cells #[.int .i64 a0_0, .bool a0_1, .slice A0_2 l0_2.length c0_2] 35 (0, 0)) (by (with_reducible repeat (first | refine bkD ?_ _ | refine blk_drew ?_ | refine bkA ?_ _)); refine blk_far ?_ NB283_349.out _; (with_reducible repeat (first | refine bkD ?_ _ | refine blk_drew ?_ | refine bkA ?_ _)); refine blk_far ?_ NB283_349.out _; (with_reducible repeat (first | refine bkD ?_ _ | refine blk_drew ?_ | refine bkA ?_ _)); refine blk_far ?_ NB283_349.out _; (with_reducible repeat (first | refine bkD ?_ _ | refine blk_drew ?_ | refine bkA ?_ _)); exact BK283.out) hb); have n7_ := aMk (blk_below (g := gb299) (o := .cells #[.int .i64 t293, .bool t294, .slice Ao29 t295.length co29] 38 (0, 0)) (by (with_reducible repeat (first | refine bkD ?_ _ | refine blk_drew ?_ | refine bkA ?_ _)); refine blk_far ?_ NB299_349.out _; (with_reducible repeat (first | refine bkD ?_ _ | refine blk_drew ?_ | refine bkA ?_ _)); refine blk_far ?_ NB299_349.out _; (with_reducible repeat (first | refine bkD ?_ _ | refine blk_drew ?_ | refine bkA ?_ _)); refine blk_far ?_ NB299_349.out _; (with_reducible repeat (first | refine bkD ?_ _ | refine blk_drew ?_ | refine bkA ?_ _)); exact BK299.out) hb); have n8_ := aMk (blk_below (g := gb305) (o := .cells #[.int .i64 t300, .bool t301, .slice Ao36 t328.length co36] 38 (0, 0)) (by (with_reducible repeat (first | refine bkD ?_ _ | refine blk_drew ?_ | refine bkA ?_ _)); refine blk_far ?_ NB305_349.out _; (with_reducible repeat (first | refine bkD ?_ _ | refine blk_drew ?_ | refine bkA ?_ _)); refine blk_far ?_ NB305_349.out _; (with_reducible repeat (first | refine bkD ?_ _ | refine blk_drew ?_ | refine bkA ?_ _)); refine blk_far ?_ NB305_349.out _; (with_reducible repeat (first | refine bkD ?_ _ | refine blk_drew ?_ | refine bkA ?_ _)); exact BK305.out) hb); have n9_ := aMk (blk_below (g := gb315) (o := .cells #[.int .i64 t309, .bool t310, .slice Ao46 t311.length co46] 38 (0, 0)) (by (with_reducible repeat (first | refine bkD ?_ _ | refine blk_drew ?_ | refine bkA ?_ _)); refine blk_far ?_ NB315_349.out _; (with_reducible repeat (first | refine bkD ?_ _ | refine blk_drew ?_ | refine bkA ?_ _)); refine blk_far ?_ NB315_349.out _; (with_reducible repeat (first | refine bkD ?_ _ | refine blk_drew ?_ | refine bkA ?_ _)); refine blk_far ?_ NB315_349.out _; (with_reducible repeat (first | refine bkD ?_ _ | refine blk_drew ?_ | refine bkA ?_ _)); exact BK315.out) hb); have n10_ := aMk (blk_below (g := gb349) (o := .cells #[.int .i64 t343, .bool t344, .slice Ao143 t345.length co143] 38 (0, 0)) (by (with_reducible repeat (first | refine bkD ?_ _ | refine blk_drew ?_ | refine bkA ?_ _)); refine blk_put (cs := #[.int .i64 t343, .bool t344, .slice none 0 0]) ?_ 2 _ rfl; (with_reducible repeat (first | refine bkD ?_ _ | refine blk_drew ?_ | refine bkA ?_ _)); refine blk_put (cs := #[.int .i64 t343, .bool false, .slice none 0 0]) ?_ 1 _ rfl; (with_reducible repeat (first | refine bkD ?_ _ | refine blk_drew ?_ | refine bkA ?_ _)); refine blk_put (cs := #[.int .i64 0, .bool false, .slice none 0 0]) ?_ 0 _ rfl; (with_reducible repeat (first | refine bkD ?_ _ | refine blk_drew ?_ | refine bkA ?_ _)); exact BK349.out) hb); have n11_ := aMk (below_step (by repeat (first | (with_reducible first | exact HB.out | apply bAl | apply bDn | apply bD1 | refine bSe ?_ GE283.out | refine bSe ?_ GE299.out | refine bSe ?_ GE305.out | refine bSe ?_ GE315.out | refine bSe ?_ GE349.out) | exact HB.out)) hb); clear HO_300002; clear HO_306002; clear HO_316002; clear HO339; clear HO342; clear HO347; clear BK283; clear BK299; clear BK305; clear BK315; clear BK349; clear HB; have HO_300002 := n0_; have HO_306002 := n1_; have HO_316002 := n2_; have HO339 := n3_; have HO342 := n4_; have HO347 := n5_; have BK283 := n6_; have BK299 := n7_; have BK305 := n8_; have BK315 := n9_; have BK349 := n10_; have HB := n11_; clear n0_ n1_ n2_ n3_ n4_ n5_ n6_ n7_ n8_ n9_ n10_ n11_; (try clear hb); (try clear hb2); (try clear hk); (try clear hi)))
                        go_meet
                        case rel => exact ⟨_, ((t348.toList != t298.toList)), (by first | rfl | (simp; done) | (simp [*]; done)), H', ⟨by have := HJ15.out; have := HJ73.out; first | omega | exact Nat.le_refl _⟩, ⟨by (try simp only [hl306002_73]); (with_reducible repeat (first | apply Kd.R_alloc | apply Kd.R_drewN | apply Kd.R_drew)); exact Kd.R_mono HO_300002.out (fun _ hk => ⟨hk.1.1.1.1, ⟨hk.1.1.1.2, hk.2⟩⟩)⟩, ⟨by (try simp only [hl306002_73]); (with_reducible repeat (first | apply Kd.R_alloc | apply Kd.R_drewN | apply Kd.R_drew)); exact Kd.R_mono HO_306002.out (fun _ hk => ⟨hk.1.1.1.1, ⟨hk.1.1.1.2, hk.2⟩⟩)⟩, ⟨by (try simp only [hl306002_73]); (with_reducible repeat (first | apply Kd.R_alloc | apply Kd.R_drewN | apply Kd.R_drew)); exact Kd.R_mono HO_316002.out (fun _ hk => ⟨hk.1.1.1.1, ⟨hk.1.1.1.2, hk.2⟩⟩)⟩, ⟨by (try simp only [hl306002_73]); (with_reducible repeat (first | apply Kd.R_alloc | apply Kd.R_drewN | apply Kd.R_drew)); exact Kd.R_mono HO347.out (fun _ hk => ⟨hk.1.1.1.1.2, ⟨hk.1.1.1.2, hk.1.1.2⟩⟩)⟩, ⟨by (try simp only [hl306002_73]); (with_reducible repeat (first | refine bkD ?_ _ | refine blk_drew ?_ | refine bkA ?_ _)); exact BK283.out⟩, ⟨by (try simp only [hl306002_73]); (with_reducible repeat (first | refine bkD ?_ _ | refine blk_drew ?_ | refine bkA ?_ _)); exact BK299.out⟩, ⟨by (try simp only [hl306002_73]); (with_reducible repeat (first | refine bkD ?_ _ | refine blk_drew ?_ | refine bkA ?_ _)); exact BK305.out⟩, ⟨by (try simp only [hl306002_73]); (with_reducible repeat (first | refine bkD ?_ _ | refine blk_drew ?_ | refine bkA ?_ _)); exact BK315.out⟩, ⟨by (try simp only [hl306002_73]); (with_reducible repeat (first | refine bkD ?_ _ | refine blk_drew ?_ | refine bkA ?_ _)); exact BK349.out⟩, ⟨by repeat (first | (with_reducible first | exact HB.out | apply bAl | apply bDn | apply bD1 | refine bSe ?_ GE283.out | refine bSe ?_ GE299.out | refine bSe ?_ GE305.out | refine bSe ?_ GE315.out | refine bSe ?_ GE349.out) | exact HB.out)⟩⟩
                      · replace c145 := Bool.eq_false_iff.mpr c145
                        subst c145
                        have H1 : (laws_FnExactFeedMore.j2 kj73 t332 true t309 t310 t333) = some r := by rw [if_neg (show ¬ (false = true) by decide)] at H; exact H
                        clear H
                        have H := H1
                        clear H1
                        have H' := aMk H
                        clear H
                        have hnb156 := NB349_283.out
                        have hnc156 := NB283_349.out
                        have hnb157 := NB349_299.out
                        have hnc157 := NB299_349.out
                        have hnb158 := NB349_305.out
                        have hnc158 := NB305_349.out
                        have hnb159 := NB349_315.out
                        have hnc159 := NB315_349.out
                        have hcz160_0 : w137.cell? ⟨gb349, 0, none⟩ = some (.int .i64 0) := (bCe BK349.out 0).trans rfl
                        have hcz160_1 : w137.cell? ⟨gb349, 1, none⟩ = some (.bool false) := (bCe BK349.out 1).trans rfl
                        have hcz160_2 : w137.cell? ⟨gb349, 2, none⟩ = some (.slice none 0 0) := (bCe BK349.out 2).trans rfl
                        have hfz160_0 := bFr BK349.out 0
                        have hfz160_1 := bFr BK349.out 1
                        have hfz160_2 := bFr BK349.out 2
                        have hnb161 := NB299_283.out
                        have hnc161 := NB283_299.out
                        have hnb162 := NB299_305.out
                        have hnc162 := NB305_299.out
                        have hnb163 := NB299_315.out
                        have hnc163 := NB315_299.out
                        have hcz164_0 : w137.cell? ⟨gb299, 0, none⟩ = some (.int .i64 t293) := (bCe BK299.out 0).trans rfl
                        have hcz164_1 : w137.cell? ⟨gb299, 1, none⟩ = some (.bool t294) := (bCe BK299.out 1).trans rfl
                        have hcz164_2 : w137.cell? ⟨gb299, 2, none⟩ = some (.slice Ao29 t295.length co29) := (bCe BK299.out 2).trans rfl
                        have hfz164_0 := bFr BK299.out 0
                        have hfz164_1 := bFr BK299.out 1
                        have hfz164_2 := bFr BK299.out 2
                        go_wp2_with (first | ((with_reducible refine gate_callee (f := 25) rfl ?_); refine goesL_ (some 102) rfl rfl Try.func25 (by kernel_rfl) rfl #[.agg #[.int .i64 t343, .bool t344, .slice Ao143 t345.length co143], .agg #[.int .i64 t293, .bool t294, .slice Ao29 t295.length co29]] rfl (by (try simp only [List.map_toArray, List.map_cons, List.map_nil]); first | done | rfl | (simp only [List.length_drop, List.length_take]; rfl)) ?_; (with_reducible refine (laws_eqFeed.calls kj73 t343 t344 _ _ t345 t293 t294 _ _ t295 false _ ?side1 ?side2 ?side3 ?side4 A144.out).mono ?_); (case side1 => refine (Kd.R_reads' (e := 5) (base := w.heap.size) (ok := fun k_ => (((((True ∧ some k_ ≠ (.slice Ao29 t295.length co29 : Value).ownBlock) ∧ some k_ ≠ (.slice Ao36 t328.length co36 : Value).ownBlock) ∧ some k_ ≠ (.slice Ao46 t311.length co46 : Value).ownBlock) ∧ some k_ ≠ (.slice Ao134 t337.length co134 : Value).ownBlock) ∧ some k_ ≠ (.slice Ao135 t340.length co135 : Value).ownBlock)) (n := t345.length) (c := co143) ?_).2.2; exact (by (with_reducible repeat (first | apply Kd.R_alloc | apply Kd.R_drewN | apply Kd.R_drew)); exact (Kd.R_mono (Kd.R_far (p := ⟨gb349, 2, none⟩) (Kd.R_far (p := ⟨gb349, 1, none⟩) (Kd.R_far (p := ⟨gb349, 0, none⟩) (Kd.R_types HO347.out BK349.out (by decide)) (fun _ hk => hk.2) (.int .i64 t343)) (fun _ hk => hk.2) (.bool t344)) (fun _ hk => hk.2) (.slice Ao143 t345.length co143)) (fun _ h_ => h_.1)))); (case side2 => exact (Kd.R_reads' HO347.out).2.1); (case side3 => refine (Kd.R_reads' (e := 5) (base := w.heap.size) (ok := fun k_ => ((((some k_ ≠ (.slice Ao36 t328.length co36 : Value).ownBlock ∧ some k_ ≠ (.slice Ao46 t311.length co46 : Value).ownBlock) ∧ some k_ ≠ (.slice Ao134 t337.length co134 : Value).ownBlock) ∧ some k_ ≠ (.slice Ao135 t340.length co135 : Value).ownBlock) ∧ some k_ ≠ (.slice Ao143 t345.length co143 : Value).ownBlock)) (n := t295.length) (c := co29) ?_).2.2; exact (by (with_reducible repeat (first | apply Kd.R_alloc | apply Kd.R_drewN | apply Kd.R_drew)); exact (Kd.R_mono (Kd.R_far (p := ⟨gb349, 2, none⟩) (Kd.R_far (p := ⟨gb349, 1, none⟩) (Kd.R_far (p := ⟨gb349, 0, none⟩) (Kd.R_types HO_300002.out BK349.out (by decide)) (fun _ hk => hk.2) (.int .i64 t343)) (fun _ hk => hk.2) (.bool t344)) (fun _ hk => hk.2) (.slice Ao143 t345.length co143)) (fun _ h_ => h_.1)))); (case side4 => exact (Kd.R_reads' HO_300002.out).2.1); rintro e w165 ⟨rfl, hb⟩; refine ⟨_, rfl, ?_⟩; have n0_ := aMk (Kd.R_below (by (with_reducible repeat (first | apply Kd.R_alloc | apply Kd.R_drewN | apply Kd.R_drew)); exact (Kd.R_mono (Kd.R_far (p := ⟨gb349, 2, none⟩) (Kd.R_far (p := ⟨gb349, 1, none⟩) (Kd.R_far (p := ⟨gb349, 0, none⟩) (Kd.R_types HO_300002.out BK349.out (by decide)) (fun _ hk => hk.2) (.int .i64 t343)) (fun _ hk => hk.2) (.bool t344)) (fun _ hk => hk.2) (.slice Ao143 t345.length co143)) (fun _ h_ => h_.1))) hb); have n1_ := aMk (Kd.R_below (by (with_reducible repeat (first | apply Kd.R_alloc | apply Kd.R_drewN | apply Kd.R_drew)); exact (Kd.R_mono (Kd.R_far (p := ⟨gb349, 2, none⟩) (Kd.R_far (p := ⟨gb349, 1, none⟩) (Kd.R_far (p := ⟨gb349, 0, none⟩) (Kd.R_types HO_306002.out BK349.out (by decide)) (fun _ hk => hk.2) (.int .i64 t343)) (fun _ hk => hk.2) (.bool t344)) (fun _ hk => hk.2) (.slice Ao143 t345.length co143)) (fun _ h_ => h_.1))) hb); have n2_ := aMk (Kd.R_below (by (with_reducible repeat (first | apply Kd.R_alloc | apply Kd.R_drewN | apply Kd.R_drew)); exact (Kd.R_mono (Kd.R_far (p := ⟨gb349, 2, none⟩) (Kd.R_far (p := ⟨gb349, 1, none⟩) (Kd.R_far (p := ⟨gb349, 0, none⟩) (Kd.R_types HO_316002.out BK349.out (by decide)) (fun _ hk => hk.2) (.int .i64 t343)) (fun _ hk => hk.2) (.bool t344)) (fun _ hk => hk.2) (.slice Ao143 t345.length co143)) (fun _ h_ => h_.1))) hb); have n3_ := aMk (Kd.R_below (by (with_reducible repeat (first | apply Kd.R_alloc | apply Kd.R_drewN | apply Kd.R_drew)); exact (Kd.R_mono (Kd.R_far (p := ⟨gb349, 2, none⟩) (Kd.R_far (p := ⟨gb349, 1, none⟩) (Kd.R_far (p := ⟨gb349, 0, none⟩) (Kd.R_types HO339.out BK349.out (by decide)) (fun _ hk => hk.2) (.int .i64 t343)) (fun _ hk => hk.2) (.bool t344)) (fun _ hk => hk.2) (.slice Ao143 t345.length co143)) (fun _ h_ => h_.1))) hb); have n4_ := aMk (Kd.R_below (by (with_reducible repeat (first | apply Kd.R_alloc | apply Kd.R_drewN | apply Kd.R_drew)); exact (Kd.R_mono (Kd.R_far (p := ⟨gb349, 2, none⟩) (Kd.R_far (p := ⟨gb349, 1, none⟩) (Kd.R_far (p := ⟨gb349, 0, none⟩) (Kd.R_types HO342.out BK349.out (by decide)) (fun _ hk => hk.2) (.int .i64 t343)) (fun _ hk => hk.2) (.bool t344)) (fun _ hk => hk.2) (.slice Ao143 t345.length co143)) (fun _ h_ => h_.1))) hb); have n5_ := aMk (Kd.R_below (by (with_reducible repeat (first | apply Kd.R_alloc | apply Kd.R_drewN | apply Kd.R_drew)); exact (Kd.R_mono (Kd.R_far (p := ⟨gb349, 2, none⟩) (Kd.R_far (p := ⟨gb349, 1, none⟩) (Kd.R_far (p := ⟨gb349, 0, none⟩) (Kd.R_types HO347.out BK349.out (by decide)) (fun _ hk => hk.2) (.int .i64 t343)) (fun _ hk => hk.2) (.bool t344)) (fun _ hk => hk.2) (.slice Ao143 t345.length co143)) (fun _ h_ => h_.1))) hb); have n6_ := aMk (blk_below (g := gb283) (o := .cells #[.int .i64 a0_0, .bool a0_1, .slice A0_2 l0_2.length c0_2] 35 (0, 0)) (by (with_reducible repeat (first | refine bkD ?_ _ | refine blk_drew ?_ | refine bkA ?_ _)); refine blk_far ?_ NB283_349.out _; (with_reducible repeat (first | refine bkD ?_ _ | refine blk_drew ?_ | refine bkA ?_ _)); refine blk_far ?_ NB283_349.out _; (with_reducible repeat (first | refine bkD ?_ _ | refine blk_drew ?_ | refine bkA ?_ _)); refine blk_far ?_ NB283_349.out _; (with_reducible repeat (first | refine bkD ?_ _ | refine blk_drew ?_ | refine bkA ?_ _)); exact BK283.out) hb); have n7_ := aMk (blk_below (g := gb299) (o := .cells #[.int .i64 t293, .bool t294, .slice Ao29 t295.length co29] 38 (0, 0)) (by (with_reducible repeat (first | refine bkD ?_ _ | refine blk_drew ?_ | refine bkA ?_ _)); refine blk_far ?_ NB299_349.out _; (with_reducible repeat (first | refine bkD ?_ _ | refine blk_drew ?_ | refine bkA ?_ _)); refine blk_far ?_ NB299_349.out _; (with_reducible repeat (first | refine bkD ?_ _ | refine blk_drew ?_ | refine bkA ?_ _)); refine blk_far ?_ NB299_349.out _; (with_reducible repeat (first | refine bkD ?_ _ | refine blk_drew ?_ | refine bkA ?_ _)); exact BK299.out) hb); have n8_ := aMk (blk_below (g := gb305) (o := .cells #[.int .i64 t300, .bool t301, .slice Ao36 t328.length co36] 38 (0, 0)) (by (with_reducible repeat (first | refine bkD ?_ _ | refine blk_drew ?_ | refine bkA ?_ _)); refine blk_far ?_ NB305_349.out _; (with_reducible repeat (first | refine bkD ?_ _ | refine blk_drew ?_ | refine bkA ?_ _)); refine blk_far ?_ NB305_349.out _; (with_reducible repeat (first | refine bkD ?_ _ | refine blk_drew ?_ | refine bkA ?_ _)); refine blk_far ?_ NB305_349.out _; (with_reducible repeat (first | refine bkD ?_ _ | refine blk_drew ?_ | refine bkA ?_ _)); exact BK305.out) hb); have n9_ := aMk (blk_below (g := gb315) (o := .cells #[.int .i64 t309, .bool t310, .slice Ao46 t311.length co46] 38 (0, 0)) (by (with_reducible repeat (first | refine bkD ?_ _ | refine blk_drew ?_ | refine bkA ?_ _)); refine blk_far ?_ NB315_349.out _; (with_reducible repeat (first | refine bkD ?_ _ | refine blk_drew ?_ | refine bkA ?_ _)); refine blk_far ?_ NB315_349.out _; (with_reducible repeat (first | refine bkD ?_ _ | refine blk_drew ?_ | refine bkA ?_ _)); refine blk_far ?_ NB315_349.out _; (with_reducible repeat (first | refine bkD ?_ _ | refine blk_drew ?_ | refine bkA ?_ _)); exact BK315.out) hb); have n10_ := aMk (blk_below (g := gb349) (o := .cells #[.int .i64 t343, .bool t344, .slice Ao143 t345.length co143] 38 (0, 0)) (by (with_reducible repeat (first | refine bkD ?_ _ | refine blk_drew ?_ | refine bkA ?_ _)); refine blk_put (cs := #[.int .i64 t343, .bool t344, .slice none 0 0]) ?_ 2 _ rfl; (with_reducible repeat (first | refine bkD ?_ _ | refine blk_drew ?_ | refine bkA ?_ _)); refine blk_put (cs := #[.int .i64 t343, .bool false, .slice none 0 0]) ?_ 1 _ rfl; (with_reducible repeat (first | refine bkD ?_ _ | refine blk_drew ?_ | refine bkA ?_ _)); refine blk_put (cs := #[.int .i64 0, .bool false, .slice none 0 0]) ?_ 0 _ rfl; (with_reducible repeat (first | refine bkD ?_ _ | refine blk_drew ?_ | refine bkA ?_ _)); exact BK349.out) hb); have n11_ := aMk (below_step (by repeat (first | (with_reducible first | exact HB.out | apply bAl | apply bDn | apply bD1 | refine bSe ?_ GE283.out | refine bSe ?_ GE299.out | refine bSe ?_ GE305.out | refine bSe ?_ GE315.out | refine bSe ?_ GE349.out) | exact HB.out)) hb); clear HO_300002; clear HO_306002; clear HO_316002; clear HO339; clear HO342; clear HO347; clear BK283; clear BK299; clear BK305; clear BK315; clear BK349; clear HB; have HO_300002 := n0_; have HO_306002 := n1_; have HO_316002 := n2_; have HO339 := n3_; have HO342 := n4_; have HO347 := n5_; have BK283 := n6_; have BK299 := n7_; have BK305 := n8_; have BK315 := n9_; have BK349 := n10_; have HB := n11_; clear n0_ n1_ n2_ n3_ n4_ n5_ n6_ n7_ n8_ n9_ n10_ n11_; (try clear hb); (try clear hb2); (try clear hk); (try clear hi)))
                        go_meet
                        case rel => exact ⟨_, (true), (by first | rfl | (simp; done) | (simp [*]; done)), H', ⟨by have := HJ15.out; have := HJ73.out; first | omega | exact Nat.le_refl _⟩, ⟨by (try simp only [hl306002_73]); (with_reducible repeat (first | apply Kd.R_alloc | apply Kd.R_drewN | apply Kd.R_drew)); exact Kd.R_mono HO_300002.out (fun _ hk => ⟨hk.1.1.1.1, ⟨hk.1.1.1.2, hk.2⟩⟩)⟩, ⟨by (try simp only [hl306002_73]); (with_reducible repeat (first | apply Kd.R_alloc | apply Kd.R_drewN | apply Kd.R_drew)); exact Kd.R_mono HO_306002.out (fun _ hk => ⟨hk.1.1.1.1, ⟨hk.1.1.1.2, hk.2⟩⟩)⟩, ⟨by (try simp only [hl306002_73]); (with_reducible repeat (first | apply Kd.R_alloc | apply Kd.R_drewN | apply Kd.R_drew)); exact Kd.R_mono HO_316002.out (fun _ hk => ⟨hk.1.1.1.1, ⟨hk.1.1.1.2, hk.2⟩⟩)⟩, ⟨by (try simp only [hl306002_73]); (with_reducible repeat (first | apply Kd.R_alloc | apply Kd.R_drewN | apply Kd.R_drew)); exact Kd.R_mono HO347.out (fun _ hk => ⟨hk.1.1.1.1.2, ⟨hk.1.1.1.2, hk.1.1.2⟩⟩)⟩, ⟨by (try simp only [hl306002_73]); (with_reducible repeat (first | refine bkD ?_ _ | refine blk_drew ?_ | refine bkA ?_ _)); exact BK283.out⟩, ⟨by (try simp only [hl306002_73]); (with_reducible repeat (first | refine bkD ?_ _ | refine blk_drew ?_ | refine bkA ?_ _)); exact BK299.out⟩, ⟨by (try simp only [hl306002_73]); (with_reducible repeat (first | refine bkD ?_ _ | refine blk_drew ?_ | refine bkA ?_ _)); exact BK305.out⟩, ⟨by (try simp only [hl306002_73]); (with_reducible repeat (first | refine bkD ?_ _ | refine blk_drew ?_ | refine bkA ?_ _)); exact BK315.out⟩, ⟨by (try simp only [hl306002_73]); (with_reducible repeat (first | refine bkD ?_ _ | refine blk_drew ?_ | refine bkA ?_ _)); exact BK349.out⟩, ⟨by repeat (first | (with_reducible first | exact HB.out | apply bAl | apply bDn | apply bD1 | refine bSe ?_ GE283.out | refine bSe ?_ GE299.out | refine bSe ?_ GE305.out | refine bSe ?_ GE315.out | refine bSe ?_ GE349.out) | exact HB.out)⟩⟩
                     case rest =>
                      clear HC121
                      try clear c1
                      try clear c2
                      try clear p2
                      try clear c3
                      try clear c3b0
                      try clear c3b1
                      try clear c4
                      try clear c5
                      try clear c6
                      try clear c6b0
                      try clear c7
                      try clear c8
                      try clear c9
                      try clear c10
                      try clear c11
                      try clear c12
                      try clear c13
                      try clear c14
                      try clear c15
                      try clear c16
                      try clear c19
                      try clear c20
                      try clear c21
                      try clear c23
                      try clear c25
                      try clear c26
                      try clear c27
                      try clear c28
                      try clear c29
                      try clear c30
                      try clear c33
                      try clear c34
                      try clear c42
                      try clear c43
                      try clear c44
                      try clear c48
                      try clear c49
                      try clear c50
                      try clear c51
                      try clear c53
                      try clear c54
                      try clear c57
                      try clear c58
                      try clear c59
                      try clear c61
                      try clear c62
                      try clear c65
                      try clear c68
                      try clear c71
                      try clear c81
                      try clear c82
                      try clear c83
                      try clear c87
                      try clear c87b0
                      try clear c89
                      try clear c90
                      try clear c91
                      try clear c92
                      try clear c94
                      try clear c95
                      try clear c98
                      try clear c99
                      try clear c100
                      try clear c102
                      try clear c103
                      try clear c106
                      try clear c109
                      try clear c109b0
                      try clear c110
                      try clear c111
                      try clear c112
                      try clear c117
                      try clear c117b0
                      try clear c117b1
                      try clear c122
                      try clear c123
                      try clear c124
                      try clear c129
                      try clear c130
                      try clear c138
                      try clear c139
                      try clear c140
                      try clear c141
                      try clear c145
                      try clear c146
                      try clear c147
                      try clear c148
                      try clear c149
                      try clear c151
                      try clear c152
                      try clear c153
                      try clear c156
                      try clear c157
                      try clear c158
                      try clear c159
                      try clear c161
                      try clear c162
                      try clear c163
                      try clear hcz101_0
                      try clear hcz101_1
                      try clear hcz101_2
                      try clear hcz104_0
                      try clear hcz104_1
                      try clear hcz104_2
                      try clear hcz113_0
                      try clear hcz113_1
                      try clear hcz113_2
                      try clear hcz115_0
                      try clear hcz115_1
                      try clear hcz115_2
                      try clear hcz125_0
                      try clear hcz125_1
                      try clear hcz125_2
                      try clear hcz127_0
                      try clear hcz127_1
                      try clear hcz127_2
                      try clear hcz131_0
                      try clear hcz131_1
                      try clear hcz131_2
                      try clear hcz142_0
                      try clear hcz142_1
                      try clear hcz142_2
                      try clear hcz150_0
                      try clear hcz150_1
                      try clear hcz150_2
                      try clear hcz154_0
                      try clear hcz154_1
                      try clear hcz154_2
                      try clear hcz160_0
                      try clear hcz160_1
                      try clear hcz160_2
                      try clear hcz164_0
                      try clear hcz164_1
                      try clear hcz164_2
                      try clear hcz18_0
                      try clear hcz18_1
                      try clear hcz18_2
                      try clear hcz20_0
                      try clear hcz20_1
                      try clear hcz20_2
                      try clear hcz28_0
                      try clear hcz28_1
                      try clear hcz28_2
                      try clear hcz30_0
                      try clear hcz30_1
                      try clear hcz30_2
                      try clear hcz35_0
                      try clear hcz35_1
                      try clear hcz35_2
                      try clear hcz38_0
                      try clear hcz38_1
                      try clear hcz38_2
                      try clear hcz45_0
                      try clear hcz45_1
                      try clear hcz45_2
                      try clear hcz52_0
                      try clear hcz52_1
                      try clear hcz52_2
                      try clear hcz55_0
                      try clear hcz55_1
                      try clear hcz55_2
                      try clear hcz60_0
                      try clear hcz60_1
                      try clear hcz60_2
                      try clear hcz63_0
                      try clear hcz63_1
                      try clear hcz63_2
                      try clear hcz84_0
                      try clear hcz84_1
                      try clear hcz84_2
                      try clear hcz8_0
                      try clear hcz8_1
                      try clear hcz8_2
                      try clear hcz93_0
                      try clear hcz93_1
                      try clear hcz93_2
                      try clear hcz96_0
                      try clear hcz96_1
                      try clear hcz96_2
                      try clear hfz101_0
                      try clear hfz101_1
                      try clear hfz101_2
                      try clear hfz104_0
                      try clear hfz104_1
                      try clear hfz104_2
                      try clear hfz113_0
                      try clear hfz113_1
                      try clear hfz113_2
                      try clear hfz115_0
                      try clear hfz115_1
                      try clear hfz115_2
                      try clear hfz125_0
                      try clear hfz125_1
                      try clear hfz125_2
                      try clear hfz127_0
                      try clear hfz127_1
                      try clear hfz127_2
                      try clear hfz131_0
                      try clear hfz131_1
                      try clear hfz131_2
                      try clear hfz142_0
                      try clear hfz142_1
                      try clear hfz142_2
                      try clear hfz150_0
                      try clear hfz150_1
                      try clear hfz150_2
                      try clear hfz154_0
                      try clear hfz154_1
                      try clear hfz154_2
                      try clear hfz160_0
                      try clear hfz160_1
                      try clear hfz160_2
                      try clear hfz164_0
                      try clear hfz164_1
                      try clear hfz164_2
                      try clear hfz18_0
                      try clear hfz18_1
                      try clear hfz18_2
                      try clear hfz20_0
                      try clear hfz20_1
                      try clear hfz20_2
                      try clear hfz28_0
                      try clear hfz28_1
                      try clear hfz28_2
                      try clear hfz30_0
                      try clear hfz30_1
                      try clear hfz30_2
                      try clear hfz35_0
                      try clear hfz35_1
                      try clear hfz35_2
                      try clear hfz38_0
                      try clear hfz38_1
                      try clear hfz38_2
                      try clear hfz45_0
                      try clear hfz45_1
                      try clear hfz45_2
                      try clear hfz52_0
                      try clear hfz52_1
                      try clear hfz52_2
                      try clear hfz55_0
                      try clear hfz55_1
                      try clear hfz55_2
                      try clear hfz60_0
                      try clear hfz60_1
                      try clear hfz60_2
                      try clear hfz63_0
                      try clear hfz63_1
                      try clear hfz63_2
                      try clear hfz84_0
                      try clear hfz84_1
                      try clear hfz84_2
                      try clear hfz8_0
                      try clear hfz8_1
                      try clear hfz8_2
                      try clear hfz93_0
                      try clear hfz93_1
                      try clear hfz93_2
                      try clear hfz96_0
                      try clear hfz96_1
                      try clear hfz96_2
                      try clear p2
                      obtain ⟨kq, x108_120, rfl, HA, HJ120, HO_300002, HO_306002, HO_316002, HO_350002, BK283, BK299, BK305, BK315, BK349, HB⟩ := hcut
                      have hl316002_120 := (Kd.R_reads' HO_316002.out).1
                      rw [hl316002_120] at HO_316002
                      (try simp only [hl316002_120])
                      (try simp only [hl316002_120] at BK283)
                      (try simp only [hl316002_120] at BK299)
                      (try simp only [hl316002_120] at BK305)
                      (try simp only [hl316002_120] at BK315)
                      (try simp only [hl316002_120] at BK349)
                      (try simp only [hl316002_120] at HO_300002)
                      (try simp only [hl316002_120] at HO_306002)
                      (try simp only [hl316002_120] at HO_350002)
                      cases kq with
                      | zero => exact absurd HA.out (by simp [laws_FnExactFeedMore.j2])
                      | succ kj120 =>
                       have H := HA.out
                       clear HA
                       simp only [laws_FnExactFeedMore.j2] at H
                       by_cases c166 : x108_120 = true
                       · subst c166
                         have H1 : (some false) = some r := by rw [if_pos rfl] at H; exact H
                         clear H
                         have H := H1
                         clear H1
                         obtain rfl := Option.some.inj H
                         go_wp2
                         go_ret
                         exact ⟨by first | rfl | (simp [errW_none, errW_some] <;> rfl) | (simp [*, errW_none, errW_some] <;> rfl), by repeat (first | (with_reducible first | exact HB.out | apply bAl | apply bDn | apply bD1 | refine bSe ?_ GE283.out | refine bSe ?_ GE299.out | refine bSe ?_ GE305.out | refine bSe ?_ GE315.out | refine bSe ?_ GE349.out) | exact HB.out)⟩
                       · replace c166 := Bool.eq_false_iff.mpr c166
                         subst c166
                         have H1 : ((laws_heldFeed.f kj120 t309 t310 t333 1).bind fun t351 => (if t351 < 0 then (some false) else (if t351 = t332 then (some true) else (some false)))) = some r := by rw [if_neg (show ¬ (false = true) by decide)] at H; exact H
                         clear H
                         have H := H1
                         clear H1
                         replace H := oBm H
                         obtain ⟨t351, A1670, H⟩ := H
                         replace H : (if t351 < 0 then (some false) else (if t351 = t332 then (some true) else (some false))) = some r := H
                         have A167 := aMk A1670
                         clear A1670
                         by_cases c168 : t351 < 0
                         · rw [if_pos c168] at H
                           have c168b0 : decide (t351 < 0) = true := decide_eq_true c168
                           clear c168
                           obtain rfl := Option.some.inj H
                           have hnb169 := NB315_283.out
                           have hnc169 := NB283_315.out
                           have hnb170 := NB315_299.out
                           have hnc170 := NB299_315.out
                           have hnb171 := NB315_305.out
                           have hnc171 := NB305_315.out
                           have hnb172 := NB315_349.out
                           have hnc172 := NB349_315.out
                           have hcz173_0 : wc.cell? ⟨gb315, 0, none⟩ = some (.int .i64 t309) := (bCe BK315.out 0).trans rfl
                           have hcz173_1 : wc.cell? ⟨gb315, 1, none⟩ = some (.bool t310) := (bCe BK315.out 1).trans rfl
                           have hcz173_2 : wc.cell? ⟨gb315, 2, none⟩ = some (.slice Ao46 t333.length co46) := (bCe BK315.out 2).trans rfl
                           have hfz173_0 := bFr BK315.out 0
                           have hfz173_1 := bFr BK315.out 1
                           have hfz173_2 := bFr BK315.out 2
                           go_wp2_with (first | ((with_reducible refine gate_callee (f := 30) rfl ?_); refine goesL_ (some 111) rfl rfl Try.func30 (by kernel_rfl) rfl #[.agg #[.int .i64 t309, .bool t310, .slice Ao46 t333.length co46], .int .i64 1] rfl (by (try simp only [List.map_toArray, List.map_cons, List.map_nil]); first | done | rfl | (simp only [List.length_drop, List.length_take]; rfl)) ?_; (with_reducible refine (laws_heldFeed.calls kj120 t309 t310 _ _ t333 1 t351 _ ?side1 ?side2 A167.out).mono ?_); (case side1 => repeat (first | exact (Kd.R_reads' HO_316002.out).2.2 | (with_reducible refine Kd.C_alloc ?_ _) | (with_reducible refine Kd.C_drewN ?_ _) | (with_reducible refine Kd.C_drew ?_))); (case side2 => exact (Kd.R_reads' HO_316002.out).2.1); rintro e w174 ⟨rfl, hb⟩; refine ⟨_, rfl, ?_⟩; have n0_ := aMk (Kd.R_below (by (with_reducible repeat (first | apply Kd.R_alloc | apply Kd.R_drewN | apply Kd.R_drew)); exact HO_300002.out) hb); have n1_ := aMk (Kd.R_below (by (with_reducible repeat (first | apply Kd.R_alloc | apply Kd.R_drewN | apply Kd.R_drew)); exact HO_306002.out) hb); have n2_ := aMk (Kd.R_below (by (with_reducible repeat (first | apply Kd.R_alloc | apply Kd.R_drewN | apply Kd.R_drew)); exact HO_316002.out) hb); have n3_ := aMk (Kd.R_below (by (with_reducible repeat (first | apply Kd.R_alloc | apply Kd.R_drewN | apply Kd.R_drew)); exact HO_350002.out) hb); have n4_ := aMk (blk_below (g := gb283) (o := .cells #[.int .i64 a0_0, .bool a0_1, .slice A0_2 l0_2.length c0_2] 35 (0, 0)) (by (with_reducible repeat (first | refine bkD ?_ _ | refine blk_drew ?_ | refine bkA ?_ _)); exact BK283.out) hb); have n5_ := aMk (blk_below (g := gb299) (o := .cells #[.int .i64 t293, .bool t294, .slice Ao29 t295.length co29] 38 (0, 0)) (by (with_reducible repeat (first | refine bkD ?_ _ | refine blk_drew ?_ | refine bkA ?_ _)); exact BK299.out) hb); have n6_ := aMk (blk_below (g := gb305) (o := .cells #[.int .i64 t300, .bool t301, .slice Ao36 t328.length co36] 38 (0, 0)) (by (with_reducible repeat (first | refine bkD ?_ _ | refine blk_drew ?_ | refine bkA ?_ _)); exact BK305.out) hb); have n7_ := aMk (blk_below (g := gb315) (o := .cells #[.int .i64 t309, .bool t310, .slice Ao46 t333.length co46] 38 (0, 0)) (by (with_reducible repeat (first | refine bkD ?_ _ | refine blk_drew ?_ | refine bkA ?_ _)); exact BK315.out) hb); have n8_ := aMk (blk_below (g := gb349) (o := .cells #[.int .i64 t343, .bool t344, .slice Ao143 t345.length co143] 38 (0, 0)) (by (with_reducible repeat (first | refine bkD ?_ _ | refine blk_drew ?_ | refine bkA ?_ _)); exact BK349.out) hb); have n9_ := aMk (below_step (by repeat (first | (with_reducible first | exact HB.out | apply bAl | apply bDn | apply bD1 | refine bSe ?_ GE283.out | refine bSe ?_ GE299.out | refine bSe ?_ GE305.out | refine bSe ?_ GE315.out | refine bSe ?_ GE349.out) | exact HB.out)) hb); clear HO_300002; clear HO_306002; clear HO_316002; clear HO_350002; clear BK283; clear BK299; clear BK305; clear BK315; clear BK349; clear HB; have HO_300002 := n0_; have HO_306002 := n1_; have HO_316002 := n2_; have HO_350002 := n3_; have BK283 := n4_; have BK299 := n5_; have BK305 := n6_; have BK315 := n7_; have BK349 := n8_; have HB := n9_; clear n0_ n1_ n2_ n3_ n4_ n5_ n6_ n7_ n8_ n9_; (try clear hb); (try clear hb2); (try clear hk); (try clear hi)))
                           go_ret
                           exact ⟨by first | rfl | (simp [errW_none, errW_some] <;> rfl) | (simp [*, errW_none, errW_some] <;> rfl), by repeat (first | (with_reducible first | exact HB.out | apply bAl | apply bDn | apply bD1 | refine bSe ?_ GE283.out | refine bSe ?_ GE299.out | refine bSe ?_ GE305.out | refine bSe ?_ GE315.out | refine bSe ?_ GE349.out) | exact HB.out)⟩
                         · rw [if_neg c168] at H
                           have c168b0 : decide (t351 < 0) = false := decide_eq_false c168
                           clear c168
                           by_cases c175 : t351 = t332
                           · rw [if_pos c175] at H
                             have c175b0 : (t351 == t332) = true := beq_iff_eq.mpr c175
                             have c175b1 : (t351 != t332) = false := bne_eq_false_iff_eq.mpr c175
                             clear c175
                             obtain rfl := Option.some.inj H
                             have hnb176 := NB315_283.out
                             have hnc176 := NB283_315.out
                             have hnb177 := NB315_299.out
                             have hnc177 := NB299_315.out
                             have hnb178 := NB315_305.out
                             have hnc178 := NB305_315.out
                             have hnb179 := NB315_349.out
                             have hnc179 := NB349_315.out
                             have hcz180_0 : wc.cell? ⟨gb315, 0, none⟩ = some (.int .i64 t309) := (bCe BK315.out 0).trans rfl
                             have hcz180_1 : wc.cell? ⟨gb315, 1, none⟩ = some (.bool t310) := (bCe BK315.out 1).trans rfl
                             have hcz180_2 : wc.cell? ⟨gb315, 2, none⟩ = some (.slice Ao46 t333.length co46) := (bCe BK315.out 2).trans rfl
                             have hfz180_0 := bFr BK315.out 0
                             have hfz180_1 := bFr BK315.out 1
                             have hfz180_2 := bFr BK315.out 2
                             go_wp2_with (first | ((with_reducible refine gate_callee (f := 30) rfl ?_); refine goesL_ (some 111) rfl rfl Try.func30 (by kernel_rfl) rfl #[.agg #[.int .i64 t309, .bool t310, .slice Ao46 t333.length co46], .int .i64 1] rfl (by (try simp only [List.map_toArray, List.map_cons, List.map_nil]); first | done | rfl | (simp only [List.length_drop, List.length_take]; rfl)) ?_; (with_reducible refine (laws_heldFeed.calls kj120 t309 t310 _ _ t333 1 t351 _ ?side1 ?side2 A167.out).mono ?_); (case side1 => repeat (first | exact (Kd.R_reads' HO_316002.out).2.2 | (with_reducible refine Kd.C_alloc ?_ _) | (with_reducible refine Kd.C_drewN ?_ _) | (with_reducible refine Kd.C_drew ?_))); (case side2 => exact (Kd.R_reads' HO_316002.out).2.1); rintro e w181 ⟨rfl, hb⟩; refine ⟨_, rfl, ?_⟩; have n0_ := aMk (Kd.R_below (by (with_reducible repeat (first | apply Kd.R_alloc | apply Kd.R_drewN | apply Kd.R_drew)); exact HO_300002.out) hb); have n1_ := aMk (Kd.R_below (by (with_reducible repeat (first | apply Kd.R_alloc | apply Kd.R_drewN | apply Kd.R_drew)); exact HO_306002.out) hb); have n2_ := aMk (Kd.R_below (by (with_reducible repeat (first | apply Kd.R_alloc | apply Kd.R_drewN | apply Kd.R_drew)); exact HO_316002.out) hb); have n3_ := aMk (Kd.R_below (by (with_reducible repeat (first | apply Kd.R_alloc | apply Kd.R_drewN | apply Kd.R_drew)); exact HO_350002.out) hb); have n4_ := aMk (blk_below (g := gb283) (o := .cells #[.int .i64 a0_0, .bool a0_1, .slice A0_2 l0_2.length c0_2] 35 (0, 0)) (by (with_reducible repeat (first | refine bkD ?_ _ | refine blk_drew ?_ | refine bkA ?_ _)); exact BK283.out) hb); have n5_ := aMk (blk_below (g := gb299) (o := .cells #[.int .i64 t293, .bool t294, .slice Ao29 t295.length co29] 38 (0, 0)) (by (with_reducible repeat (first | refine bkD ?_ _ | refine blk_drew ?_ | refine bkA ?_ _)); exact BK299.out) hb); have n6_ := aMk (blk_below (g := gb305) (o := .cells #[.int .i64 t300, .bool t301, .slice Ao36 t328.length co36] 38 (0, 0)) (by (with_reducible repeat (first | refine bkD ?_ _ | refine blk_drew ?_ | refine bkA ?_ _)); exact BK305.out) hb); have n7_ := aMk (blk_below (g := gb315) (o := .cells #[.int .i64 t309, .bool t310, .slice Ao46 t333.length co46] 38 (0, 0)) (by (with_reducible repeat (first | refine bkD ?_ _ | refine blk_drew ?_ | refine bkA ?_ _)); exact BK315.out) hb); have n8_ := aMk (blk_below (g := gb349) (o := .cells #[.int .i64 t343, .bool t344, .slice Ao143 t345.length co143] 38 (0, 0)) (by (with_reducible repeat (first | refine bkD ?_ _ | refine blk_drew ?_ | refine bkA ?_ _)); exact BK349.out) hb); have n9_ := aMk (below_step (by repeat (first | (with_reducible first | exact HB.out | apply bAl | apply bDn | apply bD1 | refine bSe ?_ GE283.out | refine bSe ?_ GE299.out | refine bSe ?_ GE305.out | refine bSe ?_ GE315.out | refine bSe ?_ GE349.out) | exact HB.out)) hb); clear HO_300002; clear HO_306002; clear HO_316002; clear HO_350002; clear BK283; clear BK299; clear BK305; clear BK315; clear BK349; clear HB; have HO_300002 := n0_; have HO_306002 := n1_; have HO_316002 := n2_; have HO_350002 := n3_; have BK283 := n4_; have BK299 := n5_; have BK305 := n6_; have BK315 := n7_; have BK349 := n8_; have HB := n9_; clear n0_ n1_ n2_ n3_ n4_ n5_ n6_ n7_ n8_ n9_; (try clear hb); (try clear hb2); (try clear hk); (try clear hi)))
                             go_ret
                             exact ⟨by first | rfl | (simp [errW_none, errW_some] <;> rfl) | (simp [*, errW_none, errW_some] <;> rfl), by repeat (first | (with_reducible first | exact HB.out | apply bAl | apply bDn | apply bD1 | refine bSe ?_ GE283.out | refine bSe ?_ GE299.out | refine bSe ?_ GE305.out | refine bSe ?_ GE315.out | refine bSe ?_ GE349.out) | exact HB.out)⟩
                           · rw [if_neg c175] at H
                             have c175b0 : (t351 == t332) = false := beq_eq_false_iff_ne.mpr c175
                             have c175b1 : (t351 != t332) = true := bne_iff_ne.mpr c175
                             obtain rfl := Option.some.inj H
                             have hnb182 := NB315_283.out
                             have hnc182 := NB283_315.out
                             have hnb183 := NB315_299.out
                             have hnc183 := NB299_315.out
                             have hnb184 := NB315_305.out
                             have hnc184 := NB305_315.out
                             have hnb185 := NB315_349.out
                             have hnc185 := NB349_315.out
                             have hcz186_0 : wc.cell? ⟨gb315, 0, none⟩ = some (.int .i64 t309) := (bCe BK315.out 0).trans rfl
                             have hcz186_1 : wc.cell? ⟨gb315, 1, none⟩ = some (.bool t310) := (bCe BK315.out 1).trans rfl
                             have hcz186_2 : wc.cell? ⟨gb315, 2, none⟩ = some (.slice Ao46 t333.length co46) := (bCe BK315.out 2).trans rfl
                             have hfz186_0 := bFr BK315.out 0
                             have hfz186_1 := bFr BK315.out 1
                             have hfz186_2 := bFr BK315.out 2
                             go_wp2_with (first | ((with_reducible refine gate_callee (f := 30) rfl ?_); refine goesL_ (some 111) rfl rfl Try.func30 (by kernel_rfl) rfl #[.agg #[.int .i64 t309, .bool t310, .slice Ao46 t333.length co46], .int .i64 1] rfl (by (try simp only [List.map_toArray, List.map_cons, List.map_nil]); first | done | rfl | (simp only [List.length_drop, List.length_take]; rfl)) ?_; (with_reducible refine (laws_heldFeed.calls kj120 t309 t310 _ _ t333 1 t351 _ ?side1 ?side2 A167.out).mono ?_); (case side1 => repeat (first | exact (Kd.R_reads' HO_316002.out).2.2 | (with_reducible refine Kd.C_alloc ?_ _) | (with_reducible refine Kd.C_drewN ?_ _) | (with_reducible refine Kd.C_drew ?_))); (case side2 => exact (Kd.R_reads' HO_316002.out).2.1); rintro e w187 ⟨rfl, hb⟩; refine ⟨_, rfl, ?_⟩; have n0_ := aMk (Kd.R_below (by (with_reducible repeat (first | apply Kd.R_alloc | apply Kd.R_drewN | apply Kd.R_drew)); exact HO_300002.out) hb); have n1_ := aMk (Kd.R_below (by (with_reducible repeat (first | apply Kd.R_alloc | apply Kd.R_drewN | apply Kd.R_drew)); exact HO_306002.out) hb); have n2_ := aMk (Kd.R_below (by (with_reducible repeat (first | apply Kd.R_alloc | apply Kd.R_drewN | apply Kd.R_drew)); exact HO_316002.out) hb); have n3_ := aMk (Kd.R_below (by (with_reducible repeat (first | apply Kd.R_alloc | apply Kd.R_drewN | apply Kd.R_drew)); exact HO_350002.out) hb); have n4_ := aMk (blk_below (g := gb283) (o := .cells #[.int .i64 a0_0, .bool a0_1, .slice A0_2 l0_2.length c0_2] 35 (0, 0)) (by (with_reducible repeat (first | refine bkD ?_ _ | refine blk_drew ?_ | refine bkA ?_ _)); exact BK283.out) hb); have n5_ := aMk (blk_below (g := gb299) (o := .cells #[.int .i64 t293, .bool t294, .slice Ao29 t295.length co29] 38 (0, 0)) (by (with_reducible repeat (first | refine bkD ?_ _ | refine blk_drew ?_ | refine bkA ?_ _)); exact BK299.out) hb); have n6_ := aMk (blk_below (g := gb305) (o := .cells #[.int .i64 t300, .bool t301, .slice Ao36 t328.length co36] 38 (0, 0)) (by (with_reducible repeat (first | refine bkD ?_ _ | refine blk_drew ?_ | refine bkA ?_ _)); exact BK305.out) hb); have n7_ := aMk (blk_below (g := gb315) (o := .cells #[.int .i64 t309, .bool t310, .slice Ao46 t333.length co46] 38 (0, 0)) (by (with_reducible repeat (first | refine bkD ?_ _ | refine blk_drew ?_ | refine bkA ?_ _)); exact BK315.out) hb); have n8_ := aMk (blk_below (g := gb349) (o := .cells #[.int .i64 t343, .bool t344, .slice Ao143 t345.length co143] 38 (0, 0)) (by (with_reducible repeat (first | refine bkD ?_ _ | refine blk_drew ?_ | refine bkA ?_ _)); exact BK349.out) hb); have n9_ := aMk (below_step (by repeat (first | (with_reducible first | exact HB.out | apply bAl | apply bDn | apply bD1 | refine bSe ?_ GE283.out | refine bSe ?_ GE299.out | refine bSe ?_ GE305.out | refine bSe ?_ GE315.out | refine bSe ?_ GE349.out) | exact HB.out)) hb); clear HO_300002; clear HO_306002; clear HO_316002; clear HO_350002; clear BK283; clear BK299; clear BK305; clear BK315; clear BK349; clear HB; have HO_300002 := n0_; have HO_306002 := n1_; have HO_316002 := n2_; have HO_350002 := n3_; have BK283 := n4_; have BK299 := n5_; have BK305 := n6_; have BK315 := n7_; have BK349 := n8_; have HB := n9_; clear n0_ n1_ n2_ n3_ n4_ n5_ n6_ n7_ n8_ n9_; (try clear hb); (try clear hb2); (try clear hk); (try clear hi)))
                             go_ret
                             exact ⟨by first | rfl | (simp [errW_none, errW_some] <;> rfl) | (simp [*, errW_none, errW_some] <;> rfl), by repeat (first | (with_reducible first | exact HB.out | apply bAl | apply bDn | apply bD1 | refine bSe ?_ GE283.out | refine bSe ?_ GE299.out | refine bSe ?_ GE305.out | refine bSe ?_ GE315.out | refine bSe ?_ GE349.out) | exact HB.out)⟩
                   · rw [if_neg c117] at H
                     have c117b0 : (t334 == t332) = false := beq_eq_false_iff_ne.mpr c117
                     have c117b1 : (t334 != t332) = true := bne_iff_ne.mpr c117
                     obtain rfl := Option.some.inj H
                     have hnb188 := NB315_283.out
                     have hnc188 := NB283_315.out
                     have hnb189 := NB315_299.out
                     have hnc189 := NB299_315.out
                     have hnb190 := NB315_305.out
                     have hnc190 := NB305_315.out
                     have hcz191_0 : wc.cell? ⟨gb315, 0, none⟩ = some (.int .i64 t309) := (bCe BK315.out 0).trans rfl
                     have hcz191_1 : wc.cell? ⟨gb315, 1, none⟩ = some (.bool t310) := (bCe BK315.out 1).trans rfl
                     have hcz191_2 : wc.cell? ⟨gb315, 2, none⟩ = some (.slice Ao46 t311.length co46) := (bCe BK315.out 2).trans rfl
                     have hfz191_0 := bFr BK315.out 0
                     have hfz191_1 := bFr BK315.out 1
                     have hfz191_2 := bFr BK315.out 2
                     go_wp2_with (first | ((with_reducible refine gate_callee (f := 28) rfl ?_); refine goesL_ (some 83) rfl rfl Try.func28 (by kernel_rfl) rfl #[.agg #[.int .i64 t309, .bool t310, .slice Ao46 t311.length co46], .int .i64 1] rfl (by (try simp only [List.map_toArray, List.map_cons, List.map_nil]); first | done | rfl | (simp only [List.length_drop, List.length_take]; rfl)) ?_; (with_reducible refine (laws_markFeed.calls kj73 t309 t310 (fun k_ => some k_ = (.slice Ao46 t311.length co46 : Value).ownBlock) (.slice Ao46 t311.length co46) t311 1 t332 t333 w _ ?side1 ?side2 A107.out).mono ?_); (case side1 => repeat (first | (with_reducible first | exact HB.out | apply bAl | apply bDn | apply bD1 | refine bSe ?_ GE283.out | refine bSe ?_ GE299.out | refine bSe ?_ GE305.out | refine bSe ?_ GE315.out) | exact HB.out)); (case side2 => exact Kd.R_tight rfl HO_316002.out); rintro e w192 ⟨rfl, hy0, hb, hkp⟩; refine ⟨_, rfl, ?_⟩; have n0_ := aMk (Kd.R_mono (ok' := fun k_ => some k_ ≠ (.slice Ao36 t328.length co36 : Value).ownBlock ∧ some k_ ≠ (.slice Ao46 t311.length co46 : Value).ownBlock) (Kd.R_keptB (HO_300002.out) hkp (fun k_ hk_ hs_ => (hk_.2) hs_)) (fun k_ hk_ => ⟨hk_.1.1, hk_.1.2⟩)); have n1_ := aMk (Kd.R_mono (ok' := fun k_ => some k_ ≠ (.slice Ao29 t295.length co29 : Value).ownBlock ∧ some k_ ≠ (.slice Ao46 t311.length co46 : Value).ownBlock) (Kd.R_keptB (HO_306002.out) hkp (fun k_ hk_ hs_ => (hk_.2) hs_)) (fun k_ hk_ => ⟨hk_.1.1, hk_.1.2⟩)); have n2_ := aMk (Kd.R_reok rfl hy0 (fun k_ e_ => HO_316002.out.1 k_ e_)); have n3_ := aMk (blk_kept (by (with_reducible repeat (first | refine bkD ?_ _ | refine blk_drew ?_ | refine bkA ?_ _)); exact BK283.out) hkp (fun hs_ => (fun e_ => (Kd.R_ne HO_316002.out BK283.out (by decide)) e_) hs_)); have n4_ := aMk (blk_kept (by (with_reducible repeat (first | refine bkD ?_ _ | refine blk_drew ?_ | refine bkA ?_ _)); exact BK299.out) hkp (fun hs_ => (fun e_ => (Kd.R_ne HO_316002.out BK299.out (by decide)) e_) hs_)); have n5_ := aMk (blk_kept (by (with_reducible repeat (first | refine bkD ?_ _ | refine blk_drew ?_ | refine bkA ?_ _)); exact BK305.out) hkp (fun hs_ => (fun e_ => (Kd.R_ne HO_316002.out BK305.out (by decide)) e_) hs_)); have n6_ := aMk (blk_kept (by (with_reducible repeat (first | refine bkD ?_ _ | refine blk_drew ?_ | refine bkA ?_ _)); exact BK315.out) hkp (fun hs_ => (fun e_ => (Kd.R_ne HO_316002.out BK315.out (by decide)) e_) hs_)); have n7_ := aMk (hb); clear HO_300002; clear HO_306002; clear HO_316002; clear BK283; clear BK299; clear BK305; clear BK315; clear HB; have HO_300002 := n0_; have HO_306002 := n1_; have HO_316002 := n2_; have BK283 := n3_; have BK299 := n4_; have BK305 := n5_; have BK315 := n6_; have HB := n7_; clear n0_ n1_ n2_ n3_ n4_ n5_ n6_ n7_; (try clear hb); (try clear hkp); (try clear hy0); have hcz193_0 : w192.cell? ⟨gb315, 0, none⟩ = some (.int .i64 t309) := (bCe BK315.out 0).trans rfl; have hcz193_1 : w192.cell? ⟨gb315, 1, none⟩ = some (.bool t310) := (bCe BK315.out 1).trans rfl; have hcz193_2 : w192.cell? ⟨gb315, 2, none⟩ = some (.slice Ao46 t311.length co46) := (bCe BK315.out 2).trans rfl; have hfz193_0 := bFr BK315.out 0; have hfz193_1 := bFr BK315.out 1; have hfz193_2 := bFr BK315.out 2) | ((with_reducible refine gate_callee (f := 30) rfl ?_); refine goesL_ (some 86) rfl rfl Try.func30 (by kernel_rfl) rfl #[.agg #[.int .i64 t309, .bool t310, .slice Ao46 t333.length co46], .int .i64 1] rfl (by (try simp only [List.map_toArray, List.map_cons, List.map_nil]); first | done | (rw [show t333.length = t311.length from (Kd.R_reads' HO_316002.out).1.symm] <;> rfl) | rfl | (simp only [List.length_drop, List.length_take]; rfl)) ?_; (with_reducible refine (laws_heldFeed.calls kj73 t309 t310 _ _ t333 1 t334 _ ?side1 ?side2 A108.out).mono ?_); (case side1 => repeat (first | exact (Kd.R_reads' HO_316002.out).2.2 | (with_reducible refine Kd.C_alloc ?_ _) | (with_reducible refine Kd.C_drewN ?_ _) | (with_reducible refine Kd.C_drew ?_))); (case side2 => rw [show t333.length = t311.length from (Kd.R_reads' HO_316002.out).1.symm]; exact (Kd.R_reads' HO_316002.out).2.1); rintro e w194 ⟨rfl, hb⟩; refine ⟨_, rfl, ?_⟩; have n0_ := aMk (Kd.R_below (by (with_reducible repeat (first | apply Kd.R_alloc | apply Kd.R_drewN | apply Kd.R_drew)); exact HO_300002.out) hb); have n1_ := aMk (Kd.R_below (by (with_reducible repeat (first | apply Kd.R_alloc | apply Kd.R_drewN | apply Kd.R_drew)); exact HO_306002.out) hb); have n2_ := aMk (Kd.R_below (by (with_reducible repeat (first | apply Kd.R_alloc | apply Kd.R_drewN | apply Kd.R_drew)); exact HO_316002.out) hb); have n3_ := aMk (blk_below (g := gb283) (o := .cells #[.int .i64 a0_0, .bool a0_1, .slice A0_2 l0_2.length c0_2] 35 (0, 0)) (by (with_reducible repeat (first | refine bkD ?_ _ | refine blk_drew ?_ | refine bkA ?_ _)); exact BK283.out) hb); have n4_ := aMk (blk_below (g := gb299) (o := .cells #[.int .i64 t293, .bool t294, .slice Ao29 t295.length co29] 38 (0, 0)) (by (with_reducible repeat (first | refine bkD ?_ _ | refine blk_drew ?_ | refine bkA ?_ _)); exact BK299.out) hb); have n5_ := aMk (blk_below (g := gb305) (o := .cells #[.int .i64 t300, .bool t301, .slice Ao36 t328.length co36] 38 (0, 0)) (by (with_reducible repeat (first | refine bkD ?_ _ | refine blk_drew ?_ | refine bkA ?_ _)); exact BK305.out) hb); have n6_ := aMk (blk_below (g := gb315) (o := .cells #[.int .i64 t309, .bool t310, .slice Ao46 t311.length co46] 38 (0, 0)) (by (with_reducible repeat (first | refine bkD ?_ _ | refine blk_drew ?_ | refine bkA ?_ _)); exact BK315.out) hb); have n7_ := aMk (below_step (by repeat (first | (with_reducible first | exact HB.out | apply bAl | apply bDn | apply bD1 | refine bSe ?_ GE283.out | refine bSe ?_ GE299.out | refine bSe ?_ GE305.out | refine bSe ?_ GE315.out) | exact HB.out)) hb); clear HO_300002; clear HO_306002; clear HO_316002; clear BK283; clear BK299; clear BK305; clear BK315; clear HB; have HO_300002 := n0_; have HO_306002 := n1_; have HO_316002 := n2_; have BK283 := n3_; have BK299 := n4_; have BK305 := n5_; have BK315 := n6_; have HB := n7_; clear n0_ n1_ n2_ n3_ n4_ n5_ n6_ n7_; (try clear hb); (try clear hb2); (try clear hk); (try clear hi)))
                     go_ret
                     exact ⟨by first | rfl | (simp [errW_none, errW_some] <;> rfl) | (simp [*, errW_none, errW_some] <;> rfl), by repeat (first | (with_reducible first | exact HB.out | apply bAl | apply bDn | apply bD1 | refine bSe ?_ GE283.out | refine bSe ?_ GE299.out | refine bSe ?_ GE305.out | refine bSe ?_ GE315.out) | exact HB.out)⟩
           · replace c71 := Bool.eq_false_iff.mpr c71
             subst c71
             have H1 : (some false) = some r := by rw [if_neg (show ¬ (false = true) by decide)] at H; exact H
             clear H
             have H := H1
             clear H1
             obtain rfl := Option.some.inj H
             try go_wp2
             have n0_ := aMk (Kd.R_drew HO_9.out)
             have n1_ := aMk (Kd.R_drew HO_300002.out)
             have n2_ := aMk (Kd.R_drew HO_306002.out)
             have n3_ := aMk (Kd.R_drew HO_316002.out)
             have n4_ := aMk (blk_drew BK283.out)
             have n5_ := aMk (blk_drew BK299.out)
             have n6_ := aMk (blk_drew BK305.out)
             have n7_ := aMk (blk_drew BK315.out)
             have n8_ := aMk (bD1 HB.out)
             clear HO_9
             clear HO_300002
             clear HO_306002
             clear HO_316002
             clear BK283
             clear BK299
             clear BK305
             clear BK315
             clear HB
             have HO_9 := n0_
             have HO_300002 := n1_
             have HO_306002 := n2_
             have HO_316002 := n3_
             have BK283 := n4_
             have BK299 := n5_
             have BK305 := n6_
             have BK315 := n7_
             have HB := n8_
             clear n0_ n1_ n2_ n3_ n4_ n5_ n6_ n7_ n8_
             refine start_ (n := 5) (S := fun w' => w'.cell? ⟨gb305, 0, none⟩ = some (.int .i64 t300) ∧ w'.cell? ⟨gb305, 1, none⟩ = some (.bool t301) ∧ w'.cell? ⟨gb305, 2, none⟩ = some (.slice Ao36 t302.length co36) ∧ w'.cell? ⟨gb283, 0, none⟩ = some (.int .i64 a0_0) ∧ w'.cell? ⟨gb283, 1, none⟩ = some (.bool a0_1) ∧ w'.cell? ⟨gb283, 2, none⟩ = some (.slice A0_2 l0_2.length c0_2)) (ds := []) #[false, false, false, false, false] (by kernel_rfl) rfl rfl ⟨(bCe BK305.out 0).trans rfl, (bCe BK305.out 1).trans rfl, (bCe BK305.out 2).trans rfl, (bCe BK283.out 0).trans rfl, (bCe BK283.out 1).trans rfl, (bCe BK283.out 2).trans rfl⟩ (fun hHeld => ?_)
             generalize wc.drew = w195 at HO_9 HO_300002 HO_306002 HO_316002 BK283 BK299 BK305 BK315 HB hHeld ⊢
             refine take_ (i := 0) (N := some 52) (v := ?_) (a' := ?_) #[true, false, false, false, false] rfl rfl (by kernel_rfl) (fun _ _ _ h => h) (Or.inl ⟨by rfl, ?_⟩) hHeld ?_ ?_
             rotate_left
             · rintro w' ⟨s0, s1, s2, s3, s4, s5⟩
               go_simp
               with_reducible rfl
             rotate_left
             · simp only [Act.put, lSa, lSz, lSs, i64_w, i32_w]
               rfl
             refine take_ (i := 1) (N := some 53) (v := ?_) (a' := ?_) #[true, true, false, false, false] rfl rfl (by kernel_rfl) (fun _ _ _ h => h) (Or.inl ⟨by rfl, ?_⟩) hHeld ?_ ?_
             rotate_left
             · rintro w' ⟨s0, s1, s2, s3, s4, s5⟩
               go_simp
               with_reducible rfl
             rotate_left
             · simp only [Act.put, lSa, lSz, lSs, i64_w, i32_w]
               rfl
             refine one_ (i := 2) (N := some 54) #[true, true, true, false, false] rfl rfl (by kernel_rfl) (by decide) (fun K hK => ?_)
             refine goes_ Try.func23 (by kernel_rfl) rfl #[.agg #[.int .i64 a0_0, .bool a0_1, .slice A0_2 l0_2.length c0_2]] (by rfl) rfl rfl (by (try simp only [List.map_toArray, List.map_cons, List.map_nil]); first | done | rfl | (simp only [List.length_drop, List.length_take]; rfl)) ?_
             with_reducible refine (laws_toFeed.calls kj15 a0_0 a0_1 _ _ l0_2 t317 t318 t319 _ ?side1 ?side2 A66.out).mono ?_
             (case side1 => repeat (first | exact (Kd.C_below HR0_2.out HB.out) | (with_reducible refine Kd.C_alloc ?_ _) | (with_reducible refine Kd.C_drewN ?_ _) | (with_reducible refine Kd.C_drew ?_)))
             (case side2 => exact HC0_2.out)
             rintro e w196 ⟨v320, rfl, ho0, hb⟩
             refine ⟨_, rfl, ?_⟩
             have n0_ := aMk (Kd.R_elder' (by (with_reducible repeat (first | apply Kd.R_alloc | apply Kd.R_drewN | apply Kd.R_drew)); exact HO_9.out) (Kd.R_base ho0) hb)
             have n1_ := aMk (Kd.R_elder' (by (with_reducible repeat (first | apply Kd.R_alloc | apply Kd.R_drewN | apply Kd.R_drew)); exact HO_300002.out) (Kd.R_base ho0) hb)
             have n2_ := aMk (Kd.R_elder' (by (with_reducible repeat (first | apply Kd.R_alloc | apply Kd.R_drewN | apply Kd.R_drew)); exact HO_306002.out) (Kd.R_base ho0) hb)
             have n3_ := aMk (Kd.R_elder' (by (with_reducible repeat (first | apply Kd.R_alloc | apply Kd.R_drewN | apply Kd.R_drew)); exact HO_316002.out) (Kd.R_base ho0) hb)
             have n4_ := aMk (Kd.R_lower (Kd.R_new' (Kd.R_new' (Kd.R_new' (Kd.R_new' ho0 (Kd.R_lt (by (with_reducible repeat (first | apply Kd.R_alloc | apply Kd.R_drewN | apply Kd.R_drew)); exact HO_9.out))) (Kd.R_lt (by (with_reducible repeat (first | apply Kd.R_alloc | apply Kd.R_drewN | apply Kd.R_drew)); exact HO_300002.out))) (Kd.R_lt (by (with_reducible repeat (first | apply Kd.R_alloc | apply Kd.R_drewN | apply Kd.R_drew)); exact HO_306002.out))) (Kd.R_lt (by (with_reducible repeat (first | apply Kd.R_alloc | apply Kd.R_drewN | apply Kd.R_drew)); exact HO_316002.out))) (below_size (by repeat (first | (with_reducible first | exact HB.out | apply bAl | apply bDn | apply bD1 | refine bSe ?_ GE283.out | refine bSe ?_ GE299.out | refine bSe ?_ GE305.out | refine bSe ?_ GE315.out) | exact HB.out))))
             have n5_ := aMk (blk_below (g := gb283) (o := .cells #[.int .i64 a0_0, .bool a0_1, .slice A0_2 l0_2.length c0_2] 35 (0, 0)) (by (with_reducible repeat (first | refine bkD ?_ _ | refine blk_drew ?_ | refine bkA ?_ _)); exact BK283.out) hb)
             have n6_ := aMk (blk_below (g := gb299) (o := .cells #[.int .i64 t293, .bool t294, .slice Ao29 t295.length co29] 38 (0, 0)) (by (with_reducible repeat (first | refine bkD ?_ _ | refine blk_drew ?_ | refine bkA ?_ _)); exact BK299.out) hb)
             have n7_ := aMk (blk_below (g := gb305) (o := .cells #[.int .i64 t300, .bool t301, .slice Ao36 t302.length co36] 38 (0, 0)) (by (with_reducible repeat (first | refine bkD ?_ _ | refine blk_drew ?_ | refine bkA ?_ _)); exact BK305.out) hb)
             have n8_ := aMk (blk_below (g := gb315) (o := .cells #[.int .i64 t309, .bool t310, .slice Ao46 t311.length co46] 38 (0, 0)) (by (with_reducible repeat (first | refine bkD ?_ _ | refine blk_drew ?_ | refine bkA ?_ _)); exact BK315.out) hb)
             have n9_ := aMk (below_step (by repeat (first | (with_reducible first | exact HB.out | apply bAl | apply bDn | apply bD1 | refine bSe ?_ GE283.out | refine bSe ?_ GE299.out | refine bSe ?_ GE305.out | refine bSe ?_ GE315.out) | exact HB.out)) hb)
             clear HO_9
             clear HO_300002
             clear HO_306002
             clear HO_316002
             clear BK283
             clear BK299
             clear BK305
             clear BK315
             clear HB
             have HO_9 := n0_
             have HO_300002 := n1_
             have HO_306002 := n2_
             have HO_316002 := n3_
             have HO321 := n4_
             have BK283 := n5_
             have BK299 := n6_
             have BK305 := n7_
             have BK315 := n8_
             have HB := n9_
             clear n0_ n1_ n2_ n3_ n4_ n5_ n6_ n7_ n8_ n9_
             (try clear hb)
             (try clear hb2)
             (try clear hk)
             (try clear hi)
             (try clear ho0)
             obtain ⟨Ao197, co197, eo197⟩ := Kd.R_slice HO321.out
             (first | subst eo197 | (injection eo197 with f1_ f2_ f3_; have f4_ := f1_.symm; have f5_ := f3_.symm; clear f1_ f2_ f3_; subst f4_; subst f5_))
             refine hK.out _ _ ⟨(bCe BK305.out 0).trans rfl, (bCe BK305.out 1).trans rfl, (bCe BK305.out 2).trans rfl, (bCe BK283.out 0).trans rfl, (bCe BK283.out 1).trans rfl, (bCe BK283.out 2).trans rfl⟩ (fun hHeld => ?_)
             clear hK K
             refine norm_ (a' := ?_) ?_ ?_
             rotate_left
             · show Act.put _ (some 54) _ = _
               simp only [Act.put, lSa, lSz, lSs, i64_w, i32_w]
               rfl
             refine one_ (i := 3) (N := some 55) #[true, true, true, true, false] rfl rfl (by kernel_rfl) (by decide) (fun K hK => ?_)
             refine goes_ Try.func25 (by kernel_rfl) rfl #[.agg #[.int .i64 t300, .bool t301, .slice Ao36 t302.length co36], .agg #[.int .i64 t317, .bool t318, .slice Ao197 t319.length co197]] (by rfl) rfl rfl (by (try simp only [List.map_toArray, List.map_cons, List.map_nil]); first | done | rfl | (simp only [List.length_drop, List.length_take]; rfl)) ?_
             with_reducible refine (laws_eqFeed.calls kj15 t300 t301 _ _ t302 t317 t318 _ _ t319 true _ ?side1 ?side2 ?side3 ?side4 A67.out).mono ?_
             (case side1 => repeat (first | exact (Kd.R_reads' HO_306002.out).2.2 | (with_reducible refine Kd.C_alloc ?_ _) | (with_reducible refine Kd.C_drewN ?_ _) | (with_reducible refine Kd.C_drew ?_)))
             (case side2 => exact (Kd.R_reads' HO_306002.out).2.1)
             (case side3 => repeat (first | exact (Kd.R_reads' HO321.out).2.2 | (with_reducible refine Kd.C_alloc ?_ _) | (with_reducible refine Kd.C_drewN ?_ _) | (with_reducible refine Kd.C_drew ?_)))
             (case side4 => exact (Kd.R_reads' HO321.out).2.1)
             rintro e w198 ⟨rfl, hb⟩
             refine ⟨_, rfl, ?_⟩
             have n0_ := aMk (Kd.R_below (by (with_reducible repeat (first | apply Kd.R_alloc | apply Kd.R_drewN | apply Kd.R_drew)); exact HO_9.out) hb)
             have n1_ := aMk (Kd.R_below (by (with_reducible repeat (first | apply Kd.R_alloc | apply Kd.R_drewN | apply Kd.R_drew)); exact HO_300002.out) hb)
             have n2_ := aMk (Kd.R_below (by (with_reducible repeat (first | apply Kd.R_alloc | apply Kd.R_drewN | apply Kd.R_drew)); exact HO_306002.out) hb)
             have n3_ := aMk (Kd.R_below (by (with_reducible repeat (first | apply Kd.R_alloc | apply Kd.R_drewN | apply Kd.R_drew)); exact HO_316002.out) hb)
             have n4_ := aMk (Kd.R_below (by (with_reducible repeat (first | apply Kd.R_alloc | apply Kd.R_drewN | apply Kd.R_drew)); exact HO321.out) hb)
             have n5_ := aMk (blk_below (g := gb283) (o := .cells #[.int .i64 a0_0, .bool a0_1, .slice A0_2 l0_2.length c0_2] 35 (0, 0)) (by (with_reducible repeat (first | refine bkD ?_ _ | refine blk_drew ?_ | refine bkA ?_ _)); exact BK283.out) hb)
             have n6_ := aMk (blk_below (g := gb299) (o := .cells #[.int .i64 t293, .bool t294, .slice Ao29 t295.length co29] 38 (0, 0)) (by (with_reducible repeat (first | refine bkD ?_ _ | refine blk_drew ?_ | refine bkA ?_ _)); exact BK299.out) hb)
             have n7_ := aMk (blk_below (g := gb305) (o := .cells #[.int .i64 t300, .bool t301, .slice Ao36 t302.length co36] 38 (0, 0)) (by (with_reducible repeat (first | refine bkD ?_ _ | refine blk_drew ?_ | refine bkA ?_ _)); exact BK305.out) hb)
             have n8_ := aMk (blk_below (g := gb315) (o := .cells #[.int .i64 t309, .bool t310, .slice Ao46 t311.length co46] 38 (0, 0)) (by (with_reducible repeat (first | refine bkD ?_ _ | refine blk_drew ?_ | refine bkA ?_ _)); exact BK315.out) hb)
             have n9_ := aMk (below_step (by repeat (first | (with_reducible first | exact HB.out | apply bAl | apply bDn | apply bD1 | refine bSe ?_ GE283.out | refine bSe ?_ GE299.out | refine bSe ?_ GE305.out | refine bSe ?_ GE315.out) | exact HB.out)) hb)
             clear HO_9
             clear HO_300002
             clear HO_306002
             clear HO_316002
             clear HO321
             clear BK283
             clear BK299
             clear BK305
             clear BK315
             clear HB
             have HO_9 := n0_
             have HO_300002 := n1_
             have HO_306002 := n2_
             have HO_316002 := n3_
             have HO321 := n4_
             have BK283 := n5_
             have BK299 := n6_
             have BK305 := n7_
             have BK315 := n8_
             have HB := n9_
             clear n0_ n1_ n2_ n3_ n4_ n5_ n6_ n7_ n8_ n9_
             (try clear hb)
             (try clear hb2)
             (try clear hk)
             (try clear hi)
             refine hK.out _ _ ⟨(bCe BK305.out 0).trans rfl, (bCe BK305.out 1).trans rfl, (bCe BK305.out 2).trans rfl, (bCe BK283.out 0).trans rfl, (bCe BK283.out 1).trans rfl, (bCe BK283.out 2).trans rfl⟩ (fun hHeld => ?_)
             clear hK K
             refine norm_ (a' := ?_) ?_ ?_
             rotate_left
             · show Act.put _ (some 55) _ = _
               simp only [Act.put, lSa, lSz, lSs, i64_w, i32_w]
               rfl
             refine pure_ (i := 4) (N := some 56) (v := ?_) (a' := ?_) #[true, true, true, true, true] rfl rfl (by kernel_rfl) (fun _ _ _ h => h) (Or.inl ⟨by rfl, ?_⟩) ?_ ?_
             rotate_left
             · intro w'
               go_simp
               with_reducible rfl
             rotate_left
             · simp only [Act.put, lSa, lSz, lSs, i64_w, i32_w]
               rfl
             refine done_ (by kernel_rfl) ?_
             try go_wp2_with (first | ((with_reducible refine gate_callee (f := 19) rfl ?_); refine goesL_ (some 59) rfl rfl Try.func19 (by kernel_rfl) rfl #[.slice A1 l1.length c1] rfl (by (try simp only [List.map_toArray, List.map_cons, List.map_nil]); first | done | rfl | (simp only [List.length_drop, List.length_take]; rfl)) ?_; (with_reducible refine (laws_toByteS.calls kj15 _ _ l1 t323 _ ?side1 ?side2 A69.out).mono ?_); (case side1 => repeat (first | exact (Kd.C_below HR1.out HB.out) | (with_reducible refine Kd.C_alloc ?_ _) | (with_reducible refine Kd.C_drewN ?_ _) | (with_reducible refine Kd.C_drew ?_))); (case side2 => exact HC1.out); rintro e w199 ⟨v324, rfl, ho0, hb⟩; refine ⟨_, rfl, ?_⟩; have n0_ := aMk (Kd.R_elder' (by (with_reducible repeat (first | apply Kd.R_alloc | apply Kd.R_drewN | apply Kd.R_drew)); exact HO_9.out) (Kd.R_base ho0) hb); have n1_ := aMk (Kd.R_elder' (by (with_reducible repeat (first | apply Kd.R_alloc | apply Kd.R_drewN | apply Kd.R_drew)); exact HO_300002.out) (Kd.R_base ho0) hb); have n2_ := aMk (Kd.R_elder' (by (with_reducible repeat (first | apply Kd.R_alloc | apply Kd.R_drewN | apply Kd.R_drew)); exact HO_306002.out) (Kd.R_base ho0) hb); have n3_ := aMk (Kd.R_elder' (by (with_reducible repeat (first | apply Kd.R_alloc | apply Kd.R_drewN | apply Kd.R_drew)); exact HO_316002.out) (Kd.R_base ho0) hb); have n4_ := aMk (Kd.R_elder' (by (with_reducible repeat (first | apply Kd.R_alloc | apply Kd.R_drewN | apply Kd.R_drew)); exact HO321.out) (Kd.R_base ho0) hb); have n5_ := aMk (Kd.R_lower (Kd.R_new' (Kd.R_new' (Kd.R_new' (Kd.R_new' (Kd.R_new' ho0 (Kd.R_lt (by (with_reducible repeat (first | apply Kd.R_alloc | apply Kd.R_drewN | apply Kd.R_drew)); exact HO_9.out))) (Kd.R_lt (by (with_reducible repeat (first | apply Kd.R_alloc | apply Kd.R_drewN | apply Kd.R_drew)); exact HO_300002.out))) (Kd.R_lt (by (with_reducible repeat (first | apply Kd.R_alloc | apply Kd.R_drewN | apply Kd.R_drew)); exact HO_306002.out))) (Kd.R_lt (by (with_reducible repeat (first | apply Kd.R_alloc | apply Kd.R_drewN | apply Kd.R_drew)); exact HO_316002.out))) (Kd.R_lt (by (with_reducible repeat (first | apply Kd.R_alloc | apply Kd.R_drewN | apply Kd.R_drew)); exact HO321.out))) (below_size (by repeat (first | (with_reducible first | exact HB.out | apply bAl | apply bDn | apply bD1 | refine bSe ?_ GE283.out | refine bSe ?_ GE299.out | refine bSe ?_ GE305.out | refine bSe ?_ GE315.out) | exact HB.out)))); have n6_ := aMk (blk_below (g := gb283) (o := .cells #[.int .i64 a0_0, .bool a0_1, .slice A0_2 l0_2.length c0_2] 35 (0, 0)) (by (with_reducible repeat (first | refine bkD ?_ _ | refine blk_drew ?_ | refine bkA ?_ _)); exact BK283.out) hb); have n7_ := aMk (blk_below (g := gb299) (o := .cells #[.int .i64 t293, .bool t294, .slice Ao29 t295.length co29] 38 (0, 0)) (by (with_reducible repeat (first | refine bkD ?_ _ | refine blk_drew ?_ | refine bkA ?_ _)); exact BK299.out) hb); have n8_ := aMk (blk_below (g := gb305) (o := .cells #[.int .i64 t300, .bool t301, .slice Ao36 t302.length co36] 38 (0, 0)) (by (with_reducible repeat (first | refine bkD ?_ _ | refine blk_drew ?_ | refine bkA ?_ _)); exact BK305.out) hb); have n9_ := aMk (blk_below (g := gb315) (o := .cells #[.int .i64 t309, .bool t310, .slice Ao46 t311.length co46] 38 (0, 0)) (by (with_reducible repeat (first | refine bkD ?_ _ | refine blk_drew ?_ | refine bkA ?_ _)); exact BK315.out) hb); have n10_ := aMk (below_step (by repeat (first | (with_reducible first | exact HB.out | apply bAl | apply bDn | apply bD1 | refine bSe ?_ GE283.out | refine bSe ?_ GE299.out | refine bSe ?_ GE305.out | refine bSe ?_ GE315.out) | exact HB.out)) hb); clear HO_9; clear HO_300002; clear HO_306002; clear HO_316002; clear HO321; clear BK283; clear BK299; clear BK305; clear BK315; clear HB; have HO_9 := n0_; have HO_300002 := n1_; have HO_306002 := n2_; have HO_316002 := n3_; have HO321 := n4_; have HO325 := n5_; have BK283 := n6_; have BK299 := n7_; have BK305 := n8_; have BK315 := n9_; have HB := n10_; clear n0_ n1_ n2_ n3_ n4_ n5_ n6_ n7_ n8_ n9_ n10_; (try clear hb); (try clear hb2); (try clear hk); (try clear hi); (try clear ho0); obtain ⟨Ao200, co200, eo200⟩ := Kd.R_slice HO325.out; subst eo200) | ((with_reducible refine gate_callee (f := 20) rfl ?_); refine goesL_ (some 60) rfl rfl Try.func20 (by kernel_rfl) rfl #[.slice Ao39 t306.length co39, .slice Ao200 t323.length co200] rfl (by (try simp only [List.map_toArray, List.map_cons, List.map_nil]); first | done | rfl | (simp only [List.length_drop, List.length_take]; rfl)) ?_; (with_reducible refine (laws_eqByteS.calls kj15 _ _ t306 _ _ t323 false _ ?side1 ?side2 ?side3 ?side4 A70.out).mono ?_); (case side1 => repeat (first | exact (Kd.R_reads' HO_9.out).2.2 | (with_reducible refine Kd.C_alloc ?_ _) | (with_reducible refine Kd.C_drewN ?_ _) | (with_reducible refine Kd.C_drew ?_))); (case side2 => exact (Kd.R_reads' HO_9.out).2.1); (case side3 => repeat (first | exact (Kd.R_reads' HO325.out).2.2 | (with_reducible refine Kd.C_alloc ?_ _) | (with_reducible refine Kd.C_drewN ?_ _) | (with_reducible refine Kd.C_drew ?_))); (case side4 => exact (Kd.R_reads' HO325.out).2.1); rintro e w' ⟨rfl, ⟨nd, rfl⟩⟩; refine ⟨_, rfl, ?_⟩))
             go_ret
             exact ⟨by first | rfl | (simp [errW_none, errW_some] <;> rfl) | (simp [*, errW_none, errW_some] <;> rfl), by repeat (first | (with_reducible first | exact HB.out | apply bAl | apply bDn | apply bD1 | refine bSe ?_ GE283.out | refine bSe ?_ GE299.out | refine bSe ?_ GE305.out | refine bSe ?_ GE315.out) | exact HB.out)⟩
         · replace c68 := Bool.eq_false_iff.mpr c68
           subst c68
           have H1 : (some false) = some r := by rw [if_neg (show ¬ (false = true) by decide)] at H; exact H
           clear H
           have H := H1
           clear H1
           obtain rfl := Option.some.inj H
           try go_wp2
           have n0_ := aMk (Kd.R_drew HO_9.out)
           have n1_ := aMk (Kd.R_drew HO_300002.out)
           have n2_ := aMk (Kd.R_drew HO_306002.out)
           have n3_ := aMk (Kd.R_drew HO_316002.out)
           have n4_ := aMk (blk_drew BK283.out)
           have n5_ := aMk (blk_drew BK299.out)
           have n6_ := aMk (blk_drew BK305.out)
           have n7_ := aMk (blk_drew BK315.out)
           have n8_ := aMk (bD1 HB.out)
           clear HO_9
           clear HO_300002
           clear HO_306002
           clear HO_316002
           clear BK283
           clear BK299
           clear BK305
           clear BK315
           clear HB
           have HO_9 := n0_
           have HO_300002 := n1_
           have HO_306002 := n2_
           have HO_316002 := n3_
           have BK283 := n4_
           have BK299 := n5_
           have BK305 := n6_
           have BK315 := n7_
           have HB := n8_
           clear n0_ n1_ n2_ n3_ n4_ n5_ n6_ n7_ n8_
           refine start_ (n := 5) (S := fun w' => w'.cell? ⟨gb305, 0, none⟩ = some (.int .i64 t300) ∧ w'.cell? ⟨gb305, 1, none⟩ = some (.bool t301) ∧ w'.cell? ⟨gb305, 2, none⟩ = some (.slice Ao36 t302.length co36) ∧ w'.cell? ⟨gb283, 0, none⟩ = some (.int .i64 a0_0) ∧ w'.cell? ⟨gb283, 1, none⟩ = some (.bool a0_1) ∧ w'.cell? ⟨gb283, 2, none⟩ = some (.slice A0_2 l0_2.length c0_2)) (ds := []) #[false, false, false, false, false] (by kernel_rfl) rfl rfl ⟨(bCe BK305.out 0).trans rfl, (bCe BK305.out 1).trans rfl, (bCe BK305.out 2).trans rfl, (bCe BK283.out 0).trans rfl, (bCe BK283.out 1).trans rfl, (bCe BK283.out 2).trans rfl⟩ (fun hHeld => ?_)
           generalize wc.drew = w201 at HO_9 HO_300002 HO_306002 HO_316002 BK283 BK299 BK305 BK315 HB hHeld ⊢
           refine take_ (i := 0) (N := some 52) (v := ?_) (a' := ?_) #[true, false, false, false, false] rfl rfl (by kernel_rfl) (fun _ _ _ h => h) (Or.inl ⟨by rfl, ?_⟩) hHeld ?_ ?_
           rotate_left
           · rintro w' ⟨s0, s1, s2, s3, s4, s5⟩
             go_simp
             with_reducible rfl
           rotate_left
           · simp only [Act.put, lSa, lSz, lSs, i64_w, i32_w]
             rfl
           refine take_ (i := 1) (N := some 53) (v := ?_) (a' := ?_) #[true, true, false, false, false] rfl rfl (by kernel_rfl) (fun _ _ _ h => h) (Or.inl ⟨by rfl, ?_⟩) hHeld ?_ ?_
           rotate_left
           · rintro w' ⟨s0, s1, s2, s3, s4, s5⟩
             go_simp
             with_reducible rfl
           rotate_left
           · simp only [Act.put, lSa, lSz, lSs, i64_w, i32_w]
             rfl
           refine one_ (i := 2) (N := some 54) #[true, true, true, false, false] rfl rfl (by kernel_rfl) (by decide) (fun K hK => ?_)
           refine goes_ Try.func23 (by kernel_rfl) rfl #[.agg #[.int .i64 a0_0, .bool a0_1, .slice A0_2 l0_2.length c0_2]] (by rfl) rfl rfl (by (try simp only [List.map_toArray, List.map_cons, List.map_nil]); first | done | rfl | (simp only [List.length_drop, List.length_take]; rfl)) ?_
           with_reducible refine (laws_toFeed.calls kj15 a0_0 a0_1 _ _ l0_2 t317 t318 t319 _ ?side1 ?side2 A66.out).mono ?_
           (case side1 => repeat (first | exact (Kd.C_below HR0_2.out HB.out) | (with_reducible refine Kd.C_alloc ?_ _) | (with_reducible refine Kd.C_drewN ?_ _) | (with_reducible refine Kd.C_drew ?_)))
           (case side2 => exact HC0_2.out)
           rintro e w202 ⟨v320, rfl, ho0, hb⟩
           refine ⟨_, rfl, ?_⟩
           have n0_ := aMk (Kd.R_elder' (by (with_reducible repeat (first | apply Kd.R_alloc | apply Kd.R_drewN | apply Kd.R_drew)); exact HO_9.out) (Kd.R_base ho0) hb)
           have n1_ := aMk (Kd.R_elder' (by (with_reducible repeat (first | apply Kd.R_alloc | apply Kd.R_drewN | apply Kd.R_drew)); exact HO_300002.out) (Kd.R_base ho0) hb)
           have n2_ := aMk (Kd.R_elder' (by (with_reducible repeat (first | apply Kd.R_alloc | apply Kd.R_drewN | apply Kd.R_drew)); exact HO_306002.out) (Kd.R_base ho0) hb)
           have n3_ := aMk (Kd.R_elder' (by (with_reducible repeat (first | apply Kd.R_alloc | apply Kd.R_drewN | apply Kd.R_drew)); exact HO_316002.out) (Kd.R_base ho0) hb)
           have n4_ := aMk (Kd.R_lower (Kd.R_new' (Kd.R_new' (Kd.R_new' (Kd.R_new' ho0 (Kd.R_lt (by (with_reducible repeat (first | apply Kd.R_alloc | apply Kd.R_drewN | apply Kd.R_drew)); exact HO_9.out))) (Kd.R_lt (by (with_reducible repeat (first | apply Kd.R_alloc | apply Kd.R_drewN | apply Kd.R_drew)); exact HO_300002.out))) (Kd.R_lt (by (with_reducible repeat (first | apply Kd.R_alloc | apply Kd.R_drewN | apply Kd.R_drew)); exact HO_306002.out))) (Kd.R_lt (by (with_reducible repeat (first | apply Kd.R_alloc | apply Kd.R_drewN | apply Kd.R_drew)); exact HO_316002.out))) (below_size (by repeat (first | (with_reducible first | exact HB.out | apply bAl | apply bDn | apply bD1 | refine bSe ?_ GE283.out | refine bSe ?_ GE299.out | refine bSe ?_ GE305.out | refine bSe ?_ GE315.out) | exact HB.out))))
           have n5_ := aMk (blk_below (g := gb283) (o := .cells #[.int .i64 a0_0, .bool a0_1, .slice A0_2 l0_2.length c0_2] 35 (0, 0)) (by (with_reducible repeat (first | refine bkD ?_ _ | refine blk_drew ?_ | refine bkA ?_ _)); exact BK283.out) hb)
           have n6_ := aMk (blk_below (g := gb299) (o := .cells #[.int .i64 t293, .bool t294, .slice Ao29 t295.length co29] 38 (0, 0)) (by (with_reducible repeat (first | refine bkD ?_ _ | refine blk_drew ?_ | refine bkA ?_ _)); exact BK299.out) hb)
           have n7_ := aMk (blk_below (g := gb305) (o := .cells #[.int .i64 t300, .bool t301, .slice Ao36 t302.length co36] 38 (0, 0)) (by (with_reducible repeat (first | refine bkD ?_ _ | refine blk_drew ?_ | refine bkA ?_ _)); exact BK305.out) hb)
           have n8_ := aMk (blk_below (g := gb315) (o := .cells #[.int .i64 t309, .bool t310, .slice Ao46 t311.length co46] 38 (0, 0)) (by (with_reducible repeat (first | refine bkD ?_ _ | refine blk_drew ?_ | refine bkA ?_ _)); exact BK315.out) hb)
           have n9_ := aMk (below_step (by repeat (first | (with_reducible first | exact HB.out | apply bAl | apply bDn | apply bD1 | refine bSe ?_ GE283.out | refine bSe ?_ GE299.out | refine bSe ?_ GE305.out | refine bSe ?_ GE315.out) | exact HB.out)) hb)
           clear HO_9
           clear HO_300002
           clear HO_306002
           clear HO_316002
           clear BK283
           clear BK299
           clear BK305
           clear BK315
           clear HB
           have HO_9 := n0_
           have HO_300002 := n1_
           have HO_306002 := n2_
           have HO_316002 := n3_
           have HO321 := n4_
           have BK283 := n5_
           have BK299 := n6_
           have BK305 := n7_
           have BK315 := n8_
           have HB := n9_
           clear n0_ n1_ n2_ n3_ n4_ n5_ n6_ n7_ n8_ n9_
           (try clear hb)
           (try clear hb2)
           (try clear hk)
           (try clear hi)
           (try clear ho0)
           obtain ⟨Ao203, co203, eo203⟩ := Kd.R_slice HO321.out
           (first | subst eo203 | (injection eo203 with f1_ f2_ f3_; have f4_ := f1_.symm; have f5_ := f3_.symm; clear f1_ f2_ f3_; subst f4_; subst f5_))
           refine hK.out _ _ ⟨(bCe BK305.out 0).trans rfl, (bCe BK305.out 1).trans rfl, (bCe BK305.out 2).trans rfl, (bCe BK283.out 0).trans rfl, (bCe BK283.out 1).trans rfl, (bCe BK283.out 2).trans rfl⟩ (fun hHeld => ?_)
           clear hK K
           refine norm_ (a' := ?_) ?_ ?_
           rotate_left
           · show Act.put _ (some 54) _ = _
             simp only [Act.put, lSa, lSz, lSs, i64_w, i32_w]
             rfl
           refine one_ (i := 3) (N := some 55) #[true, true, true, true, false] rfl rfl (by kernel_rfl) (by decide) (fun K hK => ?_)
           refine goes_ Try.func25 (by kernel_rfl) rfl #[.agg #[.int .i64 t300, .bool t301, .slice Ao36 t302.length co36], .agg #[.int .i64 t317, .bool t318, .slice Ao203 t319.length co203]] (by rfl) rfl rfl (by (try simp only [List.map_toArray, List.map_cons, List.map_nil]); first | done | rfl | (simp only [List.length_drop, List.length_take]; rfl)) ?_
           with_reducible refine (laws_eqFeed.calls kj15 t300 t301 _ _ t302 t317 t318 _ _ t319 false _ ?side1 ?side2 ?side3 ?side4 A67.out).mono ?_
           (case side1 => repeat (first | exact (Kd.R_reads' HO_306002.out).2.2 | (with_reducible refine Kd.C_alloc ?_ _) | (with_reducible refine Kd.C_drewN ?_ _) | (with_reducible refine Kd.C_drew ?_)))
           (case side2 => exact (Kd.R_reads' HO_306002.out).2.1)
           (case side3 => repeat (first | exact (Kd.R_reads' HO321.out).2.2 | (with_reducible refine Kd.C_alloc ?_ _) | (with_reducible refine Kd.C_drewN ?_ _) | (with_reducible refine Kd.C_drew ?_)))
           (case side4 => exact (Kd.R_reads' HO321.out).2.1)
           rintro e w204 ⟨rfl, hb⟩
           refine ⟨_, rfl, ?_⟩
           have n0_ := aMk (Kd.R_below (by (with_reducible repeat (first | apply Kd.R_alloc | apply Kd.R_drewN | apply Kd.R_drew)); exact HO_9.out) hb)
           have n1_ := aMk (Kd.R_below (by (with_reducible repeat (first | apply Kd.R_alloc | apply Kd.R_drewN | apply Kd.R_drew)); exact HO_300002.out) hb)
           have n2_ := aMk (Kd.R_below (by (with_reducible repeat (first | apply Kd.R_alloc | apply Kd.R_drewN | apply Kd.R_drew)); exact HO_306002.out) hb)
           have n3_ := aMk (Kd.R_below (by (with_reducible repeat (first | apply Kd.R_alloc | apply Kd.R_drewN | apply Kd.R_drew)); exact HO_316002.out) hb)
           have n4_ := aMk (Kd.R_below (by (with_reducible repeat (first | apply Kd.R_alloc | apply Kd.R_drewN | apply Kd.R_drew)); exact HO321.out) hb)
           have n5_ := aMk (blk_below (g := gb283) (o := .cells #[.int .i64 a0_0, .bool a0_1, .slice A0_2 l0_2.length c0_2] 35 (0, 0)) (by (with_reducible repeat (first | refine bkD ?_ _ | refine blk_drew ?_ | refine bkA ?_ _)); exact BK283.out) hb)
           have n6_ := aMk (blk_below (g := gb299) (o := .cells #[.int .i64 t293, .bool t294, .slice Ao29 t295.length co29] 38 (0, 0)) (by (with_reducible repeat (first | refine bkD ?_ _ | refine blk_drew ?_ | refine bkA ?_ _)); exact BK299.out) hb)
           have n7_ := aMk (blk_below (g := gb305) (o := .cells #[.int .i64 t300, .bool t301, .slice Ao36 t302.length co36] 38 (0, 0)) (by (with_reducible repeat (first | refine bkD ?_ _ | refine blk_drew ?_ | refine bkA ?_ _)); exact BK305.out) hb)
           have n8_ := aMk (blk_below (g := gb315) (o := .cells #[.int .i64 t309, .bool t310, .slice Ao46 t311.length co46] 38 (0, 0)) (by (with_reducible repeat (first | refine bkD ?_ _ | refine blk_drew ?_ | refine bkA ?_ _)); exact BK315.out) hb)
           have n9_ := aMk (below_step (by repeat (first | (with_reducible first | exact HB.out | apply bAl | apply bDn | apply bD1 | refine bSe ?_ GE283.out | refine bSe ?_ GE299.out | refine bSe ?_ GE305.out | refine bSe ?_ GE315.out) | exact HB.out)) hb)
           clear HO_9
           clear HO_300002
           clear HO_306002
           clear HO_316002
           clear HO321
           clear BK283
           clear BK299
           clear BK305
           clear BK315
           clear HB
           have HO_9 := n0_
           have HO_300002 := n1_
           have HO_306002 := n2_
           have HO_316002 := n3_
           have HO321 := n4_
           have BK283 := n5_
           have BK299 := n6_
           have BK305 := n7_
           have BK315 := n8_
           have HB := n9_
           clear n0_ n1_ n2_ n3_ n4_ n5_ n6_ n7_ n8_ n9_
           (try clear hb)
           (try clear hb2)
           (try clear hk)
           (try clear hi)
           refine hK.out _ _ ⟨(bCe BK305.out 0).trans rfl, (bCe BK305.out 1).trans rfl, (bCe BK305.out 2).trans rfl, (bCe BK283.out 0).trans rfl, (bCe BK283.out 1).trans rfl, (bCe BK283.out 2).trans rfl⟩ (fun hHeld => ?_)
           clear hK K
           refine norm_ (a' := ?_) ?_ ?_
           rotate_left
           · show Act.put _ (some 55) _ = _
             simp only [Act.put, lSa, lSz, lSs, i64_w, i32_w]
             rfl
           refine pure_ (i := 4) (N := some 56) (v := ?_) (a' := ?_) #[true, true, true, true, true] rfl rfl (by kernel_rfl) (fun _ _ _ h => h) (Or.inl ⟨by rfl, ?_⟩) ?_ ?_
           rotate_left
           · intro w'
             go_simp
             with_reducible rfl
           rotate_left
           · simp only [Act.put, lSa, lSz, lSs, i64_w, i32_w]
             rfl
           refine done_ (by kernel_rfl) ?_
           try go_wp2
           go_ret
           exact ⟨by first | rfl | (simp [errW_none, errW_some] <;> rfl) | (simp [*, errW_none, errW_some] <;> rfl), by repeat (first | (with_reducible first | exact HB.out | apply bAl | apply bDn | apply bD1 | refine bSe ?_ GE283.out | refine bSe ?_ GE299.out | refine bSe ?_ GE305.out | refine bSe ?_ GE315.out) | exact HB.out)⟩
/-- THE ONE PURE STATEMENT of laws_FnExactFeedMore: yours. -/
def laws_FnExactFeedMore.Pure : Prop := ∀ (a0_0 : Int) (a0_1 : Bool) (l0_2 : List Int) (l1 : List Int), (Lit.int .i64 a0_0).wf = true → (l0_2.length ≤ maxLen ∧ ∀ x ∈ l0_2, (Lit.int .u8 x).wf = true) → l1.length ≤ maxLen → l1.length * 1 ≤ 140737488351232 → (∀ x ∈ l1, (Lit.int .u8 x).wf = true) → ∃ k, laws_FnExactFeedMore.f k a0_0 a0_1 l0_2 l1 = some true
end Go.Proofs.Ytmffcjjodkggcaa.MFnExactFeedMore
