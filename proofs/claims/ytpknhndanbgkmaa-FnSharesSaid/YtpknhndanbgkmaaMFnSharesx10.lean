-- Written by this session's own program (wip/gen/myprint.py).
import Derived.Test.YtpknhndanbgkmaaMFnSharesx0
import Derived.Test.YtpknhndanbgkmaaMFnSharesx4
import Derived.Test.YtpknhndanbgkmaaMFnSharesx8
namespace Go.Proofs.Ytpknhndanbgkmaa.MFnShares
open Go.RowKit Go.Proofs.YtpknhndanbgkmaaW.PrintWords Go.Proofs.YtpknhndanbgkmaaW.PrintLast Go.Proofs.YtpknhndanbgkmaaW.PrintMore
attribute [local go_sem] max2_int min2_int max_two min_two max_three min_three max_four min_four   -- for this text's walks alone
set_option linter.unusedVariables false
set_option linter.unusedSimpArgs false
def itemM (s : List Int) (h i n e : Int) : Option (Int × Int × Int) := (spec_l1Below.f s h i 3).bind fun d => if d.1 = 0 then spec_l1Below.f s d.2.1 d.2.2 n else some (e, d.2.1, d.2.2)
def spec_l16Item.f (s0_0 : List Int) (s0_1 : Int) (s0_2 : Int) : Option (Int × Int × Int × Int × Int × Int × Int) :=
 (spec_l1Below.f s0_0 s0_1 s0_2 400).bind fun a => (spec_l1Below.f s0_0 a.2.1 a.2.2 6).bind fun b => (spec_l1Below.f s0_0 b.2.1 b.2.2 5).bind fun c =>
  if (0 ≤ b.1 ∧ b.1 < 6) ∧ (0 ≤ c.1 ∧ c.1 < 5) then (itemM s0_0 c.2.1 c.2.2 300 0).bind fun d => (itemM s0_0 d.2.1 d.2.2 400 (-1)).bind fun e => some (a.1, rd [0, 1000, 2000, 500, 333, 100] b.1, rd [0, 1000, 1000, 3000, 200] c.1, d.1, e.1, e.2.1, e.2.2) else none
theorem lit_cell {w : World} {g : Nat} {xs : List Int} {i v : Int} {n : Int} (h : w.heap[g]? = some (.cells (nums .i64 xs).toArray 3 (0, 0))) (hv : v = rd xs i ∧ n = xs.length) (h0 : 0 ≤ i) (h1 : i < n) : w.cell? ⟨g, i.toNat, none⟩ = some (.int .i64 v) := by
 rw [bCe h, hv.1]
 unfold rd nums
 rw [List.getElem?_toArray, List.getElem?_map, List.getD_eq_getElem?_getD, List.getElem?_eq_getElem (by have := hv.2; omega)]
 rfl
def itemT1 : Bool × List (List Nat × List Nat) := (true, [([], []), ([0], [0]), ([], []), ([], []), ([3, 1], [3]), ([2, 4], [2, 4]), ([5], [5]), ([], []), ([], []), ([8, 4], [8]), ([7, 9], [7, 9]), ([10], [10]), ([1, 6, 11], [1, 6, 11]), ([], []), ([13, 12, 9, 0, 1, 2, 3, 4, 5, 6, 7, 8, 9, 10, 11, 12, 13], [12, 13])])
def itemB1 : List Nat := [0, 1, 0, 0, 11, 31, 63, 0, 0, 283, 923, 1947, 4095, 0, 16383]
theorem itemTab1 : rtab .any (opsOf Try.f95 1) = itemT1 := by kernel_rfl
theorem itemBits1 : waitsOk itemT1.2 itemB1 = true := by kernel_rfl
set_option maxHeartbeats 8000000 in
set_option maxRecDepth 100000 in
theorem spec_l16Item.calls (g : Nat) (s0_0 : List Int) (s0_1 : Int) (s0_2 : Int) (r1 : Int) (r2 : Int) (r3 : Int) (r4 : Int) (r5 : Int) (r6 : Int) (r7 : Int) (w0 w : World) (hI : IsS122 w0 w g s0_0 s0_1 s0_2) (hB : Below w0.heap.size w0 w) (h : spec_l16Item.f s0_0 s0_1 s0_2 = some (r1, r2, r3, r4, r5, r6, r7)) :
 Calls Try.prog 95 #[.pointer (some ⟨g, 0, none⟩)] w fun e w' => e = .returned (.agg #[.int .i64 r1, .int .i64 r2, .int .i64 r3, .int .i64 r4, .int .i64 r5]) ∧ IsS122 w0 w' g s0_0 r6 r7 ∧ Below w0.heap.size w0 w' ∧ KeepBut w w' g none := by
 have hu66 := Try.underlying66
 unfold spec_l16Item.f at h
 obtain ⟨⟨x1, h1, i1⟩, a1, h⟩ := oBm h
 obtain ⟨⟨x2, h2, i2⟩, a2, h⟩ := oBm h
 obtain ⟨⟨x3, h3, i3⟩, a3, h⟩ := oBm h
 by_cases hq : (0 ≤ x2 ∧ x2 < 6) ∧ (0 ≤ x3 ∧ x3 < 5)
 · rw [if_pos hq] at h
   obtain ⟨⟨x4, h4, i4⟩, a4, h⟩ := oBm h
   obtain ⟨⟨x5, h5, i5⟩, a5, h⟩ := oBm h
   simp only [Option.some.injEq, Prod.mk.injEq] at h
   obtain ⟨rfl, e2, e3, rfl, rfl, rfl, rfl⟩ := h
   obtain ⟨v1, hv1⟩ : ∃ v, v = rd [0, 1000, 2000, 500, 333, 100] x2 := ⟨_, rfl⟩
   obtain ⟨v2, hv2⟩ : ∃ v, v = rd [0, 1000, 1000, 3000, 200] x3 := ⟨_, rfl⟩
   rw [← hv1] at e2
   rw [← hv2] at e3
   subst e2
   subst e3
   have D1 := aMk a1
   have D2 := aMk a2
   have D3 := aMk a3
   have D4 := aMk a4
   have D5 := aMk a5
   have Q2 := aMk hq.1
   have Q3 := aMk hq.2
   have V1 : Aside0 (v1 = rd [0, 1000, 2000, 500, 333, 100] x2 ∧ (6 : Int) = ([0, 1000, 2000, 500, 333, 100] : List Int).length) := ⟨hv1, rfl⟩
   have V2 : Aside0 (v2 = rd [0, 1000, 1000, 3000, 200] x3 ∧ (5 : Int) = ([0, 1000, 1000, 3000, 200] : List Int).length) := ⟨hv2, rfl⟩
   have HI0 := aMk hI
   have HW0 := aMk hB.size
   have HB := aMk hB
   clear hI hB a1 a2 a3 a4 a5 hq hv1 hv2
   go_enter Try.func95, Try.ntmps95
   go_upto_region 1 with (first | ((with_reducible refine gate_dst (N := 2) rfl ?_); refine box_event ?hg (N := 2) ?hd (cs := #[.int .i64 0, .int .i64 0, .int .i64 0, .int .i64 0, .int .i64 0]) (t := 66) ?hr ?_; (case hd => rfl); (case hg => rfl); (case hr => first | (go_simp; done) | (go_simp; rfl)); intro gR hgR wz hbox hb; have BR := aMk hbox; have HIZ := aMk (IsS122.below HI0.out hb); have HKZ := aMk (KeepBut.of_below hb g none); have HBZ := aMk (below_step HB.out hb); have HWZ := aMk hb.size; have HRZ := aMk (blk_lt hbox); have HRG := aMk hgR; clear hbox hb hgR))
   have I0 := aMk (IsS122.drew HIZ.out)
   have FK := aMk (keep_drew HKZ.out)
   have FB := aMk (bD1 HBZ.out)
   have FR := aMk (blk_drew BR.out)
   have FZ : Aside0 (wz.heap.size ≤ wz.drew.heap.size) := ⟨Nat.le_refl _⟩
   clear HIZ HKZ HBZ BR
   refine start_ (n := 15) (S := fun w' => True) (ds := []) #[false, false, false, false, false, false, false, false, false, false, false, false, false, false, false] (by kernel_rfl) rfl rfl trivial (fun hHeld => ?_); refine with_tabW itemTab1 itemBits1 (fun HT_ HW_ => ?_)
   refine pure_ (i := 0) (N := some 4) (v := ?_) (a' := ?_) #[true, false, false, false, false, false, false, false, false, false, false, false, false, false, false] rfl rfl (any_of HT_.out (by kernel_rfl)) (fun _ _ _ h => h) (Or.inl ⟨by rfl, ?_⟩) ?_ ?_
   rotate_left
   · intro w'
     go_simp
     with_reducible rfl
   rotate_left
   · simp only [Act.put, lSa, lSz, lSs, i64_w, i32_w]
     rfl
   refine pure_ (i := 3) (N := some 7) (v := ?_) (a' := ?_) #[true, false, false, true, false, false, false, false, false, false, false, false, false, false, false] rfl rfl (any_of HT_.out (by kernel_rfl)) (fun _ _ _ h => h) (Or.inl ⟨by rfl, ?_⟩) ?_ ?_
   rotate_left
   · intro w'
     go_simp
     with_reducible rfl
   rotate_left
   · simp only [Act.put, lSa, lSz, lSs, i64_w, i32_w]
     rfl
   refine pure_ (i := 8) (N := some 12) (v := ?_) (a' := ?_) #[true, false, false, true, false, false, false, false, true, false, false, false, false, false, false] rfl rfl (any_of HT_.out (by kernel_rfl)) (fun _ _ _ h => h) (Or.inl ⟨by rfl, ?_⟩) ?_ ?_
   rotate_left
   · intro w'
     go_simp
     with_reducible rfl
   rotate_left
   · simp only [Act.put, lSa, lSz, lSs, i64_w, i32_w]
     rfl
   refine inv_at [1, 2, 4, 5, 6, 7, 9, 10, 11, 12, 13, 14] (fun a0_ b a w' => ∃ (gA : Nat) (gB : Nat) (gL : Nat) (m2_ : Value) (m5_ : Value) (m7_ : Value) (m10_ : Value) (m13_ : Value), a = putSel a0_ b [(1, 5, .int .i64 x1), (2, 6, m2_), (4, 8, .int .i64 x2), (5, 9, m5_), (6, 10, .int .i64 v1), (7, 11, m7_), (9, 13, .int .i64 x3), (10, 14, m10_), (11, 15, .int .i64 v2), (12, 16, .agg #[.int .i64 x1, .int .i64 v1, .int .i64 v2, .int .i64 0, .int .i64 (-1)]), (13, 3, m13_)] ∧ (b 1 = false → IsS122 w0 w' g s0_0 s0_1 s0_2) ∧ (b 1 = true → b 4 = false → IsS122 w0 w' g s0_0 h1 i1) ∧ (b 4 = true → b 9 = false → IsS122 w0 w' g s0_0 h2 i2) ∧ (b 9 = true → IsS122 w0 w' g s0_0 h3 i3) ∧ (KeepBut w w' g none) ∧ (Below w0.heap.size w0 w') ∧ (wz.heap.size ≤ w'.heap.size) ∧ (w'.heap[gR]? = some (.cells #[.int .i64 0, .int .i64 0, .int .i64 0, .int .i64 0, .int .i64 0] 66 (0, 0))) ∧ (b 2 = true → w'.heap[gA]? = some (.cells (nums .i64 [0, 1000, 2000, 500, 333, 100]).toArray 3 (0, 0))) ∧ (b 7 = true → w'.heap[gB]? = some (.cells (nums .i64 [0, 1000, 1000, 3000, 200]).toArray 3 (0, 0))) ∧ (b 13 = true → b 14 = false → w'.heap[gL]? = some (.cells #[.int .i64 0, .int .i64 0, .int .i64 0, .int .i64 0, .int .i64 0] 66 (0, 0)) ∧ wz.heap.size ≤ gL) ∧ (b 14 = true → w'.heap[gL]? = some (.cells #[.int .i64 x1, .int .i64 v1, .int .i64 v2, .int .i64 0, .int .i64 (-1)] 66 (0, 0)) ∧ wz.heap.size ≤ gL) ∧ (b 2 = true → (m2_ : Value) = .slice (some ⟨gA, 0, none⟩) 6 6) ∧ (b 5 = true → (m5_ : Value) = .pointer (some ⟨gA, x2.toNat, none⟩)) ∧ (b 7 = true → (m7_ : Value) = .slice (some ⟨gB, 0, none⟩) 5 5) ∧ (b 10 = true → (m10_ : Value) = .pointer (some ⟨gB, x3.toNat, none⟩)) ∧ (b 13 = true → (m13_ : Value) = .pointer (some ⟨gL, 0, none⟩))) HT_.out HW_.out (by kernel_rfl) (by kernel_rfl) ?_ ?_ ?_
   · exact ⟨0, 0, 0, .bool false, .bool false, .bool false, .bool false, .bool false, by simp only [putSel, Bool.false_eq_true, if_false], fun _ => I0.out, fun h_ => absurd h_ (by decide), fun h_ => absurd h_ (by decide), fun h_ => absurd h_ (by decide), FK.out, FB.out, FZ.out, FR.out, fun h_ => absurd h_ (by decide), fun h_ => absurd h_ (by decide), fun h_ => absurd h_ (by decide), fun h_ => absurd h_ (by decide), fun h_ => absurd h_ (by decide), fun h_ => absurd h_ (by decide), fun h_ => absurd h_ (by decide), fun h_ => absurd h_ (by decide), fun h_ => absurd h_ (by decide)⟩
   · skip
     clear FB FK FR FZ I0
     refine steps_cons ?_ ?_
     · rintro b a w' ⟨gA, gB, gL, m2_, m5_, m7_, m10_, m13_, ha, Q_I0, Q_I1, Q_I2, Q_I3, Q_FK, Q_FB, Q_FZ, Q_FR, Q_FA, Q_FC, Q_FL, Q_FM, Q_X2_, Q_X5_, Q_X7_, Q_X10_, Q_X13_⟩ hb_ hon hoff
       refine ⟨_, rfl, fun K hK => ?_⟩
       have e4 : a.tmps[4]? = some (.pointer (some ⟨g, 0, none⟩)) := by rw [ha]; exact (putSel_off rfl).trans rfl
       replace ha := aMk ha
       have I0 := aMk (Q_I0 hb_)
       have FK := aMk Q_FK
       have FB := aMk Q_FB
       have FZ := aMk Q_FZ
       have FR := aMk Q_FR
       refine goes_ Try.func67 (by kernel_rfl) rfl #[.pointer (some ⟨g, 0, none⟩), .int .i64 400] (by rfl) rfl rfl (by first | (simp only [List.map_toArray, List.map_cons, List.map_nil, Act.eval, Array.getD_eq_getD_getElem?, Option.getD_some, e4]; done) | (simp only [List.map_toArray, List.map_cons, List.map_nil, Act.eval, Array.getD_eq_getD_getElem?, Option.getD_some, e4]; rfl)) ?_
       with_reducible refine (spec_l1Below.calls g s0_0 s0_1 s0_2 400 x1 h1 i1 w0 _ I0.out FB.out D1.out).mono ?_
       rintro e w1 ⟨rfl, hi, hb, hk⟩
       refine ⟨_, rfl, ?_⟩
       refine hK.out _ _ ⟨gA, gB, gL, m2_, m5_, m7_, m10_, m13_, (by rw [ha.out]; exact putSel_upk 0 hb_ rfl rfl rfl), fun h0_ => absurd ((up_self b 1).symm.trans h0_) (by decide), fun _ _ => hi, fun h0_ _ => absurd ((hoff 4 (by kernel_rfl)).symm.trans h0_) (by decide), fun h0_ => absurd ((hoff 9 (by kernel_rfl)).symm.trans h0_) (by decide), FK.out.trans hk (.inl rfl), hb, Nat.le_trans FZ.out hk.1, (hk.blk (FR.out) (I0.out.ne_blk (FR.out) (by decide)).symm (by simp)), fun h0_ => (hk.blk ((Q_FA h0_)) (I0.out.ne_blk ((Q_FA h0_)) (by decide)).symm (by simp)), fun h0_ => (hk.blk ((Q_FC h0_)) (I0.out.ne_blk ((Q_FC h0_)) (by decide)).symm (by simp)), fun h0_ h1_ => ⟨(hk.blk ((Q_FL h0_ h1_).1) (I0.out.ne_blk ((Q_FL h0_ h1_).1) (by decide)).symm (by simp)), (Q_FL h0_ h1_).2⟩, fun h0_ => absurd ((hoff 14 (by kernel_rfl)).symm.trans h0_) (by decide), Q_X2_, fun h0_ => absurd ((hoff 5 (by kernel_rfl)).symm.trans h0_) (by decide), Q_X7_, fun h0_ => absurd ((hoff 10 (by kernel_rfl)).symm.trans h0_) (by decide), Q_X13_⟩
     refine steps_cons ?_ ?_
     · rintro b a w' ⟨gA, gB, gL, m2_, m5_, m7_, m10_, m13_, ha, Q_I0, Q_I1, Q_I2, Q_I3, Q_FK, Q_FB, Q_FZ, Q_FR, Q_FA, Q_FC, Q_FL, Q_FM, Q_X2_, Q_X5_, Q_X7_, Q_X10_, Q_X13_⟩ hb_ hon hoff
       refine ⟨_, rfl, fun K hK => ?_⟩
       replace ha := aMk ha
       have FK := aMk Q_FK
       have FB := aMk Q_FB
       have FZ := aMk Q_FZ
       have FR := aMk Q_FR
       refine value_ (w1 := ?_) (v := ?_) (by rfl) rfl ?_ ?_
       rotate_left 2
       · go_simp
         constructor
         · rfl
         · rfl
       refine hK.out _ _ ⟨(w'.heap.size), gB, gL, (.slice (some ⟨(w'.heap.size), 0, none⟩) 6 6), m5_, m7_, m10_, m13_, (by rw [ha.out]; exact putSel_upk 1 hb_ rfl rfl rfl), fun h0_ => IsS122.alloc (Q_I0 h0_) _, fun h0_ h1_ => IsS122.alloc (Q_I1 h0_ h1_) _, fun h0_ h1_ => IsS122.alloc (Q_I2 h0_ h1_) _, fun h0_ => IsS122.alloc (Q_I3 h0_) _, keep_alloc FK.out _, bAl FB.out _, Nat.le_trans FZ.out (bAl (Below.refl w'.heap.size w') (.cells #[.int .i64 0, .int .i64 1000, .int .i64 2000, .int .i64 500, .int .i64 333, .int .i64 100] 3)).size, blk_below FR.out (bAl (Below.refl w'.heap.size w') (.cells #[.int .i64 0, .int .i64 1000, .int .i64 2000, .int .i64 500, .int .i64 333, .int .i64 100] 3)), fun _ => blk_new _ _, fun h0_ => blk_below (Q_FC h0_) (bAl (Below.refl w'.heap.size w') (.cells #[.int .i64 0, .int .i64 1000, .int .i64 2000, .int .i64 500, .int .i64 333, .int .i64 100] 3)), fun h0_ h1_ => ⟨blk_below (Q_FL h0_ h1_).1 (bAl (Below.refl w'.heap.size w') (.cells #[.int .i64 0, .int .i64 1000, .int .i64 2000, .int .i64 500, .int .i64 333, .int .i64 100] 3)), (Q_FL h0_ h1_).2⟩, fun h0_ => absurd ((hoff 14 (by kernel_rfl)).symm.trans h0_) (by decide), fun _ => rfl, fun h0_ => absurd ((hoff 5 (by kernel_rfl)).symm.trans h0_) (by decide), Q_X7_, Q_X10_, Q_X13_⟩
     refine steps_cons ?_ ?_
     · rintro b a w' ⟨gA, gB, gL, m2_, m5_, m7_, m10_, m13_, ha, Q_I0, Q_I1, Q_I2, Q_I3, Q_FK, Q_FB, Q_FZ, Q_FR, Q_FA, Q_FC, Q_FL, Q_FM, Q_X2_, Q_X5_, Q_X7_, Q_X10_, Q_X13_⟩ hb_ hon hoff
       refine ⟨_, rfl, fun K hK => ?_⟩
       have e7 : a.tmps[7]? = some (.pointer (some ⟨g, 0, none⟩)) := by rw [ha]; exact (putSel_off rfl).trans rfl
       replace ha := aMk ha
       have I1 := aMk (Q_I1 (hon 1 (by kernel_rfl)) hb_)
       have FK := aMk Q_FK
       have FB := aMk Q_FB
       have FZ := aMk Q_FZ
       have FR := aMk Q_FR
       refine goes_ Try.func67 (by kernel_rfl) rfl #[.pointer (some ⟨g, 0, none⟩), .int .i64 6] (by rfl) rfl rfl (by first | (simp only [List.map_toArray, List.map_cons, List.map_nil, Act.eval, Array.getD_eq_getD_getElem?, Option.getD_some, e7]; done) | (simp only [List.map_toArray, List.map_cons, List.map_nil, Act.eval, Array.getD_eq_getD_getElem?, Option.getD_some, e7]; rfl)) ?_
       with_reducible refine (spec_l1Below.calls g s0_0 h1 i1 6 x2 h2 i2 w0 _ I1.out FB.out D2.out).mono ?_
       rintro e w1 ⟨rfl, hi, hb, hk⟩
       refine ⟨_, rfl, ?_⟩
       refine hK.out _ _ ⟨gA, gB, gL, m2_, m5_, m7_, m10_, m13_, (by rw [ha.out]; exact putSel_upk 2 hb_ rfl rfl rfl), fun h0_ => absurd ((hon 1 (by kernel_rfl)).symm.trans h0_) (by decide), fun _ h1_ => absurd ((up_self b 4).symm.trans h1_) (by decide), fun _ _ => hi, fun h0_ => absurd ((hoff 9 (by kernel_rfl)).symm.trans h0_) (by decide), FK.out.trans hk (.inl rfl), hb, Nat.le_trans FZ.out hk.1, (hk.blk (FR.out) (I1.out.ne_blk (FR.out) (by decide)).symm (by simp)), fun h0_ => (hk.blk ((Q_FA h0_)) (I1.out.ne_blk ((Q_FA h0_)) (by decide)).symm (by simp)), fun h0_ => (hk.blk ((Q_FC h0_)) (I1.out.ne_blk ((Q_FC h0_)) (by decide)).symm (by simp)), fun h0_ h1_ => ⟨(hk.blk ((Q_FL h0_ h1_).1) (I1.out.ne_blk ((Q_FL h0_ h1_).1) (by decide)).symm (by simp)), (Q_FL h0_ h1_).2⟩, fun h0_ => absurd ((hoff 14 (by kernel_rfl)).symm.trans h0_) (by decide), Q_X2_, fun h0_ => absurd ((hoff 5 (by kernel_rfl)).symm.trans h0_) (by decide), Q_X7_, fun h0_ => absurd ((hoff 10 (by kernel_rfl)).symm.trans h0_) (by decide), Q_X13_⟩
     refine steps_cons ?_ ?_
     · rintro b a w' ⟨gA, gB, gL, m2_, m5_, m7_, m10_, m13_, ha, Q_I0, Q_I1, Q_I2, Q_I3, Q_FK, Q_FB, Q_FZ, Q_FR, Q_FA, Q_FC, Q_FL, Q_FM, Q_X2_, Q_X5_, Q_X7_, Q_X10_, Q_X13_⟩ hb_ hon hoff
       refine ⟨_, rfl, fun K hK => ?_⟩
       have e6 : a.tmps[6]? = some (m2_) := by rw [ha]; exact putSel_on (e := (2, 6, m2_)) 1 rfl rfl (hon 2 (by kernel_rfl)) rfl
       rw [Q_X2_ (hon 2 (by kernel_rfl))] at e6
       have e8 : a.tmps[8]? = some (.int .i64 x2) := by rw [ha]; exact putSel_on (e := (4, 8, .int .i64 x2)) 2 rfl rfl (hon 4 (by kernel_rfl)) rfl
       replace ha := aMk ha
       have FK := aMk Q_FK
       have FB := aMk Q_FB
       have FZ := aMk Q_FZ
       have FR := aMk Q_FR
       have FA := aMk (Q_FA (hon 2 (by kernel_rfl)))
       have pa : (0 ≤ (x2 : Int)) = True := eq_true Q2.out.1
       have pb : (x2 < (6 : Int)) = True := eq_true Q2.out.2
       refine value_ (w1 := w') (v := .pointer (some ⟨gA, x2.toNat, none⟩)) (by rfl) rfl ?_ ?_
       · go_simp
         (try simp only [i64_w])
         try rfl
       refine hK.out _ _ ⟨gA, gB, gL, m2_, (.pointer (some ⟨gA, x2.toNat, none⟩)), m7_, m10_, m13_, (by rw [ha.out]; exact putSel_upk 3 hb_ rfl rfl rfl), fun h0_ => absurd ((hon 1 (by kernel_rfl)).symm.trans h0_) (by decide), fun _ h1_ => absurd ((hon 4 (by kernel_rfl)).symm.trans h1_) (by decide), Q_I2, Q_I3, Q_FK, Q_FB, Q_FZ, Q_FR, Q_FA, Q_FC, Q_FL, fun h0_ => absurd ((hoff 14 (by kernel_rfl)).symm.trans h0_) (by decide), Q_X2_, fun _ => rfl, Q_X7_, Q_X10_, Q_X13_⟩
     refine steps_cons ?_ ?_
     · rintro b a w' ⟨gA, gB, gL, m2_, m5_, m7_, m10_, m13_, ha, Q_I0, Q_I1, Q_I2, Q_I3, Q_FK, Q_FB, Q_FZ, Q_FR, Q_FA, Q_FC, Q_FL, Q_FM, Q_X2_, Q_X5_, Q_X7_, Q_X10_, Q_X13_⟩ hb_ hon hoff
       refine ⟨_, rfl, fun K hK => ?_⟩
       have e9 : a.tmps[9]? = some (m5_) := by rw [ha]; exact putSel_on (e := (5, 9, m5_)) 3 rfl rfl (hon 5 (by kernel_rfl)) rfl
       rw [Q_X5_ (hon 5 (by kernel_rfl))] at e9
       replace ha := aMk ha
       have FK := aMk Q_FK
       have FB := aMk Q_FB
       have FZ := aMk Q_FZ
       have FR := aMk Q_FR
       have FA := aMk (Q_FA (hon 2 (by kernel_rfl)))
       have hq : w'.cell? ⟨gA, x2.toNat, none⟩ = some (.int .i64 v1) := lit_cell FA.out V1.out Q2.out.1 Q2.out.2
       refine value_ (w1 := w') (v := .int .i64 v1) (by rfl) rfl ?_ ?_
       · go_simp
         (try simp only [i64_w])
         try rfl
       refine hK.out _ _ ⟨gA, gB, gL, m2_, m5_, m7_, m10_, m13_, (by rw [ha.out]; exact putSel_upk 4 hb_ rfl rfl rfl), fun h0_ => absurd ((hon 1 (by kernel_rfl)).symm.trans h0_) (by decide), fun _ h1_ => absurd ((hon 4 (by kernel_rfl)).symm.trans h1_) (by decide), Q_I2, Q_I3, Q_FK, Q_FB, Q_FZ, Q_FR, Q_FA, Q_FC, Q_FL, fun h0_ => absurd ((hoff 14 (by kernel_rfl)).symm.trans h0_) (by decide), Q_X2_, Q_X5_, Q_X7_, Q_X10_, Q_X13_⟩
     refine steps_cons ?_ ?_
     · rintro b a w' ⟨gA, gB, gL, m2_, m5_, m7_, m10_, m13_, ha, Q_I0, Q_I1, Q_I2, Q_I3, Q_FK, Q_FB, Q_FZ, Q_FR, Q_FA, Q_FC, Q_FL, Q_FM, Q_X2_, Q_X5_, Q_X7_, Q_X10_, Q_X13_⟩ hb_ hon hoff
       refine ⟨_, rfl, fun K hK => ?_⟩
       replace ha := aMk ha
       have FK := aMk Q_FK
       have FB := aMk Q_FB
       have FZ := aMk Q_FZ
       have FR := aMk Q_FR
       refine value_ (w1 := ?_) (v := ?_) (by rfl) rfl ?_ ?_
       rotate_left 2
       · go_simp
         constructor
         · rfl
         · rfl
       refine hK.out _ _ ⟨gA, (w'.heap.size), gL, m2_, m5_, (.slice (some ⟨(w'.heap.size), 0, none⟩) 5 5), m10_, m13_, (by rw [ha.out]; exact putSel_upk 5 hb_ rfl rfl rfl), fun h0_ => IsS122.alloc (Q_I0 h0_) _, fun h0_ h1_ => IsS122.alloc (Q_I1 h0_ h1_) _, fun h0_ h1_ => IsS122.alloc (Q_I2 h0_ h1_) _, fun h0_ => IsS122.alloc (Q_I3 h0_) _, keep_alloc FK.out _, bAl FB.out _, Nat.le_trans FZ.out (bAl (Below.refl w'.heap.size w') (.cells #[.int .i64 0, .int .i64 1000, .int .i64 1000, .int .i64 3000, .int .i64 200] 3)).size, blk_below FR.out (bAl (Below.refl w'.heap.size w') (.cells #[.int .i64 0, .int .i64 1000, .int .i64 1000, .int .i64 3000, .int .i64 200] 3)), fun h0_ => blk_below (Q_FA h0_) (bAl (Below.refl w'.heap.size w') (.cells #[.int .i64 0, .int .i64 1000, .int .i64 1000, .int .i64 3000, .int .i64 200] 3)), fun _ => blk_new _ _, fun h0_ h1_ => ⟨blk_below (Q_FL h0_ h1_).1 (bAl (Below.refl w'.heap.size w') (.cells #[.int .i64 0, .int .i64 1000, .int .i64 1000, .int .i64 3000, .int .i64 200] 3)), (Q_FL h0_ h1_).2⟩, fun h0_ => absurd ((hoff 14 (by kernel_rfl)).symm.trans h0_) (by decide), Q_X2_, Q_X5_, fun _ => rfl, fun h0_ => absurd ((hoff 10 (by kernel_rfl)).symm.trans h0_) (by decide), Q_X13_⟩
     refine steps_cons ?_ ?_
     · rintro b a w' ⟨gA, gB, gL, m2_, m5_, m7_, m10_, m13_, ha, Q_I0, Q_I1, Q_I2, Q_I3, Q_FK, Q_FB, Q_FZ, Q_FR, Q_FA, Q_FC, Q_FL, Q_FM, Q_X2_, Q_X5_, Q_X7_, Q_X10_, Q_X13_⟩ hb_ hon hoff
       refine ⟨_, rfl, fun K hK => ?_⟩
       have e12 : a.tmps[12]? = some (.pointer (some ⟨g, 0, none⟩)) := by rw [ha]; exact (putSel_off rfl).trans rfl
       replace ha := aMk ha
       have I2 := aMk (Q_I2 (hon 4 (by kernel_rfl)) hb_)
       have FK := aMk Q_FK
       have FB := aMk Q_FB
       have FZ := aMk Q_FZ
       have FR := aMk Q_FR
       refine goes_ Try.func67 (by kernel_rfl) rfl #[.pointer (some ⟨g, 0, none⟩), .int .i64 5] (by rfl) rfl rfl (by first | (simp only [List.map_toArray, List.map_cons, List.map_nil, Act.eval, Array.getD_eq_getD_getElem?, Option.getD_some, e12]; done) | (simp only [List.map_toArray, List.map_cons, List.map_nil, Act.eval, Array.getD_eq_getD_getElem?, Option.getD_some, e12]; rfl)) ?_
       with_reducible refine (spec_l1Below.calls g s0_0 h2 i2 5 x3 h3 i3 w0 _ I2.out FB.out D3.out).mono ?_
       rintro e w1 ⟨rfl, hi, hb, hk⟩
       refine ⟨_, rfl, ?_⟩
       refine hK.out _ _ ⟨gA, gB, gL, m2_, m5_, m7_, m10_, m13_, (by rw [ha.out]; exact putSel_upk 6 hb_ rfl rfl rfl), fun h0_ => absurd ((hon 1 (by kernel_rfl)).symm.trans h0_) (by decide), fun _ h1_ => absurd ((hon 4 (by kernel_rfl)).symm.trans h1_) (by decide), fun _ h1_ => absurd ((up_self b 9).symm.trans h1_) (by decide), fun _ => hi, FK.out.trans hk (.inl rfl), hb, Nat.le_trans FZ.out hk.1, (hk.blk (FR.out) (I2.out.ne_blk (FR.out) (by decide)).symm (by simp)), fun h0_ => (hk.blk ((Q_FA h0_)) (I2.out.ne_blk ((Q_FA h0_)) (by decide)).symm (by simp)), fun h0_ => (hk.blk ((Q_FC h0_)) (I2.out.ne_blk ((Q_FC h0_)) (by decide)).symm (by simp)), fun h0_ h1_ => ⟨(hk.blk ((Q_FL h0_ h1_).1) (I2.out.ne_blk ((Q_FL h0_ h1_).1) (by decide)).symm (by simp)), (Q_FL h0_ h1_).2⟩, fun h0_ => absurd ((hoff 14 (by kernel_rfl)).symm.trans h0_) (by decide), Q_X2_, Q_X5_, Q_X7_, fun h0_ => absurd ((hoff 10 (by kernel_rfl)).symm.trans h0_) (by decide), Q_X13_⟩
     refine steps_cons ?_ ?_
     · rintro b a w' ⟨gA, gB, gL, m2_, m5_, m7_, m10_, m13_, ha, Q_I0, Q_I1, Q_I2, Q_I3, Q_FK, Q_FB, Q_FZ, Q_FR, Q_FA, Q_FC, Q_FL, Q_FM, Q_X2_, Q_X5_, Q_X7_, Q_X10_, Q_X13_⟩ hb_ hon hoff
       refine ⟨_, rfl, fun K hK => ?_⟩
       have e11 : a.tmps[11]? = some (m7_) := by rw [ha]; exact putSel_on (e := (7, 11, m7_)) 5 rfl rfl (hon 7 (by kernel_rfl)) rfl
       rw [Q_X7_ (hon 7 (by kernel_rfl))] at e11
       have e13 : a.tmps[13]? = some (.int .i64 x3) := by rw [ha]; exact putSel_on (e := (9, 13, .int .i64 x3)) 6 rfl rfl (hon 9 (by kernel_rfl)) rfl
       replace ha := aMk ha
       have I3 := aMk (Q_I3 (hon 9 (by kernel_rfl)))
       have FK := aMk Q_FK
       have FB := aMk Q_FB
       have FZ := aMk Q_FZ
       have FR := aMk Q_FR
       have FC := aMk (Q_FC (hon 7 (by kernel_rfl)))
       have pa : (0 ≤ (x3 : Int)) = True := eq_true Q3.out.1
       have pb : (x3 < (5 : Int)) = True := eq_true Q3.out.2
       refine value_ (w1 := w') (v := .pointer (some ⟨gB, x3.toNat, none⟩)) (by rfl) rfl ?_ ?_
       · go_simp
         (try simp only [i64_w])
         try rfl
       refine hK.out _ _ ⟨gA, gB, gL, m2_, m5_, m7_, (.pointer (some ⟨gB, x3.toNat, none⟩)), m13_, (by rw [ha.out]; exact putSel_upk 7 hb_ rfl rfl rfl), fun h0_ => absurd ((hon 1 (by kernel_rfl)).symm.trans h0_) (by decide), fun _ h1_ => absurd ((hon 4 (by kernel_rfl)).symm.trans h1_) (by decide), fun _ h1_ => absurd ((hon 9 (by kernel_rfl)).symm.trans h1_) (by decide), Q_I3, Q_FK, Q_FB, Q_FZ, Q_FR, Q_FA, Q_FC, Q_FL, fun h0_ => absurd ((hoff 14 (by kernel_rfl)).symm.trans h0_) (by decide), Q_X2_, Q_X5_, Q_X7_, fun _ => rfl, Q_X13_⟩
     refine steps_cons ?_ ?_
     · rintro b a w' ⟨gA, gB, gL, m2_, m5_, m7_, m10_, m13_, ha, Q_I0, Q_I1, Q_I2, Q_I3, Q_FK, Q_FB, Q_FZ, Q_FR, Q_FA, Q_FC, Q_FL, Q_FM, Q_X2_, Q_X5_, Q_X7_, Q_X10_, Q_X13_⟩ hb_ hon hoff
       refine ⟨_, rfl, fun K hK => ?_⟩
       have e14 : a.tmps[14]? = some (m10_) := by rw [ha]; exact putSel_on (e := (10, 14, m10_)) 7 rfl rfl (hon 10 (by kernel_rfl)) rfl
       rw [Q_X10_ (hon 10 (by kernel_rfl))] at e14
       replace ha := aMk ha
       have I3 := aMk (Q_I3 (hon 9 (by kernel_rfl)))
       have FK := aMk Q_FK
       have FB := aMk Q_FB
       have FZ := aMk Q_FZ
       have FR := aMk Q_FR
       have FC := aMk (Q_FC (hon 7 (by kernel_rfl)))
       have hq : w'.cell? ⟨gB, x3.toNat, none⟩ = some (.int .i64 v2) := lit_cell FC.out V2.out Q3.out.1 Q3.out.2
       refine value_ (w1 := w') (v := .int .i64 v2) (by rfl) rfl ?_ ?_
       · go_simp
         (try simp only [i64_w])
         try rfl
       refine hK.out _ _ ⟨gA, gB, gL, m2_, m5_, m7_, m10_, m13_, (by rw [ha.out]; exact putSel_upk 8 hb_ rfl rfl rfl), fun h0_ => absurd ((hon 1 (by kernel_rfl)).symm.trans h0_) (by decide), fun _ h1_ => absurd ((hon 4 (by kernel_rfl)).symm.trans h1_) (by decide), fun _ h1_ => absurd ((hon 9 (by kernel_rfl)).symm.trans h1_) (by decide), Q_I3, Q_FK, Q_FB, Q_FZ, Q_FR, Q_FA, Q_FC, Q_FL, fun h0_ => absurd ((hoff 14 (by kernel_rfl)).symm.trans h0_) (by decide), Q_X2_, Q_X5_, Q_X7_, Q_X10_, Q_X13_⟩
     refine steps_cons ?_ ?_
     · rintro b a w' ⟨gA, gB, gL, m2_, m5_, m7_, m10_, m13_, ha, Q_I0, Q_I1, Q_I2, Q_I3, Q_FK, Q_FB, Q_FZ, Q_FR, Q_FA, Q_FC, Q_FL, Q_FM, Q_X2_, Q_X5_, Q_X7_, Q_X10_, Q_X13_⟩ hb_ hon hoff
       refine ⟨_, rfl, fun K hK => ?_⟩
       have e5 : a.tmps[5]? = some (.int .i64 x1) := by rw [ha]; exact putSel_on (e := (1, 5, .int .i64 x1)) 0 rfl rfl (hon 1 (by kernel_rfl)) rfl
       have e10 : a.tmps[10]? = some (.int .i64 v1) := by rw [ha]; exact putSel_on (e := (6, 10, .int .i64 v1)) 4 rfl rfl (hon 6 (by kernel_rfl)) rfl
       have e15 : a.tmps[15]? = some (.int .i64 v2) := by rw [ha]; exact putSel_on (e := (11, 15, .int .i64 v2)) 8 rfl rfl (hon 11 (by kernel_rfl)) rfl
       replace ha := aMk ha
       have I3 := aMk (Q_I3 (hon 9 (by kernel_rfl)))
       have FK := aMk Q_FK
       have FB := aMk Q_FB
       have FZ := aMk Q_FZ
       have FR := aMk Q_FR
       have FA := aMk (Q_FA (hon 2 (by kernel_rfl)))
       have FC := aMk (Q_FC (hon 7 (by kernel_rfl)))
       refine value_ (w1 := w') (v := .agg #[.int .i64 x1, .int .i64 v1, .int .i64 v2, .int .i64 0, .int .i64 (-1)]) (by rfl) rfl ?_ ?_
       · go_simp
         (try simp only [i64_w])
         try rfl
       refine hK.out _ _ ⟨gA, gB, gL, m2_, m5_, m7_, m10_, m13_, (by rw [ha.out]; exact putSel_upk 9 hb_ rfl rfl rfl), fun h0_ => absurd ((hon 1 (by kernel_rfl)).symm.trans h0_) (by decide), fun _ h1_ => absurd ((hon 4 (by kernel_rfl)).symm.trans h1_) (by decide), fun _ h1_ => absurd ((hon 9 (by kernel_rfl)).symm.trans h1_) (by decide), Q_I3, Q_FK, Q_FB, Q_FZ, Q_FR, Q_FA, Q_FC, Q_FL, fun h0_ => absurd ((hoff 14 (by kernel_rfl)).symm.trans h0_) (by decide), Q_X2_, Q_X5_, Q_X7_, Q_X10_, Q_X13_⟩
     refine steps_cons ?_ ?_
     · rintro b a w' ⟨gA, gB, gL, m2_, m5_, m7_, m10_, m13_, ha, Q_I0, Q_I1, Q_I2, Q_I3, Q_FK, Q_FB, Q_FZ, Q_FR, Q_FA, Q_FC, Q_FL, Q_FM, Q_X2_, Q_X5_, Q_X7_, Q_X10_, Q_X13_⟩ hb_ hon hoff
       refine ⟨_, rfl, fun K hK => ?_⟩
       replace ha := aMk ha
       have FK := aMk Q_FK
       have FB := aMk Q_FB
       have FZ := aMk Q_FZ
       have FR := aMk Q_FR
       refine box_step (by rfl) (N := 3) rfl (cs := #[.int .i64 0, .int .i64 0, .int .i64 0, .int .i64 0, .int .i64 0]) (t := 66) ?hr ?_
       case hr => first | (go_simp; done) | (go_simp; rfl)
       intro gl hgl w1 hbox hb
       refine hK.out _ _ ⟨gA, gB, gl, m2_, m5_, m7_, m10_, (.pointer (some ⟨gl, 0, none⟩)), (by rw [ha.out]; exact putSel_upk 10 hb_ rfl rfl rfl), fun h0_ => IsS122.below (Q_I0 h0_) hb, fun h0_ h1_ => IsS122.below (Q_I1 h0_ h1_) hb, fun h0_ h1_ => IsS122.below (Q_I2 h0_ h1_) hb, fun h0_ => IsS122.below (Q_I3 h0_) hb, FK.out.trans (KeepBut.of_below hb g none) (.inl rfl), below_step FB.out hb, Nat.le_trans FZ.out hb.size, blk_below FR.out hb, fun h0_ => blk_below (Q_FA h0_) hb, fun h0_ => blk_below (Q_FC h0_) hb, fun _ _ => ⟨hbox, hgl ▸ FZ.out⟩, fun h0_ => absurd ((hoff 14 (by kernel_rfl)).symm.trans h0_) (by decide), Q_X2_, Q_X5_, Q_X7_, Q_X10_, fun _ => rfl⟩
     refine steps_cons ?_ ?_
     · rintro b a w' ⟨gA, gB, gL, m2_, m5_, m7_, m10_, m13_, ha, Q_I0, Q_I1, Q_I2, Q_I3, Q_FK, Q_FB, Q_FZ, Q_FR, Q_FA, Q_FC, Q_FL, Q_FM, Q_X2_, Q_X5_, Q_X7_, Q_X10_, Q_X13_⟩ hb_ hon hoff
       refine ⟨_, rfl, fun K hK => ?_⟩
       have e3 : a.tmps[3]? = some (m13_) := by rw [ha]; exact putSel_on (e := (13, 3, m13_)) 10 rfl rfl (hon 13 (by kernel_rfl)) rfl
       rw [Q_X13_ (hon 13 (by kernel_rfl))] at e3
       have e16 : a.tmps[16]? = some (.agg #[.int .i64 x1, .int .i64 v1, .int .i64 v2, .int .i64 0, .int .i64 (-1)]) := by rw [ha]; exact putSel_on (e := (12, 16, .agg #[.int .i64 x1, .int .i64 v1, .int .i64 v2, .int .i64 0, .int .i64 (-1)])) 9 rfl rfl (hon 12 (by kernel_rfl)) rfl
       replace ha := aMk ha
       have I3 := aMk (Q_I3 (hon 9 (by kernel_rfl)))
       have FK := aMk Q_FK
       have FB := aMk Q_FB
       have FZ := aMk Q_FZ
       have FR := aMk Q_FR
       have FA := aMk (Q_FA (hon 2 (by kernel_rfl)))
       have FC := aMk (Q_FC (hon 7 (by kernel_rfl)))
       have FL := aMk (Q_FL (hon 13 (by kernel_rfl)) hb_)
       have hL := FL.out.1
       have hne := I3.out.ne_blk hL (by decide)
       have hs0 : w'.cell? ⟨gL, 0, none⟩ = some (.int .i64 0) := bCe hL 0
       have hs1 : w'.cell? ⟨gL, 1, none⟩ = some (.int .i64 0) := bCe hL 1
       have hs2 : w'.cell? ⟨gL, 2, none⟩ = some (.int .i64 0) := bCe hL 2
       have hs3 : w'.cell? ⟨gL, 3, none⟩ = some (.int .i64 0) := bCe hL 3
       have hs4 : w'.cell? ⟨gL, 4, none⟩ = some (.int .i64 0) := bCe hL 4
       have hf0 : w'.frozen? ⟨gL, 0, none⟩ = false := bFr hL 0
       have hf1 : w'.frozen? ⟨gL, 1, none⟩ = false := bFr hL 1
       have hf2 : w'.frozen? ⟨gL, 2, none⟩ = false := bFr hL 2
       have hf3 : w'.frozen? ⟨gL, 3, none⟩ = false := bFr hL 3
       have hf4 : w'.frozen? ⟨gL, 4, none⟩ = false := bFr hL 4
       have hgw := Nat.le_trans HWZ.out FL.out.2
       have hg0 := Nat.le_trans HW0.out hgw
       have hnr : gR ≠ gL := fun e => absurd FL.out.2 (Nat.not_le.2 (e ▸ HRZ.out))
       refine skip_ (w1 := ?_) (by rfl) rfl ?_ ?_
       rotate_left
       · go_simp
         rfl
       refine hK.out _ _ ⟨gA, gB, gL, m2_, m5_, m7_, m10_, m13_, (by rw [ha.out]; exact putSel_none (v := undef) rfl), fun h0_ => absurd ((hon 1 (by kernel_rfl)).symm.trans h0_) (by decide), fun _ h1_ => absurd ((hon 4 (by kernel_rfl)).symm.trans h1_) (by decide), fun _ h1_ => absurd ((hon 9 (by kernel_rfl)).symm.trans h1_) (by decide), fun _ => IsS122.far (IsS122.far (IsS122.far (IsS122.far (IsS122.far (I3.out) hne _) hne _) hne _) hne _) hne _, keep_far (keep_far (keep_far (keep_far (keep_far (FK.out) hgw _) hgw _) hgw _) hgw _) hgw _, bSe (bSe (bSe (bSe (bSe (FB.out) hg0) hg0) hg0) hg0) hg0, (by simp only [World.size_setCell]; exact FZ.out), blk_far (blk_far (blk_far (blk_far (blk_far (FR.out) hnr _) hnr _) hnr _) hnr _) hnr _, fun _ => blk_far (blk_far (blk_far (blk_far (blk_far (FA.out) (blk_ne FA.out hL (by decide)) _) (blk_ne FA.out hL (by decide)) _) (blk_ne FA.out hL (by decide)) _) (blk_ne FA.out hL (by decide)) _) (blk_ne FA.out hL (by decide)) _, fun _ => blk_far (blk_far (blk_far (blk_far (blk_far (FC.out) (blk_ne FC.out hL (by decide)) _) (blk_ne FC.out hL (by decide)) _) (blk_ne FC.out hL (by decide)) _) (blk_ne FC.out hL (by decide)) _) (blk_ne FC.out hL (by decide)) _, fun _ h1_ => absurd ((up_self b 14).symm.trans h1_) (by decide), fun _ => ⟨blk_set (blk_set (blk_set (blk_set (blk_set (FL.out.1) 0 (.int .i64 x1)) 1 (.int .i64 v1)) 2 (.int .i64 v2)) 3 (.int .i64 0)) 4 (.int .i64 (-1)), FL.out.2⟩, Q_X2_, Q_X5_, Q_X7_, Q_X10_, Q_X13_⟩
     exact steps_nil
   rintro b a wy hall ⟨gA, gB, gL, m2_, m5_, m7_, m10_, m13_, ha, Q_I0, Q_I1, Q_I2, Q_I3, Q_FK, Q_FB, Q_FZ, Q_FR, Q_FA, Q_FC, Q_FL, Q_FM, Q_X2_, Q_X5_, Q_X7_, Q_X10_, Q_X13_⟩
   clear FB FK FR FZ I0
   have hb1_ := hall 1 (by kernel_rfl)
   have hb2_ := hall 2 (by kernel_rfl)
   have hb4_ := hall 4 (by kernel_rfl)
   have hb5_ := hall 5 (by kernel_rfl)
   have hb6_ := hall 6 (by kernel_rfl)
   have hb7_ := hall 7 (by kernel_rfl)
   have hb9_ := hall 9 (by kernel_rfl)
   have hb10_ := hall 10 (by kernel_rfl)
   have hb11_ := hall 11 (by kernel_rfl)
   have hb12_ := hall 12 (by kernel_rfl)
   have hb13_ := hall 13 (by kernel_rfl)
   have hb14_ := hall 14 (by kernel_rfl)
   subst ha
   obtain rfl := Q_X2_ hb2_
   obtain rfl := Q_X5_ hb5_
   obtain rfl := Q_X7_ hb7_
   obtain rfl := Q_X10_ hb10_
   obtain rfl := Q_X13_ hb13_
   simp only [putSel, hb1_, hb2_, hb4_, hb5_, hb6_, hb7_, hb9_, hb10_, hb11_, hb12_, hb13_, hb14_, if_true, Act.put, lSa, lSz, lSs]
   clear Q_I0
   clear Q_I1
   clear Q_I2
   have I3 := aMk (Q_I3 hb9_)
   clear Q_I3
   have FK := aMk Q_FK
   clear Q_FK
   have FB := aMk Q_FB
   clear Q_FB
   have FZ := aMk Q_FZ
   clear Q_FZ
   have FR := aMk Q_FR
   clear Q_FR
   have FA := aMk (Q_FA hb2_)
   clear Q_FA
   have FC := aMk (Q_FC hb7_)
   clear Q_FC
   clear Q_FL
   have FM := aMk (Q_FM hb14_)
   clear Q_FM
   clear hall hb1_ hb2_ hb4_ hb5_ hb6_ hb7_ hb9_ hb10_ hb11_ hb12_ hb13_ hb14_
   have BR := aMk FR.out
   have BL := aMk FM.out.1
   have HLG := aMk FM.out.2
   have HNE : Aside0 (gR ≠ gL) := ⟨fun e => absurd HLG.out (Nat.not_le.2 (e ▸ HRZ.out))⟩
   have HWL : Aside0 (w.heap.size ≤ gL) := ⟨Nat.le_trans HWZ.out HLG.out⟩
   have HWR : Aside0 (w.heap.size ≤ gR) := ⟨by rw [HRG.out]; exact Nat.le_refl _⟩
   have d4 := D4.out
   have d5 := D5.out
   unfold itemM at d4 d5
   obtain ⟨⟨q4, m4, n4⟩, b4, k4⟩ := oBm d4
   obtain ⟨⟨q5, m5, n5⟩, b5, k5⟩ := oBm d5
   have B4 := aMk b4
   have K4 := aMk k4
   have B5 := aMk b5
   have K5 := aMk k5
   clear d4 d5 b4 k4 b5 k5 D1 D2 D3 D4 D5 Q2 Q3 V1 V2 FR FM FA FC FZ HI0 HB HRZ HRG HLG
   go_upto_if 19 with (go_at_call 67; (with_reducible refine (spec_l1Below.calls g s0_0 h3 i3 3 q4 m4 n4 w0 wy I3.out FB.out B4.out).mono ?_); rintro e w5 ⟨rfl, hi, hb, hk⟩; have I5 := aMk hi; have K5w := aMk (FK.out.trans hk (.inl rfl)); have B5w := aMk hb; have R5 := aMk (hk.blk BR.out (I3.out.ne_blk BR.out (by decide)).symm (by simp)); have L5 := aMk (hk.blk BL.out (I3.out.ne_blk BL.out (by decide)).symm (by simp)); clear hi hb hk)
   go_cut [] (fun wc => Aside0 (IsS122 w0 wc g s0_0 h4 i4) ∧ Aside0 (KeepBut w wc g none) ∧ Aside0 (Below w0.heap.size w0 wc) ∧ Aside0 (wc.heap[gR]? = some (.cells #[.int .i64 0, .int .i64 0, .int .i64 0, .int .i64 0, .int .i64 0] 66 (0, 0))) ∧ Aside0 (wc.heap[gL]? = some (.cells #[.int .i64 x1, .int .i64 v1, .int .i64 v2, .int .i64 x4, .int .i64 (-1)] 66 (0, 0))))
   case first =>
    by_cases c : q4 = 0
    · have c1 : (q4 == 0) = true := beq_iff_eq.2 c
      have k := K4.out
      rw [if_pos c] at k
      have KK := aMk k
      clear c k
      go_wp2_with (go_at_call 67; (with_reducible refine (spec_l1Below.calls g s0_0 m4 n4 300 x4 h4 i4 w0 w5 I5.out B5w.out KK.out).mono ?_); rintro e w6 ⟨rfl, hi, hb, hk⟩; have I6 := aMk hi; have K6 := aMk (K5w.out.trans hk (.inl rfl)); have B6 := aMk hb; have R6 := aMk (hk.blk R5.out (I5.out.ne_blk R5.out (by decide)).symm (by simp)); have L6 := aMk (hk.blk L5.out (I5.out.ne_blk L5.out (by decide)).symm (by simp)); have s6 : w6.cell? ⟨gL, 3, none⟩ = some (.int .i64 0) := bCe L6.out 3; have f6 : w6.frozen? ⟨gL, 3, none⟩ = false := bFr L6.out 3; clear hi hb hk)
      go_meet
      case rel => exact ⟨⟨IsS122.far I6.out (I6.out.ne_blk L6.out (by decide)) _⟩, ⟨keep_far K6.out HWL.out _⟩, ⟨bSe B6.out (Nat.le_trans HW0.out HWL.out)⟩, ⟨blk_far R6.out HNE.out _⟩, ⟨blk_set L6.out 3 _⟩⟩
    · have c1 : (q4 == 0) = false := beq_eq_false_iff_ne.2 c
      have k := K4.out
      rw [if_neg c] at k
      simp only [Option.some.injEq, Prod.mk.injEq] at k
      obtain ⟨e1, e2, e3⟩ := k
      subst e1
      subst e2
      subst e3
      clear c
      go_wp2
      go_meet
      case rel => exact ⟨I5, K5w, B5w, R5, L5⟩
   case rest =>
    clear I5 K5w B5w R5 L5 I3 FK FB BR BL K4 B4
    obtain ⟨I5, K5w, B5w, R5, L5⟩ := hcut
    go_upto_if 25 with (go_at_call 67; (with_reducible refine (spec_l1Below.calls g s0_0 h4 i4 3 q5 m5 n5 w0 wc I5.out B5w.out B5.out).mono ?_); rintro e w7 ⟨rfl, hi, hb, hk⟩; have I7 := aMk hi; have K7 := aMk (K5w.out.trans hk (.inl rfl)); have B7 := aMk hb; have R7 := aMk (hk.blk R5.out (I5.out.ne_blk R5.out (by decide)).symm (by simp)); have L7 := aMk (hk.blk L5.out (I5.out.ne_blk L5.out (by decide)).symm (by simp)); clear hi hb hk)
    go_cut [] (fun wc => Aside0 (IsS122 w0 wc g s0_0 h5 i5) ∧ Aside0 (KeepBut w wc g none) ∧ Aside0 (Below w0.heap.size w0 wc) ∧ Aside0 (wc.heap[gR]? = some (.cells #[.int .i64 0, .int .i64 0, .int .i64 0, .int .i64 0, .int .i64 0] 66 (0, 0))) ∧ Aside0 (wc.heap[gL]? = some (.cells #[.int .i64 x1, .int .i64 v1, .int .i64 v2, .int .i64 x4, .int .i64 x5] 66 (0, 0))))
    case first =>
     by_cases c : q5 = 0
     · have c1 : (q5 == 0) = true := beq_iff_eq.2 c
       have k := K5.out
       rw [if_pos c] at k
       have KK := aMk k
       clear c k
       go_wp2_with (go_at_call 67; (with_reducible refine (spec_l1Below.calls g s0_0 m5 n5 400 x5 h5 i5 w0 w7 I7.out B7.out KK.out).mono ?_); rintro e w6 ⟨rfl, hi, hb, hk⟩; have I6 := aMk hi; have K6 := aMk (K7.out.trans hk (.inl rfl)); have B6 := aMk hb; have R6 := aMk (hk.blk R7.out (I7.out.ne_blk R7.out (by decide)).symm (by simp)); have L6 := aMk (hk.blk L7.out (I7.out.ne_blk L7.out (by decide)).symm (by simp)); have s6 : w6.cell? ⟨gL, 4, none⟩ = some (.int .i64 (-1)) := bCe L6.out 4; have f6 : w6.frozen? ⟨gL, 4, none⟩ = false := bFr L6.out 4; clear hi hb hk)
       go_meet
       case rel => exact ⟨⟨IsS122.far I6.out (I6.out.ne_blk L6.out (by decide)) _⟩, ⟨keep_far K6.out HWL.out _⟩, ⟨bSe B6.out (Nat.le_trans HW0.out HWL.out)⟩, ⟨blk_far R6.out HNE.out _⟩, ⟨blk_set L6.out 4 _⟩⟩
     · have c1 : (q5 == 0) = false := beq_eq_false_iff_ne.2 c
       have k := K5.out
       rw [if_neg c] at k
       simp only [Option.some.injEq, Prod.mk.injEq] at k
       obtain ⟨e1, e2, e3⟩ := k
       subst e1
       subst e2
       subst e3
       clear c
       go_wp2
       go_meet
       case rel => exact ⟨I7, K7, B7, R7, L7⟩
    case rest =>
     clear I7 K7 B7 R7 L7 I5 K5w B5w R5 L5 K5 B5
     obtain ⟨I5, K5, B5, R5, L5⟩ := hcut
     have l0 : wc.cell? ⟨gL, 0, none⟩ = some (.int .i64 x1) := bCe L5.out 0
     have l1 : wc.cell? ⟨gL, 1, none⟩ = some (.int .i64 v1) := bCe L5.out 1
     have l2 : wc.cell? ⟨gL, 2, none⟩ = some (.int .i64 v2) := bCe L5.out 2
     have l3 : wc.cell? ⟨gL, 3, none⟩ = some (.int .i64 x4) := bCe L5.out 3
     have l4 : wc.cell? ⟨gL, 4, none⟩ = some (.int .i64 x5) := bCe L5.out 4
     have s0 : wc.cell? ⟨gR, 0, none⟩ = some (.int .i64 0) := bCe R5.out 0
     have s1 : wc.cell? ⟨gR, 1, none⟩ = some (.int .i64 0) := bCe R5.out 1
     have s2 : wc.cell? ⟨gR, 2, none⟩ = some (.int .i64 0) := bCe R5.out 2
     have s3 : wc.cell? ⟨gR, 3, none⟩ = some (.int .i64 0) := bCe R5.out 3
     have s4 : wc.cell? ⟨gR, 4, none⟩ = some (.int .i64 0) := bCe R5.out 4
     have f0 : wc.frozen? ⟨gR, 0, none⟩ = false := bFr R5.out 0
     have f1 : wc.frozen? ⟨gR, 1, none⟩ = false := bFr R5.out 1
     have f2 : wc.frozen? ⟨gR, 2, none⟩ = false := bFr R5.out 2
     have f3 : wc.frozen? ⟨gR, 3, none⟩ = false := bFr R5.out 3
     have f4 : wc.frozen? ⟨gR, 4, none⟩ = false := bFr R5.out 4
     go_wp2
     refine bodyPost_ret (results_cell_row rfl _ _ gR 66 #[.int .i64 x1, .int .i64 v1, .int .i64 v2, .int .i64 x4, .int .i64 x5] (0, 0) _ rfl (blk_set (blk_set (blk_set (blk_set (blk_set (R5.out) 0 (.int .i64 x1)) 1 (.int .i64 v1)) 2 (.int .i64 v2)) 3 (.int .i64 x4)) 4 (.int .i64 x5)) Try.underlying66 rfl (by kernel_rfl)) rfl ?_
     exact ⟨rfl, IsS122.far (IsS122.far (IsS122.far (IsS122.far (IsS122.far (I5.out) (I5.out.ne_blk R5.out (by decide)) _) (I5.out.ne_blk R5.out (by decide)) _) (I5.out.ne_blk R5.out (by decide)) _) (I5.out.ne_blk R5.out (by decide)) _) (I5.out.ne_blk R5.out (by decide)) _, bSe (bSe (bSe (bSe (bSe (B5.out) (Nat.le_trans HW0.out HWR.out)) (Nat.le_trans HW0.out HWR.out)) (Nat.le_trans HW0.out HWR.out)) (Nat.le_trans HW0.out HWR.out)) (Nat.le_trans HW0.out HWR.out), keep_far (keep_far (keep_far (keep_far (keep_far (K5.out) HWR.out _) HWR.out _) HWR.out _) HWR.out _) HWR.out _⟩
 · rw [if_neg hq] at h; cases h
end Go.Proofs.Ytpknhndanbgkmaa.MFnShares
