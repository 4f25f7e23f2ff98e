-- Written by this session's own program (wip/gen/myprint.py).
import Derived.Test.YtmffcjjodkggcaaMFnExactFeedMorex0
namespace Go.Proofs.Ytmffcjjodkggcaa.MFnExactFeedMore
open Go.RowKit Go.Proofs.YtmffcjjodkggcaaW.PrintWords Go.Proofs.YtmffcjjodkggcaaW.PrintLast Go.Proofs.YtmffcjjodkggcaaW.PrintMore
attribute [local go_sem] max2_int min2_int max_two min_two max_three min_three max_four min_four   -- for this text's walks alone
set_option linter.unusedVariables false
set_option linter.unusedSimpArgs false
def laws_markByteS.l0 : Nat → List Int → Int → Int → Option (Int × List Int)
 | 0, _, _, _ => none
 | k + 1, x0, x1, x5 => if x5 < (x0.length : Int) then (if 0 ≤ x5 then (laws_markByteS.l0 k (x0.set (x5 : Int).toNat ((x1) % 256)) (wrap64 (x1 + 1)) (wrap64 (x5 + 1))) else (none)) else (some (x1, x0))
def laws_markByteS.f (k : Nat) (l0 : List Int) (a1 : Int) : Option (Int × List Int) := laws_markByteS.l0 k l0 a1 0
set_option maxHeartbeats 8000000 in
set_option maxRecDepth 100000 in
theorem laws_markByteS.calls (k : Nat) (P0_ : Nat → Prop) (u9000_ : Value) (l0 : List Int) (a1 : Int) (r1 : Int) (r2 : List Int) (w0 w : World) (hB : Below w0.heap.size w0 w) (ho0 : Kd.R (Kd.int .u8) 5 w w0.heap.size P0_ u9000_ l0) (h : laws_markByteS.f k l0 a1 = some (r1, r2)) :
 Calls Try.prog 29 #[u9000_, .int .i64 a1] w fun e w' => e = .returned (.int .i64 r1) ∧ Kd.R (Kd.int .u8) 5 w' w0.heap.size (fun k_ => (P0_ k_ ∨ w.heap.size ≤ k_)) u9000_ r2 ∧ Below w0.heap.size w0 w' ∧ Kept w w' (fun k_ => P0_ k_) := by
 have HO0 := aMk (show Kd.R (Kd.int .u8) 5 w w0.heap.size (fun k_ => (P0_ k_ ∨ w.heap.size ≤ k_)) u9000_ l0 from Kd.R_mono ho0 (fun k_ hk => (.inl hk)))
 have HK := aMk (Kept.refl w (fun k_ => P0_ k_))
 have HW0 := aMk hB.size
 have HB := aMk hB
 clear hB
 have H : (laws_markByteS.l0 k l0 a1 0) = some (r1, r2) := h
 clear h
 have H' := aMk H
 clear H
 go_enter Try.func29, Try.ntmps29
 go_wp2
 go_loopg [1, 5] k (fun kq v1 v5 w' => ∃ (x0_1 : List Int) (x1_1 : Int) (x5_1 : Int), v1 = .int .i64 x1_1 ∧ v5 = .int .i64 x5_1 ∧ Aside0 (laws_markByteS.l0 kq x0_1 x1_1 x5_1 = some (r1, r2)) ∧ Aside0 (kq ≤ k) ∧ Aside0 (Kd.R (Kd.int .u8) 5 w' w0.heap.size (fun k_ => (P0_ k_ ∨ w.heap.size ≤ k_)) u9000_ x0_1) ∧ Aside0 (Kept w w' (fun k_ => P0_ k_)) ∧ Aside0 (Below w0.heap.size w0 w'))
 case atStart => exact ⟨(l0), (a1), (0), (by first | rfl | (simp; done) | (simp [*]; done)), (by first | rfl | (simp; done) | (simp [*]; done)), H', ⟨Nat.le_refl _⟩, ⟨by (with_reducible repeat (first | apply Kd.R_alloc | apply Kd.R_drewN | apply Kd.R_drew)); exact HO0.out⟩, ⟨by repeat (first | (with_reducible first | exact HK.out | apply Kept.alloc | apply Kept.drewN | apply Kept.drew) | exact HK.out)⟩, ⟨by repeat (first | (with_reducible first | exact HB.out | apply bAl | apply bDn | apply bD1) | exact HB.out)⟩⟩
 case round =>
  clear H'
  try clear c2
  try clear p2
  obtain ⟨x0_1, x1_1, x5_1, rfl, rfl, HA, HK1, HO_0, HK, HB⟩ := hrel
  cases gk with
  | zero => exact absurd HA.out (by simp [laws_markByteS.l0])
  | succ k1 =>
   have H := HA.out
   clear HA
   simp only [laws_markByteS.l0] at H
   by_cases c3 : x5_1 < (x0_1.length : Int)
   · rw [if_pos c3] at H
     have c3b0 : decide (x5_1 < (x0_1.length : Int)) = true := decide_eq_true c3
     clear c3
     by_cases c4 : 0 ≤ x5_1
     · rw [if_pos c4] at H
       have c4b0 : decide (0 ≤ x5_1) = true := decide_eq_true c4
       clear c4
       obtain ⟨y276, hy276⟩ : ∃ y_ : List Int, y_ = (x0_1.set (x5_1 : Int).toNat ((x1_1) % 256)) := ⟨_, rfl⟩
       replace H : (laws_markByteS.l0 k1 y276 (wrap64 (x1_1 + 1)) (wrap64 (x5_1 + 1))) = some (r1, r2) := by first | (rw [hy276]; with_reducible exact H) | (have H2_ := (Option.bind_some _ _).symm.trans H; rw [hy276]; with_reducible exact H2_) | (have H2_ := (Option.bind_some _ _).symm.trans H; with_reducible exact H2_) | with_reducible exact H | (rw [hy276]; exact H) | exact H
       have Ny276 := aMk hy276
       clear hy276
       have H' := aMk H
       clear H
       obtain ⟨Ao6, co6, eo6⟩ := Kd.R_slice HO_0.out
       subst eo6
       have p5 : 0 ≤ (x5_1 : Int) := oDt (by first | (with_reducible assumption) | assumption)
       have q5 : (x5_1 : Int) < ((x0_1.length : Int) : Int) := oDt (by first | (with_reducible assumption) | assumption)
       obtain ⟨go5, co5, eo5, gb5, gl5, cl5, HG5⟩ := Kd.R_form HO_0.out (by omega)
       (first | cases eo5 | (injection eo5 with ea_ en_ ec_; (first | subst ea_ | (injection ea_ with ea_; subst ea_)); subst ec_; clear en_))
       have GB5 := aMk gb5
       have GG5 := aMk HG5
       clear gb5 gl5 HG5
       have HMgo5 := aMk (show (P0_ go5 ∨ w.heap.size ≤ go5) from (HO_0.out.1 _ rfl))
       obtain ⟨hx5_0, hf5_0⟩ := Kd.R_celln 0 HO_0.out (x5_1 : Int) p5 q5
       replace p5 := eq_true p5
       replace q5 := eq_true q5
       have HP7 := Kd.R_putg HO_0.out (x5_1 : Int) ((x1_1) % 256)
       go_wp2_with (first | ((with_reducible refine gate_store (t := 5) (p := 16) rfl ?_); refine store_event (t := 5) (p := 16) (v := ?vo_w8) (w1 := (wr.setCell ⟨go5, (x5_1 : Int).toNat, none⟩ (.int .u8 ((x1_1) % 256)))) ?hg ?ho ?hn ?hr ?_; (case ho => rfl); (case hg => rfl); (case hn => rfl); (case hr => first | (go_simp; done) | (go_simp; rfl)); intro w8 hw; have hg : wr.grownBy w8 (some go5) := (by rw [hw]; exact HP7.2); have hp_ : Kd.R (Kd.int .u8) 5 w8 w0.heap.size (fun k_ => (P0_ k_ ∨ w.heap.size ≤ k_)) (.slice (some ⟨go5, 0, none⟩) x0_1.length co6) y276 := (by rw [hw, Ny276.out]; exact HP7.1); clear HP7; have n0_ := aMk (hp_); have n1_ := aMk ((by rw [hw]; exact bSe (HB.out) GB5.out : Below w0.heap.size w0 w8)); have n2_ := aMk (Kept.of_grown (S := (fun k_ => P0_ k_)) hg (by repeat (first | (with_reducible first | exact HK.out | apply Kept.alloc | apply Kept.drewN | apply Kept.drew) | exact HK.out)) (fun k_ e_ => (HO_0.out.1 k_ e_))); clear HO_0; clear HB; clear HK; have HO_0 := n0_; have HB := n1_; have HK := n2_; clear n0_ n1_ n2_; clear hg hw hp_))
       go_roundg k1
       case measure => have := HK1.out; omega
       case rel => exact ⟨(y276), (wrap64 (x1_1 + 1)), (wrap64 (x5_1 + 1)), (by first | rfl | (simp; done) | (simp [*]; done)), (by first | rfl | (simp; done) | (simp [*]; done)), H', ⟨by have := HK1.out; omega⟩, ⟨by (with_reducible repeat (first | apply Kd.R_alloc | apply Kd.R_drewN | apply Kd.R_drew)); exact HO_0.out⟩, ⟨by repeat (first | (with_reducible first | exact HK.out | apply Kept.alloc | apply Kept.drewN | apply Kept.drew) | exact HK.out)⟩, ⟨by repeat (first | (with_reducible first | exact HB.out | apply bAl | apply bDn | apply bD1) | exact HB.out)⟩⟩
     · rw [if_neg c4] at H
       exact absurd H (by simp)
   · rw [if_neg c3] at H
     have c3b0 : decide (x5_1 < (x0_1.length : Int)) = false := decide_eq_false c3
     clear c3
     simp only [Option.some.injEq, Prod.mk.injEq] at H
     obtain ⟨rfl, rfl⟩ := H
     obtain ⟨Ao9, co9, eo9⟩ := Kd.R_slice HO_0.out
     subst eo9
     go_wp2
     go_ret
     exact ⟨by first | rfl | (simp [errW_none, errW_some] <;> rfl) | (simp [*, errW_none, errW_some] <;> rfl), by (with_reducible repeat (first | apply Kd.R_alloc | apply Kd.R_drewN | apply Kd.R_drew)); exact HO_0.out, by repeat (first | (with_reducible first | exact HB.out | apply bAl | apply bDn | apply bD1) | exact HB.out), by repeat (first | (with_reducible first | exact HK.out | apply Kept.alloc | apply Kept.drewN | apply Kept.drew) | exact HK.out)⟩
def laws_markFeed.f (k : Nat) (a0_0 : Int) (a0_1 : Bool) (l0_2 : List Int) (a1 : Int) : Option (Int × List Int) := (laws_markByteS.f k l0_2 a1).bind fun bt278 => (some (bt278.1, bt278.2))
set_option maxHeartbeats 8000000 in
set_option maxRecDepth 100000 in
theorem laws_markFeed.calls (k : Nat) (a0_0 : Int) (a0_1 : Bool) (P0_2_ : Nat → Prop) (u9000_ : Value) (l0_2 : List Int) (a1 : Int) (r1 : Int) (r2 : List Int) (w0 w : World) (hB : Below w0.heap.size w0 w) (ho0_2 : Kd.R (Kd.int .u8) 5 w w0.heap.size P0_2_ u9000_ l0_2) (h : laws_markFeed.f k a0_0 a0_1 l0_2 a1 = some (r1, r2)) :
 Calls Try.prog 28 #[.agg #[.int .i64 a0_0, .bool a0_1, u9000_], .int .i64 a1] w fun e w' => e = .returned (.int .i64 r1) ∧ Kd.R (Kd.int .u8) 5 w' w0.heap.size (fun k_ => (P0_2_ k_ ∨ w.heap.size ≤ k_)) u9000_ r2 ∧ Below w0.heap.size w0 w' ∧ Kept w w' (fun k_ => P0_2_ k_) := by
 have hu38 := Try.underlying38
 have HO0_2 := aMk (show Kd.R (Kd.int .u8) 5 w w0.heap.size (fun k_ => (P0_2_ k_ ∨ w.heap.size ≤ k_)) u9000_ l0_2 from Kd.R_mono ho0_2 (fun k_ hk => (.inl hk)))
 have HK := aMk (Kept.refl w (fun k_ => P0_2_ k_))
 have HW0 := aMk hB.size
 have HB := aMk hB
 clear hB
 have H : ((laws_markByteS.f k l0_2 a1).bind fun bt278 => (some (bt278.1, bt278.2))) = some (r1, r2) := h
 clear h
 replace H := oBm H
 obtain ⟨⟨t278, t279⟩, A30, H⟩ := H
 replace H : (some (t278, t279)) = some (r1, r2) := H
 have A3 := aMk A30
 clear A30
 simp only [Option.some.injEq, Prod.mk.injEq] at H
 obtain ⟨rfl, rfl⟩ := H
 obtain ⟨Ao4, co4, eo4⟩ := Kd.R_slice HO0_2.out
 subst eo4
 go_enter Try.func28, Try.ntmps28
 go_wp2_with (first | ((with_reducible refine gate_dst (N := 2) rfl ?_); refine box_event ?hg (N := 2) ?hd (cs := #[.int .i64 a0_0, .bool a0_1, .slice Ao4 l0_2.length co4]) (t := 38) ?hr ?_; (case hd => rfl); (case hg => rfl); (case hr => first | (go_simp; done) | (go_simp; rfl)); intro gb277 hg w5 hbox hb; have n0_ := aMk (Kd.R_below (by (with_reducible repeat (first | apply Kd.R_alloc | apply Kd.R_drewN | apply Kd.R_drew)); exact HO0_2.out) hb); have n1_ := aMk (Kept.below (S := (fun k_ => P0_2_ k_)) (by repeat (first | (with_reducible first | exact HK.out | apply Kept.alloc | apply Kept.drewN | apply Kept.drew) | exact HK.out)) hb); have n2_ := aMk (below_step (by repeat (first | (with_reducible first | exact HB.out | apply bAl | apply bDn | apply bD1) | exact HB.out)) hb); have n3_ := aMk (hbox); have n4_ := aMk ((by rw [hg]; exact (by first | exact HK.out.1 | exact (show Kept w _ (fun k_ => P0_2_ k_) from by repeat (first | (with_reducible first | exact HK.out | apply Kept.alloc | apply Kept.drewN | apply Kept.drew) | exact HK.out)).1) : w.heap.size ≤ gb277)); have n5_ := aMk ((by rw [hg]; exact (below_size (by repeat (first | (with_reducible first | exact HB.out | apply bAl | apply bDn | apply bD1) | exact HB.out))) : w0.heap.size ≤ gb277)); clear HO0_2; clear HK; clear HB; have HO0_2 := n0_; have HK := n1_; have HB := n2_; have BK277 := n3_; have GW277 := n4_; have GE277 := n5_; clear n0_ n1_ n2_ n3_ n4_ n5_; clear hb hbox hg; have hcz6_0 : w5.cell? ⟨gb277, 0, none⟩ = some (.int .i64 a0_0) := (bCe BK277.out 0).trans rfl; have hcz6_1 : w5.cell? ⟨gb277, 1, none⟩ = some (.bool a0_1) := (bCe BK277.out 1).trans rfl; have hcz6_2 : w5.cell? ⟨gb277, 2, none⟩ = some (.slice Ao4 l0_2.length co4) := (bCe BK277.out 2).trans rfl; have hfz6_0 := bFr BK277.out 0; have hfz6_1 := bFr BK277.out 1; have hfz6_2 := bFr BK277.out 2) | ((with_reducible refine gate_callee (f := 29) rfl ?_); refine goesL_ (some 8) rfl rfl Try.func29 (by kernel_rfl) rfl #[.slice Ao4 l0_2.length co4, .int .i64 a1] rfl (by (try simp only [List.map_toArray, List.map_cons, List.map_nil]); first | done | rfl | (simp only [List.length_drop, List.length_take]; rfl)) ?_; (with_reducible refine (laws_markByteS.calls k (fun k_ => some k_ = (.slice Ao4 l0_2.length co4 : Value).ownBlock) (.slice Ao4 l0_2.length co4) l0_2 a1 t278 t279 w0 _ ?side1 ?side2 A3.out).mono ?_); (case side1 => repeat (first | (with_reducible first | exact HB.out | apply bAl | apply bDn | apply bD1 | refine bSe ?_ GE277.out) | exact HB.out)); (case side2 => exact Kd.R_tight rfl HO0_2.out); rintro e w7 ⟨rfl, hy0, hb, hkp⟩; refine ⟨_, rfl, ?_⟩; have n0_ := aMk (Kd.R_reok rfl hy0 (fun k_ e_ => HO0_2.out.1 k_ e_)); have n1_ := aMk (blk_kept (by (with_reducible repeat (first | refine bkD ?_ _ | refine blk_drew ?_ | refine bkA ?_ _)); exact BK277.out) hkp (fun hs_ => (fun e_ => (Kd.R_ne HO0_2.out BK277.out (by decide)) e_) hs_)); have n2_ := aMk (Kept.then_ (S := (fun k_ => P0_2_ k_)) (by repeat (first | (with_reducible first | exact HK.out | apply Kept.alloc | apply Kept.drewN | apply Kept.drew | refine Kept.setCell ?_ (.inr GW277.out) _) | exact HK.out)) hkp (fun k_ hs_ => (fun e_ => (HO0_2.out.1 k_ e_.symm)) hs_)); have n3_ := aMk (hb); clear HO0_2; clear BK277; clear HK; clear HB; have HO0_2 := n0_; have BK277 := n1_; have HK := n2_; have HB := n3_; clear n0_ n1_ n2_ n3_; (try clear hb); (try clear hkp); (try clear hy0)))
 go_ret
 exact ⟨by first | rfl | (simp [errW_none, errW_some] <;> rfl) | (simp [*, errW_none, errW_some] <;> rfl), by (with_reducible repeat (first | apply Kd.R_alloc | apply Kd.R_drewN | apply Kd.R_drew)); exact HO0_2.out, by repeat (first | (with_reducible first | exact HB.out | apply bAl | apply bDn | apply bD1 | refine bSe ?_ GE277.out) | exact HB.out), by repeat (first | (with_reducible first | exact HK.out | apply Kept.alloc | apply Kept.drewN | apply Kept.drew | refine Kept.setCell ?_ (.inr GW277.out) _) | exact HK.out)⟩
def laws_heldByteS.l0 : Nat → List Int → Int → Int → Option (Int)
 | 0, _, _, _ => none
 | k + 1, x0, x1, x5 => if x5 < (x0.length : Int) then (if 0 ≤ x5 then (if (rd x0 x5) = ((x1) % 256) then (laws_heldByteS.l0 k x0 (wrap64 (x1 + 1)) (wrap64 (x5 + 1))) else (some (-1))) else (none)) else (some x1)
def laws_heldByteS.f (k : Nat) (l0 : List Int) (a1 : Int) : Option (Int) := laws_heldByteS.l0 k l0 a1 0
set_option maxHeartbeats 8000000 in
set_option maxRecDepth 100000 in
theorem laws_heldByteS.calls (k : Nat) (A0 : Option Addr) (c0 : Nat) (l0 : List Int) (a1 : Int) (r : Int) (w : World) (hr0 : Kd.C (Kd.int .u8) w A0 l0.length l0) (hc0 : l0.length ≤ c0) (h : laws_heldByteS.f k l0 a1 = some r) :
 Calls Try.prog 49 #[.slice A0 l0.length c0, .int .i64 a1] w fun e w' => e = .returned (.int .i64 r) ∧ Drawn0 w w' := by
 have HR0 := aMk hr0
 have HC0 := aMk hc0
 clear hr0 hc0
 have H : (laws_heldByteS.l0 k l0 a1 0) = some r := h
 clear h
 have H' := aMk H
 clear H
 go_enter Try.func49, Try.ntmps49
 go_wp2
 go_loopg [1, 5] k (fun kq v1 v5 w' => ∃ (x1_1 : Int) (x5_1 : Int), v1 = .int .i64 x1_1 ∧ v5 = .int .i64 x5_1 ∧ Aside0 (laws_heldByteS.l0 kq l0 x1_1 x5_1 = some r) ∧ Aside0 (kq ≤ k) ∧ Drawn0 w w')
 case atStart => exact ⟨(a1), (0), (by first | rfl | (simp; done) | (simp [*]; done)), (by first | rfl | (simp; done) | (simp [*]; done)), H', ⟨Nat.le_refl _⟩, by repeat (first | exact Drawn0.refl _ | apply Drawn0.step)⟩
 case round =>
  clear H'
  try clear p2
  obtain ⟨x1_1, x5_1, rfl, rfl, HA, HK1, ⟨m1, rfl⟩⟩ := hrel
  cases gk with
  | zero => exact absurd HA.out (by simp [laws_heldByteS.l0])
  | succ k1 =>
   have H := HA.out
   clear HA
   simp only [laws_heldByteS.l0] at H
   by_cases c3 : x5_1 < (l0.length : Int)
   · rw [if_pos c3] at H
     have c3b0 : decide (x5_1 < (l0.length : Int)) = true := decide_eq_true c3
     clear c3
     by_cases c4 : 0 ≤ x5_1
     · rw [if_pos c4] at H
       have c4b0 : decide (0 ≤ x5_1) = true := decide_eq_true c4
       clear c4
       by_cases c5 : (rd l0 x5_1) = ((x1_1) % 256)
       · rw [if_pos c5] at H
         have c5b0 : ((rd l0 x5_1) == ((x1_1) % 256)) = true := beq_iff_eq.mpr c5
         have c5b1 : ((rd l0 x5_1) != ((x1_1) % 256)) = false := bne_eq_false_iff_eq.mpr c5
         clear c5
         have H' := aMk H
         clear H
         have p280 : 0 ≤ (x5_1 : Int) := oDt (by first | (with_reducible assumption) | assumption)
         have q280 : x5_1 < (l0.length : Int) := oDt (by first | (with_reducible assumption) | assumption)
         obtain ⟨ad280, e280, hx280_0⟩ := Kd.at_int HR0.out x5_1 p280 q280
         cases e280
         replace p280 := eq_true p280
         replace q280 := eq_true q280
         go_wp2
         go_roundg k1
         case measure => have := HK1.out; omega
         case rel => exact ⟨(wrap64 (x1_1 + 1)), (wrap64 (x5_1 + 1)), (by first | rfl | (simp; done) | (simp [*]; done)), (by first | rfl | (simp; done) | (simp [*]; done)), H', ⟨by have := HK1.out; omega⟩, by repeat (first | exact Drawn0.refl _ | apply Drawn0.step)⟩
       · rw [if_neg c5] at H
         have c5b0 : ((rd l0 x5_1) == ((x1_1) % 256)) = false := beq_eq_false_iff_ne.mpr c5
         have c5b1 : ((rd l0 x5_1) != ((x1_1) % 256)) = true := bne_iff_ne.mpr c5
         obtain rfl := Option.some.inj H
         have p280 : 0 ≤ (x5_1 : Int) := oDt (by first | (with_reducible assumption) | assumption)
         have q280 : x5_1 < (l0.length : Int) := oDt (by first | (with_reducible assumption) | assumption)
         obtain ⟨ad280, e280, hx280_0⟩ := Kd.at_int HR0.out x5_1 p280 q280
         cases e280
         replace p280 := eq_true p280
         replace q280 := eq_true q280
         go_wp2
         go_ret
         exact ⟨by first | rfl | (simp; done) | (simp [*]; done), by repeat (first | exact Drawn0.refl _ | apply Drawn0.step)⟩
     · rw [if_neg c4] at H
       exact absurd H (by simp)
   · rw [if_neg c3] at H
     have c3b0 : decide (x5_1 < (l0.length : Int)) = false := decide_eq_false c3
     clear c3
     obtain rfl := Option.some.inj H
     go_wp2
     go_ret
     exact ⟨by first | rfl | (simp; done) | (simp [*]; done), by repeat (first | exact Drawn0.refl _ | apply Drawn0.step)⟩
def laws_heldFeed.f (k : Nat) (a0_0 : Int) (a0_1 : Bool) (l0_2 : List Int) (a1 : Int) : Option (Int) := (laws_heldByteS.f k l0_2 a1).bind fun t282 => (if t282 < 0 then (some (-1)) else (some t282))
set_option maxHeartbeats 8000000 in
set_option maxRecDepth 100000 in
theorem laws_heldFeed.calls (k : Nat) (a0_0 : Int) (a0_1 : Bool) (A0_2 : Option Addr) (c0_2 : Nat) (l0_2 : List Int) (a1 : Int) (r : Int) (w : World) (hr0_2 : Kd.C (Kd.int .u8) w A0_2 l0_2.length l0_2) (hc0_2 : l0_2.length ≤ c0_2) (h : laws_heldFeed.f k a0_0 a0_1 l0_2 a1 = some r) :
 Calls Try.prog 30 #[.agg #[.int .i64 a0_0, .bool a0_1, .slice A0_2 l0_2.length c0_2], .int .i64 a1] w fun e w' => e = .returned (.int .i64 r) ∧ Below w.heap.size w w' := by
 have hu38 := Try.underlying38
 have HR0_2 := aMk hr0_2
 have HC0_2 := aMk hc0_2
 clear hr0_2 hc0_2
 have HB := aMk (Below.refl w.heap.size w)
 have H : ((laws_heldByteS.f k l0_2 a1).bind fun t282 => (if t282 < 0 then (some (-1)) else (some t282))) = some r := h
 clear h
 replace H := oBm H
 obtain ⟨t282, A30, H⟩ := H
 replace H : (if t282 < 0 then (some (-1)) else (some t282)) = some r := H
 have A3 := aMk A30
 clear A30
 by_cases c4 : t282 < 0
 · rw [if_pos c4] at H
   have c4b0 : decide (t282 < 0) = true := decide_eq_true c4
   clear c4
   obtain rfl := Option.some.inj H
   go_enter Try.func30, Try.ntmps30
   go_wp2_with (first | ((with_reducible refine gate_dst (N := 2) rfl ?_); refine box_event ?hg (N := 2) ?hd (cs := #[.int .i64 a0_0, .bool a0_1, .slice A0_2 l0_2.length c0_2]) (t := 38) ?hr ?_; (case hd => rfl); (case hg => rfl); (case hr => first | (go_simp; done) | (go_simp; rfl)); intro gb281 hg w5 hbox hb; have n0_ := aMk (below_step (by repeat (first | (with_reducible first | exact HB.out | apply bAl | apply bDn | apply bD1) | exact HB.out)) hb); have n1_ := aMk (hbox); have n2_ := aMk ((by rw [hg]; exact (below_size (by repeat (first | (with_reducible first | exact HB.out | apply bAl | apply bDn | apply bD1) | exact HB.out))) : w.heap.size ≤ gb281)); have n3_ := aMk ((by rw [hg]; exact (below_size (by repeat (first | (with_reducible first | exact HB.out | apply bAl | apply bDn | apply bD1) | exact HB.out))) : w.heap.size ≤ gb281)); clear HB; have HB := n0_; have BK281 := n1_; have GW281 := n2_; have GE281 := n3_; clear n0_ n1_ n2_ n3_; clear hb hbox hg; have hcz6_0 : w5.cell? ⟨gb281, 0, none⟩ = some (.int .i64 a0_0) := (bCe BK281.out 0).trans rfl; have hcz6_1 : w5.cell? ⟨gb281, 1, none⟩ = some (.bool a0_1) := (bCe BK281.out 1).trans rfl; have hcz6_2 : w5.cell? ⟨gb281, 2, none⟩ = some (.slice A0_2 l0_2.length c0_2) := (bCe BK281.out 2).trans rfl; have hfz6_0 := bFr BK281.out 0; have hfz6_1 := bFr BK281.out 1; have hfz6_2 := bFr BK281.out 2) | ((with_reducible refine gate_callee (f := 49) rfl ?_); refine goesL_ (some 8) rfl rfl Try.func49 (by kernel_rfl) rfl #[.slice A0_2 l0_2.length c0_2, .int .i64 a1] rfl (by (try simp only [List.map_toArray, List.map_cons, List.map_nil]); first | done | rfl | (simp only [List.length_drop, List.length_take]; rfl)) ?_; (with_reducible refine (laws_heldByteS.calls k _ _ l0_2 a1 t282 _ ?side1 ?side2 A3.out).mono ?_); (case side1 => repeat (first | exact (Kd.C_below HR0_2.out HB.out) | (with_reducible refine Kd.C_alloc ?_ _) | (with_reducible refine Kd.C_drewN ?_ _) | (with_reducible refine Kd.C_drew ?_))); (case side2 => exact HC0_2.out); rintro e w' ⟨rfl, ⟨nd, rfl⟩⟩; refine ⟨_, rfl, ?_⟩))
   go_ret
   exact ⟨by first | rfl | (simp [errW_none, errW_some] <;> rfl) | (simp [*, errW_none, errW_some] <;> rfl), by repeat (first | (with_reducible first | exact HB.out | apply bAl | apply bDn | apply bD1 | refine bSe ?_ GE281.out) | exact HB.out)⟩
 · rw [if_neg c4] at H
   have c4b0 : decide (t282 < 0) = false := decide_eq_false c4
   clear c4
   obtain rfl := Option.some.inj H
   go_enter Try.func30, Try.ntmps30
   go_wp2_with (first | ((with_reducible refine gate_dst (N := 2) rfl ?_); refine box_event ?hg (N := 2) ?hd (cs := #[.int .i64 a0_0, .bool a0_1, .slice A0_2 l0_2.length c0_2]) (t := 38) ?hr ?_; (case hd => rfl); (case hg => rfl); (case hr => first | (go_simp; done) | (go_simp; rfl)); intro gb281 hg w7 hbox hb; have n0_ := aMk (below_step (by repeat (first | (with_reducible first | exact HB.out | apply bAl | apply bDn | apply bD1) | exact HB.out)) hb); have n1_ := aMk (hbox); have n2_ := aMk ((by rw [hg]; exact (below_size (by repeat (first | (with_reducible first | exact HB.out | apply bAl | apply bDn | apply bD1) | exact HB.out))) : w.heap.size ≤ gb281)); have n3_ := aMk ((by rw [hg]; exact (below_size (by repeat (first | (with_reducible first | exact HB.out | apply bAl | apply bDn | apply bD1) | exact HB.out))) : w.heap.size ≤ gb281)); clear HB; have HB := n0_; have BK281 := n1_; have GW281 := n2_; have GE281 := n3_; clear n0_ n1_ n2_ n3_; clear hb hbox hg; have hcz8_0 : w7.cell? ⟨gb281, 0, none⟩ = some (.int .i64 a0_0) := (bCe BK281.out 0).trans rfl; have hcz8_1 : w7.cell? ⟨gb281, 1, none⟩ = some (.bool a0_1) := (bCe BK281.out 1).trans rfl; have hcz8_2 : w7.cell? ⟨gb281, 2, none⟩ = some (.slice A0_2 l0_2.length c0_2) := (bCe BK281.out 2).trans rfl; have hfz8_0 := bFr BK281.out 0; have hfz8_1 := bFr BK281.out 1; have hfz8_2 := bFr BK281.out 2) | ((with_reducible refine gate_callee (f := 49) rfl ?_); refine goesL_ (some 8) rfl rfl Try.func49 (by kernel_rfl) rfl #[.slice A0_2 l0_2.length c0_2, .int .i64 a1] rfl (by (try simp only [List.map_toArray, List.map_cons, List.map_nil]); first | done | rfl | (simp only [List.length_drop, List.length_take]; rfl)) ?_; (with_reducible refine (laws_heldByteS.calls k _ _ l0_2 a1 t282 _ ?side1 ?side2 A3.out).mono ?_); (case side1 => repeat (first | exact (Kd.C_below HR0_2.out HB.out) | (with_reducible refine Kd.C_alloc ?_ _) | (with_reducible refine Kd.C_drewN ?_ _) | (with_reducible refine Kd.C_drew ?_))); (case side2 => exact HC0_2.out); rintro e w' ⟨rfl, ⟨nd, rfl⟩⟩; refine ⟨_, rfl, ?_⟩))
   go_ret
   exact ⟨by first | rfl | (simp [errW_none, errW_some] <;> rfl) | (simp [*, errW_none, errW_some] <;> rfl), by repeat (first | (with_reducible first | exact HB.out | apply bAl | apply bDn | apply bD1 | refine bSe ?_ GE281.out) | exact HB.out)⟩
end Go.Proofs.Ytmffcjjodkggcaa.MFnExactFeedMore
