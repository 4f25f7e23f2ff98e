-- Written by this session's own program (wip/gen/myprint.py).
import Derived.Test.YtmffcjjodkggcaaMFnExactFeedEndx0
import Derived.Test.YtmffcjjodkggcaaMFnExactFeedEndx4
import Derived.Test.YtmffcjjodkggcaaMFnExactFeedEndx5
namespace Go.Proofs.Ytmffcjjodkggcaa.MFnExactFeedEnd
open Go.RowKit Go.Proofs.YtmffcjjodkggcaaW.PrintWords Go.Proofs.YtmffcjjodkggcaaW.PrintLast Go.Proofs.YtmffcjjodkggcaaW.PrintMore
attribute [local go_sem] max2_int min2_int max_two min_two max_three min_three max_four min_four   -- for this text's walks alone
set_option linter.unusedVariables false
set_option linter.unusedSimpArgs false

/-! ### impl_pairCoding_read: function 97 -/
def impl_pairCoding_read.l0 : Nat → List Int → List Int → Bool → Option (ByteArray)
  | 0, _, _, _ => none
  | k + 1, x1, x5, x239000 => if (x1.length : Int) > 1 then ((impl_pairCoding_number.f x239000 x1).bind fun t247 => (if 2 ≤ (x1.length : Int) then ((some (x1.drop 2 : List Int)).bind fun y248 => ((impl_isHigh.f t247).bind fun t253 => (if t253 = true then (if (y248.length : Int) > 1 then ((impl_pairCoding_number.f x239000 y248).bind fun t254 => ((impl_isLow.f t254).bind fun t255 => (if t255 = true then ((impl_pairCoding_number.f x239000 y248).bind fun t256 => (if 2 ≤ (y248.length : Int) then (if x5.length < 17592186044416 then (impl_pairCoding_read.l0 k (y248.drop 2) (x5 ++ [wrap64 ((wrap64 (65536 + (wrap64 (1024 * (wrap64 (t247 - 55296)))))) + (wrap64 (t256 - 56320)))]) x239000) else (none)) else (none))) else (if x5.length < 17592186044416 then (impl_pairCoding_read.l0 k y248 (x5 ++ [t247]) x239000) else (none))))) else (if x5.length < 17592186044416 then (impl_pairCoding_read.l0 k y248 (x5 ++ [t247]) x239000) else (none))) else (if x5.length < 17592186044416 then (impl_pairCoding_read.l0 k y248 (x5 ++ [t247]) x239000) else (none))))) else (none))) else (if (x1.length : Int) = 1 then (if x5.length < 17592186044416 then ((impl_Encode.f (x5 ++ [(-1)])).bind fun t245 => (some t245)) else (none)) else ((impl_Encode.f x5).bind fun t246 => (some t246)))
def impl_pairCoding_read.f (k : Nat) (a0_0 : Bool) (l1 : List Int) : Option (ByteArray) := impl_pairCoding_read.l0 k l1 (([] : List Int)) a0_0
theorem impl_pairCoding_read.mono_l : ∀ k, (∀ y0 y1 y2, LeO (impl_pairCoding_read.l0 k y0 y1 y2) (impl_pairCoding_read.l0 (k + 1) y0 y1 y2))
  | 0 => fun _ _ _ r h => by simp [impl_pairCoding_read.l0] at h
  | k + 1 => by
    have ih0 := impl_pairCoding_read.mono_l k
    · intro y0 y1 y2
      unfold impl_pairCoding_read.l0
      repeat' first
      | (with_reducible exact ih0 _ _ _)
      | (with_reducible exact LeO.refl _)
      | (with_reducible exact LeO.none _)
      | (with_reducible refine LeO.ite ?_ ?_)
      | (with_reducible refine LeO.bind ?_ (fun _ => ?_))
      | exact ih0 _ _ _
      | exact LeO.none _
      | refine LeO.ite ?_ ?_
      | refine LeO.bind ?_ (fun _ => ?_)
theorem impl_pairCoding_read.mono : ∀ a0 a1 k, LeO (impl_pairCoding_read.f k a0 a1) (impl_pairCoding_read.f (k + 1) a0 a1) := by
  intro a0 a1 k
  have ih0 := impl_pairCoding_read.mono_l k
  unfold impl_pairCoding_read.f
  repeat' first
      | (with_reducible exact ih0 _ _ _)
      | (with_reducible exact LeO.refl _)
      | (with_reducible exact LeO.none _)
      | (with_reducible refine LeO.ite ?_ ?_)
      | (with_reducible refine LeO.bind ?_ (fun _ => ?_))
      | exact ih0 _ _ _
      | exact LeO.none _
      | refine LeO.ite ?_ ?_
      | refine LeO.bind ?_ (fun _ => ?_)
set_option maxHeartbeats 8000000 in
set_option maxRecDepth 100000 in
theorem impl_pairCoding_read.calls (k : Nat) (a0_0 : Bool) (P1_ : Nat → Prop) (A1 : Option Addr) (c1 : Nat) (l1 : List Int) (r : ByteArray) (w : World) (hs1 : Kd.V (Kd.int .u8) 5 w w.heap.size (fun k_ => P1_ k_) (.slice A1 l1.length c1) l1) (h : impl_pairCoding_read.f k a0_0 l1 = some r) :
    Calls Try.prog 97 #[.agg #[.bool a0_0], .slice A1 l1.length c1] w fun e w' => e = .returned (.string r) ∧ Below w.heap.size w w' := by
  have hu86 := Try.underlying86
  have HO1 := Aside0.mk (show Kd.V (Kd.int .u8) 5 w w.heap.size (fun k_ => (P1_ k_ ∨ w.heap.size ≤ k_)) (.slice A1 l1.length c1) l1 from Kd.V_mono hs1 (fun k_ hk => .inl hk))
  have HB := Aside0.mk (Below.refl w.heap.size w)
  have H : (impl_pairCoding_read.l0 k l1 (([] : List Int)) a0_0) = some r := h
  clear h
  obtain ⟨y239, hy239⟩ : ∃ y_ : List Int, y_ = (([] : List Int)) := ⟨_, rfl⟩
  replace H : (impl_pairCoding_read.l0 k l1 y239 a0_0) = some r := by first | (rw [hy239]; with_reducible exact H) | (have H2_ := (Option.bind_some _ _).symm.trans H; rw [hy239]; with_reducible exact H2_) | (have H2_ := (Option.bind_some _ _).symm.trans H; with_reducible exact H2_) | with_reducible exact H | (rw [hy239]; exact H) | exact H
  have Ny239 := Aside0.mk hy239
  clear hy239
  have H' := Aside0.mk H
  clear H
  go_enter Try.func97, Try.ntmps97
  go_wp2_with (first | ((with_reducible refine gate_dst (N := 2) rfl ?_); (try (refine gate_guard (by rfl) ?_; dsimp only)); refine box_event ?hg (N := 2) ?hd (cs := #[.bool a0_0]) (t := 86) ?hr ?_; (case hd => rfl); (case hg => rfl); (case hr => first | (go_simp; done) | (go_simp; rfl)); intro gb238 hg w3 hbox hb; have n0_ := Aside0.mk (Kd.V_below (Kd.V_elderB (by (with_reducible repeat (first | apply Kd.V_alloc | apply Kd.V_drewN | apply Kd.V_drew)); exact HO1.out) gb238 (Nat.le_of_eq hg.symm)) hb); have n1_ := Aside0.mk (below_step (by repeat (first | (with_reducible first | exact HB.out | apply below_alloc | apply pw_below_drewN | apply below_drew1) | exact HB.out)) hb); have n2_ := Aside0.mk (hbox); have n3_ := Aside0.mk ((by rw [hg]; exact (below_size (by repeat (first | (with_reducible first | exact HB.out | apply below_alloc | apply pw_below_drewN | apply below_drew1) | exact HB.out))) : w.heap.size ≤ gb238)); have n4_ := Aside0.mk ((by rw [hg]; exact (below_size (by repeat (first | (with_reducible first | exact HB.out | apply below_alloc | apply pw_below_drewN | apply below_drew1) | exact HB.out))) : w.heap.size ≤ gb238)); clear HO1; clear HB; have HO1 := n0_; have HB := n1_; have BK238 := n2_; have GW238 := n3_; have GE238 := n4_; clear n0_ n1_ n2_ n3_ n4_; clear hb hbox hg) | ((with_reducible refine gate_dst (N := 7) rfl ?_); (try (refine gate_guard (by rfl) ?_; dsimp only)); refine Kd.R_lit (Kd.int .i64) _ 3 ?hg (N := 7) ?hd (xs := ([] : List Int)) (inner := []) (ok := fun _ => True) (okp := fun _ => True) ?hr ?hp (fun _ hk => hk) trivial (Below.refl _ _) (Nat.le_refl _) (by simp) ?_; (case hd => rfl); (case hg => rfl); (case hr => first | (go_simp; done) | (go_simp; rfl)); (case hp => exact (Reps.none _ _)); intro v240 w4 ho5 hb hg_ hnew_; clear hg_ hnew_; (first | rw [← Ny239.out] at ho5 | (simp only [Int.reduceToNat] at ho5; rw [← Ny239.out] at ho5)); have n0_ := Aside0.mk (Kd.V_elder' (by (with_reducible repeat (first | apply Kd.V_alloc | apply Kd.V_drewN | apply Kd.V_drew)); exact HO1.out) (Kd.R_base ho5) hb); have n1_ := Aside0.mk (Kd.R_lower (Kd.R_newM (M := fun k_ => (w.heap.size ≤ k_)) ho5 (below_size (by repeat (first | (with_reducible first | exact HB.out | apply below_alloc | apply pw_below_drewN | apply below_drew1 | refine below_set ?_ GE238.out) | exact HB.out))) (fun k_ h_ => h_)) (below_size (by repeat (first | (with_reducible first | exact HB.out | apply below_alloc | apply pw_below_drewN | apply below_drew1 | refine below_set ?_ GE238.out) | exact HB.out)))); have n2_ := Aside0.mk (blk_below (g := gb238) (o := .cells #[.bool a0_0] 86 (0, 0)) (by (with_reducible repeat (first | refine blk_drewN ?_ _ | refine blk_drew ?_ | refine blk_alloc ?_ _)); exact BK238.out) hb); have n3_ := Aside0.mk (below_step (by repeat (first | (with_reducible first | exact HB.out | apply below_alloc | apply pw_below_drewN | apply below_drew1 | refine below_set ?_ GE238.out) | exact HB.out)) hb); clear HO1; clear BK238; clear HB; have HO1 := n0_; have HO241 := n1_; have BK238 := n2_; have HB := n3_; clear n0_ n1_ n2_ n3_; clear hb ho5))
  go_loopg [1, 5] k (fun kq v1 v5 w' => ∃ (x1_1 : List Int) (x5_1 : List Int), Aside0 (impl_pairCoding_read.l0 kq x1_1 x5_1 a0_0 = some r) ∧ Aside0 (kq ≤ k) ∧ Aside0 (Kd.V (Kd.int .u8) 5 w' w.heap.size (fun k_ => (P1_ k_ ∨ w.heap.size ≤ k_) ∧ some k_ ≠ (v5 : Value).ownBlock ∧ k_ ≠ gb238) v1 x1_1) ∧ Aside0 (Kd.R (Kd.int .i64) 3 w' w.heap.size (fun k_ => (w.heap.size ≤ k_)) v5 x5_1) ∧ Aside0 (w'.heap[gb238]? = some (.cells #[.bool a0_0] 86 (0, 0))) ∧ Aside0 (Below w.heap.size w w'))
  case atStart => exact ⟨(l1), (y239), H', ⟨Nat.le_refl _⟩, ⟨by (with_reducible repeat (first | apply Kd.V_alloc | apply Kd.V_drewN | apply Kd.V_drew)); exact Kd.V_mono HO1.out (fun _ hk => ⟨hk.1.1, ⟨hk.2, hk.1.2⟩⟩)⟩, ⟨by (with_reducible repeat (first | apply Kd.R_alloc | apply Kd.R_drewN | apply Kd.R_drew)); exact Kd.R_mono HO241.out (fun _ hk => hk.1)⟩, ⟨by (with_reducible repeat (first | refine blk_drewN ?_ _ | refine blk_drew ?_ | refine blk_alloc ?_ _)); exact BK238.out⟩, ⟨by repeat (first | (with_reducible first | exact HB.out | apply below_alloc | apply pw_below_drewN | apply below_drew1 | refine below_set ?_ GE238.out) | exact HB.out)⟩⟩
  case round =>
    clear H'
    try clear c1
    try clear p2
    obtain ⟨x1_1, x5_1, HA, HK1, HO_1, HO_5, BK238, HB⟩ := hrel
    cases gk with
    | zero => exact absurd HA.out (by simp [impl_pairCoding_read.l0])
    | succ k1 =>
      have H := HA.out
      clear HA
      simp only [impl_pairCoding_read.l0] at H
      by_cases c6 : (x1_1.length : Int) > 1
      · rw [if_pos c6] at H
        have c6b0 : decide (1 < (x1_1.length : Int)) = true := decide_eq_true c6
        have c6b1 : decide (1 < x1_1.length) = true := decide_eq_true (by omega)
        clear c6
        replace H := Option.bind_eq_some_iff.mp H
        obtain ⟨t247, A70, H⟩ := H
        replace H : (if 2 ≤ (x1_1.length : Int) then ((some (x1_1.drop 2 : List Int)).bind fun y248 => ((impl_isHigh.f t247).bind fun t253 => (if t253 = true then (if (y248.length : Int) > 1 then ((impl_pairCoding_number.f a0_0 y248).bind fun t254 => ((impl_isLow.f t254).bind fun t255 => (if t255 = true then ((impl_pairCoding_number.f a0_0 y248).bind fun t256 => (if 2 ≤ (y248.length : Int) then (if x5_1.length < 17592186044416 then (impl_pairCoding_read.l0 k1 (y248.drop 2) (x5_1 ++ [wrap64 ((wrap64 (65536 + (wrap64 (1024 * (wrap64 (t247 - 55296)))))) + (wrap64 (t256 - 56320)))]) a0_0) else (none)) else (none))) else (if x5_1.length < 17592186044416 then (impl_pairCoding_read.l0 k1 y248 (x5_1 ++ [t247]) a0_0) else (none))))) else (if x5_1.length < 17592186044416 then (impl_pairCoding_read.l0 k1 y248 (x5_1 ++ [t247]) a0_0) else (none))) else (if x5_1.length < 17592186044416 then (impl_pairCoding_read.l0 k1 y248 (x5_1 ++ [t247]) a0_0) else (none))))) else (none)) = some r := H
        have A7 := Aside0.mk A70
        clear A70
        by_cases c8 : 2 ≤ (x1_1.length : Int)
        · rw [if_pos c8] at H
          have c8b0 := eq_true c8
          have c8b1 : decide (2 ≤ (x1_1.length : Int)) = true := decide_eq_true c8
          clear c8
          obtain ⟨y248, hy248⟩ : ∃ y_ : List Int, y_ = (x1_1.drop 2) := ⟨_, rfl⟩
          replace H : ((impl_isHigh.f t247).bind fun t253 => (if t253 = true then (if (y248.length : Int) > 1 then ((impl_pairCoding_number.f a0_0 y248).bind fun t254 => ((impl_isLow.f t254).bind fun t255 => (if t255 = true then ((impl_pairCoding_number.f a0_0 y248).bind fun t256 => (if 2 ≤ (y248.length : Int) then (if x5_1.length < 17592186044416 then (impl_pairCoding_read.l0 k1 (y248.drop 2) (x5_1 ++ [wrap64 ((wrap64 (65536 + (wrap64 (1024 * (wrap64 (t247 - 55296)))))) + (wrap64 (t256 - 56320)))]) a0_0) else (none)) else (none))) else (if x5_1.length < 17592186044416 then (impl_pairCoding_read.l0 k1 y248 (x5_1 ++ [t247]) a0_0) else (none))))) else (if x5_1.length < 17592186044416 then (impl_pairCoding_read.l0 k1 y248 (x5_1 ++ [t247]) a0_0) else (none))) else (if x5_1.length < 17592186044416 then (impl_pairCoding_read.l0 k1 y248 (x5_1 ++ [t247]) a0_0) else (none)))) = some r := by first | (rw [hy248]; with_reducible exact H) | (have H2_ := (Option.bind_some _ _).symm.trans H; rw [hy248]; with_reducible exact H2_) | (have H2_ := (Option.bind_some _ _).symm.trans H; with_reducible exact H2_) | with_reducible exact H | (rw [hy248]; exact H) | exact H
          have Ny248 := Aside0.mk hy248
          clear hy248
          replace H := Option.bind_eq_some_iff.mp H
          obtain ⟨t253, A90, H⟩ := H
          replace H : (if t253 = true then (if (y248.length : Int) > 1 then ((impl_pairCoding_number.f a0_0 y248).bind fun t254 => ((impl_isLow.f t254).bind fun t255 => (if t255 = true then ((impl_pairCoding_number.f a0_0 y248).bind fun t256 => (if 2 ≤ (y248.length : Int) then (if x5_1.length < 17592186044416 then (impl_pairCoding_read.l0 k1 (y248.drop 2) (x5_1 ++ [wrap64 ((wrap64 (65536 + (wrap64 (1024 * (wrap64 (t247 - 55296)))))) + (wrap64 (t256 - 56320)))]) a0_0) else (none)) else (none))) else (if x5_1.length < 17592186044416 then (impl_pairCoding_read.l0 k1 y248 (x5_1 ++ [t247]) a0_0) else (none))))) else (if x5_1.length < 17592186044416 then (impl_pairCoding_read.l0 k1 y248 (x5_1 ++ [t247]) a0_0) else (none))) else (if x5_1.length < 17592186044416 then (impl_pairCoding_read.l0 k1 y248 (x5_1 ++ [t247]) a0_0) else (none))) = some r := H
          have A9 := Aside0.mk A90
          clear A90
          by_cases c10 : t253 = true
          · subst c10
            have H1 : (if (y248.length : Int) > 1 then ((impl_pairCoding_number.f a0_0 y248).bind fun t254 => ((impl_isLow.f t254).bind fun t255 => (if t255 = true then ((impl_pairCoding_number.f a0_0 y248).bind fun t256 => (if 2 ≤ (y248.length : Int) then (if x5_1.length < 17592186044416 then (impl_pairCoding_read.l0 k1 (y248.drop 2) (x5_1 ++ [wrap64 ((wrap64 (65536 + (wrap64 (1024 * (wrap64 (t247 - 55296)))))) + (wrap64 (t256 - 56320)))]) a0_0) else (none)) else (none))) else (if x5_1.length < 17592186044416 then (impl_pairCoding_read.l0 k1 y248 (x5_1 ++ [t247]) a0_0) else (none))))) else (if x5_1.length < 17592186044416 then (impl_pairCoding_read.l0 k1 y248 (x5_1 ++ [t247]) a0_0) else (none))) = some r := by rw [if_pos rfl] at H; exact H
            clear H
            have H := H1
            clear H1
            by_cases c11 : (y248.length : Int) > 1
            · rw [if_pos c11] at H
              have c11b0 : decide (1 < (y248.length : Int)) = true := decide_eq_true c11
              have c11b1 : decide (1 < y248.length) = true := decide_eq_true (by omega)
              clear c11
              replace H := Option.bind_eq_some_iff.mp H
              obtain ⟨t254, A120, H⟩ := H
              replace H : ((impl_isLow.f t254).bind fun t255 => (if t255 = true then ((impl_pairCoding_number.f a0_0 y248).bind fun t256 => (if 2 ≤ (y248.length : Int) then (if x5_1.length < 17592186044416 then (impl_pairCoding_read.l0 k1 (y248.drop 2) (x5_1 ++ [wrap64 ((wrap64 (65536 + (wrap64 (1024 * (wrap64 (t247 - 55296)))))) + (wrap64 (t256 - 56320)))]) a0_0) else (none)) else (none))) else (if x5_1.length < 17592186044416 then (impl_pairCoding_read.l0 k1 y248 (x5_1 ++ [t247]) a0_0) else (none)))) = some r := H
              have A12 := Aside0.mk A120
              clear A120
              replace H := Option.bind_eq_some_iff.mp H
              obtain ⟨t255, A130, H⟩ := H
              replace H : (if t255 = true then ((impl_pairCoding_number.f a0_0 y248).bind fun t256 => (if 2 ≤ (y248.length : Int) then (if x5_1.length < 17592186044416 then (impl_pairCoding_read.l0 k1 (y248.drop 2) (x5_1 ++ [wrap64 ((wrap64 (65536 + (wrap64 (1024 * (wrap64 (t247 - 55296)))))) + (wrap64 (t256 - 56320)))]) a0_0) else (none)) else (none))) else (if x5_1.length < 17592186044416 then (impl_pairCoding_read.l0 k1 y248 (x5_1 ++ [t247]) a0_0) else (none))) = some r := H
              have A13 := Aside0.mk A130
              clear A130
              by_cases c14 : t255 = true
              · subst c14
                have H1 : ((impl_pairCoding_number.f a0_0 y248).bind fun t256 => (if 2 ≤ (y248.length : Int) then (if x5_1.length < 17592186044416 then (impl_pairCoding_read.l0 k1 (y248.drop 2) (x5_1 ++ [wrap64 ((wrap64 (65536 + (wrap64 (1024 * (wrap64 (t247 - 55296)))))) + (wrap64 (t256 - 56320)))]) a0_0) else (none)) else (none))) = some r := by rw [if_pos rfl] at H; exact H
                clear H
                have H := H1
                clear H1
                replace H := Option.bind_eq_some_iff.mp H
                obtain ⟨t256, A150, H⟩ := H
                replace H : (if 2 ≤ (y248.length : Int) then (if x5_1.length < 17592186044416 then (impl_pairCoding_read.l0 k1 (y248.drop 2) (x5_1 ++ [wrap64 ((wrap64 (65536 + (wrap64 (1024 * (wrap64 (t247 - 55296)))))) + (wrap64 (t256 - 56320)))]) a0_0) else (none)) else (none)) = some r := H
                have A15 := Aside0.mk A150
                clear A150
                by_cases c16 : 2 ≤ (y248.length : Int)
                · rw [if_pos c16] at H
                  have c16b0 := eq_true c16
                  have c16b1 : decide (2 ≤ (y248.length : Int)) = true := decide_eq_true c16
                  clear c16
                  obtain ⟨y257, hy257⟩ : ∃ y_ : List Int, y_ = (y248.drop 2) := ⟨_, rfl⟩
                  replace H : (if x5_1.length < 17592186044416 then (impl_pairCoding_read.l0 k1 y257 (x5_1 ++ [wrap64 ((wrap64 (65536 + (wrap64 (1024 * (wrap64 (t247 - 55296)))))) + (wrap64 (t256 - 56320)))]) a0_0) else (none)) = some r := by first | (rw [hy257]; with_reducible exact H) | (have H2_ := (Option.bind_some _ _).symm.trans H; rw [hy257]; with_reducible exact H2_) | (have H2_ := (Option.bind_some _ _).symm.trans H; with_reducible exact H2_) | with_reducible exact H | (rw [hy257]; exact H) | exact H
                  have Ny257 := Aside0.mk hy257
                  clear hy257
                  by_cases c17 : x5_1.length < 17592186044416
                  · rw [if_pos c17] at H
                    have LMc17 := Aside0.mk c17
                    clear c17
                    obtain ⟨y262, hy262⟩ : ∃ y_ : List Int, y_ = (x5_1 ++ [wrap64 ((wrap64 (65536 + (wrap64 (1024 * (wrap64 (t247 - 55296)))))) + (wrap64 (t256 - 56320)))]) := ⟨_, rfl⟩
                    replace H : (impl_pairCoding_read.l0 k1 y257 y262 a0_0) = some r := by first | (rw [hy262]; with_reducible exact H) | (have H2_ := (Option.bind_some _ _).symm.trans H; rw [hy262]; with_reducible exact H2_) | (have H2_ := (Option.bind_some _ _).symm.trans H; with_reducible exact H2_) | with_reducible exact H | (rw [hy262]; exact H) | exact H
                    have Ny262 := Aside0.mk hy262
                    clear hy262
                    have H' := Aside0.mk H
                    clear H
                    obtain ⟨Ao18, co18, eo18⟩ := Kd.V_slice HO_1.out
                    subst eo18
                    have hcz19_0 : wr.cell? ⟨gb238, 0, none⟩ = some (.bool a0_0) := (blk_cell BK238.out 0).trans rfl
                    have hfz19_0 := blk_frozen BK238.out 0
                    go_wp2_with (first | ((with_reducible refine gate_callee (f := 99) rfl ?_); refine goesL_ (some 13) rfl rfl Try.func99 (by kernel_rfl) rfl #[.agg #[.bool a0_0], .slice Ao18 x1_1.length co18] rfl (by (try simp only [List.map_toArray, List.map_cons, List.map_nil]); first | done | rfl | (simp only [List.length_drop, List.length_take]; rfl)) ?_; (with_reducible refine (impl_pairCoding_number.calls a0_0 _ _ x1_1 t247 _ ?side1 ?side2 A7.out).mono ?_); (case side1 => repeat (first | exact (Kd.V_reads' HO_1.out).2.2 | (with_reducible refine Kd.C_alloc ?_ _) | (with_reducible refine Kd.C_drewN ?_ _) | (with_reducible refine Kd.C_drew ?_))); (case side2 => exact (Kd.V_reads' HO_1.out).2.1); rintro e w20 ⟨rfl, hb⟩; refine ⟨_, rfl, ?_⟩; have n0_ := Aside0.mk (Kd.V_below (by (with_reducible repeat (first | apply Kd.V_alloc | apply Kd.V_drewN | apply Kd.V_drew)); exact HO_1.out) hb); have n1_ := Aside0.mk (Kd.R_below (by (with_reducible repeat (first | apply Kd.R_alloc | apply Kd.R_drewN | apply Kd.R_drew)); exact HO_5.out) hb); have n2_ := Aside0.mk (blk_below (g := gb238) (o := .cells #[.bool a0_0] 86 (0, 0)) (by (with_reducible repeat (first | refine blk_drewN ?_ _ | refine blk_drew ?_ | refine blk_alloc ?_ _)); exact BK238.out) hb); have n3_ := Aside0.mk (below_step (by repeat (first | (with_reducible first | exact HB.out | apply below_alloc | apply pw_below_drewN | apply below_drew1 | refine below_set ?_ GE238.out) | exact HB.out)) hb); clear HO_1; clear HO_5; clear BK238; clear HB; have HO_1 := n0_; have HO_5 := n1_; have BK238 := n2_; have HB := n3_; clear n0_ n1_ n2_ n3_; (try clear hb); (try clear hb2); (try clear hk); (try clear hi); have q21 : (2 : Int) ≤ ((x1_1.length : Int) : Int) := of_decide_eq_true (by first | (with_reducible assumption) | assumption); obtain ⟨i021, hi021, _, hsz21, _⟩ := info_parts info5; have hroom21 : x1_1.length ≤ co18 := (Kd.V_reads' HO_1.out).2.1; have hC21 : Kd.F (Kd.int .u8) _ _ Ao18 x1_1.length x1_1 := (Kd.V_at (base := w.heap.size) HO_1.out).2.2; have hcut21 := cut_from (P := Try.prog) 22 5 .i64 Try.underlying22 hi021 1 hsz21 Ao18 x1_1.length co18 2 (by omega) q21; have hr21 := Kd.F_cut (m := (2 : Int).toNat) (c := co18) hC21 (by omega) hroom21; obtain ⟨A21, hA21⟩ : ∃ A1, A1 = (if co18 = (2 : Int).toNat then Ao18 else (Ao18 : Option Addr).map (·.add ((2 : Int).toNat * 1))) := ⟨_, rfl⟩; obtain ⟨c21, hc21⟩ : ∃ c1, c1 = co18 - (2 : Int).toNat := ⟨_, rfl⟩; have hy21 : y248.length = x1_1.length - (2 : Int).toNat := (by rw [Ny248.out, List.length_drop] <;> omega); rw [show (x1_1).drop (2 : Int).toNat = y248 from Ny248.out.symm] at hr21; replace hr21 : Kd.F (Kd.int .u8) _ _ A21 y248.length y248 := (by rw [hA21]; exact hr21); rw [← hy21, ← hA21, ← hc21] at hcut21; have HO252 := Aside0.mk (show Kd.V (Kd.int .u8) 5 _ w.heap.size _ (.slice A21 y248.length c21) y248 from Kd.V_mk (by rw [hy21, hc21]; exact Nat.sub_le_sub_right hroom21 _) hr21); have HC252 := Aside0.mk (show y248.length ≤ c21 from by rw [hy21, hc21]; exact Nat.sub_le_sub_right hroom21 _); clear hr21 hC21 hroom21 hi021 hsz21 hc21; have KY21 := Aside0.mk hy21; have KA21 := Aside0.mk hA21; clear hy21 hA21; replace q21 := eq_true q21) | ((with_reducible refine gate_callee (f := 98) rfl ?_); refine goesL_ (some 17) rfl rfl Try.func98 (by kernel_rfl) rfl #[.int .i64 t247] rfl (by (try simp only [List.map_toArray, List.map_cons, List.map_nil]); first | done | rfl | (simp only [List.length_drop, List.length_take]; rfl)) ?_; (with_reducible refine (impl_isHigh.calls t247 true _ A9.out).mono ?_); rintro e w' ⟨rfl, ⟨nd, rfl⟩⟩; refine ⟨_, rfl, ?_⟩; have hcz22_0 : w20.cell? ⟨gb238, 0, none⟩ = some (.bool a0_0) := (blk_cell BK238.out 0).trans rfl; have hfz22_0 := blk_frozen BK238.out 0) | (go_at_call 99; (with_reducible refine (impl_pairCoding_number.calls a0_0 _ _ y248 t254 _ ?side1 ?side2 A12.out).mono ?_); (case side1 => repeat (first | exact (Kd.V_reads' HO252.out).2.2 | (with_reducible refine Kd.C_alloc ?_ _) | (with_reducible refine Kd.C_drewN ?_ _) | (with_reducible refine Kd.C_drew ?_))); (case side2 => exact (Kd.V_reads' HO252.out).2.1); rintro e w23 ⟨rfl, hb⟩; have n0_ := Aside0.mk (Kd.V_below (by (with_reducible repeat (first | apply Kd.V_alloc | apply Kd.V_drewN | apply Kd.V_drew)); exact HO_1.out) hb); have n1_ := Aside0.mk (Kd.R_below (by (with_reducible repeat (first | apply Kd.R_alloc | apply Kd.R_drewN | apply Kd.R_drew)); exact HO_5.out) hb); have n2_ := Aside0.mk (Kd.V_below (by (with_reducible repeat (first | apply Kd.V_alloc | apply Kd.V_drewN | apply Kd.V_drew)); exact HO252.out) hb); have n3_ := Aside0.mk (blk_below (g := gb238) (o := .cells #[.bool a0_0] 86 (0, 0)) (by (with_reducible repeat (first | refine blk_drewN ?_ _ | refine blk_drew ?_ | refine blk_alloc ?_ _)); exact BK238.out) hb); have n4_ := Aside0.mk (below_step (by repeat (first | (with_reducible first | exact HB.out | apply below_alloc | apply pw_below_drewN | apply below_drew1 | refine below_set ?_ GE238.out) | exact HB.out)) hb); clear HO_1; clear HO_5; clear HO252; clear BK238; clear HB; have HO_1 := n0_; have HO_5 := n1_; have HO252 := n2_; have BK238 := n3_; have HB := n4_; clear n0_ n1_ n2_ n3_ n4_; (try clear hb); (try clear hb2); (try clear hk); (try clear hi)) | (go_at_call 100; (with_reducible refine (impl_isLow.calls t254 true _ A13.out).mono ?_); rintro e w' ⟨rfl, ⟨nd, rfl⟩⟩; have hcz24_0 : w23.cell? ⟨gb238, 0, none⟩ = some (.bool a0_0) := (blk_cell BK238.out 0).trans rfl; have hfz24_0 := blk_frozen BK238.out 0) | ((with_reducible refine gate_callee (f := 99) rfl ?_); refine goesL_ (some 35) rfl rfl Try.func99 (by kernel_rfl) rfl #[.agg #[.bool a0_0], .slice A21 y248.length c21] rfl (by (try simp only [List.map_toArray, List.map_cons, List.map_nil]); first | done | rfl | (simp only [List.length_drop, List.length_take]; rfl)) ?_; (with_reducible refine (impl_pairCoding_number.calls a0_0 _ _ y248 t256 _ ?side1 ?side2 A15.out).mono ?_); (case side1 => repeat (first | exact (Kd.V_reads' HO252.out).2.2 | (with_reducible refine Kd.C_alloc ?_ _) | (with_reducible refine Kd.C_drewN ?_ _) | (with_reducible refine Kd.C_drew ?_))); (case side2 => exact (Kd.V_reads' HO252.out).2.1); rintro e w25 ⟨rfl, hb⟩; refine ⟨_, rfl, ?_⟩; have n0_ := Aside0.mk (Kd.V_below (by (with_reducible repeat (first | apply Kd.V_alloc | apply Kd.V_drewN | apply Kd.V_drew)); exact HO_1.out) hb); have n1_ := Aside0.mk (Kd.R_below (by (with_reducible repeat (first | apply Kd.R_alloc | apply Kd.R_drewN | apply Kd.R_drew)); exact HO_5.out) hb); have n2_ := Aside0.mk (Kd.V_below (by (with_reducible repeat (first | apply Kd.V_alloc | apply Kd.V_drewN | apply Kd.V_drew)); exact HO252.out) hb); have n3_ := Aside0.mk (blk_below (g := gb238) (o := .cells #[.bool a0_0] 86 (0, 0)) (by (with_reducible repeat (first | refine blk_drewN ?_ _ | refine blk_drew ?_ | refine blk_alloc ?_ _)); exact BK238.out) hb); have n4_ := Aside0.mk (below_step (by repeat (first | (with_reducible first | exact HB.out | apply below_alloc | apply pw_below_drewN | apply below_drew1 | refine below_set ?_ GE238.out) | exact HB.out)) hb); clear HO_1; clear HO_5; clear HO252; clear BK238; clear HB; have HO_1 := n0_; have HO_5 := n1_; have HO252 := n2_; have BK238 := n3_; have HB := n4_; clear n0_ n1_ n2_ n3_ n4_; (try clear hb); (try clear hb2); (try clear hk); (try clear hi); have q26 : (2 : Int) ≤ ((y248.length : Int) : Int) := of_decide_eq_true (by first | (with_reducible assumption) | assumption); obtain ⟨i026, hi026, _, hsz26, _⟩ := info_parts info5; have hroom26 : y248.length ≤ c21 := (Kd.V_reads' HO252.out).2.1; have hC26 : Kd.F (Kd.int .u8) _ _ A21 y248.length y248 := (Kd.V_at (base := w.heap.size) HO252.out).2.2; have hcut26 := cut_from (P := Try.prog) 22 5 .i64 Try.underlying22 hi026 1 hsz26 A21 y248.length c21 2 (by omega) q26; have hr26 := Kd.F_cut (m := (2 : Int).toNat) (c := c21) hC26 (by omega) hroom26; obtain ⟨A26, hA26⟩ : ∃ A1, A1 = (if c21 = (2 : Int).toNat then A21 else (A21 : Option Addr).map (·.add ((2 : Int).toNat * 1))) := ⟨_, rfl⟩; obtain ⟨c26, hc26⟩ : ∃ c1, c1 = c21 - (2 : Int).toNat := ⟨_, rfl⟩; have hy26 : y257.length = y248.length - (2 : Int).toNat := (by rw [Ny257.out, List.length_drop] <;> omega); rw [show (y248).drop (2 : Int).toNat = y257 from Ny257.out.symm] at hr26; replace hr26 : Kd.F (Kd.int .u8) _ _ A26 y257.length y257 := (by rw [hA26]; exact hr26); rw [← hy26, ← hA26, ← hc26] at hcut26; have HO261 := Aside0.mk (show Kd.V (Kd.int .u8) 5 _ w.heap.size _ (.slice A26 y257.length c26) y257 from Kd.V_mk (by rw [hy26, hc26]; exact Nat.sub_le_sub_right hroom26 _) hr26); have HC261 := Aside0.mk (show y257.length ≤ c26 from by rw [hy26, hc26]; exact Nat.sub_le_sub_right hroom26 _); clear hr26 hC26 hroom26 hi026 hsz26 hc26; have KY26 := Aside0.mk hy26; have KA26 := Aside0.mk hA26; clear hy26 hA26; replace q26 := eq_true q26) | ((with_reducible refine gate_builtin (b := .append) (xs := #[.tmp 40, .tmp 42]) rfl ?_); (try (refine gate_guard (by rfl) ?_; dsimp only)); at_builtin; refine Kd.R_append (Kd.int .i64) (w0 := w) w.heap.size rfl (.tmp 40) (.tmp 42) 24 3 (.int .i64 0) 8 rfl Try.underlying24 info3 rfl (by decide) (by omega) u5 x5_1 (wrap64 ((wrap64 (65536 + (wrap64 (1024 * (wrap64 (t247 - 55296)))))) + (wrap64 (t256 - 56320)))) [.int .i64 (wrap64 ((wrap64 (65536 + (wrap64 (1024 * (wrap64 (t247 - 55296)))))) + (wrap64 (t256 - 56320))))] (fun k_ => (w.heap.size ≤ k_)) (fun _ => False) rfl rfl ?aP (fun _ hk => hk.elim) ?aF ?aO ?aB ?aS ?aL ?_; (case aP => exact rfl); (case aB => exact (by repeat (first | (with_reducible first | exact HB.out | apply below_alloc | apply pw_below_drewN | apply below_drew1 | refine below_set ?_ GE238.out) | exact HB.out))); (case aF => exact (fun k_ hk => (Nat.le_trans (below_size (by repeat (first | (with_reducible first | exact HB.out | apply below_alloc | apply pw_below_drewN | apply below_drew1 | refine below_set ?_ GE238.out) | exact HB.out))) hk))); (case aO => exact (by (with_reducible repeat (first | apply Kd.R_alloc | apply Kd.R_drewN | apply Kd.R_drew)); exact HO_5.out)); (case aS => exact (below_size (by repeat (first | (with_reducible first | exact HB.out | apply below_alloc | apply pw_below_drewN | apply below_drew1 | refine below_set ?_ GE238.out) | exact HB.out)))); (case aL => have := LMc17.out; omega); intro v263 w27 ho hb hg hat; rw [← Ny262.out] at ho; have n0_ := Aside0.mk (Kd.V_afterv (ok := (fun k_ => (P1_ k_ ∨ w.heap.size ≤ k_) ∧ k_ ≠ gb238)) (by (with_reducible repeat (first | apply Kd.V_alloc | apply Kd.V_drewN | apply Kd.V_drew)); exact Kd.V_mono HO_1.out (fun _ hk => ⟨⟨hk.1, hk.2.2⟩, hk.2.1⟩)) hg hat); have n1_ := Aside0.mk (blk_grown (g := gb238) (o := .cells #[.bool a0_0] 86 (0, 0)) (by (with_reducible repeat (first | refine blk_drewN ?_ _ | refine blk_drew ?_ | refine blk_alloc ?_ _)); exact BK238.out) hg (Kd.R_ne HO_5.out BK238.out (by decide))); have n2_ := Aside0.mk (Kd.V_afterv (ok := (fun k_ => (P1_ k_ ∨ w.heap.size ≤ k_) ∧ k_ ≠ gb238)) (by (with_reducible repeat (first | apply Kd.V_alloc | apply Kd.V_drewN | apply Kd.V_drew)); exact Kd.V_mono HO252.out (fun _ hk => ⟨⟨hk.1, hk.2.2⟩, hk.2.1⟩)) hg hat); have n3_ := Aside0.mk (Kd.V_afterv (ok := (fun k_ => (P1_ k_ ∨ w.heap.size ≤ k_) ∧ k_ ≠ gb238)) (by (with_reducible repeat (first | apply Kd.V_alloc | apply Kd.V_drewN | apply Kd.V_drew)); exact Kd.V_mono HO261.out (fun _ hk => ⟨⟨hk.1, hk.2.2⟩, hk.2.1⟩)) hg hat); have n4_ := Aside0.mk (hb); have n5_ := Aside0.mk (ho); clear HO_1; clear BK238; clear HO252; clear HO261; clear HB; clear HO_5; have HO_1 := n0_; have BK238 := n1_; have HO252 := n2_; have HO261 := n3_; have HB := n4_; have HO264 := n5_; clear n0_ n1_ n2_ n3_ n4_ n5_; clear ho hb hg hat))
                    go_roundg k1
                    case measure => have := HK1.out; omega
                    case rel => exact ⟨(y257), (y262), H', ⟨by have := HK1.out; omega⟩, ⟨by (with_reducible repeat (first | apply Kd.V_alloc | apply Kd.V_drewN | apply Kd.V_drew)); exact Kd.V_mono HO261.out (fun _ hk => ⟨hk.1.1, ⟨hk.2, hk.1.2⟩⟩)⟩, ⟨by (with_reducible repeat (first | apply Kd.R_alloc | apply Kd.R_drewN | apply Kd.R_drew)); exact HO264.out⟩, ⟨by (with_reducible repeat (first | refine blk_drewN ?_ _ | refine blk_drew ?_ | refine blk_alloc ?_ _)); exact BK238.out⟩, ⟨by repeat (first | (with_reducible first | exact HB.out | apply below_alloc | apply pw_below_drewN | apply below_drew1 | refine below_set ?_ GE238.out) | exact HB.out)⟩⟩
                  · rw [if_neg c17] at H
                    exact absurd H (by simp)
                · rw [if_neg c16] at H
                  exact absurd H (by simp)
              · replace c14 := Bool.eq_false_iff.mpr c14
                subst c14
                have H1 : (if x5_1.length < 17592186044416 then (impl_pairCoding_read.l0 k1 y248 (x5_1 ++ [t247]) a0_0) else (none)) = some r := by rw [if_neg (show ¬ (false = true) by decide)] at H; exact H
                clear H
                have H := H1
                clear H1
                by_cases c28 : x5_1.length < 17592186044416
                · rw [if_pos c28] at H
                  have LMc28 := Aside0.mk c28
                  clear c28
                  obtain ⟨y265, hy265⟩ : ∃ y_ : List Int, y_ = (x5_1 ++ [t247]) := ⟨_, rfl⟩
                  replace H : (impl_pairCoding_read.l0 k1 y248 y265 a0_0) = some r := by first | (rw [hy265]; with_reducible exact H) | (have H2_ := (Option.bind_some _ _).symm.trans H; rw [hy265]; with_reducible exact H2_) | (have H2_ := (Option.bind_some _ _).symm.trans H; with_reducible exact H2_) | with_reducible exact H | (rw [hy265]; exact H) | exact H
                  have Ny265 := Aside0.mk hy265
                  clear hy265
                  have H' := Aside0.mk H
                  clear H
                  obtain ⟨Ao29, co29, eo29⟩ := Kd.V_slice HO_1.out
                  subst eo29
                  have hcz30_0 : wr.cell? ⟨gb238, 0, none⟩ = some (.bool a0_0) := (blk_cell BK238.out 0).trans rfl
                  have hfz30_0 := blk_frozen BK238.out 0
                  go_wp2_with (first | ((with_reducible refine gate_callee (f := 99) rfl ?_); refine goesL_ (some 13) rfl rfl Try.func99 (by kernel_rfl) rfl #[.agg #[.bool a0_0], .slice Ao29 x1_1.length co29] rfl (by (try simp only [List.map_toArray, List.map_cons, List.map_nil]); first | done | rfl | (simp only [List.length_drop, List.length_take]; rfl)) ?_; (with_reducible refine (impl_pairCoding_number.calls a0_0 _ _ x1_1 t247 _ ?side1 ?side2 A7.out).mono ?_); (case side1 => repeat (first | exact (Kd.V_reads' HO_1.out).2.2 | (with_reducible refine Kd.C_alloc ?_ _) | (with_reducible refine Kd.C_drewN ?_ _) | (with_reducible refine Kd.C_drew ?_))); (case side2 => exact (Kd.V_reads' HO_1.out).2.1); rintro e w31 ⟨rfl, hb⟩; refine ⟨_, rfl, ?_⟩; have n0_ := Aside0.mk (Kd.V_below (by (with_reducible repeat (first | apply Kd.V_alloc | apply Kd.V_drewN | apply Kd.V_drew)); exact HO_1.out) hb); have n1_ := Aside0.mk (Kd.R_below (by (with_reducible repeat (first | apply Kd.R_alloc | apply Kd.R_drewN | apply Kd.R_drew)); exact HO_5.out) hb); have n2_ := Aside0.mk (blk_below (g := gb238) (o := .cells #[.bool a0_0] 86 (0, 0)) (by (with_reducible repeat (first | refine blk_drewN ?_ _ | refine blk_drew ?_ | refine blk_alloc ?_ _)); exact BK238.out) hb); have n3_ := Aside0.mk (below_step (by repeat (first | (with_reducible first | exact HB.out | apply below_alloc | apply pw_below_drewN | apply below_drew1 | refine below_set ?_ GE238.out) | exact HB.out)) hb); clear HO_1; clear HO_5; clear BK238; clear HB; have HO_1 := n0_; have HO_5 := n1_; have BK238 := n2_; have HB := n3_; clear n0_ n1_ n2_ n3_; (try clear hb); (try clear hb2); (try clear hk); (try clear hi); have q32 : (2 : Int) ≤ ((x1_1.length : Int) : Int) := of_decide_eq_true (by first | (with_reducible assumption) | assumption); obtain ⟨i032, hi032, _, hsz32, _⟩ := info_parts info5; have hroom32 : x1_1.length ≤ co29 := (Kd.V_reads' HO_1.out).2.1; have hC32 : Kd.F (Kd.int .u8) _ _ Ao29 x1_1.length x1_1 := (Kd.V_at (base := w.heap.size) HO_1.out).2.2; have hcut32 := cut_from (P := Try.prog) 22 5 .i64 Try.underlying22 hi032 1 hsz32 Ao29 x1_1.length co29 2 (by omega) q32; have hr32 := Kd.F_cut (m := (2 : Int).toNat) (c := co29) hC32 (by omega) hroom32; obtain ⟨A32, hA32⟩ : ∃ A1, A1 = (if co29 = (2 : Int).toNat then Ao29 else (Ao29 : Option Addr).map (·.add ((2 : Int).toNat * 1))) := ⟨_, rfl⟩; obtain ⟨c32, hc32⟩ : ∃ c1, c1 = co29 - (2 : Int).toNat := ⟨_, rfl⟩; have hy32 : y248.length = x1_1.length - (2 : Int).toNat := (by rw [Ny248.out, List.length_drop] <;> omega); rw [show (x1_1).drop (2 : Int).toNat = y248 from Ny248.out.symm] at hr32; replace hr32 : Kd.F (Kd.int .u8) _ _ A32 y248.length y248 := (by rw [hA32]; exact hr32); rw [← hy32, ← hA32, ← hc32] at hcut32; have HO252 := Aside0.mk (show Kd.V (Kd.int .u8) 5 _ w.heap.size _ (.slice A32 y248.length c32) y248 from Kd.V_mk (by rw [hy32, hc32]; exact Nat.sub_le_sub_right hroom32 _) hr32); have HC252 := Aside0.mk (show y248.length ≤ c32 from by rw [hy32, hc32]; exact Nat.sub_le_sub_right hroom32 _); clear hr32 hC32 hroom32 hi032 hsz32 hc32; have KY32 := Aside0.mk hy32; have KA32 := Aside0.mk hA32; clear hy32 hA32; replace q32 := eq_true q32) | ((with_reducible refine gate_callee (f := 98) rfl ?_); refine goesL_ (some 17) rfl rfl Try.func98 (by kernel_rfl) rfl #[.int .i64 t247] rfl (by (try simp only [List.map_toArray, List.map_cons, List.map_nil]); first | done | rfl | (simp only [List.length_drop, List.length_take]; rfl)) ?_; (with_reducible refine (impl_isHigh.calls t247 true _ A9.out).mono ?_); rintro e w' ⟨rfl, ⟨nd, rfl⟩⟩; refine ⟨_, rfl, ?_⟩; have hcz33_0 : w31.cell? ⟨gb238, 0, none⟩ = some (.bool a0_0) := (blk_cell BK238.out 0).trans rfl; have hfz33_0 := blk_frozen BK238.out 0) | (go_at_call 99; (with_reducible refine (impl_pairCoding_number.calls a0_0 _ _ y248 t254 _ ?side1 ?side2 A12.out).mono ?_); (case side1 => repeat (first | exact (Kd.V_reads' HO252.out).2.2 | (with_reducible refine Kd.C_alloc ?_ _) | (with_reducible refine Kd.C_drewN ?_ _) | (with_reducible refine Kd.C_drew ?_))); (case side2 => exact (Kd.V_reads' HO252.out).2.1); rintro e w34 ⟨rfl, hb⟩; have n0_ := Aside0.mk (Kd.V_below (by (with_reducible repeat (first | apply Kd.V_alloc | apply Kd.V_drewN | apply Kd.V_drew)); exact HO_1.out) hb); have n1_ := Aside0.mk (Kd.R_below (by (with_reducible repeat (first | apply Kd.R_alloc | apply Kd.R_drewN | apply Kd.R_drew)); exact HO_5.out) hb); have n2_ := Aside0.mk (Kd.V_below (by (with_reducible repeat (first | apply Kd.V_alloc | apply Kd.V_drewN | apply Kd.V_drew)); exact HO252.out) hb); have n3_ := Aside0.mk (blk_below (g := gb238) (o := .cells #[.bool a0_0] 86 (0, 0)) (by (with_reducible repeat (first | refine blk_drewN ?_ _ | refine blk_drew ?_ | refine blk_alloc ?_ _)); exact BK238.out) hb); have n4_ := Aside0.mk (below_step (by repeat (first | (with_reducible first | exact HB.out | apply below_alloc | apply pw_below_drewN | apply below_drew1 | refine below_set ?_ GE238.out) | exact HB.out)) hb); clear HO_1; clear HO_5; clear HO252; clear BK238; clear HB; have HO_1 := n0_; have HO_5 := n1_; have HO252 := n2_; have BK238 := n3_; have HB := n4_; clear n0_ n1_ n2_ n3_ n4_; (try clear hb); (try clear hb2); (try clear hk); (try clear hi)) | (go_at_call 100; (with_reducible refine (impl_isLow.calls t254 false _ A13.out).mono ?_); rintro e w' ⟨rfl, ⟨nd, rfl⟩⟩) | ((with_reducible refine gate_builtin (b := .append) (xs := #[.tmp 40, .tmp 42]) rfl ?_); (try (refine gate_guard (by rfl) ?_; dsimp only)); at_builtin; refine Kd.R_append (Kd.int .i64) (w0 := w) w.heap.size rfl (.tmp 40) (.tmp 42) 24 3 (.int .i64 0) 8 rfl Try.underlying24 info3 rfl (by decide) (by omega) u5 x5_1 t247 [.int .i64 t247] (fun k_ => (w.heap.size ≤ k_)) (fun _ => False) rfl rfl ?aP (fun _ hk => hk.elim) ?aF ?aO ?aB ?aS ?aL ?_; (case aP => exact rfl); (case aB => exact (by repeat (first | (with_reducible first | exact HB.out | apply below_alloc | apply pw_below_drewN | apply below_drew1 | refine below_set ?_ GE238.out) | exact HB.out))); (case aF => exact (fun k_ hk => (Nat.le_trans (below_size (by repeat (first | (with_reducible first | exact HB.out | apply below_alloc | apply pw_below_drewN | apply below_drew1 | refine below_set ?_ GE238.out) | exact HB.out))) hk))); (case aO => exact (by (with_reducible repeat (first | apply Kd.R_alloc | apply Kd.R_drewN | apply Kd.R_drew)); exact HO_5.out)); (case aS => exact (below_size (by repeat (first | (with_reducible first | exact HB.out | apply below_alloc | apply pw_below_drewN | apply below_drew1 | refine below_set ?_ GE238.out) | exact HB.out)))); (case aL => have := LMc28.out; omega); intro v266 w35 ho hb hg hat; rw [← Ny265.out] at ho; have n0_ := Aside0.mk (Kd.V_afterv (ok := (fun k_ => (P1_ k_ ∨ w.heap.size ≤ k_) ∧ k_ ≠ gb238)) (by (with_reducible repeat (first | apply Kd.V_alloc | apply Kd.V_drewN | apply Kd.V_drew)); exact Kd.V_mono HO_1.out (fun _ hk => ⟨⟨hk.1, hk.2.2⟩, hk.2.1⟩)) hg hat); have n1_ := Aside0.mk (blk_grown (g := gb238) (o := .cells #[.bool a0_0] 86 (0, 0)) (by (with_reducible repeat (first | refine blk_drewN ?_ _ | refine blk_drew ?_ | refine blk_alloc ?_ _)); exact BK238.out) hg (Kd.R_ne HO_5.out BK238.out (by decide))); have n2_ := Aside0.mk (Kd.V_afterv (ok := (fun k_ => (P1_ k_ ∨ w.heap.size ≤ k_) ∧ k_ ≠ gb238)) (by (with_reducible repeat (first | apply Kd.V_alloc | apply Kd.V_drewN | apply Kd.V_drew)); exact Kd.V_mono HO252.out (fun _ hk => ⟨⟨hk.1, hk.2.2⟩, hk.2.1⟩)) hg hat); have n3_ := Aside0.mk (hb); have n4_ := Aside0.mk (ho); clear HO_1; clear BK238; clear HO252; clear HB; clear HO_5; have HO_1 := n0_; have BK238 := n1_; have HO252 := n2_; have HB := n3_; have HO267 := n4_; clear n0_ n1_ n2_ n3_ n4_; clear ho hb hg hat))
                  go_roundg k1
                  case measure => have := HK1.out; omega
                  case rel => exact ⟨(y248), (y265), H', ⟨by have := HK1.out; omega⟩, ⟨by (with_reducible repeat (first | apply Kd.V_alloc | apply Kd.V_drewN | apply Kd.V_drew)); exact Kd.V_mono HO252.out (fun _ hk => ⟨hk.1.1, ⟨hk.2, hk.1.2⟩⟩)⟩, ⟨by (with_reducible repeat (first | apply Kd.R_alloc | apply Kd.R_drewN | apply Kd.R_drew)); exact HO267.out⟩, ⟨by (with_reducible repeat (first | refine blk_drewN ?_ _ | refine blk_drew ?_ | refine blk_alloc ?_ _)); exact BK238.out⟩, ⟨by repeat (first | (with_reducible first | exact HB.out | apply below_alloc | apply pw_below_drewN | apply below_drew1 | refine below_set ?_ GE238.out) | exact HB.out)⟩⟩
                · rw [if_neg c28] at H
                  exact absurd H (by simp)
            · rw [if_neg c11] at H
              have c11b0 : decide (1 < (y248.length : Int)) = false := decide_eq_false c11
              have c11b1 : decide (1 < y248.length) = false := decide_eq_false (by omega)
              clear c11
              by_cases c36 : x5_1.length < 17592186044416
              · rw [if_pos c36] at H
                have LMc36 := Aside0.mk c36
                clear c36
                obtain ⟨y268, hy268⟩ : ∃ y_ : List Int, y_ = (x5_1 ++ [t247]) := ⟨_, rfl⟩
                replace H : (impl_pairCoding_read.l0 k1 y248 y268 a0_0) = some r := by first | (rw [hy268]; with_reducible exact H) | (have H2_ := (Option.bind_some _ _).symm.trans H; rw [hy268]; with_reducible exact H2_) | (have H2_ := (Option.bind_some _ _).symm.trans H; with_reducible exact H2_) | with_reducible exact H | (rw [hy268]; exact H) | exact H
                have Ny268 := Aside0.mk hy268
                clear hy268
                have H' := Aside0.mk H
                clear H
                obtain ⟨Ao37, co37, eo37⟩ := Kd.V_slice HO_1.out
                subst eo37
                have hcz38_0 : wr.cell? ⟨gb238, 0, none⟩ = some (.bool a0_0) := (blk_cell BK238.out 0).trans rfl
                have hfz38_0 := blk_frozen BK238.out 0
                go_wp2_with (first | ((with_reducible refine gate_callee (f := 99) rfl ?_); refine goesL_ (some 13) rfl rfl Try.func99 (by kernel_rfl) rfl #[.agg #[.bool a0_0], .slice Ao37 x1_1.length co37] rfl (by (try simp only [List.map_toArray, List.map_cons, List.map_nil]); first | done | rfl | (simp only [List.length_drop, List.length_take]; rfl)) ?_; (with_reducible refine (impl_pairCoding_number.calls a0_0 _ _ x1_1 t247 _ ?side1 ?side2 A7.out).mono ?_); (case side1 => repeat (first | exact (Kd.V_reads' HO_1.out).2.2 | (with_reducible refine Kd.C_alloc ?_ _) | (with_reducible refine Kd.C_drewN ?_ _) | (with_reducible refine Kd.C_drew ?_))); (case side2 => exact (Kd.V_reads' HO_1.out).2.1); rintro e w39 ⟨rfl, hb⟩; refine ⟨_, rfl, ?_⟩; have n0_ := Aside0.mk (Kd.V_below (by (with_reducible repeat (first | apply Kd.V_alloc | apply Kd.V_drewN | apply Kd.V_drew)); exact HO_1.out) hb); have n1_ := Aside0.mk (Kd.R_below (by (with_reducible repeat (first | apply Kd.R_alloc | apply Kd.R_drewN | apply Kd.R_drew)); exact HO_5.out) hb); have n2_ := Aside0.mk (blk_below (g := gb238) (o := .cells #[.bool a0_0] 86 (0, 0)) (by (with_reducible repeat (first | refine blk_drewN ?_ _ | refine blk_drew ?_ | refine blk_alloc ?_ _)); exact BK238.out) hb); have n3_ := Aside0.mk (below_step (by repeat (first | (with_reducible first | exact HB.out | apply below_alloc | apply pw_below_drewN | apply below_drew1 | refine below_set ?_ GE238.out) | exact HB.out)) hb); clear HO_1; clear HO_5; clear BK238; clear HB; have HO_1 := n0_; have HO_5 := n1_; have BK238 := n2_; have HB := n3_; clear n0_ n1_ n2_ n3_; (try clear hb); (try clear hb2); (try clear hk); (try clear hi); have q40 : (2 : Int) ≤ ((x1_1.length : Int) : Int) := of_decide_eq_true (by first | (with_reducible assumption) | assumption); obtain ⟨i040, hi040, _, hsz40, _⟩ := info_parts info5; have hroom40 : x1_1.length ≤ co37 := (Kd.V_reads' HO_1.out).2.1; have hC40 : Kd.F (Kd.int .u8) _ _ Ao37 x1_1.length x1_1 := (Kd.V_at (base := w.heap.size) HO_1.out).2.2; have hcut40 := cut_from (P := Try.prog) 22 5 .i64 Try.underlying22 hi040 1 hsz40 Ao37 x1_1.length co37 2 (by omega) q40; have hr40 := Kd.F_cut (m := (2 : Int).toNat) (c := co37) hC40 (by omega) hroom40; obtain ⟨A40, hA40⟩ : ∃ A1, A1 = (if co37 = (2 : Int).toNat then Ao37 else (Ao37 : Option Addr).map (·.add ((2 : Int).toNat * 1))) := ⟨_, rfl⟩; obtain ⟨c40, hc40⟩ : ∃ c1, c1 = co37 - (2 : Int).toNat := ⟨_, rfl⟩; have hy40 : y248.length = x1_1.length - (2 : Int).toNat := (by rw [Ny248.out, List.length_drop] <;> omega); rw [show (x1_1).drop (2 : Int).toNat = y248 from Ny248.out.symm] at hr40; replace hr40 : Kd.F (Kd.int .u8) _ _ A40 y248.length y248 := (by rw [hA40]; exact hr40); rw [← hy40, ← hA40, ← hc40] at hcut40; have HO252 := Aside0.mk (show Kd.V (Kd.int .u8) 5 _ w.heap.size _ (.slice A40 y248.length c40) y248 from Kd.V_mk (by rw [hy40, hc40]; exact Nat.sub_le_sub_right hroom40 _) hr40); have HC252 := Aside0.mk (show y248.length ≤ c40 from by rw [hy40, hc40]; exact Nat.sub_le_sub_right hroom40 _); clear hr40 hC40 hroom40 hi040 hsz40 hc40; have KY40 := Aside0.mk hy40; have KA40 := Aside0.mk hA40; clear hy40 hA40; replace q40 := eq_true q40) | ((with_reducible refine gate_callee (f := 98) rfl ?_); refine goesL_ (some 17) rfl rfl Try.func98 (by kernel_rfl) rfl #[.int .i64 t247] rfl (by (try simp only [List.map_toArray, List.map_cons, List.map_nil]); first | done | rfl | (simp only [List.length_drop, List.length_take]; rfl)) ?_; (with_reducible refine (impl_isHigh.calls t247 true _ A9.out).mono ?_); rintro e w' ⟨rfl, ⟨nd, rfl⟩⟩; refine ⟨_, rfl, ?_⟩) | ((with_reducible refine gate_builtin (b := .append) (xs := #[.tmp 40, .tmp 42]) rfl ?_); (try (refine gate_guard (by rfl) ?_; dsimp only)); at_builtin; refine Kd.R_append (Kd.int .i64) (w0 := w) w.heap.size rfl (.tmp 40) (.tmp 42) 24 3 (.int .i64 0) 8 rfl Try.underlying24 info3 rfl (by decide) (by omega) u5 x5_1 t247 [.int .i64 t247] (fun k_ => (w.heap.size ≤ k_)) (fun _ => False) rfl rfl ?aP (fun _ hk => hk.elim) ?aF ?aO ?aB ?aS ?aL ?_; (case aP => exact rfl); (case aB => exact (by repeat (first | (with_reducible first | exact HB.out | apply below_alloc | apply pw_below_drewN | apply below_drew1 | refine below_set ?_ GE238.out) | exact HB.out))); (case aF => exact (fun k_ hk => (Nat.le_trans (below_size (by repeat (first | (with_reducible first | exact HB.out | apply below_alloc | apply pw_below_drewN | apply below_drew1 | refine below_set ?_ GE238.out) | exact HB.out))) hk))); (case aO => exact (by (with_reducible repeat (first | apply Kd.R_alloc | apply Kd.R_drewN | apply Kd.R_drew)); exact HO_5.out)); (case aS => exact (below_size (by repeat (first | (with_reducible first | exact HB.out | apply below_alloc | apply pw_below_drewN | apply below_drew1 | refine below_set ?_ GE238.out) | exact HB.out)))); (case aL => have := LMc36.out; omega); intro v269 w41 ho hb hg hat; rw [← Ny268.out] at ho; have n0_ := Aside0.mk (Kd.V_afterv (ok := (fun k_ => (P1_ k_ ∨ w.heap.size ≤ k_) ∧ k_ ≠ gb238)) (by (with_reducible repeat (first | apply Kd.V_alloc | apply Kd.V_drewN | apply Kd.V_drew)); exact Kd.V_mono HO_1.out (fun _ hk => ⟨⟨hk.1, hk.2.2⟩, hk.2.1⟩)) hg hat); have n1_ := Aside0.mk (blk_grown (g := gb238) (o := .cells #[.bool a0_0] 86 (0, 0)) (by (with_reducible repeat (first | refine blk_drewN ?_ _ | refine blk_drew ?_ | refine blk_alloc ?_ _)); exact BK238.out) hg (Kd.R_ne HO_5.out BK238.out (by decide))); have n2_ := Aside0.mk (Kd.V_afterv (ok := (fun k_ => (P1_ k_ ∨ w.heap.size ≤ k_) ∧ k_ ≠ gb238)) (by (with_reducible repeat (first | apply Kd.V_alloc | apply Kd.V_drewN | apply Kd.V_drew)); exact Kd.V_mono HO252.out (fun _ hk => ⟨⟨hk.1, hk.2.2⟩, hk.2.1⟩)) hg hat); have n3_ := Aside0.mk (hb); have n4_ := Aside0.mk (ho); clear HO_1; clear BK238; clear HO252; clear HB; clear HO_5; have HO_1 := n0_; have BK238 := n1_; have HO252 := n2_; have HB := n3_; have HO270 := n4_; clear n0_ n1_ n2_ n3_ n4_; clear ho hb hg hat))
                go_roundg k1
                case measure => have := HK1.out; omega
                case rel => exact ⟨(y248), (y268), H', ⟨by have := HK1.out; omega⟩, ⟨by (with_reducible repeat (first | apply Kd.V_alloc | apply Kd.V_drewN | apply Kd.V_drew)); exact Kd.V_mono HO252.out (fun _ hk => ⟨hk.1.1, ⟨hk.2, hk.1.2⟩⟩)⟩, ⟨by (with_reducible repeat (first | apply Kd.R_alloc | apply Kd.R_drewN | apply Kd.R_drew)); exact HO270.out⟩, ⟨by (with_reducible repeat (first | refine blk_drewN ?_ _ | refine blk_drew ?_ | refine blk_alloc ?_ _)); exact BK238.out⟩, ⟨by repeat (first | (with_reducible first | exact HB.out | apply below_alloc | apply pw_below_drewN | apply below_drew1 | refine below_set ?_ GE238.out) | exact HB.out)⟩⟩
              · rw [if_neg c36] at H
                exact absurd H (by simp)
          · replace c10 := Bool.eq_false_iff.mpr c10
            subst c10
            have H1 : (if x5_1.length < 17592186044416 then (impl_pairCoding_read.l0 k1 y248 (x5_1 ++ [t247]) a0_0) else (none)) = some r := by rw [if_neg (show ¬ (false = true) by decide)] at H; exact H
            clear H
            have H := H1
            clear H1
            by_cases c42 : x5_1.length < 17592186044416
            · rw [if_pos c42] at H
              have LMc42 := Aside0.mk c42
              clear c42
              obtain ⟨y271, hy271⟩ : ∃ y_ : List Int, y_ = (x5_1 ++ [t247]) := ⟨_, rfl⟩
              replace H : (impl_pairCoding_read.l0 k1 y248 y271 a0_0) = some r := by first | (rw [hy271]; with_reducible exact H) | (have H2_ := (Option.bind_some _ _).symm.trans H; rw [hy271]; with_reducible exact H2_) | (have H2_ := (Option.bind_some _ _).symm.trans H; with_reducible exact H2_) | with_reducible exact H | (rw [hy271]; exact H) | exact H
              have Ny271 := Aside0.mk hy271
              clear hy271
              have H' := Aside0.mk H
              clear H
              obtain ⟨Ao43, co43, eo43⟩ := Kd.V_slice HO_1.out
              subst eo43
              have hcz44_0 : wr.cell? ⟨gb238, 0, none⟩ = some (.bool a0_0) := (blk_cell BK238.out 0).trans rfl
              have hfz44_0 := blk_frozen BK238.out 0
              go_wp2_with (first | ((with_reducible refine gate_callee (f := 99) rfl ?_); refine goesL_ (some 13) rfl rfl Try.func99 (by kernel_rfl) rfl #[.agg #[.bool a0_0], .slice Ao43 x1_1.length co43] rfl (by (try simp only [List.map_toArray, List.map_cons, List.map_nil]); first | done | rfl | (simp only [List.length_drop, List.length_take]; rfl)) ?_; (with_reducible refine (impl_pairCoding_number.calls a0_0 _ _ x1_1 t247 _ ?side1 ?side2 A7.out).mono ?_); (case side1 => repeat (first | exact (Kd.V_reads' HO_1.out).2.2 | (with_reducible refine Kd.C_alloc ?_ _) | (with_reducible refine Kd.C_drewN ?_ _) | (with_reducible refine Kd.C_drew ?_))); (case side2 => exact (Kd.V_reads' HO_1.out).2.1); rintro e w45 ⟨rfl, hb⟩; refine ⟨_, rfl, ?_⟩; have n0_ := Aside0.mk (Kd.V_below (by (with_reducible repeat (first | apply Kd.V_alloc | apply Kd.V_drewN | apply Kd.V_drew)); exact HO_1.out) hb); have n1_ := Aside0.mk (Kd.R_below (by (with_reducible repeat (first | apply Kd.R_alloc | apply Kd.R_drewN | apply Kd.R_drew)); exact HO_5.out) hb); have n2_ := Aside0.mk (blk_below (g := gb238) (o := .cells #[.bool a0_0] 86 (0, 0)) (by (with_reducible repeat (first | refine blk_drewN ?_ _ | refine blk_drew ?_ | refine blk_alloc ?_ _)); exact BK238.out) hb); have n3_ := Aside0.mk (below_step (by repeat (first | (with_reducible first | exact HB.out | apply below_alloc | apply pw_below_drewN | apply below_drew1 | refine below_set ?_ GE238.out) | exact HB.out)) hb); clear HO_1; clear HO_5; clear BK238; clear HB; have HO_1 := n0_; have HO_5 := n1_; have BK238 := n2_; have HB := n3_; clear n0_ n1_ n2_ n3_; (try clear hb); (try clear hb2); (try clear hk); (try clear hi); have q46 : (2 : Int) ≤ ((x1_1.length : Int) : Int) := of_decide_eq_true (by first | (with_reducible assumption) | assumption); obtain ⟨i046, hi046, _, hsz46, _⟩ := info_parts info5; have hroom46 : x1_1.length ≤ co43 := (Kd.V_reads' HO_1.out).2.1; have hC46 : Kd.F (Kd.int .u8) _ _ Ao43 x1_1.length x1_1 := (Kd.V_at (base := w.heap.size) HO_1.out).2.2; have hcut46 := cut_from (P := Try.prog) 22 5 .i64 Try.underlying22 hi046 1 hsz46 Ao43 x1_1.length co43 2 (by omega) q46; have hr46 := Kd.F_cut (m := (2 : Int).toNat) (c := co43) hC46 (by omega) hroom46; obtain ⟨A46, hA46⟩ : ∃ A1, A1 = (if co43 = (2 : Int).toNat then Ao43 else (Ao43 : Option Addr).map (·.add ((2 : Int).toNat * 1))) := ⟨_, rfl⟩; obtain ⟨c46, hc46⟩ : ∃ c1, c1 = co43 - (2 : Int).toNat := ⟨_, rfl⟩; have hy46 : y248.length = x1_1.length - (2 : Int).toNat := (by rw [Ny248.out, List.length_drop] <;> omega); rw [show (x1_1).drop (2 : Int).toNat = y248 from Ny248.out.symm] at hr46; replace hr46 : Kd.F (Kd.int .u8) _ _ A46 y248.length y248 := (by rw [hA46]; exact hr46); rw [← hy46, ← hA46, ← hc46] at hcut46; have HO252 := Aside0.mk (show Kd.V (Kd.int .u8) 5 _ w.heap.size _ (.slice A46 y248.length c46) y248 from Kd.V_mk (by rw [hy46, hc46]; exact Nat.sub_le_sub_right hroom46 _) hr46); have HC252 := Aside0.mk (show y248.length ≤ c46 from by rw [hy46, hc46]; exact Nat.sub_le_sub_right hroom46 _); clear hr46 hC46 hroom46 hi046 hsz46 hc46; have KY46 := Aside0.mk hy46; have KA46 := Aside0.mk hA46; clear hy46 hA46; replace q46 := eq_true q46) | ((with_reducible refine gate_callee (f := 98) rfl ?_); refine goesL_ (some 17) rfl rfl Try.func98 (by kernel_rfl) rfl #[.int .i64 t247] rfl (by (try simp only [List.map_toArray, List.map_cons, List.map_nil]); first | done | rfl | (simp only [List.length_drop, List.length_take]; rfl)) ?_; (with_reducible refine (impl_isHigh.calls t247 false _ A9.out).mono ?_); rintro e w' ⟨rfl, ⟨nd, rfl⟩⟩; refine ⟨_, rfl, ?_⟩) | ((with_reducible refine gate_builtin (b := .append) (xs := #[.tmp 40, .tmp 42]) rfl ?_); (try (refine gate_guard (by rfl) ?_; dsimp only)); at_builtin; refine Kd.R_append (Kd.int .i64) (w0 := w) w.heap.size rfl (.tmp 40) (.tmp 42) 24 3 (.int .i64 0) 8 rfl Try.underlying24 info3 rfl (by decide) (by omega) u5 x5_1 t247 [.int .i64 t247] (fun k_ => (w.heap.size ≤ k_)) (fun _ => False) rfl rfl ?aP (fun _ hk => hk.elim) ?aF ?aO ?aB ?aS ?aL ?_; (case aP => exact rfl); (case aB => exact (by repeat (first | (with_reducible first | exact HB.out | apply below_alloc | apply pw_below_drewN | apply below_drew1 | refine below_set ?_ GE238.out) | exact HB.out))); (case aF => exact (fun k_ hk => (Nat.le_trans (below_size (by repeat (first | (with_reducible first | exact HB.out | apply below_alloc | apply pw_below_drewN | apply below_drew1 | refine below_set ?_ GE238.out) | exact HB.out))) hk))); (case aO => exact (by (with_reducible repeat (first | apply Kd.R_alloc | apply Kd.R_drewN | apply Kd.R_drew)); exact HO_5.out)); (case aS => exact (below_size (by repeat (first | (with_reducible first | exact HB.out | apply below_alloc | apply pw_below_drewN | apply below_drew1 | refine below_set ?_ GE238.out) | exact HB.out)))); (case aL => have := LMc42.out; omega); intro v272 w47 ho hb hg hat; rw [← Ny271.out] at ho; have n0_ := Aside0.mk (Kd.V_afterv (ok := (fun k_ => (P1_ k_ ∨ w.heap.size ≤ k_) ∧ k_ ≠ gb238)) (by (with_reducible repeat (first | apply Kd.V_alloc | apply Kd.V_drewN | apply Kd.V_drew)); exact Kd.V_mono HO_1.out (fun _ hk => ⟨⟨hk.1, hk.2.2⟩, hk.2.1⟩)) hg hat); have n1_ := Aside0.mk (blk_grown (g := gb238) (o := .cells #[.bool a0_0] 86 (0, 0)) (by (with_reducible repeat (first | refine blk_drewN ?_ _ | refine blk_drew ?_ | refine blk_alloc ?_ _)); exact BK238.out) hg (Kd.R_ne HO_5.out BK238.out (by decide))); have n2_ := Aside0.mk (Kd.V_afterv (ok := (fun k_ => (P1_ k_ ∨ w.heap.size ≤ k_) ∧ k_ ≠ gb238)) (by (with_reducible repeat (first | apply Kd.V_alloc | apply Kd.V_drewN | apply Kd.V_drew)); exact Kd.V_mono HO252.out (fun _ hk => ⟨⟨hk.1, hk.2.2⟩, hk.2.1⟩)) hg hat); have n3_ := Aside0.mk (hb); have n4_ := Aside0.mk (ho); clear HO_1; clear BK238; clear HO252; clear HB; clear HO_5; have HO_1 := n0_; have BK238 := n1_; have HO252 := n2_; have HB := n3_; have HO273 := n4_; clear n0_ n1_ n2_ n3_ n4_; clear ho hb hg hat))
              go_roundg k1
              case measure => have := HK1.out; omega
              case rel => exact ⟨(y248), (y271), H', ⟨by have := HK1.out; omega⟩, ⟨by (with_reducible repeat (first | apply Kd.V_alloc | apply Kd.V_drewN | apply Kd.V_drew)); exact Kd.V_mono HO252.out (fun _ hk => ⟨hk.1.1, ⟨hk.2, hk.1.2⟩⟩)⟩, ⟨by (with_reducible repeat (first | apply Kd.R_alloc | apply Kd.R_drewN | apply Kd.R_drew)); exact HO273.out⟩, ⟨by (with_reducible repeat (first | refine blk_drewN ?_ _ | refine blk_drew ?_ | refine blk_alloc ?_ _)); exact BK238.out⟩, ⟨by repeat (first | (with_reducible first | exact HB.out | apply below_alloc | apply pw_below_drewN | apply below_drew1 | refine below_set ?_ GE238.out) | exact HB.out)⟩⟩
            · rw [if_neg c42] at H
              exact absurd H (by simp)
        · rw [if_neg c8] at H
          exact absurd H (by simp)
      · rw [if_neg c6] at H
        have c6b0 : decide (1 < (x1_1.length : Int)) = false := decide_eq_false c6
        have c6b1 : decide (1 < x1_1.length) = false := decide_eq_false (by omega)
        clear c6
        by_cases c48 : (x1_1.length : Int) = 1
        · rw [if_pos c48] at H
          have c48b0 : ((x1_1.length : Int) == 1) = true := beq_iff_eq.mpr c48
          have c48b1 : ((x1_1.length : Int) != 1) = false := bne_eq_false_iff_eq.mpr c48
          clear c48
          by_cases c49 : x5_1.length < 17592186044416
          · rw [if_pos c49] at H
            have LMc49 := Aside0.mk c49
            clear c49
            obtain ⟨y242, hy242⟩ : ∃ y_ : List Int, y_ = (x5_1 ++ [(-1)]) := ⟨_, rfl⟩
            replace H : ((impl_Encode.f y242).bind fun t245 => (some t245)) = some r := by first | (rw [hy242]; with_reducible exact H) | (have H2_ := (Option.bind_some _ _).symm.trans H; rw [hy242]; with_reducible exact H2_) | (have H2_ := (Option.bind_some _ _).symm.trans H; with_reducible exact H2_) | with_reducible exact H | (rw [hy242]; exact H) | exact H
            have Ny242 := Aside0.mk hy242
            clear hy242
            replace H := Option.bind_eq_some_iff.mp H
            obtain ⟨t245, A500, H⟩ := H
            replace H : (some t245) = some r := H
            have A50 := Aside0.mk A500
            clear A500
            obtain rfl := Option.some.inj H
            obtain ⟨Ao51, co51, eo51⟩ := Kd.V_slice HO_1.out
            subst eo51
            go_wp2_with (first | ((with_reducible refine gate_builtin (b := .append) (xs := #[.tmp 47, .tmp 48]) rfl ?_); (try (refine gate_guard (by rfl) ?_; dsimp only)); at_builtin; refine Kd.R_append (Kd.int .i64) (w0 := w) w.heap.size rfl (.tmp 47) (.tmp 48) 24 3 (.int .i64 0) 8 rfl Try.underlying24 info3 rfl (by decide) (by omega) u5 x5_1 (-1) [.int .i64 (-1)] (fun k_ => (w.heap.size ≤ k_)) (fun _ => False) rfl rfl ?aP (fun _ hk => hk.elim) ?aF ?aO ?aB ?aS ?aL ?_; (case aP => exact rfl); (case aB => exact (by repeat (first | (with_reducible first | exact HB.out | apply below_alloc | apply pw_below_drewN | apply below_drew1 | refine below_set ?_ GE238.out) | exact HB.out))); (case aF => exact (fun k_ hk => (Nat.le_trans (below_size (by repeat (first | (with_reducible first | exact HB.out | apply below_alloc | apply pw_below_drewN | apply below_drew1 | refine below_set ?_ GE238.out) | exact HB.out))) hk))); (case aO => exact (by (with_reducible repeat (first | apply Kd.R_alloc | apply Kd.R_drewN | apply Kd.R_drew)); exact HO_5.out)); (case aS => exact (below_size (by repeat (first | (with_reducible first | exact HB.out | apply below_alloc | apply pw_below_drewN | apply below_drew1 | refine below_set ?_ GE238.out) | exact HB.out)))); (case aL => have := LMc49.out; omega); intro v243 w52 ho hb hg hat; rw [← Ny242.out] at ho; have n0_ := Aside0.mk (Kd.V_afterv (ok := (fun k_ => (P1_ k_ ∨ w.heap.size ≤ k_) ∧ k_ ≠ gb238)) (by (with_reducible repeat (first | apply Kd.V_alloc | apply Kd.V_drewN | apply Kd.V_drew)); exact Kd.V_mono HO_1.out (fun _ hk => ⟨⟨hk.1, hk.2.2⟩, hk.2.1⟩)) hg hat); have n1_ := Aside0.mk (blk_grown (g := gb238) (o := .cells #[.bool a0_0] 86 (0, 0)) (by (with_reducible repeat (first | refine blk_drewN ?_ _ | refine blk_drew ?_ | refine blk_alloc ?_ _)); exact BK238.out) hg (Kd.R_ne HO_5.out BK238.out (by decide))); have n2_ := Aside0.mk (hb); have n3_ := Aside0.mk (ho); clear HO_1; clear BK238; clear HB; clear HO_5; have HO_1 := n0_; have BK238 := n1_; have HB := n2_; have HO244 := n3_; clear n0_ n1_ n2_ n3_; clear ho hb hg hat; obtain ⟨Ao53, co53, eo53⟩ := Kd.R_slice HO244.out; subst eo53) | ((with_reducible refine gate_callee (f := 10) rfl ?_); refine goesL_ (some 51) rfl rfl Try.func10 (by kernel_rfl) rfl #[.slice Ao53 y242.length co53] rfl (by (try simp only [List.map_toArray, List.map_cons, List.map_nil]); first | done | rfl | (simp only [List.length_drop, List.length_take]; rfl)) ?_; (with_reducible refine (impl_Encode.calls _ _ y242 t245 _ ?side1 ?side2 A50.out).mono ?_); (case side1 => repeat (first | exact (Kd.R_reads' HO244.out).2.2 | (with_reducible refine Kd.C_alloc ?_ _) | (with_reducible refine Kd.C_drewN ?_ _) | (with_reducible refine Kd.C_drew ?_))); (case side2 => exact (Kd.R_reads' HO244.out).2.1); rintro e w54 ⟨rfl, hb⟩; refine ⟨_, rfl, ?_⟩; have n0_ := Aside0.mk (Kd.V_below (by (with_reducible repeat (first | apply Kd.V_alloc | apply Kd.V_drewN | apply Kd.V_drew)); exact HO_1.out) hb); have n1_ := Aside0.mk (Kd.R_below (by (with_reducible repeat (first | apply Kd.R_alloc | apply Kd.R_drewN | apply Kd.R_drew)); exact HO244.out) hb); have n2_ := Aside0.mk (blk_below (g := gb238) (o := .cells #[.bool a0_0] 86 (0, 0)) (by (with_reducible repeat (first | refine blk_drewN ?_ _ | refine blk_drew ?_ | refine blk_alloc ?_ _)); exact BK238.out) hb); have n3_ := Aside0.mk (below_step (by repeat (first | (with_reducible first | exact HB.out | apply below_alloc | apply pw_below_drewN | apply below_drew1 | refine below_set ?_ GE238.out) | exact HB.out)) hb); clear HO_1; clear HO244; clear BK238; clear HB; have HO_1 := n0_; have HO244 := n1_; have BK238 := n2_; have HB := n3_; clear n0_ n1_ n2_ n3_; (try clear hb); (try clear hb2); (try clear hk); (try clear hi)))
            go_ret
            exact ⟨by first | rfl | (simp [errW_none, errW_some] <;> rfl) | (simp [*, errW_none, errW_some] <;> rfl), by repeat (first | (with_reducible first | exact HB.out | apply below_alloc | apply pw_below_drewN | apply below_drew1 | refine below_set ?_ GE238.out) | exact HB.out)⟩
          · rw [if_neg c49] at H
            exact absurd H (by simp)
        · rw [if_neg c48] at H
          have c48b0 : ((x1_1.length : Int) == 1) = false := beq_eq_false_iff_ne.mpr c48
          have c48b1 : ((x1_1.length : Int) != 1) = true := bne_iff_ne.mpr c48
          replace H := Option.bind_eq_some_iff.mp H
          obtain ⟨t246, A550, H⟩ := H
          replace H : (some t246) = some r := H
          have A55 := Aside0.mk A550
          clear A550
          obtain rfl := Option.some.inj H
          obtain ⟨Ao56, co56, eo56⟩ := Kd.V_slice HO_1.out
          subst eo56
          obtain ⟨Ao57, co57, eo57⟩ := Kd.R_slice HO_5.out
          subst eo57
          go_wp2_with (first | ((with_reducible refine gate_callee (f := 10) rfl ?_); refine goesL_ (some 51) rfl rfl Try.func10 (by kernel_rfl) rfl #[.slice Ao57 x5_1.length co57] rfl (by (try simp only [List.map_toArray, List.map_cons, List.map_nil]); first | done | rfl | (simp only [List.length_drop, List.length_take]; rfl)) ?_; (with_reducible refine (impl_Encode.calls _ _ x5_1 t246 _ ?side1 ?side2 A55.out).mono ?_); (case side1 => repeat (first | exact (Kd.R_reads' HO_5.out).2.2 | (with_reducible refine Kd.C_alloc ?_ _) | (with_reducible refine Kd.C_drewN ?_ _) | (with_reducible refine Kd.C_drew ?_))); (case side2 => exact (Kd.R_reads' HO_5.out).2.1); rintro e w58 ⟨rfl, hb⟩; refine ⟨_, rfl, ?_⟩; have n0_ := Aside0.mk (Kd.V_below (by (with_reducible repeat (first | apply Kd.V_alloc | apply Kd.V_drewN | apply Kd.V_drew)); exact HO_1.out) hb); have n1_ := Aside0.mk (Kd.R_below (by (with_reducible repeat (first | apply Kd.R_alloc | apply Kd.R_drewN | apply Kd.R_drew)); exact HO_5.out) hb); have n2_ := Aside0.mk (blk_below (g := gb238) (o := .cells #[.bool a0_0] 86 (0, 0)) (by (with_reducible repeat (first | refine blk_drewN ?_ _ | refine blk_drew ?_ | refine blk_alloc ?_ _)); exact BK238.out) hb); have n3_ := Aside0.mk (below_step (by repeat (first | (with_reducible first | exact HB.out | apply below_alloc | apply pw_below_drewN | apply below_drew1 | refine below_set ?_ GE238.out) | exact HB.out)) hb); clear HO_1; clear HO_5; clear BK238; clear HB; have HO_1 := n0_; have HO_5 := n1_; have BK238 := n2_; have HB := n3_; clear n0_ n1_ n2_ n3_; (try clear hb); (try clear hb2); (try clear hk); (try clear hi)))
          go_ret
          exact ⟨by first | rfl | (simp [errW_none, errW_some] <;> rfl) | (simp [*, errW_none, errW_some] <;> rfl), by repeat (first | (with_reducible first | exact HB.out | apply below_alloc | apply pw_below_drewN | apply below_drew1 | refine below_set ?_ GE238.out) | exact HB.out)⟩

/-! ### impl_Decode: function 14, by hand -/
/-! ### the four codings, as interface values -/
def codV : Nat → Value
  | 0 => .iface 54 (.agg #[])
  | 1 => .iface 86 (.agg #[.bool false])
  | 2 => .iface 86 (.agg #[.bool true])
  | _ => .iface 87 (.agg #[])
def markB : Nat → ByteArray
  | 0 => ⟨#[239, 187, 191]⟩
  | 1 => ⟨#[255, 254]⟩
  | 2 => ⟨#[254, 255]⟩
  | _ => ⟨#[]⟩
set_option maxHeartbeats 4000000 in
set_option maxRecDepth 100000 in
theorem cod_calls0 (w : World) : Calls Try.prog 40 #[.int .i64 0] w fun e w' => e = .returned (codV 0) ∧ Below w.heap.size w w' := by
  have HB := Aside0.mk (Below.refl w.heap.size w)
  go_enter Try.func40, Try.ntmps40
  go_wp2
  go_ret
  exact ⟨rfl, HB.out⟩
set_option maxHeartbeats 4000000 in
set_option maxRecDepth 100000 in
theorem cod_calls1 (w : World) : Calls Try.prog 40 #[.int .i64 1] w fun e w' => e = .returned (codV 1) ∧ Below w.heap.size w w' := by
  have HB := Aside0.mk (Below.refl w.heap.size w)
  go_enter Try.func40, Try.ntmps40
  go_wp2
  go_ret
  exact ⟨rfl, HB.out⟩
set_option maxHeartbeats 4000000 in
set_option maxRecDepth 100000 in
theorem cod_calls2 (w : World) : Calls Try.prog 40 #[.int .i64 2] w fun e w' => e = .returned (codV 2) ∧ Below w.heap.size w w' := by
  have HB := Aside0.mk (Below.refl w.heap.size w)
  go_enter Try.func40, Try.ntmps40
  go_wp2
  go_ret
  exact ⟨rfl, HB.out⟩
set_option maxHeartbeats 4000000 in
set_option maxRecDepth 100000 in
theorem cod_calls3 (w : World) : Calls Try.prog 40 #[.int .i64 3] w fun e w' => e = .returned (codV 3) ∧ Below w.heap.size w w' := by
  have HB := Aside0.mk (Below.refl w.heap.size w)
  go_enter Try.func40, Try.ntmps40
  go_wp2
  go_ret
  exact ⟨rfl, HB.out⟩
set_option maxHeartbeats 4000000 in
set_option maxRecDepth 100000 in
theorem cod_callsN (a : Int) (w : World) (h0 : a ≠ 0) (h1 : a ≠ 1) (h2 : a ≠ 2) (h3 : a ≠ 3) : Calls Try.prog 40 #[.int .i64 a] w fun e w' => e = .returned .nilIface ∧ Below w.heap.size w w' := by
  have HB := Aside0.mk (Below.refl w.heap.size w)
  have b0 : (a == 0) = false := beq_eq_false_iff_ne.mpr h0
  have b1 : (a == 1) = false := beq_eq_false_iff_ne.mpr h1
  have b2 : (a == 2) = false := beq_eq_false_iff_ne.mpr h2
  have b3 : (a == 3) = false := beq_eq_false_iff_ne.mpr h3
  clear h0 h1 h2 h3
  go_enter Try.func40, Try.ntmps40
  go_wp2
  go_ret
  exact ⟨rfl, HB.out⟩
set_option maxHeartbeats 4000000 in
set_option maxRecDepth 100000 in
theorem mark_calls0 (w : World) : Calls Try.prog 93 #[.agg #[]] w fun e w' => e = .returned (.string (markB 0)) ∧ Below w.heap.size w w' := by
  have hu := Try.underlying54
  have HB := Aside0.mk (Below.refl w.heap.size w)
  go_enter Try.func93, Try.ntmps93
  go_wp2
  go_ret
  exact ⟨rfl, below_alloc HB.out _⟩
set_option maxHeartbeats 4000000 in
set_option maxRecDepth 100000 in
theorem mark_calls3 (w : World) : Calls Try.prog 102 #[.agg #[]] w fun e w' => e = .returned (.string (markB 3)) ∧ Below w.heap.size w w' := by
  have hu := Try.underlying87
  have HB := Aside0.mk (Below.refl w.heap.size w)
  go_enter Try.func102, Try.ntmps102
  go_wp2
  go_ret
  exact ⟨rfl, below_alloc HB.out _⟩
theorem mark_calls1 (w : World) : Calls Try.prog 96 #[.agg #[.bool false]] w fun e w' => e = .returned (.string (markB 1)) ∧ Below w.heap.size w w' := impl_pairCoding_mark.calls false (markB 1) w rfl
theorem mark_calls2 (w : World) : Calls Try.prog 96 #[.agg #[.bool true]] w fun e w' => e = .returned (.string (markB 2)) ∧ Below w.heap.size w w' := impl_pairCoding_mark.calls true (markB 2) w rfl
/-! ### the mark ahead of bytes -/
theorem pre_le {l : List Int} {m : ByteArray} (h : strings_HasPrefix.f (strOfNums l) m = some true) : m.size ≤ l.length := by
  have hs := strOfNums_size l
  unfold strings_HasPrefix.f stringslite_HasPrefix.f at h
  by_cases c : ((strOfNums l).size : Int) ≥ (m.size : Int)
  · omega
  · rw [if_neg c] at h; cases h
set_option maxHeartbeats 4000000 in
set_option maxRecDepth 100000 in
theorem bare_calls0 (A : Option Addr) (c : Nat) (l : List Int) (p : Bool) (w : World) (hr : Kd.C (Kd.int .u8) w A l.length l) (hc : l.length ≤ c) (hp : strings_HasPrefix.f (strOfNums l) (markB 0) = some p) (hle : p = true → (markB 0).size ≤ l.length) :
    Calls Try.prog 41 #[codV 0, .slice A l.length c] w fun e w' => Below w.heap.size w w' ∧ ∃ A1 c1, e = .returned (.slice A1 (if p = true then l.drop (markB 0).size else l).length c1) ∧ Kd.C (Kd.int .u8) w A1 (if p = true then l.drop (markB 0).size else l).length (if p = true then l.drop (markB 0).size else l) ∧ (if p = true then l.drop (markB 0).size else l).length ≤ c1 := by
  have HB := Aside0.mk (Below.refl w.heap.size w)
  have HP := Aside0.mk hp
  have HR := Aside0.mk hr
  have HC := Aside0.mk hc
  clear hp hr hc
  show Calls Try.prog 41 #[.iface 54 (.agg #[]), .slice A l.length c] w _
  have HLE := Aside0.mk hle
  clear hle
  obtain ⟨i0, hi0, _, hz1, _⟩ := info_parts infoB
  cases p with
  | false =>
    clear hi0 hz1
    go_enter Try.func41, Try.ntmps41
    go_wp2_with (first | (go_at_call 93; refine (mark_calls0 w).mono ?_; rintro e w1 ⟨rfl, hb⟩; have HB1 := Aside0.mk hb; clear hb HB; have hcv := Kd.C_string (P := Try.prog) (n := l.length) (c := c) (dst := 9) Try.underlying22 Try.underlying5 Try.underlying9 (Kd.C_below HR.out HB1.out)) | (go_at_call 61; refine (strings_HasPrefix.calls (strOfNums l) (markB 0) false w1 HP.out).mono ?_; rintro e w' ⟨rfl, ⟨nd, rfl⟩⟩; have HB2 := Aside0.mk (pw_below_drewN HB1.out nd)))
    go_ret
    exact ⟨HB2.out, A, c, rfl, HR.out, HC.out⟩
  | true =>
    have hle := HLE.out rfl
    have hcut := cut_from (P := Try.prog) 22 5 .i64 Try.underlying22 hi0 1 hz1 A l.length c ((markB 0).size : Int) (by omega) (by omega)
    rw [Int.toNat_natCast] at hcut
    have HR2 := Kd.C_drop (k := Kd.int .u8) (m := (markB 0).size) (c := c) HR.out hle HC.out
    have hsz1 : (Kd.int .u8).sz = 1 := rfl
    rw [hsz1] at HR2
    obtain ⟨A', hA'⟩ : ∃ A', A' = (if c = (markB 0).size then A else A.map (·.add ((markB 0).size * 1))) := ⟨_, rfl⟩
    rw [← hA'] at hcut HR2
    have hld : (l.drop (markB 0).size).length = l.length - (markB 0).size := List.length_drop
    rw [← hld] at hcut
    replace HR2 := Aside0.mk HR2
    have HLD := Aside0.mk hld
    clear hA' hld hi0 hz1 hsz1 hle
    go_enter Try.func41, Try.ntmps41
    go_wp2_with (first | (go_at_call 93; refine (mark_calls0 w).mono ?_; rintro e w1 ⟨rfl, hb⟩; have HB1 := Aside0.mk hb; clear hb HB; have hcv := Kd.C_string (P := Try.prog) (n := l.length) (c := c) (dst := 9) Try.underlying22 Try.underlying5 Try.underlying9 (Kd.C_below HR.out HB1.out)) | (go_at_call 61; refine (strings_HasPrefix.calls (strOfNums l) (markB 0) true w1 HP.out).mono ?_; rintro e w' ⟨rfl, ⟨nd, rfl⟩⟩; have HB2 := Aside0.mk (pw_below_drewN HB1.out nd)))
    go_ret
    exact ⟨HB2.out, A', c - (markB 0).size, rfl, by have h := HR2.out; rwa [HLD.out] at h, by have h := HC.out; have h2 := HLE.out (by first | rfl | trivial); omega⟩
set_option maxHeartbeats 4000000 in
set_option maxRecDepth 100000 in
theorem bare_calls1 (A : Option Addr) (c : Nat) (l : List Int) (p : Bool) (w : World) (hr : Kd.C (Kd.int .u8) w A l.length l) (hc : l.length ≤ c) (hp : strings_HasPrefix.f (strOfNums l) (markB 1) = some p) (hle : p = true → (markB 1).size ≤ l.length) :
    Calls Try.prog 41 #[codV 1, .slice A l.length c] w fun e w' => Below w.heap.size w w' ∧ ∃ A1 c1, e = .returned (.slice A1 (if p = true then l.drop (markB 1).size else l).length c1) ∧ Kd.C (Kd.int .u8) w A1 (if p = true then l.drop (markB 1).size else l).length (if p = true then l.drop (markB 1).size else l) ∧ (if p = true then l.drop (markB 1).size else l).length ≤ c1 := by
  have HB := Aside0.mk (Below.refl w.heap.size w)
  have HP := Aside0.mk hp
  have HR := Aside0.mk hr
  have HC := Aside0.mk hc
  clear hp hr hc
  show Calls Try.prog 41 #[.iface 86 (.agg #[.bool false]), .slice A l.length c] w _
  have HLE := Aside0.mk hle
  clear hle
  obtain ⟨i0, hi0, _, hz1, _⟩ := info_parts infoB
  cases p with
  | false =>
    clear hi0 hz1
    go_enter Try.func41, Try.ntmps41
    go_wp2_with (first | (go_at_call 96; refine (mark_calls1 w).mono ?_; rintro e w1 ⟨rfl, hb⟩; have HB1 := Aside0.mk hb; clear hb HB; have hcv := Kd.C_string (P := Try.prog) (n := l.length) (c := c) (dst := 9) Try.underlying22 Try.underlying5 Try.underlying9 (Kd.C_below HR.out HB1.out)) | (go_at_call 61; refine (strings_HasPrefix.calls (strOfNums l) (markB 1) false w1 HP.out).mono ?_; rintro e w' ⟨rfl, ⟨nd, rfl⟩⟩; have HB2 := Aside0.mk (pw_below_drewN HB1.out nd)))
    go_ret
    exact ⟨HB2.out, A, c, rfl, HR.out, HC.out⟩
  | true =>
    have hle := HLE.out rfl
    have hcut := cut_from (P := Try.prog) 22 5 .i64 Try.underlying22 hi0 1 hz1 A l.length c ((markB 1).size : Int) (by omega) (by omega)
    rw [Int.toNat_natCast] at hcut
    have HR2 := Kd.C_drop (k := Kd.int .u8) (m := (markB 1).size) (c := c) HR.out hle HC.out
    have hsz1 : (Kd.int .u8).sz = 1 := rfl
    rw [hsz1] at HR2
    obtain ⟨A', hA'⟩ : ∃ A', A' = (if c = (markB 1).size then A else A.map (·.add ((markB 1).size * 1))) := ⟨_, rfl⟩
    rw [← hA'] at hcut HR2
    have hld : (l.drop (markB 1).size).length = l.length - (markB 1).size := List.length_drop
    rw [← hld] at hcut
    replace HR2 := Aside0.mk HR2
    have HLD := Aside0.mk hld
    clear hA' hld hi0 hz1 hsz1 hle
    go_enter Try.func41, Try.ntmps41
    go_wp2_with (first | (go_at_call 96; refine (mark_calls1 w).mono ?_; rintro e w1 ⟨rfl, hb⟩; have HB1 := Aside0.mk hb; clear hb HB; have hcv := Kd.C_string (P := Try.prog) (n := l.length) (c := c) (dst := 9) Try.underlying22 Try.underlying5 Try.underlying9 (Kd.C_below HR.out HB1.out)) | (go_at_call 61; refine (strings_HasPrefix.calls (strOfNums l) (markB 1) true w1 HP.out).mono ?_; rintro e w' ⟨rfl, ⟨nd, rfl⟩⟩; have HB2 := Aside0.mk (pw_below_drewN HB1.out nd)))
    go_ret
    exact ⟨HB2.out, A', c - (markB 1).size, rfl, by have h := HR2.out; rwa [HLD.out] at h, by have h := HC.out; have h2 := HLE.out (by first | rfl | trivial); omega⟩
set_option maxHeartbeats 4000000 in
set_option maxRecDepth 100000 in
theorem bare_calls2 (A : Option Addr) (c : Nat) (l : List Int) (p : Bool) (w : World) (hr : Kd.C (Kd.int .u8) w A l.length l) (hc : l.length ≤ c) (hp : strings_HasPrefix.f (strOfNums l) (markB 2) = some p) (hle : p = true → (markB 2).size ≤ l.length) :
    Calls Try.prog 41 #[codV 2, .slice A l.length c] w fun e w' => Below w.heap.size w w' ∧ ∃ A1 c1, e = .returned (.slice A1 (if p = true then l.drop (markB 2).size else l).length c1) ∧ Kd.C (Kd.int .u8) w A1 (if p = true then l.drop (markB 2).size else l).length (if p = true then l.drop (markB 2).size else l) ∧ (if p = true then l.drop (markB 2).size else l).length ≤ c1 := by
  have HB := Aside0.mk (Below.refl w.heap.size w)
  have HP := Aside0.mk hp
  have HR := Aside0.mk hr
  have HC := Aside0.mk hc
  clear hp hr hc
  show Calls Try.prog 41 #[.iface 86 (.agg #[.bool true]), .slice A l.length c] w _
  have HLE := Aside0.mk hle
  clear hle
  obtain ⟨i0, hi0, _, hz1, _⟩ := info_parts infoB
  cases p with
  | false =>
    clear hi0 hz1
    go_enter Try.func41, Try.ntmps41
    go_wp2_with (first | (go_at_call 96; refine (mark_calls2 w).mono ?_; rintro e w1 ⟨rfl, hb⟩; have HB1 := Aside0.mk hb; clear hb HB; have hcv := Kd.C_string (P := Try.prog) (n := l.length) (c := c) (dst := 9) Try.underlying22 Try.underlying5 Try.underlying9 (Kd.C_below HR.out HB1.out)) | (go_at_call 61; refine (strings_HasPrefix.calls (strOfNums l) (markB 2) false w1 HP.out).mono ?_; rintro e w' ⟨rfl, ⟨nd, rfl⟩⟩; have HB2 := Aside0.mk (pw_below_drewN HB1.out nd)))
    go_ret
    exact ⟨HB2.out, A, c, rfl, HR.out, HC.out⟩
  | true =>
    have hle := HLE.out rfl
    have hcut := cut_from (P := Try.prog) 22 5 .i64 Try.underlying22 hi0 1 hz1 A l.length c ((markB 2).size : Int) (by omega) (by omega)
    rw [Int.toNat_natCast] at hcut
    have HR2 := Kd.C_drop (k := Kd.int .u8) (m := (markB 2).size) (c := c) HR.out hle HC.out
    have hsz1 : (Kd.int .u8).sz = 1 := rfl
    rw [hsz1] at HR2
    obtain ⟨A', hA'⟩ : ∃ A', A' = (if c = (markB 2).size then A else A.map (·.add ((markB 2).size * 1))) := ⟨_, rfl⟩
    rw [← hA'] at hcut HR2
    have hld : (l.drop (markB 2).size).length = l.length - (markB 2).size := List.length_drop
    rw [← hld] at hcut
    replace HR2 := Aside0.mk HR2
    have HLD := Aside0.mk hld
    clear hA' hld hi0 hz1 hsz1 hle
    go_enter Try.func41, Try.ntmps41
    go_wp2_with (first | (go_at_call 96; refine (mark_calls2 w).mono ?_; rintro e w1 ⟨rfl, hb⟩; have HB1 := Aside0.mk hb; clear hb HB; have hcv := Kd.C_string (P := Try.prog) (n := l.length) (c := c) (dst := 9) Try.underlying22 Try.underlying5 Try.underlying9 (Kd.C_below HR.out HB1.out)) | (go_at_call 61; refine (strings_HasPrefix.calls (strOfNums l) (markB 2) true w1 HP.out).mono ?_; rintro e w' ⟨rfl, ⟨nd, rfl⟩⟩; have HB2 := Aside0.mk (pw_below_drewN HB1.out nd)))
    go_ret
    exact ⟨HB2.out, A', c - (markB 2).size, rfl, by have h := HR2.out; rwa [HLD.out] at h, by have h := HC.out; have h2 := HLE.out (by first | rfl | trivial); omega⟩
set_option maxHeartbeats 4000000 in
set_option maxRecDepth 100000 in
theorem bare_calls3 (A : Option Addr) (c : Nat) (l : List Int) (p : Bool) (w : World) (hr : Kd.C (Kd.int .u8) w A l.length l) (hc : l.length ≤ c) (hp : strings_HasPrefix.f (strOfNums l) (markB 3) = some p) (hle : p = true → (markB 3).size ≤ l.length) :
    Calls Try.prog 41 #[codV 3, .slice A l.length c] w fun e w' => Below w.heap.size w w' ∧ ∃ A1 c1, e = .returned (.slice A1 (if p = true then l.drop (markB 3).size else l).length c1) ∧ Kd.C (Kd.int .u8) w A1 (if p = true then l.drop (markB 3).size else l).length (if p = true then l.drop (markB 3).size else l) ∧ (if p = true then l.drop (markB 3).size else l).length ≤ c1 := by
  have HB := Aside0.mk (Below.refl w.heap.size w)
  have HP := Aside0.mk hp
  have HR := Aside0.mk hr
  have HC := Aside0.mk hc
  clear hp hr hc
  show Calls Try.prog 41 #[.iface 87 (.agg #[]), .slice A l.length c] w _
  have HLE := Aside0.mk hle
  clear hle
  obtain ⟨i0, hi0, _, hz1, _⟩ := info_parts infoB
  cases p with
  | false =>
    clear hi0 hz1
    go_enter Try.func41, Try.ntmps41
    go_wp2_with (first | (go_at_call 102; refine (mark_calls3 w).mono ?_; rintro e w1 ⟨rfl, hb⟩; have HB1 := Aside0.mk hb; clear hb HB; have hcv := Kd.C_string (P := Try.prog) (n := l.length) (c := c) (dst := 9) Try.underlying22 Try.underlying5 Try.underlying9 (Kd.C_below HR.out HB1.out)) | (go_at_call 61; refine (strings_HasPrefix.calls (strOfNums l) (markB 3) false w1 HP.out).mono ?_; rintro e w' ⟨rfl, ⟨nd, rfl⟩⟩; have HB2 := Aside0.mk (pw_below_drewN HB1.out nd)))
    go_ret
    exact ⟨HB2.out, A, c, rfl, HR.out, HC.out⟩
  | true =>
    have hle := HLE.out rfl
    have hcut := cut_from (P := Try.prog) 22 5 .i64 Try.underlying22 hi0 1 hz1 A l.length c ((markB 3).size : Int) (by omega) (by omega)
    rw [Int.toNat_natCast] at hcut
    have HR2 := Kd.C_drop (k := Kd.int .u8) (m := (markB 3).size) (c := c) HR.out hle HC.out
    have hsz1 : (Kd.int .u8).sz = 1 := rfl
    rw [hsz1] at HR2
    obtain ⟨A', hA'⟩ : ∃ A', A' = (if c = (markB 3).size then A else A.map (·.add ((markB 3).size * 1))) := ⟨_, rfl⟩
    rw [← hA'] at hcut HR2
    have hld : (l.drop (markB 3).size).length = l.length - (markB 3).size := List.length_drop
    rw [← hld] at hcut
    replace HR2 := Aside0.mk HR2
    have HLD := Aside0.mk hld
    clear hA' hld hi0 hz1 hsz1 hle
    go_enter Try.func41, Try.ntmps41
    go_wp2_with (first | (go_at_call 102; refine (mark_calls3 w).mono ?_; rintro e w1 ⟨rfl, hb⟩; have HB1 := Aside0.mk hb; clear hb HB; have hcv := Kd.C_string (P := Try.prog) (n := l.length) (c := c) (dst := 9) Try.underlying22 Try.underlying5 Try.underlying9 (Kd.C_below HR.out HB1.out)) | (go_at_call 61; refine (strings_HasPrefix.calls (strOfNums l) (markB 3) true w1 HP.out).mono ?_; rintro e w' ⟨rfl, ⟨nd, rfl⟩⟩; have HB2 := Aside0.mk (pw_below_drewN HB1.out nd)))
    go_ret
    exact ⟨HB2.out, A', c - (markB 3).size, rfl, by have h := HR2.out; rwa [HLD.out] at h, by have h := HC.out; have h2 := HLE.out (by first | rfl | trivial); omega⟩
/-! ### bytes read one by one -/
set_option maxHeartbeats 4000000 in
set_option maxRecDepth 100000 in
theorem latin_calls (A : Option Addr) (c : Nat) (l : List Int) (w : World) (hr : Kd.C (Kd.int .u8) w A l.length l) (hc : l.length ≤ c) (hl : l.length ≤ 1099511627776) (hrg : ∀ x ∈ l, 0 ≤ x ∧ x ≤ 255) :
    Calls Try.prog 103 #[.agg #[], .slice A l.length c] w fun e w' => e = .returned (.string (strOfNums (encU l))) ∧ Below w.heap.size w w' := by
  have hu87 := Try.underlying87
  have hu22 := Try.underlying22
  have HR := Aside0.mk hr
  have HC := Aside0.mk hc
  have HL := Aside0.mk hl
  have HRG := Aside0.mk hrg
  clear hr hc hl hrg
  have HB := Aside0.mk (Below.refl w.heap.size w)
  go_enter Try.func103, Try.ntmps103
  go_wp2_with (first | ((with_reducible refine gate_dst (N := 8) rfl ?_); refine Kd.R_lit (Kd.int .i64) _ 3 ?hg (N := 8) ?hd (xs := ([] : List Int)) (inner := []) (ok := fun _ => True) (okp := fun _ => True) ?hr ?hp (fun _ hk => hk) trivial (Below.refl _ _) (Nat.le_refl _) (by simp) ?_; (case hd => rfl); (case hg => rfl); (case hr => first | (go_simp; done) | (go_simp; rfl)); (case hp => exact (Reps.none _ _)); intro v3 w3 ho3 hb hg_ hnew_; clear hg_ hnew_; have HB2 := Aside0.mk (below_step (below_alloc HB.out (.cells #[] 87)) hb); have HO1 := Aside0.mk (Kd.R_lower ho3 (below_size (below_alloc HB.out (.cells #[] 87)))); clear HB hb ho3))
  go_loopg [5, 11] l.length (fun kq v5 v11 w' => ∃ i : Nat, v11 = .int .i64 (i : Int) ∧ Aside0 (i + kq = l.length) ∧ Aside0 (Kd.R (Kd.int .i64) 3 w' w.heap.size (fun _ => True) v5 (l.take i)) ∧ Aside0 (Below w.heap.size w w'))
  case atStart => exact ⟨0, rfl, ⟨by omega⟩, HO1, HB2⟩
  case round =>
    clear HO1 HB2
    obtain ⟨i, rfl, HI, HO, HB⟩ := hrel
    by_cases c0 : i < l.length
    · have c1 : decide ((i : Int) < (l.length : Int)) = true := decide_eq_true (by omega)
      have c1n : decide (i < l.length) = true := decide_eq_true c0
      have hk : gk ≠ 0 := by have := HI.out; omega
      obtain ⟨k1, rfl⟩ := Nat.exists_eq_succ_of_ne_zero hk
      clear hk
      have p1 : 0 ≤ (i : Int) := by omega
      have q1 : (i : Int) < (l.length : Int) := by omega
      obtain ⟨ad, e1, hx⟩ := Kd.at_int HR.out (i : Int) p1 q1
      cases e1
      replace hx := (HB.out.cell (World.block_lt_of_cell? w _ hx)).trans hx
      replace p1 := eq_true p1
      replace q1 := eq_true q1
      have hel := HRG.out l[i] (List.getElem_mem c0)
      have hrd : rd l (i : Int) = l[i] := rd_n1 l i c0
      rw [hrd, Int.toNat_natCast] at hx
      obtain ⟨x, hxx⟩ : ∃ x, x = l[i] := ⟨_, rfl⟩
      rw [← hxx] at hx hel
      have HWX : Aside0 (wrap64 x = x) := ⟨by unfold wrap64; omega⟩
      have HT : Aside0 (l.take i ++ [wrap64 x] = l.take (i + 1)) := ⟨by rw [HWX.out, hxx, List.take_add_one, List.getElem?_eq_getElem c0]; rfl⟩
      have HLT : Aside0 ((l.take i).length < 17592186044416) := ⟨by rw [List.length_take]; have := HL.out; omega⟩
      have HW : Aside0 (wrap64 ((i : Int) + 1) = ((i + 1 : Nat) : Int)) := ⟨by have := HL.out; unfold wrap64; omega⟩
      obtain ⟨ys, hys⟩ : ∃ ys, ys = l.take i := ⟨_, rfl⟩
      rw [← hys] at HO HT HLT
      clear hxx hrd hys c0 hel
      go_wp2_with (first | ((with_reducible refine gate_builtin (b := .append) (xs := #[.tmp 15, .tmp 18]) rfl ?_); go_loud (at_builtin; refine Kd.R_append (Kd.int .i64) (w0 := w) w.heap.size rfl (.tmp 15) (.tmp 18) 24 3 (.int .i64 0) 8 rfl Try.underlying24 info3 rfl (by decide) (by omega) u5 ys (wrap64 x) [.int .i64 (wrap64 x)] (fun _ => True) (fun _ => False) rfl rfl ?aP (fun _ hk => hk.elim) ?aF ?aO ?aB ?aS ?aL ?_; (case aP => exact rfl); (case aB => exact (by repeat (first | (with_reducible first | exact HB.out | apply below_alloc | apply pw_below_drewN | apply below_drew1) | exact HB.out))); (case aF => exact (fun _ _ => trivial)); (case aO => exact (by (with_reducible repeat (first | apply Kd.R_alloc | apply Kd.R_drewN | apply Kd.R_drew)); exact HO.out)); (case aS => exact (below_size (by repeat (first | (with_reducible first | exact HB.out | apply below_alloc | apply pw_below_drewN | apply below_drew1) | exact HB.out)))); (case aL => have := HLT.out; omega); intro v7 w7 ho hb hg hat; have HO3 := Aside0.mk ho; have HB3 := Aside0.mk hb; clear ho hb hg hat)))
      go_roundg k1
      case measure => omega
      case rel => exact ⟨i + 1, congrArg (Value.int .i64) HW.out, ⟨by have := HI.out; omega⟩, ⟨by rw [← HT.out]; exact HO3.out⟩, HB3⟩
    · have c1 : decide ((i : Int) < (l.length : Int)) = false := decide_eq_false (by omega)
      have c1n : decide (i < l.length) = false := decide_eq_false c0
      have HE : Aside0 (l.take i = l) := ⟨List.take_of_length_le (by omega)⟩
      rw [HE.out] at HO
      clear c0
      obtain ⟨A2, c2, e2, _, _⟩ := Kd.R_reads HO.out
      subst e2
      have hq := (Kd.R_reads' HO.out)
      have HQ := Aside0.mk hq
      clear hq
      go_wp2_with (go_at_call 10; refine (enc_calls A2 c2 l wr HQ.out.2.2 HQ.out.2.1 HL.out).mono ?_; rintro e w' ⟨rfl, hb⟩; have HB2 := Aside0.mk (below_step HB.out hb); clear hb)
      go_ret
      exact ⟨rfl, HB2.out⟩
/-! ### a text of bytes, by each coding -/
def cutB (e : Nat) (p : Bool) (l : List Int) : List Int := if p = true then l.drop (markB e).size else l
set_option maxHeartbeats 4000000 in
set_option maxRecDepth 100000 in
theorem dec_calls0 (A : Option Addr) (c : Nat) (l : List Int) (p : Bool) (r : ByteArray) (w : World) (hr : Kd.C (Kd.int .u8) w A l.length l) (hc : l.length ≤ c) (hl : l.length ≤ 60000) (hp : strings_HasPrefix.f (strOfNums l) (markB 0) = some p)
    (hread : ∀ (A1 : Option Addr) (c1 : Nat) (w1 : World), Kd.C (Kd.int .u8) w1 A1 (cutB 0 p l).length (cutB 0 p l) → (cutB 0 p l).length ≤ c1 → Calls Try.prog 37 #[.agg #[], .slice A1 (cutB 0 p l).length c1] w1 fun e w' => e = .returned (.string r) ∧ Below w1.heap.size w1 w') :
    Calls Try.prog 14 #[.slice A l.length c, .int .i64 0] w fun e w' => e = .returned (.string r) ∧ Below w.heap.size w w' := by
  have HB := Aside0.mk (Below.refl w.heap.size w)
  have HR := Aside0.mk hr
  have HC := Aside0.mk hc
  have HP := Aside0.mk hp
  have HRD := Aside0.mk hread
  have l1 : decide (60000 < (l.length : Int)) = false := decide_eq_false (by omega)
  have l2 : decide (60000 < l.length) = false := decide_eq_false (by omega)
  have hmf : ∀ (fn : Fn) (first cap : Array Value) (w : World), (Instr.makeFunc fn first cap).run Try.prog w = .ok (.func fn first cap) w := fun _ _ _ _ => rfl
  clear hr hc hp hl hread
  go_enter Try.func14, Try.ntmps14
  go_wp2_with (first | (go_at_call 40; refine (cod_calls0 w).mono ?_; rintro e w1 ⟨rfl, hb⟩; simp only [codV]; have HB1 := Aside0.mk hb; clear hb HB) | (go_at_call 41; refine (bare_calls0 A c l p w1 (Kd.C_below HR.out HB1.out) HC.out HP.out (fun h => pre_le (by rw [← h]; exact HP.out))).mono ?_; rintro e w2 ⟨hb, A1, c1, rfl, hr2, hc2⟩; have HB2 := Aside0.mk (below_step HB1.out hb); have HR2 := Aside0.mk (Kd.C_below hr2 hb); have HC2 := Aside0.mk hc2; clear hb hr2 hc2) | (go_at_call 37; refine (HRD.out A1 c1 w2 HR2.out HC2.out).mono ?_; rintro e w' ⟨rfl, hb⟩; have HB3 := Aside0.mk (below_step HB2.out hb); clear hb))
  all_goals (go_ret; exact ⟨rfl, HB3.out⟩)
set_option maxHeartbeats 4000000 in
set_option maxRecDepth 100000 in
theorem dec_long0 (A : Option Addr) (c : Nat) (l : List Int) (w : World) (hl : ¬ l.length ≤ 60000) :
    Calls Try.prog 14 #[.slice A l.length c, .int .i64 0] w fun e w' => e = .returned (.string ⟨#[]⟩) ∧ Below w.heap.size w w' := by
  have HB := Aside0.mk (Below.refl w.heap.size w)
  have l1 : decide (60000 < (l.length : Int)) = true := decide_eq_true (by omega)
  have l2 : decide (60000 < l.length) = true := decide_eq_true (by omega)
  clear hl
  go_enter Try.func14, Try.ntmps14
  go_wp2_with (first | (go_at_call 40; refine (cod_calls0 w).mono ?_; rintro e w1 ⟨rfl, hb⟩; simp only [codV]; have HB1 := Aside0.mk hb; clear hb HB))
  go_ret
  exact ⟨rfl, HB1.out⟩
set_option maxHeartbeats 4000000 in
set_option maxRecDepth 100000 in
theorem dec_calls1 (A : Option Addr) (c : Nat) (l : List Int) (p : Bool) (r : ByteArray) (w : World) (hr : Kd.C (Kd.int .u8) w A l.length l) (hc : l.length ≤ c) (hl : l.length ≤ 60000) (hp : strings_HasPrefix.f (strOfNums l) (markB 1) = some p)
    (hread : ∀ (A1 : Option Addr) (c1 : Nat) (w1 : World), Kd.C (Kd.int .u8) w1 A1 (cutB 1 p l).length (cutB 1 p l) → (cutB 1 p l).length ≤ c1 → Calls Try.prog 97 #[.agg #[.bool false], .slice A1 (cutB 1 p l).length c1] w1 fun e w' => e = .returned (.string r) ∧ Below w1.heap.size w1 w') :
    Calls Try.prog 14 #[.slice A l.length c, .int .i64 1] w fun e w' => e = .returned (.string r) ∧ Below w.heap.size w w' := by
  have HB := Aside0.mk (Below.refl w.heap.size w)
  have HR := Aside0.mk hr
  have HC := Aside0.mk hc
  have HP := Aside0.mk hp
  have HRD := Aside0.mk hread
  have l1 : decide (60000 < (l.length : Int)) = false := decide_eq_false (by omega)
  have l2 : decide (60000 < l.length) = false := decide_eq_false (by omega)
  have hmf : ∀ (fn : Fn) (first cap : Array Value) (w : World), (Instr.makeFunc fn first cap).run Try.prog w = .ok (.func fn first cap) w := fun _ _ _ _ => rfl
  clear hr hc hp hl hread
  go_enter Try.func14, Try.ntmps14
  go_wp2_with (first | (go_at_call 40; refine (cod_calls1 w).mono ?_; rintro e w1 ⟨rfl, hb⟩; simp only [codV]; have HB1 := Aside0.mk hb; clear hb HB) | (go_at_call 41; refine (bare_calls1 A c l p w1 (Kd.C_below HR.out HB1.out) HC.out HP.out (fun h => pre_le (by rw [← h]; exact HP.out))).mono ?_; rintro e w2 ⟨hb, A1, c1, rfl, hr2, hc2⟩; have HB2 := Aside0.mk (below_step HB1.out hb); have HR2 := Aside0.mk (Kd.C_below hr2 hb); have HC2 := Aside0.mk hc2; clear hb hr2 hc2) | (go_at_call 97; refine (HRD.out A1 c1 w2 HR2.out HC2.out).mono ?_; rintro e w' ⟨rfl, hb⟩; have HB3 := Aside0.mk (below_step HB2.out hb); clear hb))
  all_goals (go_ret; exact ⟨rfl, HB3.out⟩)
set_option maxHeartbeats 4000000 in
set_option maxRecDepth 100000 in
theorem dec_long1 (A : Option Addr) (c : Nat) (l : List Int) (w : World) (hl : ¬ l.length ≤ 60000) :
    Calls Try.prog 14 #[.slice A l.length c, .int .i64 1] w fun e w' => e = .returned (.string ⟨#[]⟩) ∧ Below w.heap.size w w' := by
  have HB := Aside0.mk (Below.refl w.heap.size w)
  have l1 : decide (60000 < (l.length : Int)) = true := decide_eq_true (by omega)
  have l2 : decide (60000 < l.length) = true := decide_eq_true (by omega)
  clear hl
  go_enter Try.func14, Try.ntmps14
  go_wp2_with (first | (go_at_call 40; refine (cod_calls1 w).mono ?_; rintro e w1 ⟨rfl, hb⟩; simp only [codV]; have HB1 := Aside0.mk hb; clear hb HB))
  go_ret
  exact ⟨rfl, HB1.out⟩
set_option maxHeartbeats 4000000 in
set_option maxRecDepth 100000 in
theorem dec_calls2 (A : Option Addr) (c : Nat) (l : List Int) (p : Bool) (r : ByteArray) (w : World) (hr : Kd.C (Kd.int .u8) w A l.length l) (hc : l.length ≤ c) (hl : l.length ≤ 60000) (hp : strings_HasPrefix.f (strOfNums l) (markB 2) = some p)
    (hread : ∀ (A1 : Option Addr) (c1 : Nat) (w1 : World), Kd.C (Kd.int .u8) w1 A1 (cutB 2 p l).length (cutB 2 p l) → (cutB 2 p l).length ≤ c1 → Calls Try.prog 97 #[.agg #[.bool true], .slice A1 (cutB 2 p l).length c1] w1 fun e w' => e = .returned (.string r) ∧ Below w1.heap.size w1 w') :
    Calls Try.prog 14 #[.slice A l.length c, .int .i64 2] w fun e w' => e = .returned (.string r) ∧ Below w.heap.size w w' := by
  have HB := Aside0.mk (Below.refl w.heap.size w)
  have HR := Aside0.mk hr
  have HC := Aside0.mk hc
  have HP := Aside0.mk hp
  have HRD := Aside0.mk hread
  have l1 : decide (60000 < (l.length : Int)) = false := decide_eq_false (by omega)
  have l2 : decide (60000 < l.length) = false := decide_eq_false (by omega)
  have hmf : ∀ (fn : Fn) (first cap : Array Value) (w : World), (Instr.makeFunc fn first cap).run Try.prog w = .ok (.func fn first cap) w := fun _ _ _ _ => rfl
  clear hr hc hp hl hread
  go_enter Try.func14, Try.ntmps14
  go_wp2_with (first | (go_at_call 40; refine (cod_calls2 w).mono ?_; rintro e w1 ⟨rfl, hb⟩; simp only [codV]; have HB1 := Aside0.mk hb; clear hb HB) | (go_at_call 41; refine (bare_calls2 A c l p w1 (Kd.C_below HR.out HB1.out) HC.out HP.out (fun h => pre_le (by rw [← h]; exact HP.out))).mono ?_; rintro e w2 ⟨hb, A1, c1, rfl, hr2, hc2⟩; have HB2 := Aside0.mk (below_step HB1.out hb); have HR2 := Aside0.mk (Kd.C_below hr2 hb); have HC2 := Aside0.mk hc2; clear hb hr2 hc2) | (go_at_call 97; refine (HRD.out A1 c1 w2 HR2.out HC2.out).mono ?_; rintro e w' ⟨rfl, hb⟩; have HB3 := Aside0.mk (below_step HB2.out hb); clear hb))
  all_goals (go_ret; exact ⟨rfl, HB3.out⟩)
set_option maxHeartbeats 4000000 in
set_option maxRecDepth 100000 in
theorem dec_long2 (A : Option Addr) (c : Nat) (l : List Int) (w : World) (hl : ¬ l.length ≤ 60000) :
    Calls Try.prog 14 #[.slice A l.length c, .int .i64 2] w fun e w' => e = .returned (.string ⟨#[]⟩) ∧ Below w.heap.size w w' := by
  have HB := Aside0.mk (Below.refl w.heap.size w)
  have l1 : decide (60000 < (l.length : Int)) = true := decide_eq_true (by omega)
  have l2 : decide (60000 < l.length) = true := decide_eq_true (by omega)
  clear hl
  go_enter Try.func14, Try.ntmps14
  go_wp2_with (first | (go_at_call 40; refine (cod_calls2 w).mono ?_; rintro e w1 ⟨rfl, hb⟩; simp only [codV]; have HB1 := Aside0.mk hb; clear hb HB))
  go_ret
  exact ⟨rfl, HB1.out⟩
set_option maxHeartbeats 4000000 in
set_option maxRecDepth 100000 in
theorem dec_calls3 (A : Option Addr) (c : Nat) (l : List Int) (p : Bool) (r : ByteArray) (w : World) (hr : Kd.C (Kd.int .u8) w A l.length l) (hc : l.length ≤ c) (hl : l.length ≤ 60000) (hp : strings_HasPrefix.f (strOfNums l) (markB 3) = some p)
    (hread : ∀ (A1 : Option Addr) (c1 : Nat) (w1 : World), Kd.C (Kd.int .u8) w1 A1 (cutB 3 p l).length (cutB 3 p l) → (cutB 3 p l).length ≤ c1 → Calls Try.prog 103 #[.agg #[], .slice A1 (cutB 3 p l).length c1] w1 fun e w' => e = .returned (.string r) ∧ Below w1.heap.size w1 w') :
    Calls Try.prog 14 #[.slice A l.length c, .int .i64 3] w fun e w' => e = .returned (.string r) ∧ Below w.heap.size w w' := by
  have HB := Aside0.mk (Below.refl w.heap.size w)
  have HR := Aside0.mk hr
  have HC := Aside0.mk hc
  have HP := Aside0.mk hp
  have HRD := Aside0.mk hread
  have l1 : decide (60000 < (l.length : Int)) = false := decide_eq_false (by omega)
  have l2 : decide (60000 < l.length) = false := decide_eq_false (by omega)
  have hmf : ∀ (fn : Fn) (first cap : Array Value) (w : World), (Instr.makeFunc fn first cap).run Try.prog w = .ok (.func fn first cap) w := fun _ _ _ _ => rfl
  clear hr hc hp hl hread
  go_enter Try.func14, Try.ntmps14
  go_wp2_with (first | (go_at_call 40; refine (cod_calls3 w).mono ?_; rintro e w1 ⟨rfl, hb⟩; simp only [codV]; have HB1 := Aside0.mk hb; clear hb HB) | (go_at_call 41; refine (bare_calls3 A c l p w1 (Kd.C_below HR.out HB1.out) HC.out HP.out (fun h => pre_le (by rw [← h]; exact HP.out))).mono ?_; rintro e w2 ⟨hb, A1, c1, rfl, hr2, hc2⟩; have HB2 := Aside0.mk (below_step HB1.out hb); have HR2 := Aside0.mk (Kd.C_below hr2 hb); have HC2 := Aside0.mk hc2; clear hb hr2 hc2) | (go_at_call 103; refine (HRD.out A1 c1 w2 HR2.out HC2.out).mono ?_; rintro e w' ⟨rfl, hb⟩; have HB3 := Aside0.mk (below_step HB2.out hb); clear hb))
  all_goals (go_ret; exact ⟨rfl, HB3.out⟩)
set_option maxHeartbeats 4000000 in
set_option maxRecDepth 100000 in
theorem dec_long3 (A : Option Addr) (c : Nat) (l : List Int) (w : World) (hl : ¬ l.length ≤ 60000) :
    Calls Try.prog 14 #[.slice A l.length c, .int .i64 3] w fun e w' => e = .returned (.string ⟨#[]⟩) ∧ Below w.heap.size w w' := by
  have HB := Aside0.mk (Below.refl w.heap.size w)
  have l1 : decide (60000 < (l.length : Int)) = true := decide_eq_true (by omega)
  have l2 : decide (60000 < l.length) = true := decide_eq_true (by omega)
  clear hl
  go_enter Try.func14, Try.ntmps14
  go_wp2_with (first | (go_at_call 40; refine (cod_calls3 w).mono ?_; rintro e w1 ⟨rfl, hb⟩; simp only [codV]; have HB1 := Aside0.mk hb; clear hb HB))
  go_ret
  exact ⟨rfl, HB1.out⟩
set_option maxHeartbeats 4000000 in
set_option maxRecDepth 100000 in
theorem dec_none (A : Option Addr) (c : Nat) (l : List Int) (a : Int) (w : World) (h0 : a ≠ 0) (h1 : a ≠ 1) (h2 : a ≠ 2) (h3 : a ≠ 3) :
    Calls Try.prog 14 #[.slice A l.length c, .int .i64 a] w fun e w' => e = .returned (.string ⟨#[]⟩) ∧ Below w.heap.size w w' := by
  have HN := Aside0.mk (cod_callsN a w h0 h1 h2 h3)
  clear h0 h1 h2 h3
  go_enter Try.func14, Try.ntmps14
  go_wp2_with (first | (go_at_call 40; refine HN.out.mono ?_; rintro e w1 ⟨rfl, hb⟩; have HB1 := Aside0.mk hb; clear hb))
  go_ret
  exact ⟨rfl, HB1.out⟩
def readK (k e : Nat) (l : List Int) : Option ByteArray := match e with
  | 0 => some (strOfNums (rdU l.length l))
  | 1 => impl_pairCoding_read.f k false l
  | 2 => impl_pairCoding_read.f k true l
  | _ => some (strOfNums (encU l))
theorem readK_mono (k e : Nat) (l : List Int) : LeO (readK k e l) (readK (k + 1) e l) := by
  unfold readK
  split
  · exact LeO.refl _
  · exact impl_pairCoding_read.mono false l k
  · exact impl_pairCoding_read.mono true l k
  · exact LeO.refl _
def bytesOk (l : List Int) : Bool := l.all fun x => decide (0 ≤ x) && decide (x ≤ 255)
theorem bytesOk_all {l : List Int} (h : bytesOk l = true) : ∀ x ∈ l, 0 ≤ x ∧ x ≤ 255 := by
  intro x hx
  have := List.all_eq_true.1 h x hx
  simpa using this
theorem cutB_all {l : List Int} (e : Nat) (p : Bool) (h : ∀ x ∈ l, 0 ≤ x ∧ x ≤ 255) : ∀ x ∈ cutB e p l, 0 ≤ x ∧ x ≤ 255 := by
  unfold cutB
  split
  · exact fun x hx => h x (List.mem_of_mem_drop hx)
  · exact h
theorem cutB_len {l : List Int} (e : Nat) (p : Bool) : (cutB e p l).length ≤ l.length := by
  unfold cutB
  split
  · rw [List.length_drop]; omega
  · exact Nat.le_refl _
theorem u8_V {A : Option Addr} {c : Nat} {l : List Int} {w : World} (hr : Kd.C (Kd.int .u8) w A l.length l) (hc : l.length ≤ c) : Kd.V (Kd.int .u8) 5 w w.heap.size (fun k => k < w.heap.size) (.slice A l.length c) l := Kd.V_mk hc (Kd.C_F (Kd.heap_int .u8) hr)
def impl_Decode.f (k : Nat) (l0 : List Int) (a1 : Int) : Option ByteArray :=
  if bytesOk l0 = true then
    (if a1 = 0 ∨ a1 = 1 ∨ a1 = 2 ∨ a1 = 3 then
      (if l0.length ≤ 60000 then (strings_HasPrefix.f (strOfNums l0) (markB a1.toNat)).bind fun p => readK k a1.toNat (cutB a1.toNat p l0) else some ⟨#[]⟩)
    else some ⟨#[]⟩)
  else none
theorem impl_Decode.mono : ∀ a0 a1 k, LeO (impl_Decode.f k a0 a1) (impl_Decode.f (k + 1) a0 a1) := by
  intro a0 a1 k
  unfold impl_Decode.f
  refine LeO.ite (LeO.ite (LeO.ite (LeO.bind (LeO.refl _) fun p => readK_mono k _ _) (LeO.refl _)) (LeO.refl _)) (LeO.refl _)
theorem impl_Decode.calls (k : Nat) (A0 : Option Addr) (c0 : Nat) (l0 : List Int) (a1 : Int) (r : ByteArray) (w : World) (hr0 : Kd.C (Kd.int .u8) w A0 l0.length l0) (hc0 : l0.length ≤ c0) (h : impl_Decode.f k l0 a1 = some r) :
    Calls Try.prog 14 #[.slice A0 l0.length c0, .int .i64 a1] w fun e w' => e = .returned (.string r) ∧ Below w.heap.size w w' := by
  unfold impl_Decode.f at h
  by_cases hb : bytesOk l0 = true
  · rw [if_pos hb] at h
    have hall := bytesOk_all hb
    by_cases ha : a1 = 0 ∨ a1 = 1 ∨ a1 = 2 ∨ a1 = 3
    · rw [if_pos ha] at h
      by_cases hl : l0.length ≤ 60000
      · rw [if_pos hl] at h
        obtain ⟨p, hp, h⟩ := Option.bind_eq_some_iff.1 h
        have hz := fun e => cutB_len (l := l0) e p
        rcases ha with rfl | rfl | rfl | rfl
        · refine dec_calls0 A0 c0 l0 p r w hr0 hc0 hl hp (fun A1 c1 w1 h1 h2 => ?_)
          obtain rfl := Option.some.inj h
          exact read_calls A1 c1 _ .nilIface w1 h1 h2 (by have := hz 0; omega) (cutB_all 0 p hall)
        · refine dec_calls1 A0 c0 l0 p r w hr0 hc0 hl hp (fun A1 c1 w1 h1 h2 => ?_)
          exact impl_pairCoding_read.calls k false (fun k => k < w1.heap.size) A1 c1 _ r w1 (u8_V h1 h2) h
        · refine dec_calls2 A0 c0 l0 p r w hr0 hc0 hl hp (fun A1 c1 w1 h1 h2 => ?_)
          exact impl_pairCoding_read.calls k true (fun k => k < w1.heap.size) A1 c1 _ r w1 (u8_V h1 h2) h
        · refine dec_calls3 A0 c0 l0 p r w hr0 hc0 hl hp (fun A1 c1 w1 h1 h2 => ?_)
          obtain rfl := Option.some.inj h
          exact latin_calls A1 c1 _ w1 h1 h2 (by have := hz 3; omega) (cutB_all 3 p hall)
      · rw [if_neg hl] at h
        obtain rfl := Option.some.inj h
        rcases ha with rfl | rfl | rfl | rfl
        · exact dec_long0 A0 c0 l0 w hl
        · exact dec_long1 A0 c0 l0 w hl
        · exact dec_long2 A0 c0 l0 w hl
        · exact dec_long3 A0 c0 l0 w hl
    · rw [if_neg ha] at h
      obtain rfl := Option.some.inj h
      exact dec_none A0 c0 l0 a1 w (fun z => ha (.inl z)) (fun z => ha (.inr (.inl z))) (fun z => ha (.inr (.inr (.inl z)))) (fun z => ha (.inr (.inr (.inr z))))
  · rw [if_neg hb] at h
    cases h

end Go.Proofs.Ytmffcjjodkggcaa.MFnExactFeedEnd
