-- Written by this session's own program (wip/gen/myprint.py).
import Derived.Test.YtmffcjjodkggcaaMFnExactMirroredx0
import Derived.Test.YtmffcjjodkggcaaMFnExactMirroredx3
import Derived.Test.YtmffcjjodkggcaaMFnExactMirroredx4
namespace Go.Proofs.Ytmffcjjodkggcaa.MFnExactMirrored
open Go.RowKit Go.Proofs.YtmffcjjodkggcaaW.PrintWords Go.Proofs.YtmffcjjodkggcaaW.PrintLast Go.Proofs.YtmffcjjodkggcaaW.PrintMore
attribute [local go_sem] max2_int min2_int max_two min_two max_three min_three max_four min_four   -- for this text's walks alone
set_option linter.unusedVariables false
set_option linter.unusedSimpArgs false

/-! ### slices_Index_int_int: function 72 -/
def slices_Index_int_int.l0 : Nat → List Int → Int → Int → Int → Option (Int)
  | 0, _, _, _, _ => none
  | k + 1, x0, x1, x7, x8 => if x8 < x7 then (if 0 ≤ x8 then (if x8 < (x0.length : Int) then (if x1 = (rd x0 x8) then (some x8) else (slices_Index_int_int.l0 k x0 x1 x7 (wrap64 (x8 + 1)))) else (none)) else (none)) else (some (-1))
def slices_Index_int_int.f (k : Nat) (l0 : List Int) (a1 : Int) : Option (Int) := slices_Index_int_int.l0 k l0 a1 (l0.length : Int) 0
theorem slices_Index_int_int.mono_l : ∀ k, (∀ y0 y1 y2 y3, LeO (slices_Index_int_int.l0 k y0 y1 y2 y3) (slices_Index_int_int.l0 (k + 1) y0 y1 y2 y3))
  | 0 => fun _ _ _ _ r h => by simp [slices_Index_int_int.l0] at h
  | k + 1 => by
    have ih0 := slices_Index_int_int.mono_l k
    · intro y0 y1 y2 y3
      unfold slices_Index_int_int.l0
      repeat' first
      | (with_reducible exact ih0 _ _ _ _)
      | (with_reducible exact LeO.refl _)
      | (with_reducible exact LeO.none _)
      | (with_reducible refine LeO.ite ?_ ?_)
      | (with_reducible refine LeO.bind ?_ (fun _ => ?_))
      | exact ih0 _ _ _ _
      | exact LeO.none _
      | refine LeO.ite ?_ ?_
      | refine LeO.bind ?_ (fun _ => ?_)
theorem slices_Index_int_int.mono : ∀ a0 a1 k, LeO (slices_Index_int_int.f k a0 a1) (slices_Index_int_int.f (k + 1) a0 a1) := by
  intro a0 a1 k
  have ih0 := slices_Index_int_int.mono_l k
  unfold slices_Index_int_int.f
  repeat' first
      | (with_reducible exact ih0 _ _ _ _)
      | (with_reducible exact LeO.refl _)
      | (with_reducible exact LeO.none _)
      | (with_reducible refine LeO.ite ?_ ?_)
      | (with_reducible refine LeO.bind ?_ (fun _ => ?_))
      | exact ih0 _ _ _ _
      | exact LeO.none _
      | refine LeO.ite ?_ ?_
      | refine LeO.bind ?_ (fun _ => ?_)
set_option maxHeartbeats 8000000 in
set_option maxRecDepth 100000 in
theorem slices_Index_int_int.calls (k : Nat) (A0 : Option Addr) (c0 : Nat) (l0 : List Int) (a1 : Int) (r : Int) (w : World) (hr0 : Kd.C (Kd.int .i64) w A0 l0.length l0) (hc0 : l0.length ≤ c0) (h : slices_Index_int_int.f k l0 a1 = some r) :
    Calls Try.prog 72 #[.slice A0 l0.length c0, .int .i64 a1] w fun e w' => e = .returned (.int .i64 r) ∧ Drawn0 w w' := by
  have HR0 := Aside0.mk hr0
  have HC0 := Aside0.mk hc0
  clear hr0 hc0
  have H : (slices_Index_int_int.l0 k l0 a1 (l0.length : Int) 0) = some r := h
  clear h
  have H' := Aside0.mk H
  clear H
  go_enter Try.func72, Try.ntmps72
  go_wp2
  go_loopg [8] k (fun kq v8 w' => ∃ (x8_1 : Int), v8 = .int .i64 x8_1 ∧ Aside0 (slices_Index_int_int.l0 kq l0 a1 (l0.length : Int) x8_1 = some r) ∧ Aside0 (kq ≤ k) ∧ Drawn0 w w')
  case atStart => exact ⟨(0), (by first | rfl | (simp; done) | (simp [*]; done)), H', ⟨Nat.le_refl _⟩, by repeat (first | exact Drawn0.refl _ | apply Drawn0.step)⟩
  case round =>
    clear H'
    try clear p2
    obtain ⟨x8_1, rfl, HA, HK1, ⟨m1, rfl⟩⟩ := hrel
    cases gk with
    | zero => exact absurd HA.out (by simp [slices_Index_int_int.l0])
    | succ k1 =>
      have H := HA.out
      clear HA
      simp only [slices_Index_int_int.l0] at H
      by_cases c3 : x8_1 < (l0.length : Int)
      · rw [if_pos c3] at H
        have c3b0 : decide (x8_1 < (l0.length : Int)) = true := decide_eq_true c3
        clear c3
        by_cases c4 : 0 ≤ x8_1
        · rw [if_pos c4] at H
          have c4b0 : decide (0 ≤ x8_1) = true := decide_eq_true c4
          clear c4
          by_cases c5 : x8_1 < (l0.length : Int)
          · rw [if_pos c5] at H
            have c5b0 : decide (x8_1 < (l0.length : Int)) = true := decide_eq_true c5
            clear c5
            by_cases c6 : a1 = (rd l0 x8_1)
            · rw [if_pos c6] at H
              have c6b0 : (a1 == (rd l0 x8_1)) = true := beq_iff_eq.mpr c6
              have c6b1 : (a1 != (rd l0 x8_1)) = false := bne_eq_false_iff_eq.mpr c6
              clear c6
              obtain rfl := Option.some.inj H
              have p166 : 0 ≤ (x8_1 : Int) := of_decide_eq_true (by first | (with_reducible assumption) | assumption)
              have q166 : x8_1 < (l0.length : Int) := of_decide_eq_true (by first | (with_reducible assumption) | assumption)
              obtain ⟨ad166, e166, hx166_0⟩ := Kd.at_int HR0.out x8_1 p166 q166
              cases e166
              replace p166 := eq_true p166
              replace q166 := eq_true q166
              go_wp2
              go_ret
              exact ⟨by first | rfl | (simp; done) | (simp [*]; done), by repeat (first | exact Drawn0.refl _ | apply Drawn0.step)⟩
            · rw [if_neg c6] at H
              have c6b0 : (a1 == (rd l0 x8_1)) = false := beq_eq_false_iff_ne.mpr c6
              have c6b1 : (a1 != (rd l0 x8_1)) = true := bne_iff_ne.mpr c6
              have H' := Aside0.mk H
              clear H
              have p166 : 0 ≤ (x8_1 : Int) := of_decide_eq_true (by first | (with_reducible assumption) | assumption)
              have q166 : x8_1 < (l0.length : Int) := of_decide_eq_true (by first | (with_reducible assumption) | assumption)
              obtain ⟨ad166, e166, hx166_0⟩ := Kd.at_int HR0.out x8_1 p166 q166
              cases e166
              replace p166 := eq_true p166
              replace q166 := eq_true q166
              go_wp2
              go_roundg k1
              case measure => have := HK1.out; omega
              case rel => exact ⟨(wrap64 (x8_1 + 1)), (by first | rfl | (simp; done) | (simp [*]; done)), H', ⟨by have := HK1.out; omega⟩, by repeat (first | exact Drawn0.refl _ | apply Drawn0.step)⟩
          · rw [if_neg c5] at H
            exact absurd H (by simp)
        · rw [if_neg c4] at H
          exact absurd H (by simp)
      · rw [if_neg c3] at H
        have c3b0 : decide (x8_1 < (l0.length : Int)) = false := decide_eq_false c3
        clear c3
        obtain rfl := Option.some.inj H
        go_wp2
        go_ret
        exact ⟨by first | rfl | (simp; done) | (simp [*]; done), by repeat (first | exact Drawn0.refl _ | apply Drawn0.step)⟩

/-! ### impl_Mirror: function 53 -/
def impl_Mirror.f (k : Nat) (a0 : Int) : Option (Int) := (some (([40, 41, 91, 93, 123, 125, 60, 62, 171, 187] : List Int) : List Int)).bind fun y167 => ((slices_Index_int_int.f k y167 a0).bind fun t170 => (if t170 < 0 then (some a0) else (if 0 ≤ (Go.bits .xor .i64 t170 1) then (if (Go.bits .xor .i64 t170 1) < (y167.length : Int) then (some (rd y167 (Go.bits .xor .i64 t170 1))) else (none)) else (none))))
theorem impl_Mirror.mono : ∀ a0 k, LeO (impl_Mirror.f k a0) (impl_Mirror.f (k + 1) a0) := by
  intro a0 k
  unfold impl_Mirror.f
  repeat' first
      | (with_reducible exact slices_Index_int_int.mono _ _ _)
      | (with_reducible exact LeO.refl _)
      | (with_reducible exact LeO.none _)
      | (with_reducible refine LeO.ite ?_ ?_)
      | (with_reducible refine LeO.bind ?_ (fun _ => ?_))
      | exact slices_Index_int_int.mono _ _ _
      | exact LeO.none _
      | refine LeO.ite ?_ ?_
      | refine LeO.bind ?_ (fun _ => ?_)
set_option maxHeartbeats 8000000 in
set_option maxRecDepth 100000 in
theorem impl_Mirror.calls (k : Nat) (a0 : Int) (r : Int) (w : World) (h : impl_Mirror.f k a0 = some r) :
    Calls Try.prog 53 #[.int .i64 a0] w fun e w' => e = .returned (.int .i64 r) ∧ Below w.heap.size w w' := by
  have HB := Aside0.mk (Below.refl w.heap.size w)
  have H : ((some (([40, 41, 91, 93, 123, 125, 60, 62, 171, 187] : List Int) : List Int)).bind fun y167 => ((slices_Index_int_int.f k y167 a0).bind fun t170 => (if t170 < 0 then (some a0) else (if 0 ≤ (Go.bits .xor .i64 t170 1) then (if (Go.bits .xor .i64 t170 1) < (y167.length : Int) then (some (rd y167 (Go.bits .xor .i64 t170 1))) else (none)) else (none))))) = some r := h
  clear h
  obtain ⟨y167, hy167⟩ : ∃ y_ : List Int, y_ = (([40, 41, 91, 93, 123, 125, 60, 62, 171, 187] : List Int)) := ⟨_, rfl⟩
  replace H : ((slices_Index_int_int.f k y167 a0).bind fun t170 => (if t170 < 0 then (some a0) else (if 0 ≤ (Go.bits .xor .i64 t170 1) then (if (Go.bits .xor .i64 t170 1) < (y167.length : Int) then (some (rd y167 (Go.bits .xor .i64 t170 1))) else (none)) else (none)))) = some r := by first | (rw [hy167]; with_reducible exact H) | (have H2_ := (Option.bind_some _ _).symm.trans H; rw [hy167]; with_reducible exact H2_) | (have H2_ := (Option.bind_some _ _).symm.trans H; with_reducible exact H2_) | with_reducible exact H | (rw [hy167]; exact H) | exact H
  have Ny167 := Aside0.mk hy167
  clear hy167
  replace H := Option.bind_eq_some_iff.mp H
  obtain ⟨t170, A20, H⟩ := H
  replace H : (if t170 < 0 then (some a0) else (if 0 ≤ (Go.bits .xor .i64 t170 1) then (if (Go.bits .xor .i64 t170 1) < (y167.length : Int) then (some (rd y167 (Go.bits .xor .i64 t170 1))) else (none)) else (none))) = some r := H
  have A2 := Aside0.mk A20
  clear A20
  by_cases c3 : t170 < 0
  · rw [if_pos c3] at H
    have c3b0 : decide (t170 < 0) = true := decide_eq_true c3
    clear c3
    obtain rfl := Option.some.inj H
    go_enter Try.func53, Try.ntmps53
    go_wp2_with (first | ((with_reducible refine gate_dst (N := 5) rfl ?_); refine Kd.R_lit (Kd.int .i64) _ 3 ?hg (N := 5) ?hd (xs := ([40, 41, 91, 93, 123, 125, 60, 62, 171, 187] : List Int)) (inner := [.int .i64 40, .int .i64 41, .int .i64 91, .int .i64 93, .int .i64 123, .int .i64 125, .int .i64 60, .int .i64 62, .int .i64 171, .int .i64 187]) (ok := fun _ => True) (okp := fun _ => True) ?hr ?hp (fun _ hk => hk) trivial (Below.refl _ _) (Nat.le_refl _) (by simp) ?_; (case hd => rfl); (case hg => rfl); (case hr => first | (go_simp; done) | (go_simp; rfl)); (case hp => exact (Reps.one (show Kd.M (Kd.int .i64) _ _ _ 40 [.int .i64 40] from rfl) (Reps.one (show Kd.M (Kd.int .i64) _ _ _ 41 [.int .i64 41] from rfl) (Reps.one (show Kd.M (Kd.int .i64) _ _ _ 91 [.int .i64 91] from rfl) (Reps.one (show Kd.M (Kd.int .i64) _ _ _ 93 [.int .i64 93] from rfl) (Reps.one (show Kd.M (Kd.int .i64) _ _ _ 123 [.int .i64 123] from rfl) (Reps.one (show Kd.M (Kd.int .i64) _ _ _ 125 [.int .i64 125] from rfl) (Reps.one (show Kd.M (Kd.int .i64) _ _ _ 60 [.int .i64 60] from rfl) (Reps.one (show Kd.M (Kd.int .i64) _ _ _ 62 [.int .i64 62] from rfl) (Reps.one (show Kd.M (Kd.int .i64) _ _ _ 171 [.int .i64 171] from rfl) (Reps.one (show Kd.M (Kd.int .i64) _ _ _ 187 [.int .i64 187] from rfl) (Reps.none _ _)))))))))))); intro v168 w4 ho5 hb hg_ hnew_; clear hg_ hnew_; (first | rw [← Ny167.out] at ho5 | (simp only [Int.reduceToNat] at ho5; rw [← Ny167.out] at ho5)); have n0_ := Aside0.mk (Kd.R_lower ho5 (below_size (by repeat (first | (with_reducible first | exact HB.out | apply below_alloc | apply pw_below_drewN | apply below_drew1) | exact HB.out)))); have n1_ := Aside0.mk (below_step (by repeat (first | (with_reducible first | exact HB.out | apply below_alloc | apply pw_below_drewN | apply below_drew1) | exact HB.out)) hb); clear HB; have HO169 := n0_; have HB := n1_; clear n0_ n1_; clear hb ho5; obtain ⟨Ao6, co6, eo6⟩ := Kd.R_slice HO169.out; subst eo6) | ((with_reducible refine gate_callee (f := 72) rfl ?_); refine goesL_ (some 8) rfl rfl Try.func72 (by kernel_rfl) rfl #[.slice Ao6 y167.length co6, .int .i64 a0] rfl (by (try simp only [List.map_toArray, List.map_cons, List.map_nil]); first | done | rfl | (simp only [List.length_drop, List.length_take]; rfl)) ?_; (with_reducible refine (slices_Index_int_int.calls k _ _ y167 a0 t170 _ ?side1 ?side2 A2.out).mono ?_); (case side1 => repeat (first | exact (Kd.R_reads' HO169.out).2.2 | (with_reducible refine Kd.C_alloc ?_ _) | (with_reducible refine Kd.C_drewN ?_ _) | (with_reducible refine Kd.C_drew ?_))); (case side2 => exact (Kd.R_reads' HO169.out).2.1); rintro e w' ⟨rfl, ⟨nd, rfl⟩⟩; refine ⟨_, rfl, ?_⟩))
    go_ret
    exact ⟨by first | rfl | (simp [errW_none, errW_some] <;> rfl) | (simp [*, errW_none, errW_some] <;> rfl), by repeat (first | (with_reducible first | exact HB.out | apply below_alloc | apply pw_below_drewN | apply below_drew1) | exact HB.out)⟩
  · rw [if_neg c3] at H
    have c3b0 : decide (t170 < 0) = false := decide_eq_false c3
    clear c3
    by_cases c7 : 0 ≤ (Go.bits .xor .i64 t170 1)
    · rw [if_pos c7] at H
      have c7b0 : decide (0 ≤ (Go.bits .xor .i64 t170 1)) = true := decide_eq_true c7
      clear c7
      by_cases c8 : (Go.bits .xor .i64 t170 1) < (y167.length : Int)
      · rw [if_pos c8] at H
        have c8b0 : decide ((Go.bits .xor .i64 t170 1) < (y167.length : Int)) = true := decide_eq_true c8
        clear c8
        obtain rfl := Option.some.inj H
        go_enter Try.func53, Try.ntmps53
        go_wp2_with (first | ((with_reducible refine gate_dst (N := 5) rfl ?_); refine Kd.R_lit (Kd.int .i64) _ 3 ?hg (N := 5) ?hd (xs := ([40, 41, 91, 93, 123, 125, 60, 62, 171, 187] : List Int)) (inner := [.int .i64 40, .int .i64 41, .int .i64 91, .int .i64 93, .int .i64 123, .int .i64 125, .int .i64 60, .int .i64 62, .int .i64 171, .int .i64 187]) (ok := fun _ => True) (okp := fun _ => True) ?hr ?hp (fun _ hk => hk) trivial (Below.refl _ _) (Nat.le_refl _) (by simp) ?_; (case hd => rfl); (case hg => rfl); (case hr => first | (go_simp; done) | (go_simp; rfl)); (case hp => exact (Reps.one (show Kd.M (Kd.int .i64) _ _ _ 40 [.int .i64 40] from rfl) (Reps.one (show Kd.M (Kd.int .i64) _ _ _ 41 [.int .i64 41] from rfl) (Reps.one (show Kd.M (Kd.int .i64) _ _ _ 91 [.int .i64 91] from rfl) (Reps.one (show Kd.M (Kd.int .i64) _ _ _ 93 [.int .i64 93] from rfl) (Reps.one (show Kd.M (Kd.int .i64) _ _ _ 123 [.int .i64 123] from rfl) (Reps.one (show Kd.M (Kd.int .i64) _ _ _ 125 [.int .i64 125] from rfl) (Reps.one (show Kd.M (Kd.int .i64) _ _ _ 60 [.int .i64 60] from rfl) (Reps.one (show Kd.M (Kd.int .i64) _ _ _ 62 [.int .i64 62] from rfl) (Reps.one (show Kd.M (Kd.int .i64) _ _ _ 171 [.int .i64 171] from rfl) (Reps.one (show Kd.M (Kd.int .i64) _ _ _ 187 [.int .i64 187] from rfl) (Reps.none _ _)))))))))))); intro v168 w9 ho10 hb hg_ hnew_; clear hg_ hnew_; (first | rw [← Ny167.out] at ho10 | (simp only [Int.reduceToNat] at ho10; rw [← Ny167.out] at ho10)); have n0_ := Aside0.mk (Kd.R_lower ho10 (below_size (by repeat (first | (with_reducible first | exact HB.out | apply below_alloc | apply pw_below_drewN | apply below_drew1) | exact HB.out)))); have n1_ := Aside0.mk (below_step (by repeat (first | (with_reducible first | exact HB.out | apply below_alloc | apply pw_below_drewN | apply below_drew1) | exact HB.out)) hb); clear HB; have HO169 := n0_; have HB := n1_; clear n0_ n1_; clear hb ho10; obtain ⟨Ao11, co11, eo11⟩ := Kd.R_slice HO169.out; subst eo11) | ((with_reducible refine gate_callee (f := 72) rfl ?_); refine goesL_ (some 8) rfl rfl Try.func72 (by kernel_rfl) rfl #[.slice Ao11 y167.length co11, .int .i64 a0] rfl (by (try simp only [List.map_toArray, List.map_cons, List.map_nil]); first | done | rfl | (simp only [List.length_drop, List.length_take]; rfl)) ?_; (with_reducible refine (slices_Index_int_int.calls k _ _ y167 a0 t170 _ ?side1 ?side2 A2.out).mono ?_); (case side1 => repeat (first | exact (Kd.R_reads' HO169.out).2.2 | (with_reducible refine Kd.C_alloc ?_ _) | (with_reducible refine Kd.C_drewN ?_ _) | (with_reducible refine Kd.C_drew ?_))); (case side2 => exact (Kd.R_reads' HO169.out).2.1); rintro e w' ⟨rfl, ⟨nd, rfl⟩⟩; refine ⟨_, rfl, ?_⟩; have p171 : 0 ≤ ((Go.bits .xor .i64 t170 1) : Int) := of_decide_eq_true (by first | (with_reducible assumption) | assumption); have q171 : (Go.bits .xor .i64 t170 1) < (y167.length : Int) := of_decide_eq_true (by first | (with_reducible assumption) | assumption); obtain ⟨ad171, e171, hx171_0⟩ := Kd.at_int (Kd.R_reads' HO169.out).2.2 (Go.bits .xor .i64 t170 1) p171 q171; cases e171; replace p171 := eq_true p171; replace q171 := eq_true q171))
        go_ret
        exact ⟨by first | rfl | (simp [errW_none, errW_some] <;> rfl) | (simp [*, errW_none, errW_some] <;> rfl), by repeat (first | (with_reducible first | exact HB.out | apply below_alloc | apply pw_below_drewN | apply below_drew1) | exact HB.out)⟩
      · rw [if_neg c8] at H
        exact absurd H (by simp)
    · rw [if_neg c7] at H
      exact absurd H (by simp)

/-! ### impl_Mirrored: function 32, by hand -/
/-! ### the mirror of a code point, of a text -/
theorem Kd.C_any_nil (A : Option Addr) (w : World) : Kd.C (Kd.int .i64) w A ([] : List Int).length [] := ⟨rfl, by simp, fun h => absurd h (Nat.lt_irrefl 0)⟩
theorem idx_some (xs : List Int) (a : Int) (hn : xs.length ≤ 1000000) : ∀ (d k i : Nat), xs.length - i = d → i ≤ xs.length → d < k → ∃ r, slices_Index_int_int.l0 k xs a xs.length i = some r ∧ (r = -1 ∨ (0 ≤ r ∧ r < xs.length)) := by
  intro d
  induction d with
  | zero =>
    intro k i hd hi hk
    obtain ⟨k, rfl⟩ : ∃ m, k = m + 1 := ⟨k - 1, by omega⟩
    exact ⟨-1, by rw [slices_Index_int_int.l0, if_neg (by omega)], .inl rfl⟩
  | succ d ih =>
    intro k i hd hi hk
    obtain ⟨k, rfl⟩ : ∃ m, k = m + 1 := ⟨k - 1, by omega⟩
    rw [slices_Index_int_int.l0, if_pos (by omega), if_pos (by omega), if_pos (by omega)]
    by_cases h : a = rd xs i
    · exact ⟨i, by rw [if_pos h], .inr ⟨by omega, by omega⟩⟩
    · rw [if_neg h, show wrap64 ((i : Int) + 1) = ((i + 1 : Nat) : Int) by unfold wrap64; omega]
      exact ih k (i + 1) (by omega) (by omega) (by omega)
def mirF (c : Int) : Int := (impl_Mirror.f 20 c).getD 0
theorem mir_some (c : Int) : impl_Mirror.f 20 c = some (mirF c) := by
  have h : ∃ r, impl_Mirror.f 20 c = some r := by
    obtain ⟨t, ht, hr⟩ := idx_some [40, 41, 91, 93, 123, 125, 60, 62, 171, 187] c (by simp) 10 20 0 (by simp) (by simp) (by omega)
    unfold impl_Mirror.f slices_Index_int_int.f
    rw [Option.bind_some]
    have ht2 : slices_Index_int_int.l0 20 [40, 41, 91, 93, 123, 125, 60, 62, 171, 187] c (([40, 41, 91, 93, 123, 125, 60, 62, 171, 187] : List Int).length : Int) 0 = some t := ht
    rw [ht2, Option.bind_some]
    simp only [List.length_cons, List.length_nil] at hr
    have h' : t = -1 ∨ t = 0 ∨ t = 1 ∨ t = 2 ∨ t = 3 ∨ t = 4 ∨ t = 5 ∨ t = 6 ∨ t = 7 ∨ t = 8 ∨ t = 9 := by omega
    rcases h' with rfl | h'
    · exact ⟨c, if_pos (by decide)⟩
    · rw [if_neg (by omega)]
      clear ht ht2 hr
      rcases h' with rfl | rfl | rfl | rfl | rfl | rfl | rfl | rfl | rfl | rfl
      · exact ⟨41, by decide +kernel⟩
      · exact ⟨40, by decide +kernel⟩
      · exact ⟨93, by decide +kernel⟩
      · exact ⟨91, by decide +kernel⟩
      · exact ⟨125, by decide +kernel⟩
      · exact ⟨123, by decide +kernel⟩
      · exact ⟨62, by decide +kernel⟩
      · exact ⟨60, by decide +kernel⟩
      · exact ⟨187, by decide +kernel⟩
      · exact ⟨171, by decide +kernel⟩
  obtain ⟨r, h⟩ := h
  unfold mirF
  rw [h]; rfl
/-! ### the walk -/
set_option maxHeartbeats 8000000 in
set_option maxRecDepth 100000 in
theorem mir_even (s : ByteArray) (lv : Int) (w : World) (ht : Int.tmod lv 2 = 0) :
    Calls Try.prog 32 #[.string s, .int .i64 lv] w fun e w' => e = .returned (.string s) ∧ Below w.heap.size w w' := by
  have HB := Aside0.mk (Below.refl w.heap.size w)
  have ht1 : (Int.tmod lv 2 == 0) = true := beq_iff_eq.mpr ht
  clear ht
  go_enter Try.func32, Try.ntmps32
  go_wp2
  go_ret
  exact ⟨rfl, HB.out⟩
set_option maxHeartbeats 8000000 in
set_option maxRecDepth 100000 in
theorem mir_calls (s : ByteArray) (lv : Int) (w : World) (xs : List Int) (ht : Int.tmod lv 2 ≠ 0) (hxs : impl_CodePoints.f s = some xs) (hl : xs.length ≤ 1099511627776) :
    Calls Try.prog 32 #[.string s, .int .i64 lv] w fun e w' => e = .returned (.string (strOfNums (encU (xs.reverse.map mirF)))) ∧ Below w.heap.size w w' := by
  have hu24 := Try.underlying24
  have HX := Aside0.mk hxs
  have HL := Aside0.mk hl
  have ht1 : (Int.tmod lv 2 == 0) = false := beq_eq_false_iff_ne.mpr ht
  clear hxs hl ht
  by_cases e : xs = []
  · subst e
    go_enter Try.func32, Try.ntmps32
    go_wp2_with (first | (go_at_call 11; refine (impl_CodePoints.calls s [] w HX.out).mono ?_; rintro e w1 ⟨v, rfl, ho, hb⟩; obtain ⟨A1, c1, e1, _, _⟩ := Kd.R_reads ho; have HB := Aside0.mk hb; clear ho hb; subst e1) | (go_at_call 52; refine (Try.slices_Reverse_int_empty A1 c1 w1).mono ?_; rintro e w' ⟨rfl, hww⟩; obtain rfl : w1 = w' := hww.symm; clear hww))
    go_loopg [18] 1 (fun kq v18 w' => v18 = .int .i64 0 ∧ w' = w1)
    case atStart => exact ⟨rfl, rfl⟩
    case round =>
      obtain ⟨rfl, rfl⟩ := hrel
      have d1 : decide ((0 : Int) < ((0 : Nat) : Int)) = false := rfl
      have d2 : decide ((0 : Int) < (([] : List Int).length : Int)) = false := rfl
      have d3 : decide ((0 : Int) < 0) = false := rfl
      go_wp2_with (go_at_call 10; go_loud (refine (enc_calls A1 c1 [] wr (Kd.C_any_nil A1 wr) (Nat.zero_le _) (by simp)).mono ?_; rintro e w' ⟨rfl, hb⟩; have HB2 := Aside0.mk (below_step HB.out hb); clear hb))
      go_ret
      exact ⟨rfl, HB2.out⟩
  · have hp : 0 < xs.length := List.length_pos_iff.mpr e
    have HP := Aside0.mk hp
    clear e hp
    go_enter Try.func32, Try.ntmps32
    go_wp2_with (first | (go_at_call 11; refine (impl_CodePoints.calls s xs w HX.out).mono ?_; rintro e w1 ⟨v, rfl, ho, hb⟩; obtain ⟨g, cap, e1, hg, hrow⟩ := rowAt_of_R ho HP.out; have HB := Aside0.mk hb; have HG := Aside0.mk hg; have HR := Aside0.mk hrow; clear ho hb hg hrow; subst e1) | (go_at_call 52; refine (Try.slices_Reverse_int_cells g 0 xs.length cap xs w1 (Nat.le_refl _) (by have := HL.out; omega) (fun j hj => by rw [Nat.zero_add]; exact HR.out.cell j hj) (fun j _ => HR.out.frozen _)).mono ?_; rintro e w' ⟨rfl, q, rfl⟩; have HR2 : Aside0 (RowAt ((w1.drewN q).setCells g 0 ((xs.take xs.length).reverse.map (Value.int .i64))) g cap xs.reverse) := ⟨by have := (HR.out.move (w1 := w1.drewN q) rfl).cells 0 (xs.take xs.length).reverse (by simp); simpa using this⟩; have HB2 := Aside0.mk (below_cells (pw_below_drewN HB.out q) HG.out ((xs.take xs.length).reverse.map (Value.int .i64)) 0); generalize (w1.drewN q).setCells g 0 ((xs.take xs.length).reverse.map (Value.int .i64)) = w2 at HR2 HB2 ⊢; clear HR HB))
    have hln : (xs.reverse.map mirF).length = xs.length := by simp
    go_loopg [18] xs.length (fun kq v18 w' => ∃ (i : Nat) (ys : List Int), v18 = .int .i64 (i : Int) ∧ Aside0 (i + kq = xs.length) ∧ Aside0 (ys.length = xs.length) ∧ Aside0 (ys.take i = (xs.reverse.map mirF).take i ∧ ys.drop i = xs.reverse.drop i) ∧ Aside0 (RowAt w' g cap ys) ∧ Aside0 (Below w.heap.size w w'))
    case atStart => exact ⟨0, xs.reverse, rfl, ⟨by omega⟩, ⟨by simp⟩, ⟨rfl, rfl⟩, HR2, HB2⟩
    case round =>
      clear HR2 HB2
      obtain ⟨i, ys, rfl, HI, HY, HT, HR, HB⟩ := hrel
      by_cases c : i < xs.length
      · have c1 : decide ((i : Int) < (xs.length : Int)) = true := decide_eq_true (by omega)
        have c1n : decide (i < xs.length) = true := decide_eq_true c
        have hk : gk ≠ 0 := by have := HI.out; omega
        obtain ⟨k1, rfl⟩ := Nat.exists_eq_succ_of_ne_zero hk
        clear hk
        have hi : i < ys.length := by rw [HY.out]; exact c
        have hx := HR.out.cell i hi
        have hf := HR.out.frozen i
        obtain ⟨x, hxx⟩ : ∃ x, x = ys.getD i 0 := ⟨_, rfl⟩
        rw [← hxx] at hx
        have HM := Aside0.mk (mir_some x)
        have p1 := eq_true (show 0 ≤ (i : Int) by omega)
        have q1 := eq_true (show (i : Int) < (xs.length : Int) by omega)
        have HT3 : Aside0 ((ys.take i ++ [mirF x] ++ ys.drop (i + 1)).take (i + 1) = (xs.reverse.map mirF).take (i + 1) ∧ (ys.take i ++ [mirF x] ++ ys.drop (i + 1)).drop (i + 1) = xs.reverse.drop (i + 1)) := by
          have h1 := HT.out.1
          have h2 := HT.out.2
          rw [List.drop_eq_getElem_cons hi, List.drop_eq_getElem_cons (l := xs.reverse) (by simp; omega)] at h2
          obtain ⟨h3, h4⟩ := List.cons.inj h2
          have hlt : (ys.take i ++ [mirF x]).length = i + 1 := by simp; omega
          have hxe : x = ys[i] := by rw [hxx]; simp [List.getElem?_eq_getElem hi]
          refine ⟨?_, ?_⟩
          · rw [List.take_left' hlt, List.take_succ_eq_append_getElem (l := xs.reverse.map mirF) (by simp; omega), h1, List.getElem_map, hxe, h3]
          · rw [List.drop_left' hlt, h4]
        have HL3 : Aside0 ((ys.take i ++ [mirF x] ++ ys.drop (i + 1)).length = xs.length) := ⟨by have := HY.out; simp; omega⟩
        have hw : wrap64 ((i : Int) + 1) = ((i + 1 : Nat) : Int) := by have := HL.out; unfold wrap64; omega
        replace hw := Aside0.mk hw
        clear c hxx
        go_wp2_with (go_at_call 53; go_loud (refine (impl_Mirror.calls 20 x (mirF x) wr HM.out).mono ?_; rintro e w' ⟨rfl, hb⟩; have HR4 := Aside0.mk (HR.out.below hb); have HB4 := Aside0.mk (below_step HB.out hb); clear hx hf HR HB hb; have hf := HR4.out.frozen i; have HR3 : Aside0 (RowAt (w'.setCell ⟨g, i, none⟩ (.int .i64 (mirF x))) g cap (ys.take i ++ [mirF x] ++ ys.drop (i + 1))) := ⟨HR4.out.cells i [mirF x] (by simp; omega)⟩; have HB3 : Aside0 (Below w.heap.size w (w'.setCell ⟨g, i, none⟩ (.int .i64 (mirF x)))) := ⟨below_set HB4.out HG.out⟩; have hx : w'.cell? ⟨g, i, none⟩ = some (.int .i64 (ys.getD i 0)) := HR4.out.cell i (by omega); clear HR4 HB4))
        go_roundg k1
        case measure => omega
        case rel => exact ⟨i + 1, _, congrArg (Value.int .i64) hw.out, ⟨by have := HI.out; omega⟩, HL3, HT3, HR3, HB3⟩
      · have c1 : decide ((i : Int) < (xs.length : Int)) = false := decide_eq_false (by omega)
        have c1n : decide (i < xs.length) = false := decide_eq_false c
        have hi : i = xs.length := by have := HI.out; omega
        have HE : Aside0 (ys = xs.reverse.map mirF) := ⟨by have := HT.out.1; rwa [List.take_of_length_le (by have := HY.out; omega), List.take_of_length_le (by omega)] at this⟩
        clear hi c HT
        go_wp2_with (go_at_call 10; have hq := enc_calls (some ⟨g, 0, none⟩) cap ys wr HR.out.C (by obtain ⟨_, _, h, _⟩ := HR.out; exact h) (by rw [HY.out]; exact HL.out); rw [HY.out] at hq; refine hq.mono ?_; clear hq; rintro e w' ⟨rfl, hb⟩; have HB2 := Aside0.mk (below_step HB.out hb); clear hb)
        go_ret
        exact ⟨congrArg (fun z => Ending.returned (.string (strOfNums (encU z)))) HE.out, HB2.out⟩
def impl_Mirrored.f (a0 : ByteArray) (a1 : Int) : Option ByteArray := if Int.tmod a1 2 = 0 then some a0 else (impl_CodePoints.f a0).bind fun xs => if xs.length ≤ 1099511627776 then some (strOfNums (encU (xs.reverse.map mirF))) else none
theorem impl_Mirrored.calls (a0 : ByteArray) (a1 : Int) (r : ByteArray) (w : World) (h : impl_Mirrored.f a0 a1 = some r) :
    Calls Try.prog 32 #[.string a0, .int .i64 a1] w fun e w' => e = .returned (.string r) ∧ Below w.heap.size w w' := by
  unfold impl_Mirrored.f at h
  by_cases c : Int.tmod a1 2 = 0
  · rw [if_pos c] at h
    obtain rfl := Option.some.inj h
    exact mir_even a0 a1 w c
  · rw [if_neg c] at h
    obtain ⟨xs, hx, h⟩ := Option.bind_eq_some_iff.1 h
    by_cases d : xs.length ≤ 1099511627776
    · rw [if_pos d] at h
      obtain rfl := Option.some.inj h
      exact mir_calls a0 a1 w xs c hx d
    · rw [if_neg d] at h
      cases h

/-! ### laws_FnExactMirrored: function 7 -/
def laws_FnExactMirrored.f (k : Nat) (a0 : ByteArray) (a1 : Int) : Option (Bool) := if (a0.size : Int) > 1048576 then (some true) else ((spec_Mirrored.f k a0 a1).bind fun t172 => ((impl_Mirrored.f a0 a1).bind fun t173 => (if t173.toList = t172.toList then (some true) else (some false))))
theorem laws_FnExactMirrored.mono : ∀ a0 a1 k, LeO (laws_FnExactMirrored.f k a0 a1) (laws_FnExactMirrored.f (k + 1) a0 a1) := by
  intro a0 a1 k
  unfold laws_FnExactMirrored.f
  repeat' first
      | (with_reducible exact spec_Mirrored.mono _ _ _)
      | (with_reducible exact LeO.refl _)
      | (with_reducible exact LeO.none _)
      | (with_reducible refine LeO.ite ?_ ?_)
      | (with_reducible refine LeO.bind ?_ (fun _ => ?_))
      | exact spec_Mirrored.mono _ _ _
      | exact LeO.none _
      | refine LeO.ite ?_ ?_
      | refine LeO.bind ?_ (fun _ => ?_)
set_option maxHeartbeats 8000000 in
set_option maxRecDepth 100000 in
theorem laws_FnExactMirrored.calls (k : Nat) (a0 : ByteArray) (a1 : Int) (r : Bool) (w : World) (h : laws_FnExactMirrored.f k a0 a1 = some r) :
    Calls Try.prog 7 #[.string a0, .int .i64 a1] w fun e w' => e = .returned (.bool r) ∧ Below w.heap.size w w' := by
  have HB := Aside0.mk (Below.refl w.heap.size w)
  have H : (if (a0.size : Int) > 1048576 then (some true) else ((spec_Mirrored.f k a0 a1).bind fun t172 => ((impl_Mirrored.f a0 a1).bind fun t173 => (if t173.toList = t172.toList then (some true) else (some false))))) = some r := h
  clear h
  by_cases c3 : (a0.size : Int) > 1048576
  · rw [if_pos c3] at H
    have c3b0 : decide (1048576 < (a0.size : Int)) = true := decide_eq_true c3
    have c3b1 : decide (1048576 < a0.size) = true := decide_eq_true (by omega)
    clear c3
    obtain rfl := Option.some.inj H
    go_enter Try.func7, Try.ntmps7
    go_wp2
    go_ret
    exact ⟨by first | rfl | (simp [errW_none, errW_some] <;> rfl) | (simp [*, errW_none, errW_some] <;> rfl), by repeat (first | (with_reducible first | exact HB.out | apply below_alloc | apply pw_below_drewN | apply below_drew1) | exact HB.out)⟩
  · rw [if_neg c3] at H
    have c3b0 : decide (1048576 < (a0.size : Int)) = false := decide_eq_false c3
    have c3b1 : decide (1048576 < a0.size) = false := decide_eq_false (by omega)
    clear c3
    replace H := Option.bind_eq_some_iff.mp H
    obtain ⟨t172, A40, H⟩ := H
    replace H : ((impl_Mirrored.f a0 a1).bind fun t173 => (if t173.toList = t172.toList then (some true) else (some false))) = some r := H
    have A4 := Aside0.mk A40
    clear A40
    replace H := Option.bind_eq_some_iff.mp H
    obtain ⟨t173, A50, H⟩ := H
    replace H : (if t173.toList = t172.toList then (some true) else (some false)) = some r := H
    have A5 := Aside0.mk A50
    clear A50
    by_cases c6 : t173.toList = t172.toList
    · rw [if_pos c6] at H
      have c6b0 : (t173.toList == t172.toList) = true := beq_iff_eq.mpr c6
      have c6b1 : (t173.toList != t172.toList) = false := bne_eq_false_iff_eq.mpr c6
      clear c6
      obtain rfl := Option.some.inj H
      go_enter Try.func7, Try.ntmps7
      go_wp2_with (first | ((with_reducible refine gate_callee (f := 31) rfl ?_); refine goesL_ (some 12) rfl rfl Try.func31 (by kernel_rfl) rfl #[.string a0, .int .i64 a1] rfl (by (try simp only [List.map_toArray, List.map_cons, List.map_nil]); first | done | rfl | (simp only [List.length_drop, List.length_take]; rfl)) ?_; (with_reducible refine (spec_Mirrored.calls k a0 a1 t172 _ A4.out).mono ?_); rintro e w7 ⟨rfl, hb⟩; refine ⟨_, rfl, ?_⟩; have n0_ := Aside0.mk (below_step (by repeat (first | (with_reducible first | exact HB.out | apply below_alloc | apply pw_below_drewN | apply below_drew1) | exact HB.out)) hb); clear HB; have HB := n0_; clear n0_; (try clear hb); (try clear hb2); (try clear hk); (try clear hi)) | ((with_reducible refine gate_callee (f := 32) rfl ?_); refine goesL_ (some 15) rfl rfl Try.func32 (by kernel_rfl) rfl #[.string a0, .int .i64 a1] rfl (by (try simp only [List.map_toArray, List.map_cons, List.map_nil]); first | done | rfl | (simp only [List.length_drop, List.length_take]; rfl)) ?_; (with_reducible refine (impl_Mirrored.calls a0 a1 t173 _ A5.out).mono ?_); rintro e w8 ⟨rfl, hb⟩; refine ⟨_, rfl, ?_⟩; have n0_ := Aside0.mk (below_step (by repeat (first | (with_reducible first | exact HB.out | apply below_alloc | apply pw_below_drewN | apply below_drew1) | exact HB.out)) hb); clear HB; have HB := n0_; clear n0_; (try clear hb); (try clear hb2); (try clear hk); (try clear hi)))
      go_ret
      exact ⟨by first | rfl | (simp [errW_none, errW_some] <;> rfl) | (simp [*, errW_none, errW_some] <;> rfl), by repeat (first | (with_reducible first | exact HB.out | apply below_alloc | apply pw_below_drewN | apply below_drew1) | exact HB.out)⟩
    · rw [if_neg c6] at H
      have c6b0 : (t173.toList == t172.toList) = false := beq_eq_false_iff_ne.mpr c6
      have c6b1 : (t173.toList != t172.toList) = true := bne_iff_ne.mpr c6
      obtain rfl := Option.some.inj H
      go_enter Try.func7, Try.ntmps7
      go_wp2_with (first | ((with_reducible refine gate_callee (f := 31) rfl ?_); refine goesL_ (some 12) rfl rfl Try.func31 (by kernel_rfl) rfl #[.string a0, .int .i64 a1] rfl (by (try simp only [List.map_toArray, List.map_cons, List.map_nil]); first | done | rfl | (simp only [List.length_drop, List.length_take]; rfl)) ?_; (with_reducible refine (spec_Mirrored.calls k a0 a1 t172 _ A4.out).mono ?_); rintro e w9 ⟨rfl, hb⟩; refine ⟨_, rfl, ?_⟩; have n0_ := Aside0.mk (below_step (by repeat (first | (with_reducible first | exact HB.out | apply below_alloc | apply pw_below_drewN | apply below_drew1) | exact HB.out)) hb); clear HB; have HB := n0_; clear n0_; (try clear hb); (try clear hb2); (try clear hk); (try clear hi)) | ((with_reducible refine gate_callee (f := 32) rfl ?_); refine goesL_ (some 15) rfl rfl Try.func32 (by kernel_rfl) rfl #[.string a0, .int .i64 a1] rfl (by (try simp only [List.map_toArray, List.map_cons, List.map_nil]); first | done | rfl | (simp only [List.length_drop, List.length_take]; rfl)) ?_; (with_reducible refine (impl_Mirrored.calls a0 a1 t173 _ A5.out).mono ?_); rintro e w10 ⟨rfl, hb⟩; refine ⟨_, rfl, ?_⟩; have n0_ := Aside0.mk (below_step (by repeat (first | (with_reducible first | exact HB.out | apply below_alloc | apply pw_below_drewN | apply below_drew1) | exact HB.out)) hb); clear HB; have HB := n0_; clear n0_; (try clear hb); (try clear hb2); (try clear hk); (try clear hi)))
      go_ret
      exact ⟨by first | rfl | (simp [errW_none, errW_some] <;> rfl) | (simp [*, errW_none, errW_some] <;> rfl), by repeat (first | (with_reducible first | exact HB.out | apply below_alloc | apply pw_below_drewN | apply below_drew1) | exact HB.out)⟩

/-- THE ONE PURE STATEMENT of laws_FnExactMirrored: yours. -/
def laws_FnExactMirrored.Pure : Prop := ∀ (a0 : ByteArray) (a1 : Int), a0.size ≤ 140737488351232 → (Lit.int .i64 a1).wf = true → ∃ k, laws_FnExactMirrored.f k a0 a1 = some true
theorem laws_FnExactMirrored.walk (P : laws_FnExactMirrored.Pure) (a0 : ByteArray) (a1 : Int) (w : World) (w0 : a0.size ≤ 140737488351232) (w1 : (Lit.int .i64 a1).wf = true) :
    Calls Try.prog 7 #[.string a0, .int .i64 a1] w fun e w' => e = .returned (.bool true) ∧ Below w.heap.size w w' := by
  obtain ⟨k, h⟩ := P a0 a1 w0 w1
  refine (laws_FnExactMirrored.calls k a0 a1 true w h).mono ?_
  rintro e w' ⟨rfl, hd⟩
  exact ⟨rfl, hd⟩

end Go.Proofs.Ytmffcjjodkggcaa.MFnExactMirrored
