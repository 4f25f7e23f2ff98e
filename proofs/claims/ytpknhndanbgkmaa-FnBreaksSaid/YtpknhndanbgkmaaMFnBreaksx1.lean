-- Written by this session's own program (wip/gen/myprint.py).
import Derived.Test.YtpknhndanbgkmaaMFnBreaksx0
namespace Go.Proofs.Ytpknhndanbgkmaa.MFnBreaks
open Go.RowKit Go.Proofs.YtpknhndanbgkmaaW.PrintWords Go.Proofs.YtpknhndanbgkmaaW.PrintLast Go.Proofs.YtpknhndanbgkmaaW.PrintMore
attribute [local go_sem] max2_int min2_int max_two min_two max_three min_three max_four min_four   -- for this text's walks alone
set_option linter.unusedVariables false
set_option linter.unusedSimpArgs false

/-! ### laws_big: function 20 -/
def laws_big.f (l0 : List Int) : Option (Bool) := some (decide ((l0.length : Int) > 1048576))
set_option maxHeartbeats 8000000 in
set_option maxRecDepth 100000 in
theorem laws_big.calls (A0 : Option Addr) (c0 : Nat) (l0 : List Int) (r : Bool) (w : World) (hr0 : Kd.C (Kd.int .u8) w A0 l0.length l0) (hc0 : l0.length ≤ c0) (h : laws_big.f l0 = some r) :
    Calls Try.prog 20 #[.slice A0 l0.length c0] w fun e w' => e = .returned (.bool r) ∧ Drawn0 w w' := by
  have HR0 := Aside0.mk hr0
  have HC0 := Aside0.mk hc0
  clear hr0 hc0
  have H : (some (decide ((l0.length : Int) > 1048576))) = some r := h
  clear h
  obtain rfl := Option.some.inj H
  go_enter Try.func20, Try.ntmps20
  go_wp2
  go_ret
  exact ⟨by first | rfl | (simp; done) | (simp [*]; done), by repeat (first | exact Drawn0.refl _ | apply Drawn0.step)⟩

/-- A state of type 122 at block g of W; what its slices lead to came in by w0. -/
def IsS122 (w0 W : World) (g : Nat) (f0 : List Int) (f1 : Int) (f2 : Int) : Prop := ∃ A0 c0, W.heap[g]? = some (.cells #[.slice A0 f0.length c0, .int .i64 f1, .int .i64 f2] 122 (0, 0)) ∧ w0.heap.size ≤ g ∧ Kd.C (Kd.int .u8) w0 A0 f0.length f0
theorem IsS122.grown {w0 W : World} {g : Nat} {f0 : List Int} {f1 : Int} {f2 : Int} {W1 : World} {row : Option Nat} (h : IsS122 w0 W g f0 f1 f2) (hw : W.grownBy W1 row) (hne : some g ≠ row) : IsS122 w0 W1 g f0 f1 f2 := by
  obtain ⟨A0, c0, hb, hg, hr0⟩ := h
  exact ⟨A0, c0, blk_grown hb hw hne, hg, hr0⟩
theorem IsS122.own_neN {w0 W : World} {g : Nat} {f0 : List Int} {f1 : Int} {f2 : Int} {α : Type} {d : Kd α} {e : Nat} {base : Nat} {ok : Nat → Prop} {v : Value} {xs : List α} (h : IsS122 w0 W g f0 f1 f2) (ho : Kd.N d e W base ok v xs) (ht : e ≠ 122) : some g ≠ v.ownBlock := by
  obtain ⟨A0, c0, hb, hg, hr0⟩ := h
  exact Kd.N_ne ho hb ht
theorem IsS122.fresh {w0 W : World} {g : Nat} {f0 : List Int} {f1 : Int} {f2 : Int} (h : IsS122 w0 W g f0 f1 f2) : ∀ k, W.heap.size ≤ k → k ≠ g := by
  obtain ⟨A0, c0, hb, hg, hr0⟩ := h
  exact Kd.freshB hb
theorem IsS122.kept {w0 W : World} {g : Nat} {f0 : List Int} {f1 : Int} {f2 : Int} {W1 : World} {S : Nat → Prop} (h : IsS122 w0 W g f0 f1 f2) (hk : Kept W W1 S) (hne : ¬ S g) : IsS122 w0 W1 g f0 f1 f2 := by
  obtain ⟨A0, c0, hb, hg, hr0⟩ := h
  exact ⟨A0, c0, blk_kept hb hk hne, hg, hr0⟩
theorem IsS122.like {w0 W : World} {g : Nat} {f0 : List Int} {f1 : Int} {f2 : Int} {W1 : World} (h0 : IsS122 w0 W1 g f0 f1 f2) (h : IsS122 w0 W g f0 f1 f2) : IsS122 w0 W g f0 f1 f2 := h
theorem IsS122.below {w0 W : World} {g : Nat} {f0 : List Int} {f1 : Int} {f2 : Int} {W1 : World} (h : IsS122 w0 W g f0 f1 f2) (hw : Below W.heap.size W W1) : IsS122 w0 W1 g f0 f1 f2 := h.grown (grown_of_below hw none) (by simp)
theorem IsS122.alloc {w0 W : World} {g : Nat} {f0 : List Int} {f1 : Int} {f2 : Int} (h : IsS122 w0 W g f0 f1 f2) (o : Obj) : IsS122 w0 (W.alloc o) g f0 f1 f2 := h.below (below_alloc (Below.refl _ _) o)
theorem IsS122.drewN {w0 W : World} {g : Nat} {f0 : List Int} {f1 : Int} {f2 : Int} (h : IsS122 w0 W g f0 f1 f2) (m : Nat) : IsS122 w0 (W.drewN m) g f0 f1 f2 := h
theorem IsS122.drew {w0 W : World} {g : Nat} {f0 : List Int} {f1 : Int} {f2 : Int} (h : IsS122 w0 W g f0 f1 f2) : IsS122 w0 W.drew g f0 f1 f2 := h
theorem IsS122.at_ {w0 W : World} {g : Nat} {f0 : List Int} {f1 : Int} {f2 : Int} {w' : World} {m : Nat} (hq : W.drewN m = w') (h : IsS122 w0 W g f0 f1 f2) : IsS122 w0 w' g f0 f1 f2 := by subst hq; exact IsS122.drewN h m
theorem IsS122.apart {w0 W : World} {g : Nat} {f0 : List Int} {f1 : Int} {f2 : Int} {α : Type} {d : Kd α} {e : Nat} {base : Nat} {ok : Nat → Prop} {v : Value} {xs : List α} (h : IsS122 w0 W g f0 f1 f2) (ho : d.R e W base ok v xs) (ht : ∀ q, q ∈ e :: d.E → q ≠ 122) : d.R e W base (fun k => ok k ∧ k ≠ g) v xs := by
  obtain ⟨A0, c0, hb, hg, hr0⟩ := h
  exact Kd.R_types ho hb ht
theorem IsS122.own_ne {w0 W : World} {g : Nat} {f0 : List Int} {f1 : Int} {f2 : Int} {α : Type} {d : Kd α} {e : Nat} {base : Nat} {ok : Nat → Prop} {v : Value} {xs : List α} (h : IsS122 w0 W g f0 f1 f2) (ho : d.R e W base ok v xs) (ht : e ≠ 122) : some g ≠ v.ownBlock := by
  obtain ⟨A0, c0, hb, hg, hr0⟩ := h
  exact Kd.R_ne ho hb ht
theorem IsS122.apartQ {w0 W : World} {g : Nat} {f0 : List Int} {f1 : Int} {f2 : Int} {α : Type} {d : Kd α} {e : Nat} {base : Nat} {ok : Nat → Prop} {v : Value} {xs : List α} (h : IsS122 w0 W g f0 f1 f2) (ho : d.Q e W base ok v xs) (ht : ∀ q, q ∈ e :: d.E → q ≠ 122) : d.Q e W base (fun k => ok k ∧ k ≠ g) v xs := by
  obtain ⟨A0, c0, hb, hg, hr0⟩ := h
  exact Kd.Q_types ho hb ht
theorem IsS122.own_neQ {w0 W : World} {g : Nat} {f0 : List Int} {f1 : Int} {f2 : Int} {α : Type} {d : Kd α} {e : Nat} {base : Nat} {ok : Nat → Prop} {v : Value} {xs : List α} (h : IsS122 w0 W g f0 f1 f2) (ho : d.Q e W base ok v xs) (ht : e ≠ 122) : some g ≠ v.ownBlock := by
  obtain ⟨A0, c0, hb, hg, hr0⟩ := h
  exact Kd.Q_ne ho hb ht
theorem IsS122.apartS {w0 W : World} {g : Nat} {f0 : List Int} {f1 : Int} {f2 : Int} {α : Type} {d : Kd α} {e : Nat} {base : Nat} {ok : Nat → Prop} {v : Value} {xs : List α} (h : IsS122 w0 W g f0 f1 f2) (ho : d.S e W base ok v xs) (ht : ∀ q, q ∈ e :: d.E → q ≠ 122) : d.S e W base (fun k => ok k ∧ k ≠ g) v xs := by
  obtain ⟨A0, c0, hb, hg, hr0⟩ := h
  exact Kd.S_types ho hb ht
theorem IsS122.own_neS {w0 W : World} {g : Nat} {f0 : List Int} {f1 : Int} {f2 : Int} {α : Type} {d : Kd α} {e : Nat} {base : Nat} {ok : Nat → Prop} {v : Value} {xs : List α} (h : IsS122 w0 W g f0 f1 f2) (ho : d.S e W base ok v xs) (ht : e ≠ 122) : some g ≠ v.ownBlock := by
  obtain ⟨A0, c0, hb, hg, hr0⟩ := h
  exact Kd.S_ne ho hb ht
theorem IsS122.lt {w0 W : World} {g : Nat} {f0 : List Int} {f1 : Int} {f2 : Int} (h : IsS122 w0 W g f0 f1 f2) : g < W.heap.size := by
  obtain ⟨A0, c0, hb, hg, hr0⟩ := h
  exact blk_lt hb
theorem IsS122.ge {w0 W : World} {g : Nat} {f0 : List Int} {f1 : Int} {f2 : Int} (h : IsS122 w0 W g f0 f1 f2) : w0.heap.size ≤ g := by
  obtain ⟨A0, c0, hb, hg, hr0⟩ := h
  exact hg
theorem IsS122.ne_blk {w0 W : World} {g : Nat} {f0 : List Int} {f1 : Int} {f2 : Int} {a : Nat} {cs : Array Value} {t : TypeId} {fr : Nat × Nat} (h : IsS122 w0 W g f0 f1 f2) (hb2 : W.heap[a]? = some (.cells cs t fr)) (ht : t ≠ 122) : g ≠ a := by
  obtain ⟨A0, c0, hb, hg, hr0⟩ := h
  rintro rfl
  rw [hb] at hb2
  injection hb2 with hb2
  injection hb2 with _ ht2
  exact ht ht2.symm
theorem IsS122.far {w0 W : World} {g : Nat} {f0 : List Int} {f1 : Int} {f2 : Int} {p : Addr} (h : IsS122 w0 W g f0 f1 f2) (hne : g ≠ p.block) (u : Value) : IsS122 w0 (W.setCell p u) g f0 f1 f2 := by
  obtain ⟨A0, c0, hb, hg, hr0⟩ := h
  exact ⟨A0, c0, blk_far hb hne u, hg, hr0⟩
theorem cellS122_0 {W : World} {g : Nat} {A0 : Option Addr} {c0 : Nat} {f0 : List Int} {f1 : Int} {f2 : Int} (h : W.heap[g]? = some (.cells #[.slice A0 f0.length c0, .int .i64 f1, .int .i64 f2] 122 (0, 0))) : W.cell? ⟨g, 0, none⟩ = some (.slice A0 f0.length c0) := (blk_cell h 0).trans rfl
theorem cellS122_1 {W : World} {g : Nat} {A0 : Option Addr} {c0 : Nat} {f0 : List Int} {f1 : Int} {f2 : Int} (h : W.heap[g]? = some (.cells #[.slice A0 f0.length c0, .int .i64 f1, .int .i64 f2] 122 (0, 0))) : W.cell? ⟨g, 1, none⟩ = some (.int .i64 f1) := (blk_cell h 1).trans rfl
theorem IsS122.set_1 {w0 W : World} {g : Nat} {f0 : List Int} {f1 : Int} {f2 : Int} (h : IsS122 w0 W g f0 f1 f2) (x : Int) : IsS122 w0 (W.setCell ⟨g, 1, none⟩ (.int .i64 x)) g f0 x f2 := by
  obtain ⟨A0, c0, hb, hg, hr0⟩ := h
  exact ⟨A0, c0, by simpa using blk_set hb 1 (.int .i64 x), hg, hr0⟩
theorem cellS122_2 {W : World} {g : Nat} {A0 : Option Addr} {c0 : Nat} {f0 : List Int} {f1 : Int} {f2 : Int} (h : W.heap[g]? = some (.cells #[.slice A0 f0.length c0, .int .i64 f1, .int .i64 f2] 122 (0, 0))) : W.cell? ⟨g, 2, none⟩ = some (.int .i64 f2) := (blk_cell h 2).trans rfl
theorem IsS122.set_2 {w0 W : World} {g : Nat} {f0 : List Int} {f1 : Int} {f2 : Int} (h : IsS122 w0 W g f0 f1 f2) (x : Int) : IsS122 w0 (W.setCell ⟨g, 2, none⟩ (.int .i64 x)) g f0 f1 x := by
  obtain ⟨A0, c0, hb, hg, hr0⟩ := h
  exact ⟨A0, c0, by simpa using blk_set hb 2 (.int .i64 x), hg, hr0⟩
theorem IsS122.new (w0 W : World) (A0 : Option Addr) (c0 : Nat) (f0 : List Int) (f1 : Int) (f2 : Int) (hB : Below w0.heap.size w0 W) (hr0 : Kd.C (Kd.int .u8) w0 A0 f0.length f0) : IsS122 w0 (W.alloc (.cells #[.slice A0 f0.length c0, .int .i64 f1, .int .i64 f2] 122)) W.heap.size f0 f1 f2 := ⟨A0, c0, by simpa using heap_alloc_new W _, hB.size, hr0⟩

/-! ### spec_l1New: function 65 -/
def spec_l1New.l0 : Nat → List Int → Int → Int → Option (List Int × Int × Int)
  | 0, _, _, _ => none
  | k + 1, x0, x3, x4 => if x4 < (x0.length : Int) then (if x4 < 4000 then (if 0 ≤ x4 then (spec_l1New.l0 k x0 (Go.bits .and .i64 (wrap64 ((wrap64 ((wrap64 (x3 * 131)) + (wrap64 (rd x0 x4)))) + 7)) 1073741823) (wrap64 (x4 + 1))) else (none)) else (some (x0, 0, x3))) else (some (x0, 0, x3))
def spec_l1New.f (k : Nat) (l0 : List Int) : Option (List Int × Int × Int) := spec_l1New.l0 k l0 (wrap64 (91231 + (l0.length : Int))) 0
theorem spec_l1New.mono_l : ∀ k, (∀ y0 y1 y2, LeO (spec_l1New.l0 k y0 y1 y2) (spec_l1New.l0 (k + 1) y0 y1 y2))
  | 0 => fun _ _ _ r h => by simp [spec_l1New.l0] at h
  | k + 1 => by
    have ih0 := spec_l1New.mono_l k
    · intro y0 y1 y2
      unfold spec_l1New.l0
      repeat' first
      | (with_reducible exact ih0 _ _ _)
      | (with_reducible exact LeO.refl _)
      | (with_reducible exact LeO.none _)
      | (with_reducible refine LeO.ite ?_ ?_)
      | (with_reducible refine LeO.bind ?_ (fun _ => ?_))
      | exact ih0 _ _ _
      | exact LeO.none _
      | refine LeO.ite ?_ ?_
      | refine LeO.bind ?_ (fun _ => ?_)
theorem spec_l1New.mono : ∀ a0 k, LeO (spec_l1New.f k a0) (spec_l1New.f (k + 1) a0) := by
  intro a0 k
  have ih0 := spec_l1New.mono_l k
  unfold spec_l1New.f
  repeat' first
      | (with_reducible exact ih0 _ _ _)
      | (with_reducible exact LeO.refl _)
      | (with_reducible exact LeO.none _)
      | (with_reducible refine LeO.ite ?_ ?_)
      | (with_reducible refine LeO.bind ?_ (fun _ => ?_))
      | exact ih0 _ _ _
      | exact LeO.none _
      | refine LeO.ite ?_ ?_
      | refine LeO.bind ?_ (fun _ => ?_)
set_option maxHeartbeats 8000000 in
set_option maxRecDepth 100000 in
theorem spec_l1New.calls (k : Nat) (A0 : Option Addr) (c0 : Nat) (l0 : List Int) (r1 : List Int) (r2 : Int) (r3 : Int) (w0 w : World) (hB : Below w0.heap.size w0 w) (hr0 : Kd.C (Kd.int .u8) w0 A0 l0.length l0) (hc0 : l0.length ≤ c0) (h : spec_l1New.f k l0 = some (r1, r2, r3)) :
    Calls Try.prog 65 #[.slice A0 l0.length c0] w fun e w' => ∃ g_ : Nat, e = .returned (.pointer (some ⟨g_, 0, none⟩)) ∧ IsS122 w0 w' g_ r1 r2 r3 ∧ Below w0.heap.size w0 w' ∧ Below w.heap.size w w' := by
  have hu122 := Try.underlying122
  have HR0 := Aside0.mk hr0
  have HC0 := Aside0.mk hc0
  clear hr0 hc0
  have HBW := Aside0.mk (Below.refl w.heap.size w)
  have HW0 := Aside0.mk hB.size
  have HB := Aside0.mk hB
  clear hB
  have H : (spec_l1New.l0 k l0 (wrap64 (91231 + (l0.length : Int))) 0) = some (r1, r2, r3) := h
  clear h
  have H' := Aside0.mk H
  clear H
  go_enter Try.func65, Try.ntmps65
  go_wp2
  go_loopg [3, 4] k (fun kq v3 v4 w' => ∃ (x3_1 : Int) (x4_1 : Int), v3 = .int .i64 x3_1 ∧ v4 = .int .i64 x4_1 ∧ Aside0 (spec_l1New.l0 kq l0 x3_1 x4_1 = some (r1, r2, r3)) ∧ Aside0 (kq ≤ k) ∧ Aside0 (Below w0.heap.size w0 w') ∧ Aside0 (Below w.heap.size w w'))
  case atStart => exact ⟨(wrap64 (91231 + (l0.length : Int))), (0), (by first | rfl | (simp; done) | (simp [*]; done)), (by first | rfl | (simp; done) | (simp [*]; done)), H', ⟨Nat.le_refl _⟩, ⟨by repeat (first | (with_reducible first | exact HB.out | apply below_alloc | apply pw_below_drewN | apply below_drew1) | exact HB.out)⟩, ⟨by repeat (first | (with_reducible first | exact HBW.out | apply below_alloc | apply pw_below_drewN | apply below_drew1) | exact HBW.out)⟩⟩
  case round =>
    clear H'
    obtain ⟨x3_1, x4_1, rfl, rfl, HA, HK1, HB, HBW⟩ := hrel
    cases gk with
    | zero => exact absurd HA.out (by simp [spec_l1New.l0])
    | succ k1 =>
      have H := HA.out
      clear HA
      simp only [spec_l1New.l0] at H
      by_cases c2 : x4_1 < (l0.length : Int)
      · rw [if_pos c2] at H
        have c2b0 : decide (x4_1 < (l0.length : Int)) = true := decide_eq_true c2
        clear c2
        by_cases c3 : x4_1 < 4000
        · rw [if_pos c3] at H
          have c3b0 : decide (x4_1 < 4000) = true := decide_eq_true c3
          clear c3
          by_cases c4 : 0 ≤ x4_1
          · rw [if_pos c4] at H
            have c4b0 : decide (0 ≤ x4_1) = true := decide_eq_true c4
            clear c4
            have H' := Aside0.mk H
            clear H
            have p101 : 0 ≤ (x4_1 : Int) := of_decide_eq_true (by first | (with_reducible assumption) | assumption)
            have q101 : x4_1 < (l0.length : Int) := of_decide_eq_true (by first | (with_reducible assumption) | assumption)
            obtain ⟨ad101, e101, hx101_0⟩ := Kd.at_int HR0.out x4_1 p101 q101
            cases e101
            replace hx101_0 := pw_cell_below HB.out hx101_0
            replace p101 := eq_true p101
            replace q101 := eq_true q101
            go_wp2
            go_roundg k1
            case measure => have := HK1.out; omega
            case rel => exact ⟨(Go.bits .and .i64 (wrap64 ((wrap64 ((wrap64 (x3_1 * 131)) + (wrap64 (rd l0 x4_1)))) + 7)) 1073741823), (wrap64 (x4_1 + 1)), (by first | rfl | (simp; done) | (simp [*]; done)), (by first | rfl | (simp; done) | (simp [*]; done)), H', ⟨by have := HK1.out; omega⟩, ⟨by repeat (first | (with_reducible first | exact HB.out | apply below_alloc | apply pw_below_drewN | apply below_drew1) | exact HB.out)⟩, ⟨by repeat (first | (with_reducible first | exact HBW.out | apply below_alloc | apply pw_below_drewN | apply below_drew1) | exact HBW.out)⟩⟩
          · rw [if_neg c4] at H
            exact absurd H (by simp)
        · rw [if_neg c3] at H
          have c3b0 : decide (x4_1 < 4000) = false := decide_eq_false c3
          clear c3
          simp only [Option.some.injEq, Prod.mk.injEq] at H
          obtain ⟨rfl, rfl, rfl⟩ := H
          go_wp2_with (first | ((with_reducible refine gate_dst (N := 31) rfl ?_); refine box_event ?hg (N := 31) ?hd (cs := #[.slice A0 l0.length c0, .int .i64 0, .int .i64 x3_1]) (t := 122) ?hr ?_; (case hd => rfl); (case hg => rfl); (case hr => first | (go_simp; done) | (go_simp; rfl)); intro gb102 hg w5 hbox hb; have n0_ := Aside0.mk (below_step HBW.out hb); have n1_ := Aside0.mk (below_step (by repeat (first | (with_reducible first | exact HB.out | apply below_alloc | apply pw_below_drewN | apply below_drew1) | exact HB.out)) hb); have n2_ := Aside0.mk (hbox); have n3_ := Aside0.mk ((by rw [hg]; exact (below_size (by repeat (first | (with_reducible first | exact HBW.out | apply below_alloc | apply pw_below_drewN | apply below_drew1) | exact HBW.out))) : w.heap.size ≤ gb102)); have n4_ := Aside0.mk ((Nat.le_trans HW0.out (by rw [hg]; exact (below_size (by repeat (first | (with_reducible first | exact HBW.out | apply below_alloc | apply pw_below_drewN | apply below_drew1) | exact HBW.out))) : w.heap.size ≤ gb102) : w0.heap.size ≤ gb102)); clear HBW; clear HB; have HBW := n0_; have HB := n1_; have BK102 := n2_; have GW102 := n3_; have GE102 := n4_; clear n0_ n1_ n2_ n3_ n4_; clear hb hbox hg))
          go_ret
          exact ⟨_, rfl, (show IsS122 w0 _ gb102 l0 0 x3_1 from ⟨_, _, by (with_reducible repeat (first | refine blk_drewN ?_ _ | refine blk_drew ?_ | refine blk_alloc ?_ _)); exact BK102.out, GE102.out, HR0.out⟩), by repeat (first | (with_reducible first | exact HB.out | apply below_alloc | apply pw_below_drewN | apply below_drew1 | refine below_set ?_ GE102.out) | exact HB.out), by repeat (first | (with_reducible first | exact HBW.out | apply below_alloc | apply pw_below_drewN | apply below_drew1 | refine below_set ?_ GW102.out) | exact HBW.out)⟩
      · rw [if_neg c2] at H
        have c2b0 : decide (x4_1 < (l0.length : Int)) = false := decide_eq_false c2
        clear c2
        simp only [Option.some.injEq, Prod.mk.injEq] at H
        obtain ⟨rfl, rfl, rfl⟩ := H
        go_wp2_with (first | ((with_reducible refine gate_dst (N := 31) rfl ?_); refine box_event ?hg (N := 31) ?hd (cs := #[.slice A0 l0.length c0, .int .i64 0, .int .i64 x3_1]) (t := 122) ?hr ?_; (case hd => rfl); (case hg => rfl); (case hr => first | (go_simp; done) | (go_simp; rfl)); intro gb103 hg w6 hbox hb; have n0_ := Aside0.mk (below_step HBW.out hb); have n1_ := Aside0.mk (below_step (by repeat (first | (with_reducible first | exact HB.out | apply below_alloc | apply pw_below_drewN | apply below_drew1) | exact HB.out)) hb); have n2_ := Aside0.mk (hbox); have n3_ := Aside0.mk ((by rw [hg]; exact (below_size (by repeat (first | (with_reducible first | exact HBW.out | apply below_alloc | apply pw_below_drewN | apply below_drew1) | exact HBW.out))) : w.heap.size ≤ gb103)); have n4_ := Aside0.mk ((Nat.le_trans HW0.out (by rw [hg]; exact (below_size (by repeat (first | (with_reducible first | exact HBW.out | apply below_alloc | apply pw_below_drewN | apply below_drew1) | exact HBW.out))) : w.heap.size ≤ gb103) : w0.heap.size ≤ gb103)); clear HBW; clear HB; have HBW := n0_; have HB := n1_; have BK103 := n2_; have GW103 := n3_; have GE103 := n4_; clear n0_ n1_ n2_ n3_ n4_; clear hb hbox hg))
        go_ret
        exact ⟨_, rfl, (show IsS122 w0 _ gb103 l0 0 x3_1 from ⟨_, _, by (with_reducible repeat (first | refine blk_drewN ?_ _ | refine blk_drew ?_ | refine blk_alloc ?_ _)); exact BK103.out, GE103.out, HR0.out⟩), by repeat (first | (with_reducible first | exact HB.out | apply below_alloc | apply pw_below_drewN | apply below_drew1 | refine below_set ?_ GE103.out) | exact HB.out), by repeat (first | (with_reducible first | exact HBW.out | apply below_alloc | apply pw_below_drewN | apply below_drew1 | refine below_set ?_ GW103.out) | exact HBW.out)⟩

/-! ### spec_l1Size: function 66 -/
def spec_l1Size.f (l0 : List Int) (a1 : Int) : Option (Int) := if (wrap64 (3 + (wrap64 ((l0.length : Int) / 20)))) > a1 then (some a1) else (some (wrap64 (3 + (wrap64 ((l0.length : Int) / 20)))))
set_option maxHeartbeats 8000000 in
set_option maxRecDepth 100000 in
theorem spec_l1Size.calls (A0 : Option Addr) (c0 : Nat) (l0 : List Int) (a1 : Int) (r : Int) (w : World) (hr0 : Kd.C (Kd.int .u8) w A0 l0.length l0) (hc0 : l0.length ≤ c0) (h : spec_l1Size.f l0 a1 = some r) :
    Calls Try.prog 66 #[.slice A0 l0.length c0, .int .i64 a1] w fun e w' => e = .returned (.int .i64 r) ∧ Drawn0 w w' := by
  have HR0 := Aside0.mk hr0
  have HC0 := Aside0.mk hc0
  clear hr0 hc0
  have H : (if (wrap64 (3 + (wrap64 ((l0.length : Int) / 20)))) > a1 then (some a1) else (some (wrap64 (3 + (wrap64 ((l0.length : Int) / 20)))))) = some r := h
  clear h
  by_cases c3 : (wrap64 (3 + (wrap64 ((l0.length : Int) / 20)))) > a1
  · rw [if_pos c3] at H
    have c3b0 : decide (a1 < (wrap64 (3 + (wrap64 ((l0.length : Int) / 20))))) = true := decide_eq_true c3
    clear c3
    obtain rfl := Option.some.inj H
    go_enter Try.func66, Try.ntmps66
    go_wp2
    go_ret
    exact ⟨by first | rfl | (simp; done) | (simp [*]; done), by repeat (first | exact Drawn0.refl _ | apply Drawn0.step)⟩
  · rw [if_neg c3] at H
    have c3b0 : decide (a1 < (wrap64 (3 + (wrap64 ((l0.length : Int) / 20))))) = false := decide_eq_false c3
    clear c3
    obtain rfl := Option.some.inj H
    go_enter Try.func66, Try.ntmps66
    go_wp2
    go_ret
    exact ⟨by first | rfl | (simp; done) | (simp [*]; done), by repeat (first | exact Drawn0.refl _ | apply Drawn0.step)⟩

/-! ### spec_l1Byte: function 105 -/
def spec_l1Byte.f (s0_0 : List Int) (s0_1 : Int) (s0_2 : Int) : Option (Int × Int × Int) := if s0_1 < (s0_0.length : Int) then (if 0 ≤ s0_1 then (some (Go.bits .and .i64 (wrap64 ((Go.bits .and .i64 (Go.bits .xor .i64 ((wrap64 ((wrap64 (s0_2 * 6364136223846793005)) + 1442695040888963407)) / 8589934592) ((wrap64 ((wrap64 (s0_2 * 6364136223846793005)) + 1442695040888963407)) / 35184372088832)) 255) + (wrap64 (rd s0_0 s0_1)))) 255, wrap64 (s0_1 + 1), wrap64 ((wrap64 (s0_2 * 6364136223846793005)) + 1442695040888963407))) else (none)) else (some (Go.bits .and .i64 (Go.bits .xor .i64 ((wrap64 ((wrap64 (s0_2 * 6364136223846793005)) + 1442695040888963407)) / 8589934592) ((wrap64 ((wrap64 (s0_2 * 6364136223846793005)) + 1442695040888963407)) / 35184372088832)) 255, s0_1, wrap64 ((wrap64 (s0_2 * 6364136223846793005)) + 1442695040888963407)))
set_option maxHeartbeats 8000000 in
set_option maxRecDepth 100000 in
theorem spec_l1Byte.calls (g : Nat) (s0_0 : List Int) (s0_1 : Int) (s0_2 : Int) (r1 : Int) (r2 : Int) (r3 : Int) (w0 w : World) (hI : IsS122 w0 w g s0_0 s0_1 s0_2) (hB : Below w0.heap.size w0 w) (h : spec_l1Byte.f s0_0 s0_1 s0_2 = some (r1, r2, r3)) :
    Calls Try.prog 105 #[.pointer (some ⟨g, 0, none⟩)] w fun e w' => e = .returned (.int .i64 r1) ∧ IsS122 w0 w' g s0_0 r2 r3 ∧ Below w0.heap.size w0 w' ∧ KeepBut w w' g none := by
  have HI0 := Aside0.mk hI
  have HK := Aside0.mk (KeepBut.refl w g none)
  have HL := Aside0.mk hB.size
  clear hI
  have HW0 := Aside0.mk hB.size
  have HB := Aside0.mk hB
  clear hB
  have H : (if s0_1 < (s0_0.length : Int) then (if 0 ≤ s0_1 then (some (Go.bits .and .i64 (wrap64 ((Go.bits .and .i64 (Go.bits .xor .i64 ((wrap64 ((wrap64 (s0_2 * 6364136223846793005)) + 1442695040888963407)) / 8589934592) ((wrap64 ((wrap64 (s0_2 * 6364136223846793005)) + 1442695040888963407)) / 35184372088832)) 255) + (wrap64 (rd s0_0 s0_1)))) 255, wrap64 (s0_1 + 1), wrap64 ((wrap64 (s0_2 * 6364136223846793005)) + 1442695040888963407))) else (none)) else (some (Go.bits .and .i64 (Go.bits .xor .i64 ((wrap64 ((wrap64 (s0_2 * 6364136223846793005)) + 1442695040888963407)) / 8589934592) ((wrap64 ((wrap64 (s0_2 * 6364136223846793005)) + 1442695040888963407)) / 35184372088832)) 255, s0_1, wrap64 ((wrap64 (s0_2 * 6364136223846793005)) + 1442695040888963407)))) = some (r1, r2, r3) := h
  clear h
  by_cases c2 : s0_1 < (s0_0.length : Int)
  · rw [if_pos c2] at H
    have c2b0 : decide (s0_1 < (s0_0.length : Int)) = true := decide_eq_true c2
    clear c2
    by_cases c3 : 0 ≤ s0_1
    · rw [if_pos c3] at H
      have c3b0 : decide (0 ≤ s0_1) = true := decide_eq_true c3
      clear c3
      simp only [Option.some.injEq, Prod.mk.injEq] at H
      obtain ⟨rfl, rfl, rfl⟩ := H
      obtain ⟨ASz4_0, cSz4_0, HGz4, hgz4, HSz4_0⟩ := HI0.out
      have hcz4_0 := cellS122_0 HGz4
      have hcz4_1 := cellS122_1 HGz4
      have hcz4_2 := cellS122_2 HGz4
      have hfz4_1 := blk_frozen HGz4 1
      have hfz4_2 := blk_frozen HGz4 2
      clear HGz4 hgz4
      have p104 : 0 ≤ (s0_1 : Int) := of_decide_eq_true (by first | (with_reducible assumption) | assumption)
      have q104 : s0_1 < (s0_0.length : Int) := of_decide_eq_true (by first | (with_reducible assumption) | assumption)
      obtain ⟨ad104, e104, hx104_0⟩ := Kd.at_int HSz4_0 s0_1 p104 q104
      cases e104
      have hn104_0 : ad104.block ≠ g := Nat.ne_of_lt (Nat.lt_of_lt_of_le (by have := World.block_lt_of_cell? _ _ hx104_0; first | rwa [add_block] at this | exact this) (IsS122.ge HI0.out))
      replace hx104_0 := pw_cell_below HB.out hx104_0
      replace hx104_0 := (cell_far (p := ⟨g, 2, none⟩) (by first | (rw [add_block]; exact hn104_0) | (show (Addr.add _ _).block ≠ _; rw [add_block]; exact hn104_0) | exact hn104_0) (.int .i64 (wrap64 ((wrap64 (s0_2 * 6364136223846793005)) + 1442695040888963407)))).trans hx104_0
      (try have hy104_0 := fun (n_ : Nat) => (show (((w.drewN n_).setCell ⟨g, 2, none⟩ (.int .i64 (wrap64 ((wrap64 (s0_2 * 6364136223846793005)) + 1442695040888963407))))).cell? _ = some _ from hx104_0))
      clear hn104_0
      replace p104 := eq_true p104
      replace q104 := eq_true q104
      go_enter Try.func105, Try.ntmps105
      go_wp2
      repeat (go_quiet (fail); try go_wp2)
      go_ret
      exact ⟨by first | rfl | (simp [errW_none, errW_some] <;> rfl) | (simp [*, errW_none, errW_some] <;> rfl), by repeat (first | (with_reducible first | exact HI0.out | apply IsS122.alloc | apply IsS122.drewN | apply IsS122.drew | apply IsS122.set_1 | apply IsS122.set_2) | exact HI0.out), by repeat (first | (with_reducible first | exact HB.out | apply below_alloc | apply pw_below_drewN | apply below_drew1 | refine below_set ?_ (IsS122.ge HI0.out)) | exact HB.out), by repeat (first | (with_reducible first | exact HK.out | apply KeepBut.set_ | apply keep_drewN | apply keep_drew | apply keep_alloc) | exact HK.out)⟩
    · rw [if_neg c3] at H
      exact absurd H (by simp)
  · rw [if_neg c2] at H
    have c2b0 : decide (s0_1 < (s0_0.length : Int)) = false := decide_eq_false c2
    clear c2
    simp only [Option.some.injEq, Prod.mk.injEq] at H
    obtain ⟨rfl, rfl, rfl⟩ := H
    obtain ⟨ASz5_0, cSz5_0, HGz5, hgz5, HSz5_0⟩ := HI0.out
    have hcz5_0 := cellS122_0 HGz5
    have hcz5_1 := cellS122_1 HGz5
    have hcz5_2 := cellS122_2 HGz5
    have hfz5_1 := blk_frozen HGz5 1
    have hfz5_2 := blk_frozen HGz5 2
    clear HGz5 hgz5
    go_enter Try.func105, Try.ntmps105
    go_wp2
    repeat (go_quiet (fail); try go_wp2)
    go_ret
    exact ⟨by first | rfl | (simp [errW_none, errW_some] <;> rfl) | (simp [*, errW_none, errW_some] <;> rfl), by repeat (first | (with_reducible first | exact HI0.out | apply IsS122.alloc | apply IsS122.drewN | apply IsS122.drew | apply IsS122.set_1 | apply IsS122.set_2) | exact HI0.out), by repeat (first | (with_reducible first | exact HB.out | apply below_alloc | apply pw_below_drewN | apply below_drew1 | refine below_set ?_ (IsS122.ge HI0.out)) | exact HB.out), by repeat (first | (with_reducible first | exact HK.out | apply KeepBut.set_ | apply keep_drewN | apply keep_drew | apply keep_alloc) | exact HK.out)⟩

/-! ### spec_l1Below: function 67 -/
def spec_l1Below.f (s0_0 : List Int) (s0_1 : Int) (s0_2 : Int) (a1 : Int) : Option (Int × Int × Int) := if a1 ≤ 0 then (some (0, s0_1, s0_2)) else (if a1 ≤ 256 then ((spec_l1Byte.f s0_0 s0_1 s0_2).bind fun bt105 => (if a1 = 0 then (none) else (some (Int.tmod bt105.1 a1, bt105.2.1, bt105.2.2)))) else ((spec_l1Byte.f s0_0 s0_1 s0_2).bind fun bt108 => ((spec_l1Byte.f s0_0 bt108.2.1 bt108.2.2).bind fun bt111 => ((spec_l1Byte.f s0_0 bt111.2.1 bt111.2.2).bind fun bt114 => (if a1 = 0 then (none) else (some (Int.tmod (wrap64 ((wrap64 ((wrap64 (bt108.1 * 65536)) + (wrap64 (bt111.1 * 256)))) + bt114.1)) a1, bt114.2.1, bt114.2.2)))))))
set_option maxHeartbeats 8000000 in
set_option maxRecDepth 100000 in
theorem spec_l1Below.calls (g : Nat) (s0_0 : List Int) (s0_1 : Int) (s0_2 : Int) (a1 : Int) (r1 : Int) (r2 : Int) (r3 : Int) (w0 w : World) (hI : IsS122 w0 w g s0_0 s0_1 s0_2) (hB : Below w0.heap.size w0 w) (h : spec_l1Below.f s0_0 s0_1 s0_2 a1 = some (r1, r2, r3)) :
    Calls Try.prog 67 #[.pointer (some ⟨g, 0, none⟩), .int .i64 a1] w fun e w' => e = .returned (.int .i64 r1) ∧ IsS122 w0 w' g s0_0 r2 r3 ∧ Below w0.heap.size w0 w' ∧ KeepBut w w' g none := by
  have HI0 := Aside0.mk hI
  have HK := Aside0.mk (KeepBut.refl w g none)
  have HL := Aside0.mk hB.size
  clear hI
  have HW0 := Aside0.mk hB.size
  have HB := Aside0.mk hB
  clear hB
  have H : (if a1 ≤ 0 then (some (0, s0_1, s0_2)) else (if a1 ≤ 256 then ((spec_l1Byte.f s0_0 s0_1 s0_2).bind fun bt105 => (if a1 = 0 then (none) else (some (Int.tmod bt105.1 a1, bt105.2.1, bt105.2.2)))) else ((spec_l1Byte.f s0_0 s0_1 s0_2).bind fun bt108 => ((spec_l1Byte.f s0_0 bt108.2.1 bt108.2.2).bind fun bt111 => ((spec_l1Byte.f s0_0 bt111.2.1 bt111.2.2).bind fun bt114 => (if a1 = 0 then (none) else (some (Int.tmod (wrap64 ((wrap64 ((wrap64 (bt108.1 * 65536)) + (wrap64 (bt111.1 * 256)))) + bt114.1)) a1, bt114.2.1, bt114.2.2)))))))) = some (r1, r2, r3) := h
  clear h
  by_cases c3 : a1 ≤ 0
  · rw [if_pos c3] at H
    have c3b0 : decide (a1 ≤ 0) = true := decide_eq_true c3
    clear c3
    simp only [Option.some.injEq, Prod.mk.injEq] at H
    obtain ⟨rfl, rfl, rfl⟩ := H
    go_enter Try.func67, Try.ntmps67
    go_wp2
    go_ret
    exact ⟨by first | rfl | (simp [errW_none, errW_some] <;> rfl) | (simp [*, errW_none, errW_some] <;> rfl), by repeat (first | (with_reducible first | exact HI0.out | apply IsS122.alloc | apply IsS122.drewN | apply IsS122.drew | apply IsS122.set_1 | apply IsS122.set_2) | exact HI0.out), by repeat (first | (with_reducible first | exact HB.out | apply below_alloc | apply pw_below_drewN | apply below_drew1 | refine below_set ?_ (IsS122.ge HI0.out)) | exact HB.out), by repeat (first | (with_reducible first | exact HK.out | apply KeepBut.set_ | apply keep_drewN | apply keep_drew | apply keep_alloc) | exact HK.out)⟩
  · rw [if_neg c3] at H
    have c3b0 : decide (a1 ≤ 0) = false := decide_eq_false c3
    clear c3
    by_cases c4 : a1 ≤ 256
    · rw [if_pos c4] at H
      have c4b0 : decide (a1 ≤ 256) = true := decide_eq_true c4
      clear c4
      replace H := Option.bind_eq_some_iff.mp H
      obtain ⟨⟨t105, t106, t107⟩, A50, H⟩ := H
      replace H : (if a1 = 0 then (none) else (some (Int.tmod t105 a1, t106, t107))) = some (r1, r2, r3) := H
      have A5 := Aside0.mk A50
      clear A50
      by_cases c6 : a1 = 0
      · rw [if_pos c6] at H
        exact absurd H (by simp)
      · rw [if_neg c6] at H
        have c6b0 : (a1 == 0) = false := beq_eq_false_iff_ne.mpr c6
        have c6b1 : (a1 != 0) = true := bne_iff_ne.mpr c6
        simp only [Option.some.injEq, Prod.mk.injEq] at H
        obtain ⟨rfl, rfl, rfl⟩ := H
        go_enter Try.func67, Try.ntmps67
        go_wp2_with (first | ((with_reducible refine gate_callee (f := 105) rfl ?_); refine goesL_ (some 13) rfl rfl Try.func105 (by kernel_rfl) rfl #[.pointer (some ⟨g, 0, none⟩)] rfl (by (try simp only [List.map_toArray, List.map_cons, List.map_nil]); first | done | rfl | (simp only [List.length_drop, List.length_take]; rfl)) ?_; (with_reducible refine (spec_l1Byte.calls g s0_0 s0_1 s0_2 t105 t106 t107 w0 _ ?side1 ?side2 A5.out).mono ?_); (case side1 => repeat (first | (with_reducible first | exact HI0.out | apply IsS122.alloc | apply IsS122.drewN | apply IsS122.drew | apply IsS122.set_1 | apply IsS122.set_2) | exact HI0.out)); (case side2 => repeat (first | (with_reducible first | exact HB.out | apply below_alloc | apply pw_below_drewN | apply below_drew1 | refine below_set ?_ (IsS122.ge HI0.out)) | exact HB.out)); rintro e w7 ⟨rfl, hi, hb, hk⟩; refine ⟨_, rfl, ?_⟩; have n0_ := Aside0.mk (KeepBut.trans (by repeat (first | (with_reducible first | exact HK.out | apply KeepBut.set_ | apply keep_drewN | apply keep_drew | apply keep_alloc) | exact HK.out)) hk (.inl rfl)); have n1_ := Aside0.mk (hb); have n2_ := Aside0.mk (hi); clear HK; clear HB; clear HI0; have HK := n0_; have HB := n1_; have HI0 := n2_; clear n0_ n1_ n2_; (try clear hb); (try clear hb2); (try clear hk); (try clear hi)))
        go_ret
        exact ⟨by first | rfl | (simp [errW_none, errW_some] <;> rfl) | (simp [*, errW_none, errW_some] <;> rfl), by repeat (first | (with_reducible first | exact HI0.out | apply IsS122.alloc | apply IsS122.drewN | apply IsS122.drew | apply IsS122.set_1 | apply IsS122.set_2) | exact HI0.out), by repeat (first | (with_reducible first | exact HB.out | apply below_alloc | apply pw_below_drewN | apply below_drew1 | refine below_set ?_ (IsS122.ge HI0.out)) | exact HB.out), by repeat (first | (with_reducible first | exact HK.out | apply KeepBut.set_ | apply keep_drewN | apply keep_drew | apply keep_alloc) | exact HK.out)⟩
    · rw [if_neg c4] at H
      have c4b0 : decide (a1 ≤ 256) = false := decide_eq_false c4
      clear c4
      replace H := Option.bind_eq_some_iff.mp H
      obtain ⟨⟨t108, t109, t110⟩, A80, H⟩ := H
      replace H : ((spec_l1Byte.f s0_0 t109 t110).bind fun bt111 => ((spec_l1Byte.f s0_0 bt111.2.1 bt111.2.2).bind fun bt114 => (if a1 = 0 then (none) else (some (Int.tmod (wrap64 ((wrap64 ((wrap64 (t108 * 65536)) + (wrap64 (bt111.1 * 256)))) + bt114.1)) a1, bt114.2.1, bt114.2.2))))) = some (r1, r2, r3) := H
      have A8 := Aside0.mk A80
      clear A80
      replace H := Option.bind_eq_some_iff.mp H
      obtain ⟨⟨t111, t112, t113⟩, A90, H⟩ := H
      replace H : ((spec_l1Byte.f s0_0 t112 t113).bind fun bt114 => (if a1 = 0 then (none) else (some (Int.tmod (wrap64 ((wrap64 ((wrap64 (t108 * 65536)) + (wrap64 (t111 * 256)))) + bt114.1)) a1, bt114.2.1, bt114.2.2)))) = some (r1, r2, r3) := H
      have A9 := Aside0.mk A90
      clear A90
      replace H := Option.bind_eq_some_iff.mp H
      obtain ⟨⟨t114, t115, t116⟩, A100, H⟩ := H
      replace H : (if a1 = 0 then (none) else (some (Int.tmod (wrap64 ((wrap64 ((wrap64 (t108 * 65536)) + (wrap64 (t111 * 256)))) + t114)) a1, t115, t116))) = some (r1, r2, r3) := H
      have A10 := Aside0.mk A100
      clear A100
      by_cases c11 : a1 = 0
      · rw [if_pos c11] at H
        exact absurd H (by simp)
      · rw [if_neg c11] at H
        have c11b0 : (a1 == 0) = false := beq_eq_false_iff_ne.mpr c11
        have c11b1 : (a1 != 0) = true := bne_iff_ne.mpr c11
        simp only [Option.some.injEq, Prod.mk.injEq] at H
        obtain ⟨rfl, rfl, rfl⟩ := H
        go_enter Try.func67, Try.ntmps67
        go_wp2_with (first | ((with_reducible refine gate_callee (f := 105) rfl ?_); refine goesL_ (some 17) rfl rfl Try.func105 (by kernel_rfl) rfl #[.pointer (some ⟨g, 0, none⟩)] rfl (by (try simp only [List.map_toArray, List.map_cons, List.map_nil]); first | done | rfl | (simp only [List.length_drop, List.length_take]; rfl)) ?_; (with_reducible refine (spec_l1Byte.calls g s0_0 s0_1 s0_2 t108 t109 t110 w0 _ ?side1 ?side2 A8.out).mono ?_); (case side1 => repeat (first | (with_reducible first | exact HI0.out | apply IsS122.alloc | apply IsS122.drewN | apply IsS122.drew | apply IsS122.set_1 | apply IsS122.set_2) | exact HI0.out)); (case side2 => repeat (first | (with_reducible first | exact HB.out | apply below_alloc | apply pw_below_drewN | apply below_drew1 | refine below_set ?_ (IsS122.ge HI0.out)) | exact HB.out)); rintro e w12 ⟨rfl, hi, hb, hk⟩; refine ⟨_, rfl, ?_⟩; have n0_ := Aside0.mk (KeepBut.trans (by repeat (first | (with_reducible first | exact HK.out | apply KeepBut.set_ | apply keep_drewN | apply keep_drew | apply keep_alloc) | exact HK.out)) hk (.inl rfl)); have n1_ := Aside0.mk (hb); have n2_ := Aside0.mk (hi); clear HK; clear HB; clear HI0; have HK := n0_; have HB := n1_; have HI0 := n2_; clear n0_ n1_ n2_; (try clear hb); (try clear hb2); (try clear hk); (try clear hi)) | ((with_reducible refine gate_callee (f := 105) rfl ?_); refine goesL_ (some 19) rfl rfl Try.func105 (by kernel_rfl) rfl #[.pointer (some ⟨g, 0, none⟩)] rfl (by (try simp only [List.map_toArray, List.map_cons, List.map_nil]); first | done | rfl | (simp only [List.length_drop, List.length_take]; rfl)) ?_; (with_reducible refine (spec_l1Byte.calls g s0_0 t109 t110 t111 t112 t113 w0 _ ?side1 ?side2 A9.out).mono ?_); (case side1 => repeat (first | (with_reducible first | exact HI0.out | apply IsS122.alloc | apply IsS122.drewN | apply IsS122.drew | apply IsS122.set_1 | apply IsS122.set_2) | exact HI0.out)); (case side2 => repeat (first | (with_reducible first | exact HB.out | apply below_alloc | apply pw_below_drewN | apply below_drew1 | refine below_set ?_ (IsS122.ge HI0.out)) | exact HB.out)); rintro e w13 ⟨rfl, hi, hb, hk⟩; refine ⟨_, rfl, ?_⟩; have n0_ := Aside0.mk (KeepBut.trans (by repeat (first | (with_reducible first | exact HK.out | apply KeepBut.set_ | apply keep_drewN | apply keep_drew | apply keep_alloc) | exact HK.out)) hk (.inl rfl)); have n1_ := Aside0.mk (hb); have n2_ := Aside0.mk (hi); clear HK; clear HB; clear HI0; have HK := n0_; have HB := n1_; have HI0 := n2_; clear n0_ n1_ n2_; (try clear hb); (try clear hb2); (try clear hk); (try clear hi)) | ((with_reducible refine gate_callee (f := 105) rfl ?_); refine goesL_ (some 21) rfl rfl Try.func105 (by kernel_rfl) rfl #[.pointer (some ⟨g, 0, none⟩)] rfl (by (try simp only [List.map_toArray, List.map_cons, List.map_nil]); first | done | rfl | (simp only [List.length_drop, List.length_take]; rfl)) ?_; (with_reducible refine (spec_l1Byte.calls g s0_0 t112 t113 t114 t115 t116 w0 _ ?side1 ?side2 A10.out).mono ?_); (case side1 => repeat (first | (with_reducible first | exact HI0.out | apply IsS122.alloc | apply IsS122.drewN | apply IsS122.drew | apply IsS122.set_1 | apply IsS122.set_2) | exact HI0.out)); (case side2 => repeat (first | (with_reducible first | exact HB.out | apply below_alloc | apply pw_below_drewN | apply below_drew1 | refine below_set ?_ (IsS122.ge HI0.out)) | exact HB.out)); rintro e w14 ⟨rfl, hi, hb, hk⟩; refine ⟨_, rfl, ?_⟩; have n0_ := Aside0.mk (KeepBut.trans (by repeat (first | (with_reducible first | exact HK.out | apply KeepBut.set_ | apply keep_drewN | apply keep_drew | apply keep_alloc) | exact HK.out)) hk (.inl rfl)); have n1_ := Aside0.mk (hb); have n2_ := Aside0.mk (hi); clear HK; clear HB; clear HI0; have HK := n0_; have HB := n1_; have HI0 := n2_; clear n0_ n1_ n2_; (try clear hb); (try clear hb2); (try clear hk); (try clear hi)))
        go_ret
        exact ⟨by first | rfl | (simp [errW_none, errW_some] <;> rfl) | (simp [*, errW_none, errW_some] <;> rfl), by repeat (first | (with_reducible first | exact HI0.out | apply IsS122.alloc | apply IsS122.drewN | apply IsS122.drew | apply IsS122.set_1 | apply IsS122.set_2) | exact HI0.out), by repeat (first | (with_reducible first | exact HB.out | apply below_alloc | apply pw_below_drewN | apply below_drew1 | refine below_set ?_ (IsS122.ge HI0.out)) | exact HB.out), by repeat (first | (with_reducible first | exact HK.out | apply KeepBut.set_ | apply keep_drewN | apply keep_drew | apply keep_alloc) | exact HK.out)⟩

/-! ### spec_DrawBreaks: function 21 -/
def spec_DrawBreaks.l0 : Nat → List Int → Int → List Int → Int → Int → Option (List Int)
  | 0, _, _, _, _, _ => none
  | k + 1, x4, x5, x121000, x121001, x121002 => if x5 > 0 then ((some (([10, 32, 8203, 160, 769, 45, 40, 41, 46, 34, 19968, 49, 97, 98, 32, 12354, 173] : List Int) : List Int)).bind fun y125 => ((spec_l1Below.f x121000 x121001 x121002 17).bind fun bt128 => (if 0 ≤ bt128.1 then (if bt128.1 < (y125.length : Int) then (if x4.length < 17592186044416 then (spec_DrawBreaks.l0 k (x4 ++ [rd y125 bt128.1]) (wrap64 (x5 - 1)) x121000 bt128.2.1 bt128.2.2) else (none)) else (none)) else (none)))) else (some x4)
def spec_DrawBreaks.f (k : Nat) (l0 : List Int) : Option (List Int) := (spec_l1New.f k l0).bind fun bt117 => ((spec_l1Size.f l0 60).bind fun t124 => (spec_DrawBreaks.l0 k (([] : List Int)) t124 bt117.1 bt117.2.1 bt117.2.2))
theorem spec_DrawBreaks.mono_l : ∀ k, (∀ y0 y1 y2 y3 y4, LeO (spec_DrawBreaks.l0 k y0 y1 y2 y3 y4) (spec_DrawBreaks.l0 (k + 1) y0 y1 y2 y3 y4))
  | 0 => fun _ _ _ _ _ r h => by simp [spec_DrawBreaks.l0] at h
  | k + 1 => by
    have ih0 := spec_DrawBreaks.mono_l k
    · intro y0 y1 y2 y3 y4
      unfold spec_DrawBreaks.l0
      repeat' first
      | (with_reducible exact ih0 _ _ _ _ _)
      | (with_reducible exact spec_l1New.mono _ _)
      | (with_reducible exact LeO.refl _)
      | (with_reducible exact LeO.none _)
      | (with_reducible refine LeO.ite ?_ ?_)
      | (with_reducible refine LeO.bind ?_ (fun _ => ?_))
      | exact ih0 _ _ _ _ _
      | exact spec_l1New.mono _ _
      | exact LeO.none _
      | refine LeO.ite ?_ ?_
      | refine LeO.bind ?_ (fun _ => ?_)
theorem spec_DrawBreaks.mono : ∀ a0 k, LeO (spec_DrawBreaks.f k a0) (spec_DrawBreaks.f (k + 1) a0) := by
  intro a0 k
  have ih0 := spec_DrawBreaks.mono_l k
  unfold spec_DrawBreaks.f
  repeat' first
      | (with_reducible exact ih0 _ _ _ _ _)
      | (with_reducible exact spec_l1New.mono _ _)
      | (with_reducible exact LeO.refl _)
      | (with_reducible exact LeO.none _)
      | (with_reducible refine LeO.ite ?_ ?_)
      | (with_reducible refine LeO.bind ?_ (fun _ => ?_))
      | exact ih0 _ _ _ _ _
      | exact spec_l1New.mono _ _
      | exact LeO.none _
      | refine LeO.ite ?_ ?_
      | refine LeO.bind ?_ (fun _ => ?_)
set_option maxHeartbeats 8000000 in
set_option maxRecDepth 100000 in
theorem spec_DrawBreaks.calls (k : Nat) (A0 : Option Addr) (c0 : Nat) (l0 : List Int) (r : List Int) (w : World) (hr0 : Kd.C (Kd.int .u8) w A0 l0.length l0) (hc0 : l0.length ≤ c0) (h : spec_DrawBreaks.f k l0 = some r) :
    Calls Try.prog 21 #[.slice A0 l0.length c0] w fun e w' => ∃ v0_ : Value, e = .returned (v0_) ∧ Kd.R (Kd.int .i64) 3 w' w.heap.size (fun _ => True) v0_ r ∧ Below w.heap.size w w' := by
  have HR0 := Aside0.mk hr0
  have HC0 := Aside0.mk hc0
  clear hr0 hc0
  have HB := Aside0.mk (Below.refl w.heap.size w)
  have H : ((spec_l1New.f k l0).bind fun bt117 => ((spec_l1Size.f l0 60).bind fun t124 => (spec_DrawBreaks.l0 k (([] : List Int)) t124 bt117.1 bt117.2.1 bt117.2.2))) = some r := h
  clear h
  replace H := Option.bind_eq_some_iff.mp H
  obtain ⟨⟨t117, t118, t119⟩, A20, H⟩ := H
  replace H : ((spec_l1Size.f l0 60).bind fun t124 => (spec_DrawBreaks.l0 k (([] : List Int)) t124 t117 t118 t119)) = some r := H
  have A2 := Aside0.mk A20
  clear A20
  obtain ⟨y121, hy121⟩ : ∃ y_ : List Int, y_ = (([] : List Int)) := ⟨_, rfl⟩
  replace H : ((spec_l1Size.f l0 60).bind fun t124 => (spec_DrawBreaks.l0 k y121 t124 t117 t118 t119)) = some r := by first | (rw [hy121]; with_reducible exact H) | (have H2_ := (Option.bind_some _ _).symm.trans H; rw [hy121]; with_reducible exact H2_) | (have H2_ := (Option.bind_some _ _).symm.trans H; with_reducible exact H2_) | with_reducible exact H | (rw [hy121]; exact H) | exact H
  have Ny121 := Aside0.mk hy121
  clear hy121
  replace H := Option.bind_eq_some_iff.mp H
  obtain ⟨t124, A30, H⟩ := H
  replace H : (spec_DrawBreaks.l0 k y121 t124 t117 t118 t119) = some r := H
  have A3 := Aside0.mk A30
  clear A30
  have H' := Aside0.mk H
  clear H
  go_enter Try.func21, Try.ntmps21
  go_wp2_with (first | ((with_reducible refine gate_callee (f := 65) rfl ?_); refine goesL_ (some 7) rfl rfl Try.func65 (by kernel_rfl) rfl #[.slice A0 l0.length c0] rfl (by (try simp only [List.map_toArray, List.map_cons, List.map_nil]); first | done | rfl | (simp only [List.length_drop, List.length_take]; rfl)) ?_; (with_reducible refine (spec_l1New.calls k _ _ l0 t117 t118 t119 w _ ?side1 ?side2 ?side3 A2.out).mono ?_); (case side1 => repeat (first | (with_reducible first | exact HB.out | apply below_alloc | apply pw_below_drewN | apply below_drew1) | exact HB.out)); (case side2 => exact HR0.out); (case side3 => exact HC0.out); rintro e w4 ⟨g120, rfl, hi, hb, hb2⟩; refine ⟨_, rfl, ?_⟩; have n0_ := Aside0.mk (hb); have n1_ := Aside0.mk (hi); clear HB; have HB := n0_; have HI120 := n1_; clear n0_ n1_; (try clear hb); (try clear hb2); (try clear hk); (try clear hi)) | ((with_reducible refine gate_dst (N := 8) rfl ?_); refine Kd.R_lit (Kd.int .i64) _ 3 ?hg (N := 8) ?hd (xs := ([] : List Int)) (inner := []) (ok := fun _ => True) (okp := fun _ => True) ?hr ?hp (fun _ hk => hk) trivial (Below.refl _ _) (Nat.le_refl _) (by simp) ?_; (case hd => rfl); (case hg => rfl); (case hr => first | (go_simp; done) | (go_simp; rfl)); (case hp => exact (Reps.none _ _)); intro v122 w5 ho6 hb hg_ hnew_; clear hg_ hnew_; (first | rw [← Ny121.out] at ho6 | (simp only [Int.reduceToNat] at ho6; rw [← Ny121.out] at ho6)); have n0_ := Aside0.mk (Kd.R_lower ho6 (below_size (by repeat (first | (with_reducible first | exact HB.out | apply below_alloc | apply pw_below_drewN | apply below_drew1 | refine below_set ?_ (IsS122.ge HI120.out)) | exact HB.out)))); have n1_ := Aside0.mk (IsS122.below (by repeat (first | (with_reducible first | exact HI120.out | apply IsS122.alloc | apply IsS122.drewN | apply IsS122.drew | apply IsS122.set_1 | apply IsS122.set_2) | exact HI120.out)) hb); have n2_ := Aside0.mk (below_step (by repeat (first | (with_reducible first | exact HB.out | apply below_alloc | apply pw_below_drewN | apply below_drew1 | refine below_set ?_ (IsS122.ge HI120.out)) | exact HB.out)) hb); clear HI120; clear HB; have HO123 := n0_; have HI120 := n1_; have HB := n2_; clear n0_ n1_ n2_; clear hb ho6) | ((with_reducible refine gate_callee (f := 66) rfl ?_); refine goesL_ (some 10) rfl rfl Try.func66 (by kernel_rfl) rfl #[.slice A0 l0.length c0, .int .i64 60] rfl (by (try simp only [List.map_toArray, List.map_cons, List.map_nil]); first | done | rfl | (simp only [List.length_drop, List.length_take]; rfl)) ?_; (with_reducible refine (spec_l1Size.calls _ _ l0 60 t124 _ ?side1 ?side2 A3.out).mono ?_); (case side1 => repeat (first | exact (Kd.C_below HR0.out HB.out) | (with_reducible refine Kd.C_alloc ?_ _) | (with_reducible refine Kd.C_drewN ?_ _) | (with_reducible refine Kd.C_drew ?_))); (case side2 => exact HC0.out); rintro e w' ⟨rfl, ⟨nd, rfl⟩⟩; refine ⟨_, rfl, ?_⟩))
  go_loopg [4, 5] k (fun kq v4 v5 w' => ∃ (x4_1 : List Int) (x5_1 : Int) (x121001_1 : Int) (x121002_1 : Int), v5 = .int .i64 x5_1 ∧ Aside0 (spec_DrawBreaks.l0 kq x4_1 x5_1 t117 x121001_1 x121002_1 = some r) ∧ Aside0 (kq ≤ k) ∧ Aside0 (Kd.R (Kd.int .i64) 3 w' w.heap.size (fun _ => True) v4 x4_1) ∧ Aside0 (IsS122 w w' g120 t117 x121001_1 x121002_1) ∧ Aside0 (Below w.heap.size w w'))
  case atStart => exact ⟨(y121), (t124), (t118), (t119), (by first | rfl | (simp; done) | (simp [*]; done)), H', ⟨Nat.le_refl _⟩, ⟨by (with_reducible repeat (first | apply Kd.R_alloc | apply Kd.R_drewN | apply Kd.R_drew)); exact HO123.out⟩, ⟨by repeat (first | (with_reducible first | exact HI120.out | apply IsS122.alloc | apply IsS122.drewN | apply IsS122.drew | apply IsS122.set_1 | apply IsS122.set_2) | exact HI120.out)⟩, ⟨by repeat (first | (with_reducible first | exact HB.out | apply below_alloc | apply pw_below_drewN | apply below_drew1 | refine below_set ?_ (IsS122.ge HI120.out)) | exact HB.out)⟩⟩
  case round =>
    clear H'
    try clear c2
    try clear p2
    try clear c6
    obtain ⟨x4_1, x5_1, x121001_1, x121002_1, rfl, HA, HK1, HO_4, HI120, HB⟩ := hrel
    cases gk with
    | zero => exact absurd HA.out (by simp [spec_DrawBreaks.l0])
    | succ k1 =>
      have H := HA.out
      clear HA
      simp only [spec_DrawBreaks.l0] at H
      by_cases c7 : x5_1 > 0
      · rw [if_pos c7] at H
        have c7b0 : decide (0 < x5_1) = true := decide_eq_true c7
        clear c7
        obtain ⟨y125, hy125⟩ : ∃ y_ : List Int, y_ = (([10, 32, 8203, 160, 769, 45, 40, 41, 46, 34, 19968, 49, 97, 98, 32, 12354, 173] : List Int)) := ⟨_, rfl⟩
        replace H : ((spec_l1Below.f t117 x121001_1 x121002_1 17).bind fun bt128 => (if 0 ≤ bt128.1 then (if bt128.1 < (y125.length : Int) then (if x4_1.length < 17592186044416 then (spec_DrawBreaks.l0 k1 (x4_1 ++ [rd y125 bt128.1]) (wrap64 (x5_1 - 1)) t117 bt128.2.1 bt128.2.2) else (none)) else (none)) else (none))) = some r := by first | (rw [hy125]; with_reducible exact H) | (have H2_ := (Option.bind_some _ _).symm.trans H; rw [hy125]; with_reducible exact H2_) | (have H2_ := (Option.bind_some _ _).symm.trans H; with_reducible exact H2_) | with_reducible exact H | (rw [hy125]; exact H) | exact H
        have Ny125 := Aside0.mk hy125
        clear hy125
        replace H := Option.bind_eq_some_iff.mp H
        obtain ⟨⟨t128, t129, t130⟩, A80, H⟩ := H
        replace H : (if 0 ≤ t128 then (if t128 < (y125.length : Int) then (if x4_1.length < 17592186044416 then (spec_DrawBreaks.l0 k1 (x4_1 ++ [rd y125 t128]) (wrap64 (x5_1 - 1)) t117 t129 t130) else (none)) else (none)) else (none)) = some r := H
        have A8 := Aside0.mk A80
        clear A80
        by_cases c9 : 0 ≤ t128
        · rw [if_pos c9] at H
          have c9b0 : decide (0 ≤ t128) = true := decide_eq_true c9
          clear c9
          by_cases c10 : t128 < (y125.length : Int)
          · rw [if_pos c10] at H
            have c10b0 : decide (t128 < (y125.length : Int)) = true := decide_eq_true c10
            clear c10
            by_cases c11 : x4_1.length < 17592186044416
            · rw [if_pos c11] at H
              have LMc11 := Aside0.mk c11
              clear c11
              obtain ⟨y132, hy132⟩ : ∃ y_ : List Int, y_ = (x4_1 ++ [rd y125 t128]) := ⟨_, rfl⟩
              replace H : (spec_DrawBreaks.l0 k1 y132 (wrap64 (x5_1 - 1)) t117 t129 t130) = some r := by first | (rw [hy132]; with_reducible exact H) | (have H2_ := (Option.bind_some _ _).symm.trans H; rw [hy132]; with_reducible exact H2_) | (have H2_ := (Option.bind_some _ _).symm.trans H; with_reducible exact H2_) | with_reducible exact H | (rw [hy132]; exact H) | exact H
              have Ny132 := Aside0.mk hy132
              clear hy132
              have H' := Aside0.mk H
              clear H
              go_wp2_with (first | ((with_reducible refine gate_dst (N := 16) rfl ?_); refine Kd.R_lit (Kd.int .i64) _ 3 ?hg (N := 16) ?hd (xs := ([10, 32, 8203, 160, 769, 45, 40, 41, 46, 34, 19968, 49, 97, 98, 32, 12354, 173] : List Int)) (inner := [.int .i64 10, .int .i64 32, .int .i64 8203, .int .i64 160, .int .i64 769, .int .i64 45, .int .i64 40, .int .i64 41, .int .i64 46, .int .i64 34, .int .i64 19968, .int .i64 49, .int .i64 97, .int .i64 98, .int .i64 32, .int .i64 12354, .int .i64 173]) (ok := fun _ => True) (okp := fun _ => True) ?hr ?hp (fun _ hk => hk) trivial (Below.refl _ _) (Nat.le_refl _) (by simp) ?_; (case hd => rfl); (case hg => rfl); (case hr => first | (go_simp; done) | (go_simp; rfl)); (case hp => exact (Reps.one (show Kd.M (Kd.int .i64) _ _ _ 10 [.int .i64 10] from rfl) (Reps.one (show Kd.M (Kd.int .i64) _ _ _ 32 [.int .i64 32] from rfl) (Reps.one (show Kd.M (Kd.int .i64) _ _ _ 8203 [.int .i64 8203] from rfl) (Reps.one (show Kd.M (Kd.int .i64) _ _ _ 160 [.int .i64 160] from rfl) (Reps.one (show Kd.M (Kd.int .i64) _ _ _ 769 [.int .i64 769] from rfl) (Reps.one (show Kd.M (Kd.int .i64) _ _ _ 45 [.int .i64 45] from rfl) (Reps.one (show Kd.M (Kd.int .i64) _ _ _ 40 [.int .i64 40] from rfl) (Reps.one (show Kd.M (Kd.int .i64) _ _ _ 41 [.int .i64 41] from rfl) (Reps.one (show Kd.M (Kd.int .i64) _ _ _ 46 [.int .i64 46] from rfl) (Reps.one (show Kd.M (Kd.int .i64) _ _ _ 34 [.int .i64 34] from rfl) (Reps.one (show Kd.M (Kd.int .i64) _ _ _ 19968 [.int .i64 19968] from rfl) (Reps.one (show Kd.M (Kd.int .i64) _ _ _ 49 [.int .i64 49] from rfl) (Reps.one (show Kd.M (Kd.int .i64) _ _ _ 97 [.int .i64 97] from rfl) (Reps.one (show Kd.M (Kd.int .i64) _ _ _ 98 [.int .i64 98] from rfl) (Reps.one (show Kd.M (Kd.int .i64) _ _ _ 32 [.int .i64 32] from rfl) (Reps.one (show Kd.M (Kd.int .i64) _ _ _ 12354 [.int .i64 12354] from rfl) (Reps.one (show Kd.M (Kd.int .i64) _ _ _ 173 [.int .i64 173] from rfl) (Reps.none _ _))))))))))))))))))); intro v126 w12 ho13 hb hg_ hnew_; clear hg_ hnew_; (first | rw [← Ny125.out] at ho13 | (simp only [Int.reduceToNat] at ho13; rw [← Ny125.out] at ho13)); have n0_ := Aside0.mk (Kd.R_elder' (by (with_reducible repeat (first | apply Kd.R_alloc | apply Kd.R_drewN | apply Kd.R_drew)); exact HO_4.out) (Kd.R_base ho13) hb); have n1_ := Aside0.mk (Kd.R_lower (Kd.R_new' ho13 (Kd.R_lt (by (with_reducible repeat (first | apply Kd.R_alloc | apply Kd.R_drewN | apply Kd.R_drew)); exact HO_4.out))) (below_size (by repeat (first | (with_reducible first | exact HB.out | apply below_alloc | apply pw_below_drewN | apply below_drew1 | refine below_set ?_ (IsS122.ge HI120.out)) | exact HB.out)))); have n2_ := Aside0.mk (IsS122.below (by repeat (first | (with_reducible first | exact HI120.out | apply IsS122.alloc | apply IsS122.drewN | apply IsS122.drew | apply IsS122.set_1 | apply IsS122.set_2) | exact HI120.out)) hb); have n3_ := Aside0.mk (below_step (by repeat (first | (with_reducible first | exact HB.out | apply below_alloc | apply pw_below_drewN | apply below_drew1 | refine below_set ?_ (IsS122.ge HI120.out)) | exact HB.out)) hb); clear HO_4; clear HI120; clear HB; have HO_4 := n0_; have HO127 := n1_; have HI120 := n2_; have HB := n3_; clear n0_ n1_ n2_ n3_; clear hb ho13) | ((with_reducible refine gate_callee (f := 67) rfl ?_); refine goesL_ (some 18) rfl rfl Try.func67 (by kernel_rfl) rfl #[.pointer (some ⟨g120, 0, none⟩), .int .i64 17] rfl (by (try simp only [List.map_toArray, List.map_cons, List.map_nil]); first | done | rfl | (simp only [List.length_drop, List.length_take]; rfl)) ?_; (with_reducible refine (spec_l1Below.calls g120 t117 x121001_1 x121002_1 17 t128 t129 t130 w _ ?side1 ?side2 A8.out).mono ?_); (case side1 => repeat (first | (with_reducible first | exact HI120.out | apply IsS122.alloc | apply IsS122.drewN | apply IsS122.drew | apply IsS122.set_1 | apply IsS122.set_2) | exact HI120.out)); (case side2 => repeat (first | (with_reducible first | exact HB.out | apply below_alloc | apply pw_below_drewN | apply below_drew1 | refine below_set ?_ (IsS122.ge HI120.out)) | exact HB.out)); rintro e w14 ⟨rfl, hi, hb, hk⟩; refine ⟨_, rfl, ?_⟩; have n0_ := Aside0.mk (Kd.R_mono (Kd.R_keep (IsS122.apart (show IsS122 w _ g120 t117 x121001_1 x121002_1 from by repeat (first | (with_reducible first | exact HI120.out | apply IsS122.alloc | apply IsS122.drewN | apply IsS122.drew | apply IsS122.set_1 | apply IsS122.set_2) | exact HI120.out)) (by (with_reducible repeat (first | apply Kd.R_alloc | apply Kd.R_drewN | apply Kd.R_drew)); exact HO_4.out) (by decide)) hk (fun _ h => h.2)) (fun _ h => h.1)); have n1_ := Aside0.mk (Kd.R_mono (Kd.R_keep (IsS122.apart (show IsS122 w _ g120 t117 x121001_1 x121002_1 from by repeat (first | (with_reducible first | exact HI120.out | apply IsS122.alloc | apply IsS122.drewN | apply IsS122.drew | apply IsS122.set_1 | apply IsS122.set_2) | exact HI120.out)) (by (with_reducible repeat (first | apply Kd.R_alloc | apply Kd.R_drewN | apply Kd.R_drew)); exact HO127.out) (by decide)) hk (fun _ h => h.2)) (fun _ h => h.1)); have n2_ := Aside0.mk (hb); have n3_ := Aside0.mk (hi); clear HO_4; clear HO127; clear HB; clear HI120; have HO_4 := n0_; have HO127 := n1_; have HB := n2_; have HI120 := n3_; clear n0_ n1_ n2_ n3_; (try clear hb); (try clear hb2); (try clear hk); (try clear hi); obtain ⟨Ao15, co15, eo15⟩ := Kd.R_slice HO127.out; subst eo15; have p131 : 0 ≤ (t128 : Int) := of_decide_eq_true (by first | (with_reducible assumption) | assumption); have q131 : t128 < (y125.length : Int) := of_decide_eq_true (by first | (with_reducible assumption) | assumption); obtain ⟨ad131, e131, hx131_0⟩ := Kd.at_int (Kd.R_reads' HO127.out).2.2 t128 p131 q131; cases e131; replace p131 := eq_true p131; replace q131 := eq_true q131) | ((with_reducible refine gate_builtin (b := .append) (xs := #[.tmp 15, .tmp 21]) rfl ?_); at_builtin; refine Kd.R_append (Kd.int .i64) (w0 := w) w.heap.size rfl (.tmp 15) (.tmp 21) 22 3 (.int .i64 0) 8 rfl Try.underlying22 info3 rfl (by decide) (by omega) u4 x4_1 (rd y125 t128) [.int .i64 (rd y125 t128)] (fun k_ => some k_ ≠ (.slice (some ad131) y125.length co15 : Value).ownBlock) (fun _ => False) rfl rfl ?aP (fun _ hk => hk.elim) ?aF ?aO ?aB ?aS ?aL ?_; (case aP => exact rfl); (case aB => exact (by repeat (first | (with_reducible first | exact HB.out | apply below_alloc | apply pw_below_drewN | apply below_drew1 | refine below_set ?_ (IsS122.ge HI120.out)) | exact HB.out))); (case aF => exact (fun k_ hk => Kd.fresh' (Kd.R_lt (by (with_reducible repeat (first | apply Kd.R_alloc | apply Kd.R_drewN | apply Kd.R_drew)); exact HO127.out)) k_ hk)); (case aO => exact (by (with_reducible repeat (first | apply Kd.R_alloc | apply Kd.R_drewN | apply Kd.R_drew)); exact Kd.R_mono HO_4.out (fun _ hk => hk.2))); (case aS => exact (below_size (by repeat (first | (with_reducible first | exact HB.out | apply below_alloc | apply pw_below_drewN | apply below_drew1 | refine below_set ?_ (IsS122.ge HI120.out)) | exact HB.out)))); (case aL => have := LMc11.out; omega); intro v133 w16 ho hb hg hat; rw [← Ny132.out] at ho; have n0_ := Aside0.mk (IsS122.grown (IsS122.like HI120.out (by repeat (first | (with_reducible first | exact HI120.out | apply IsS122.alloc | apply IsS122.drewN | apply IsS122.drew | apply IsS122.set_1 | apply IsS122.set_2) | exact HI120.out))) hg (IsS122.own_ne HI120.out HO_4.out (by decide))); have n1_ := Aside0.mk (Kd.R_after (ok := (fun _ => True)) (by (with_reducible repeat (first | apply Kd.R_alloc | apply Kd.R_drewN | apply Kd.R_drew)); exact HO127.out) hg hat); have n2_ := Aside0.mk (hb); have n3_ := Aside0.mk (ho); clear HI120; clear HO127; clear HB; clear HO_4; have HI120 := n0_; have HO127 := n1_; have HB := n2_; have HO134 := n3_; clear n0_ n1_ n2_ n3_; clear ho hb hg hat))
              go_roundg k1
              case measure => have := HK1.out; omega
              case rel => exact ⟨(y132), (wrap64 (x5_1 - 1)), (t129), (t130), (by first | rfl | (simp; done) | (simp [*]; done)), H', ⟨by have := HK1.out; omega⟩, ⟨by (with_reducible repeat (first | apply Kd.R_alloc | apply Kd.R_drewN | apply Kd.R_drew)); exact Kd.R_mono HO134.out (fun _ hk => trivial)⟩, ⟨by repeat (first | (with_reducible first | exact HI120.out | apply IsS122.alloc | apply IsS122.drewN | apply IsS122.drew | apply IsS122.set_1 | apply IsS122.set_2) | exact HI120.out)⟩, ⟨by repeat (first | (with_reducible first | exact HB.out | apply below_alloc | apply pw_below_drewN | apply below_drew1 | refine below_set ?_ (IsS122.ge HI120.out)) | exact HB.out)⟩⟩
            · rw [if_neg c11] at H
              exact absurd H (by simp)
          · rw [if_neg c10] at H
            exact absurd H (by simp)
        · rw [if_neg c9] at H
          exact absurd H (by simp)
      · rw [if_neg c7] at H
        have c7b0 : decide (0 < x5_1) = false := decide_eq_false c7
        clear c7
        obtain rfl := Option.some.inj H
        go_wp2
        go_ret
        exact ⟨_, by first | rfl | (simp [errW_none, errW_some] <;> rfl) | (simp [*, errW_none, errW_some] <;> rfl), by (with_reducible repeat (first | apply Kd.R_alloc | apply Kd.R_drewN | apply Kd.R_drew)); exact HO_4.out, by repeat (first | (with_reducible first | exact HB.out | apply below_alloc | apply pw_below_drewN | apply below_drew1 | refine below_set ?_ (IsS122.ge HI120.out)) | exact HB.out)⟩

/-! ### impl_between: function 107 -/
def impl_between.f (a0 : Int) (a1 : Int) (a2 : Int) : Option (Bool) := if a0 ≥ a1 then (some (decide (a0 ≤ a2))) else (some false)
set_option maxHeartbeats 8000000 in
set_option maxRecDepth 100000 in
theorem impl_between.calls (a0 : Int) (a1 : Int) (a2 : Int) (r : Bool) (w : World) (h : impl_between.f a0 a1 a2 = some r) :
    Calls Try.prog 107 #[.int .i64 a0, .int .i64 a1, .int .i64 a2] w fun e w' => e = .returned (.bool r) ∧ Drawn0 w w' := by
  have H : (if a0 ≥ a1 then (some (decide (a0 ≤ a2))) else (some false)) = some r := h
  clear h
  by_cases c4 : a0 ≥ a1
  · rw [if_pos c4] at H
    have c4b0 : decide (a1 ≤ a0) = true := decide_eq_true c4
    clear c4
    obtain rfl := Option.some.inj H
    go_enter Try.func107, Try.ntmps107
    go_wp2
    go_ret
    exact ⟨by first | rfl | (simp; done) | (simp [*]; done), by repeat (first | exact Drawn0.refl _ | apply Drawn0.step)⟩
  · rw [if_neg c4] at H
    have c4b0 : decide (a1 ≤ a0) = false := decide_eq_false c4
    clear c4
    obtain rfl := Option.some.inj H
    go_enter Try.func107, Try.ntmps107
    go_wp2
    go_ret
    exact ⟨by first | rfl | (simp; done) | (simp [*]; done), by repeat (first | exact Drawn0.refl _ | apply Drawn0.step)⟩

/-! ### stringslite_IndexByte: function 154, by hand -/
def stringslite_IndexByte.f (a0 : ByteArray) (a1 : Int) : Option Int := some (Lib.indexByte a0.data.toList a1.toNat.toUInt8)
set_option maxHeartbeats 1000000 in
set_option maxRecDepth 100000 in
theorem stringslite_IndexByte.calls (a0 : ByteArray) (a1 : Int) (r : Int) (w : World) (h : stringslite_IndexByte.f a0 a1 = some r) :
    Calls Try.prog 154 #[.string a0, .int .u8 a1] w fun e w' => e = .returned (.int .i64 r) ∧ Drawn0 w w' := by
  obtain rfl := Option.some.inj h
  clear h
  go_enter Try.func154, Try.ntmps154
  go_wp2
  rw [run_callFunc_extern Try.func159 (by kernel_rfl) (by kernel_rfl) (by kernel_rfl) (e := Extern.BytealgIndexByte.indexByte) (by kernel_rfl), Lib.run_indexByteString]
  simp only [Result.andThen]
  rw [Oper.upon_value]
  go_wp2
  go_ret
  exact ⟨rfl, Drawn0.refl _⟩

/-! ### strings_IndexByte: function 136 -/
def strings_IndexByte.f (a0 : ByteArray) (a1 : Int) : Option (Int) := (stringslite_IndexByte.f a0 a1).bind fun t135 => (some t135)
set_option maxHeartbeats 8000000 in
set_option maxRecDepth 100000 in
theorem strings_IndexByte.calls (a0 : ByteArray) (a1 : Int) (r : Int) (w : World) (h : strings_IndexByte.f a0 a1 = some r) :
    Calls Try.prog 136 #[.string a0, .int .u8 a1] w fun e w' => e = .returned (.int .i64 r) ∧ Drawn0 w w' := by
  have H : ((stringslite_IndexByte.f a0 a1).bind fun t135 => (some t135)) = some r := h
  clear h
  replace H := Option.bind_eq_some_iff.mp H
  obtain ⟨t135, A30, H⟩ := H
  replace H : (some t135) = some r := H
  have A3 := Aside0.mk A30
  clear A30
  obtain rfl := Option.some.inj H
  go_enter Try.func136, Try.ntmps136
  go_wp2_with (first | ((with_reducible refine gate_callee (f := 154) rfl ?_); refine goesL_ (some 7) rfl rfl Try.func154 (by kernel_rfl) rfl #[.string a0, .int .u8 a1] rfl (by (try simp only [List.map_toArray, List.map_cons, List.map_nil]); first | done | rfl | (simp only [List.length_drop, List.length_take]; rfl)) ?_; (with_reducible refine (stringslite_IndexByte.calls a0 a1 t135 _ A3.out).mono ?_); rintro e w' ⟨rfl, ⟨nd, rfl⟩⟩; refine ⟨_, rfl, ?_⟩))
  go_ret
  exact ⟨by first | rfl | (simp; done) | (simp [*]; done), by repeat (first | exact Drawn0.refl _ | apply Drawn0.step)⟩

/-! ### impl_inText: function 108 -/
def impl_inText.f (a0 : Int) (a1 : ByteArray) : Option (Bool) := (impl_between.f a0 1 127).bind fun t136 => (if t136 = true then ((strings_IndexByte.f a1 ((a0) % 256)).bind fun t137 => (some (decide (t137 ≥ 0)))) else (some false))
set_option maxHeartbeats 8000000 in
set_option maxRecDepth 100000 in
theorem impl_inText.calls (a0 : Int) (a1 : ByteArray) (r : Bool) (w : World) (h : impl_inText.f a0 a1 = some r) :
    Calls Try.prog 108 #[.int .i64 a0, .string a1] w fun e w' => e = .returned (.bool r) ∧ Drawn0 w w' := by
  have H : ((impl_between.f a0 1 127).bind fun t136 => (if t136 = true then ((strings_IndexByte.f a1 ((a0) % 256)).bind fun t137 => (some (decide (t137 ≥ 0)))) else (some false))) = some r := h
  clear h
  replace H := Option.bind_eq_some_iff.mp H
  obtain ⟨t136, A30, H⟩ := H
  replace H : (if t136 = true then ((strings_IndexByte.f a1 ((a0) % 256)).bind fun t137 => (some (decide (t137 ≥ 0)))) else (some false)) = some r := H
  have A3 := Aside0.mk A30
  clear A30
  by_cases c4 : t136 = true
  · subst c4
    have H1 : ((strings_IndexByte.f a1 ((a0) % 256)).bind fun t137 => (some (decide (t137 ≥ 0)))) = some r := by rw [if_pos rfl] at H; exact H
    clear H
    have H := H1
    clear H1
    replace H := Option.bind_eq_some_iff.mp H
    obtain ⟨t137, A50, H⟩ := H
    replace H : (some (decide (t137 ≥ 0))) = some r := H
    have A5 := Aside0.mk A50
    clear A50
    obtain rfl := Option.some.inj H
    go_enter Try.func108, Try.ntmps108
    go_wp2_with (first | ((with_reducible refine gate_callee (f := 107) rfl ?_); refine goesL_ (some 6) rfl rfl Try.func107 (by kernel_rfl) rfl #[.int .i64 a0, .int .i64 1, .int .i64 127] rfl (by (try simp only [List.map_toArray, List.map_cons, List.map_nil]); first | done | rfl | (simp only [List.length_drop, List.length_take]; rfl)) ?_; (with_reducible refine (impl_between.calls a0 1 127 true _ A3.out).mono ?_); rintro e w' ⟨rfl, ⟨nd, rfl⟩⟩; refine ⟨_, rfl, ?_⟩) | (go_at_call 136; (with_reducible refine (strings_IndexByte.calls a1 ((a0) % 256) t137 _ A5.out).mono ?_); rintro e w' ⟨rfl, ⟨nd, rfl⟩⟩))
    go_ret
    exact ⟨by first | rfl | (simp; done) | (simp [*]; done), by repeat (first | exact Drawn0.refl _ | apply Drawn0.step)⟩
  · replace c4 := Bool.eq_false_iff.mpr c4
    subst c4
    have H1 : (some false) = some r := by rw [if_neg (show ¬ (false = true) by decide)] at H; exact H
    clear H
    have H := H1
    clear H1
    obtain rfl := Option.some.inj H
    go_enter Try.func108, Try.ntmps108
    go_wp2_with (first | ((with_reducible refine gate_callee (f := 107) rfl ?_); refine goesL_ (some 6) rfl rfl Try.func107 (by kernel_rfl) rfl #[.int .i64 a0, .int .i64 1, .int .i64 127] rfl (by (try simp only [List.map_toArray, List.map_cons, List.map_nil]); first | done | rfl | (simp only [List.length_drop, List.length_take]; rfl)) ?_; (with_reducible refine (impl_between.calls a0 1 127 false _ A3.out).mono ?_); rintro e w' ⟨rfl, ⟨nd, rfl⟩⟩; refine ⟨_, rfl, ?_⟩))
    go_ret
    exact ⟨by first | rfl | (simp; done) | (simp [*]; done), by repeat (first | exact Drawn0.refl _ | apply Drawn0.step)⟩

end Go.Proofs.Ytpknhndanbgkmaa.MFnBreaks
