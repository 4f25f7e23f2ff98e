-- Written by this session's own program (wip/gen/myprint.py).
import Derived.Test.YtdnlehohbbinpaaMFnExactDirClassx0
import Derived.Test.YtdnlehohbbinpaaMFnExactDirClassx2
namespace Go.Proofs.Ytdnlehohbbinpaa.MFnExactDirClass
open Go.RowKit Go.Proofs.YtdnlehohbbinpaaW.PrintWords Go.Proofs.YtdnlehohbbinpaaW.PrintLast Go.Proofs.YtdnlehohbbinpaaW.PrintMore
attribute [local go_sem] max2_int min2_int max_two min_two max_three min_three max_four min_four   -- for this text's walks alone
set_option linter.unusedVariables false
set_option linter.unusedSimpArgs false

/-! ### impl_DirClass: function 24, by hand -/
def inR (x lo hi : Int) : Bool := decide (lo ≤ x) && decide (x ≤ hi)
theorem inR_true {x lo hi : Int} (h : inR x lo hi = true) : lo ≤ x ∧ x ≤ hi := by
  simpa [inR] using h
theorem inR_false {x lo hi : Int} (h : inR x lo hi = false) : ¬ (lo ≤ x ∧ x ≤ hi) := by
  simp [inR] at h; omega
def impl_DirClass.g (cp : Int) : Int :=
  if cp = 10 then 11 else
  if cp = 9 then 10 else
  if cp = 32 ∨ cp = 12 ∨ (8192 ≤ cp ∧ cp ≤ 8202) then 9 else
  if (768 ≤ cp ∧ cp ≤ 879) ∨ (1425 ≤ cp ∧ cp ≤ 1469) then 8 else
  if cp = 8206 then 0 else
  if cp = 8207 ∨ (1424 ≤ cp ∧ cp ≤ 1535) ∨ (1984 ≤ cp ∧ cp ≤ 2143) then 1 else
  if 1632 ≤ cp ∧ cp ≤ 1641 then 4 else
  if 1536 ≤ cp ∧ cp ≤ 1983 then 2 else
  if 48 ≤ cp ∧ cp ≤ 57 then 3 else
  if cp = 43 ∨ cp = 45 then 5 else
  if (35 ≤ cp ∧ cp ≤ 37) ∨ (162 ≤ cp ∧ cp ≤ 165) ∨ cp = 8364 then 6 else
  if cp = 44 ∨ cp = 46 ∨ cp = 47 ∨ cp = 58 ∨ cp = 160 then 7 else
  if (33 ≤ cp ∧ cp ≤ 34) ∨ (38 ≤ cp ∧ cp ≤ 42) ∨ (59 ≤ cp ∧ cp ≤ 64) ∨ (91 ≤ cp ∧ cp ≤ 96) ∨ (123 ≤ cp ∧ cp ≤ 126) ∨ cp = 161 ∨ (166 ≤ cp ∧ cp ≤ 169) ∨ (171 ≤ cp ∧ cp ≤ 177) ∨ (8208 ≤ cp ∧ cp ≤ 8231) ∨ cp = 8203 then 12 else 0
def impl_DirClass.f (a0 : Int) : Option Int := some (impl_DirClass.g a0)
set_option maxHeartbeats 1000000 in
theorem impl_DirClass.in_calls (lo hi cp : Int) (a : Addr) (w : World) (hc : w.cell? a = some (.int .i64 cp)) :
    Calls Try.prog 52 #[.int .i64 lo, .int .i64 hi, .pointer (some a)] w fun e w' => e = .returned (.bool (inR cp lo hi)) ∧ w = w' := by
  have e0 : inR cp lo hi = (decide (lo ≤ cp) && decide (cp ≤ hi)) := rfl
  by_cases h1 : lo ≤ cp <;> by_cases h2 : cp ≤ hi
  all_goals
    rw [e0]
    simp only [h1, h2, decide_true, decide_false, Bool.and_true, Bool.and_false]
    clear e0
    go_enter Try.func52, Try.ntmps52
    go_wp2
    go_ret
    exact ⟨rfl, rfl⟩
set_option maxHeartbeats 8000000 in
set_option maxRecDepth 100000 in
theorem impl_DirClass.calls (a0 : Int) (r : Int) (w : World) (h : impl_DirClass.f a0 = some r) :
    Calls Try.prog 24 #[.int .i64 a0] w fun e w' => e = .returned (.int .i64 r) ∧ Below w.heap.size w w' := by
  have HB := Aside0.mk (below_alloc (Below.refl w.heap.size w) (.cells #[.int .i64 a0] 3))
  have hc : (w.alloc (.cells #[.int .i64 a0] 3)).cell? ⟨w.heap.size, 0, none⟩ = some (.int .i64 a0) := by simp [World.cell?_alloc_new]
  obtain rfl : impl_DirClass.g a0 = r := Option.some.inj h
  have hmf : ∀ (fn : Fn) (first cap : Array Value) (w : World), (Instr.makeFunc fn first cap).run Try.prog w = .ok (.func fn first cap) w := fun _ _ _ _ => rfl
  have HC := Aside0.mk hc
  clear h
  obtain ⟨n, hn⟩ : ∃ n, n = impl_DirClass.g a0 := ⟨_, rfl⟩
  rw [← hn]
  have HN := Aside0.mk hn
  clear hn
  go_enter Try.func24, Try.ntmps24
  go_wp2_with (go_at_call 52; refine (impl_DirClass.in_calls _ _ a0 _ _ HC.out).mono ?_; rintro e w' ⟨rfl, rfl⟩)
  all_goals
    go_ret
    refine ⟨congrArg (fun z => Ending.returned (.int .i64 z)) ?_, below_alloc (Below.refl _ _) _⟩
    rw [HN.out]
    clear HN HC HB hmf
    simp only [inR, Bool.and_eq_true, Bool.and_eq_false_iff, decide_eq_true_eq, decide_eq_false_iff_not, beq_iff_eq, beq_eq_false_iff_ne, ne_eq] at *
    unfold impl_DirClass.g
    repeat (first | rw [if_pos (by omega)] | rw [if_neg (by omega)])

/-! ### laws_FnExactDirClass: function 6 -/
def laws_FnExactDirClass.f (k : Nat) (a0 : Int) : Option (Bool) := (spec_DirClass.f k a0).bind fun t118 => ((impl_DirClass.f a0).bind fun t119 => (if t119 = t118 then (some true) else (some false)))
theorem laws_FnExactDirClass.mono : ∀ a0 k, LeO (laws_FnExactDirClass.f k a0) (laws_FnExactDirClass.f (k + 1) a0) := by
  intro a0 k
  unfold laws_FnExactDirClass.f
  repeat' first
      | (with_reducible exact spec_DirClass.mono _ _)
      | (with_reducible exact LeO.refl _)
      | (with_reducible exact LeO.none _)
      | (with_reducible refine LeO.ite ?_ ?_)
      | (with_reducible refine LeO.bind ?_ (fun _ => ?_))
      | exact spec_DirClass.mono _ _
      | exact LeO.none _
      | refine LeO.ite ?_ ?_
      | refine LeO.bind ?_ (fun _ => ?_)
set_option maxHeartbeats 8000000 in
set_option maxRecDepth 100000 in
theorem laws_FnExactDirClass.calls (k : Nat) (a0 : Int) (r : Bool) (w : World) (h : laws_FnExactDirClass.f k a0 = some r) :
    Calls Try.prog 6 #[.int .i64 a0] w fun e w' => e = .returned (.bool r) ∧ Below w.heap.size w w' := by
  have HB := Aside0.mk (Below.refl w.heap.size w)
  have H : ((spec_DirClass.f k a0).bind fun t118 => ((impl_DirClass.f a0).bind fun t119 => (if t119 = t118 then (some true) else (some false)))) = some r := h
  clear h
  replace H := Option.bind_eq_some_iff.mp H
  obtain ⟨t118, A20, H⟩ := H
  replace H : ((impl_DirClass.f a0).bind fun t119 => (if t119 = t118 then (some true) else (some false))) = some r := H
  have A2 := Aside0.mk A20
  clear A20
  replace H := Option.bind_eq_some_iff.mp H
  obtain ⟨t119, A30, H⟩ := H
  replace H : (if t119 = t118 then (some true) else (some false)) = some r := H
  have A3 := Aside0.mk A30
  clear A30
  by_cases c4 : t119 = t118
  · rw [if_pos c4] at H
    have c4b0 : (t119 == t118) = true := beq_iff_eq.mpr c4
    have c4b1 : (t119 != t118) = false := bne_eq_false_iff_eq.mpr c4
    clear c4
    obtain rfl := Option.some.inj H
    go_enter Try.func6, Try.ntmps6
    go_wp2_with (first | ((with_reducible refine gate_callee (f := 23) rfl ?_); refine goesL_ (some 6) rfl rfl Try.func23 (by kernel_rfl) rfl #[.int .i64 a0] rfl (by (try simp only [List.map_toArray, List.map_cons, List.map_nil]); first | done | rfl | (simp only [List.length_drop, List.length_take]; rfl)) ?_; (with_reducible refine (spec_DirClass.calls k a0 t118 _ A2.out).mono ?_); rintro e w' ⟨rfl, ⟨nd, rfl⟩⟩; refine ⟨_, rfl, ?_⟩) | ((with_reducible refine gate_callee (f := 24) rfl ?_); refine goesL_ (some 8) rfl rfl Try.func24 (by kernel_rfl) rfl #[.int .i64 a0] rfl (by (try simp only [List.map_toArray, List.map_cons, List.map_nil]); first | done | rfl | (simp only [List.length_drop, List.length_take]; rfl)) ?_; (with_reducible refine (impl_DirClass.calls a0 t119 _ A3.out).mono ?_); rintro e w5 ⟨rfl, hb⟩; refine ⟨_, rfl, ?_⟩; have n0_ := Aside0.mk (below_step (by repeat (first | (with_reducible first | exact HB.out | apply below_alloc | apply pw_below_drewN | apply below_drew1) | exact HB.out)) hb); clear HB; have HB := n0_; clear n0_; (try clear hb); (try clear hb2); (try clear hk); (try clear hi)))
    go_ret
    exact ⟨by first | rfl | (simp [errW_none, errW_some] <;> rfl) | (simp [*, errW_none, errW_some] <;> rfl), by repeat (first | (with_reducible first | exact HB.out | apply below_alloc | apply pw_below_drewN | apply below_drew1) | exact HB.out)⟩
  · rw [if_neg c4] at H
    have c4b0 : (t119 == t118) = false := beq_eq_false_iff_ne.mpr c4
    have c4b1 : (t119 != t118) = true := bne_iff_ne.mpr c4
    obtain rfl := Option.some.inj H
    go_enter Try.func6, Try.ntmps6
    go_wp2_with (first | ((with_reducible refine gate_callee (f := 23) rfl ?_); refine goesL_ (some 6) rfl rfl Try.func23 (by kernel_rfl) rfl #[.int .i64 a0] rfl (by (try simp only [List.map_toArray, List.map_cons, List.map_nil]); first | done | rfl | (simp only [List.length_drop, List.length_take]; rfl)) ?_; (with_reducible refine (spec_DirClass.calls k a0 t118 _ A2.out).mono ?_); rintro e w' ⟨rfl, ⟨nd, rfl⟩⟩; refine ⟨_, rfl, ?_⟩) | ((with_reducible refine gate_callee (f := 24) rfl ?_); refine goesL_ (some 8) rfl rfl Try.func24 (by kernel_rfl) rfl #[.int .i64 a0] rfl (by (try simp only [List.map_toArray, List.map_cons, List.map_nil]); first | done | rfl | (simp only [List.length_drop, List.length_take]; rfl)) ?_; (with_reducible refine (impl_DirClass.calls a0 t119 _ A3.out).mono ?_); rintro e w6 ⟨rfl, hb⟩; refine ⟨_, rfl, ?_⟩; have n0_ := Aside0.mk (below_step (by repeat (first | (with_reducible first | exact HB.out | apply below_alloc | apply pw_below_drewN | apply below_drew1) | exact HB.out)) hb); clear HB; have HB := n0_; clear n0_; (try clear hb); (try clear hb2); (try clear hk); (try clear hi)))
    go_ret
    exact ⟨by first | rfl | (simp [errW_none, errW_some] <;> rfl) | (simp [*, errW_none, errW_some] <;> rfl), by repeat (first | (with_reducible first | exact HB.out | apply below_alloc | apply pw_below_drewN | apply below_drew1) | exact HB.out)⟩

/-- THE ONE PURE STATEMENT of laws_FnExactDirClass: yours. -/
def laws_FnExactDirClass.Pure : Prop := ∀ (a0 : Int), (Lit.int .i64 a0).wf = true → ∃ k, laws_FnExactDirClass.f k a0 = some true
theorem laws_FnExactDirClass.walk (P : laws_FnExactDirClass.Pure) (a0 : Int) (w : World) (w0 : (Lit.int .i64 a0).wf = true) :
    Calls Try.prog 6 #[.int .i64 a0] w fun e w' => e = .returned (.bool true) ∧ Below w.heap.size w w' := by
  obtain ⟨k, h⟩ := P a0 w0
  refine (laws_FnExactDirClass.calls k a0 true w h).mono ?_
  rintro e w' ⟨rfl, hd⟩
  exact ⟨rfl, hd⟩

end Go.Proofs.Ytdnlehohbbinpaa.MFnExactDirClass
