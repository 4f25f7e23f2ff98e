/- For every list of numbers, the program's BaseLevel answers what the reference's answers, and the list stays as it is. Conditions: none. -/
import Derived.Test.YtdnlehohbbinpaaMFnExactBaseLevelx3
namespace Go.Proofs.Ytdnlehohbbinpaa.Fact
open Go.RowKit Go.Proofs.Ytdnlehohbbinpaa.MFnExactBaseLevel Go.Proofs.YtdnlehohbbinpaaW.PrintWords Go.Proofs.YtdnlehohbbinpaaW.PrintLast
/-! ### what comes from some round on -/
theorem ev_pos {α : Type} {c : Prop} [Decidable c] {f g : Nat → Option α} {r : α} (h : c) (k : Ev f r) : Ev (fun n => if c then f n else g n) r := by
  simpa only [if_pos h] using k
theorem ev_neg {α : Type} {c : Prop} [Decidable c] {f g : Nat → Option α} {r : α} (h : ¬ c) (k : Ev g r) : Ev (fun n => if c then f n else g n) r := by
  simpa only [if_neg h] using k
theorem ev_now {α : Type} {q r : α} (h : q = r) : Ev (fun _ => some q) r := by rw [h]; exact Ev.now r
theorem ev_bs {α β : Type} {a : α} {f : Nat → α → Option β} {r : β} (k : Ev (fun n => f n a) r) : Ev (fun n => (some a).bind (f n)) r := by
  simpa only [Option.bind_some] using k
theorem ev_bc {α β : Type} {o : Option α} {a : α} {f : Nat → α → Option β} {r : β} (h : o = some a) (k : Ev (fun n => f n a) r) : Ev (fun n => o.bind (f n)) r := by
  rw [h]; exact ev_bs k
theorem wrap_in {i : Int} (h0 : -9223372036854775808 ≤ i) (h1 : i ≤ 9223372036854775807) : wrap64 i = i := by
  unfold wrap64
  omega
theorem i64_bounds {x : Int} (h : (Lit.int .i64 x).wf = true) : -9223372036854775808 ≤ x ∧ x ≤ 9223372036854775807 := by
  simp [Lit.wf, IntKind.min, IntKind.max, IntKind.signed, IntKind.bits] at h
  omega
theorem ev_ite {α : Type} {c : Prop} [Decidable c] {f g : Nat → Option α} {r : α} (h1 : c → Ev f r) (h2 : ¬ c → Ev g r) : Ev (fun n => if c then f n else g n) r := by
  by_cases h : c
  · exact ev_pos h (h1 h)
  · exact ev_neg h (h2 h)
theorem ev_to {α : Type} {f : Nat → Option α} {q r : α} (h : q = r) (k : Ev f q) : Ev f r := h ▸ k
theorem wrap_succ {i : Nat} (h : i < 9223372036854775807) : wrap64 ((i : Int) + 1) = ((i + 1 : Nat) : Int) := by
  rw [wrap_in (by omega) (by omega)]; rfl
theorem getD_nat {α : Type} (d : α) (xs : List α) (i : Nat) (h : i < xs.length) : xs.getD (i : Int).toNat d = xs[i] := by
  simp [List.getElem?_eq_getElem h]
/-- A loop that counts from i up to n, its state s. -/
theorem ev_loop {σ ρ : Type} {g : Nat → σ → Int → Option ρ} (n : Nat) (R : Nat → σ → ρ) (Inv : Nat → σ → Prop)
    (hend : ∀ s, Inv n s → Ev (fun k => g k s n) (R n s))
    (hstep : ∀ i s, i < n → Inv i s → (∀ s', Inv (i + 1) s' → Ev (fun k => g k s' ((i + 1 : Nat) : Int)) (R (i + 1) s')) → Ev (fun k => g k s i) (R i s)) :
    ∀ i, i ≤ n → ∀ s, Inv i s → Ev (fun k => g k s i) (R i s) := by
  have key : ∀ d i, n - i = d → i ≤ n → ∀ s, Inv i s → Ev (fun k => g k s i) (R i s) := by
    intro d
    induction d with
    | zero =>
      intro i hd hi s hs
      obtain rfl : i = n := by omega
      exact hend s hs
    | succ d ih =>
      intro i hd hi s hs
      exact hstep i s (by omega) hs (ih (i + 1) (by omega) (by omega))
  exact fun i hi s hs => key (n - i) i rfl hi s hs
/-- The same, without a state. -/
theorem ev_count {ρ : Type} {g : Nat → Int → Option ρ} (n : Nat) (R : Nat → ρ) (hend : Ev (fun k => g k n) (R n))
    (hstep : ∀ i, i < n → Ev (fun k => g k ((i + 1 : Nat) : Int)) (R (i + 1)) → Ev (fun k => g k i) (R i)) : ∀ i, i ≤ n → Ev (fun k => g k i) (R i) := by
  intro i hi
  exact ev_loop (σ := Unit) (g := fun k _ i => g k i) n (fun i _ => R i) (fun _ _ => True) (fun _ _ => hend) (fun i _ h _ ih => hstep i h (ih () trivial)) i hi () trivial
/-- A loop that writes F of each element into a list of the same length. -/
theorem ev_copy {α β : Type} {g : Nat → List β → Int → Option (List β)} (F : α → β) (xs : List α)
    (hend : ∀ ys : List β, ys.length = xs.length → Ev (fun k => g k ys xs.length) ys)
    (hstep : ∀ (ys : List β) (i : Nat) (h : i < xs.length), ys.length = xs.length → Ev (fun k => g k (ys.set i (F xs[i])) ((i + 1 : Nat) : Int)) (xs.map F) → Ev (fun k => g k ys i) (xs.map F))
    (ys : List β) (hl : ys.length = xs.length) : Ev (fun k => g k ys 0) (xs.map F) := by
  refine ev_loop (g := g) xs.length (fun _ _ => xs.map F) (fun i ys => ys.length = xs.length ∧ ys.take i = (xs.map F).take i) ?_ ?_ 0 (Nat.zero_le _) ys ⟨hl, rfl⟩
  · intro ys hs
    have e : ys = xs.map F := by
      have := hs.2
      rwa [List.take_of_length_le (by omega), List.take_of_length_le (by simp)] at this
    rw [← e]; exact hend ys hs.1
  · intro i ys hi hs ih
    refine hstep ys i hi hs.1 (ih _ ⟨by rw [List.length_set]; exact hs.1, ?_⟩)
    rw [List.take_succ_eq_append_getElem (by rw [List.length_set]; omega), List.take_succ_eq_append_getElem (by rw [List.length_map]; omega), List.take_set, hs.2, List.getElem_set_self, List.getElem_map]
    rw [List.set_eq_of_length_le (by simp; omega)]
theorem ite_eq {α : Type} {c : Prop} [Decidable c] {x y z : α} (h1 : c → x = z) (h2 : ¬ c → y = z) : (if c then x else y) = z := by
  by_cases h : c
  · rw [if_pos h]; exact h1 h
  · rw [if_neg h]; exact h2 h
theorem iteP {α : Type} {P : α → Prop} {c : Prop} [Decidable c] {x y : α} (h1 : c → P x) (h2 : ¬ c → P y) : P (if c then x else y) := by
  by_cases h : c
  · rw [if_pos h]; exact h1 h
  · rw [if_neg h]; exact h2 h
/-! ### the copies and comparisons of lists of numbers -/
theorem rd_nat (xs : List Int) (i : Nat) (h : i < xs.length) : rd xs (i : Int) = xs[i] := by
  simp [rd, List.getElem?_eq_getElem h]
theorem toIntS_loop (xs : List Int) (hn : xs.length ≤ 140737488351232) (d : Nat) : ∀ (ys : List Int) (i : Nat), xs.length - i = d → i ≤ xs.length → ys.length = xs.length → ys.take i = xs.take i → Ev (fun k => laws_toIntS.l0 k xs ys i) xs := by
  induction d with
  | zero =>
    intro ys i hd hi hl ht
    refine Ev.step (fun k => laws_toIntS.l0.eq_2 xs ys i k) (ev_neg (by omega) (ev_now ?_))
    rw [List.take_of_length_le (by omega), List.take_of_length_le (by omega)] at ht
    exact ht
  | succ d ih =>
    intro ys i hd hi hl ht
    refine Ev.step (fun k => laws_toIntS.l0.eq_2 xs ys i k) (ev_pos (by omega) (ev_pos (by omega) (ev_pos (by omega) ?_)))
    rw [wrap_in (by omega) (by omega), Int.toNat_natCast, rd_nat xs i (by omega)]
    refine ih (ys.set i xs[i]) (i + 1) (by omega) (by omega) (by rw [List.length_set]; exact hl) ?_
    rw [List.take_succ_eq_append_getElem (by rw [List.length_set]; omega), List.take_succ_eq_append_getElem (by omega), List.take_set, ht, List.getElem_set_self]
    rw [List.set_eq_of_length_le (by simp; omega)]
theorem toIntS_ev (xs : List Int) (hn : xs.length ≤ 1048576) : Ev (fun k => laws_toIntS.f k xs) xs := by
  refine Ev.congr (fun k => by unfold laws_toIntS.f; rfl) (ev_pos (by omega) (ev_pos (by omega) ?_))
  exact toIntS_loop xs (by omega) xs.length _ 0 (by omega) (by omega) (by simp) (by simp)
theorem eqIntS_loop (xs : List Int) (hn : xs.length ≤ 140737488351232) (d : Nat) : ∀ i : Nat, xs.length - i = d → i ≤ xs.length → Ev (fun k => laws_eqIntS.l0 k xs xs i) true := by
  induction d with
  | zero =>
    intro i hd hi
    exact Ev.step (fun k => laws_eqIntS.l0.eq_2 xs xs i k) (ev_neg (by omega) (ev_now rfl))
  | succ d ih =>
    intro i hd hi
    refine Ev.step (fun k => laws_eqIntS.l0.eq_2 xs xs i k) (ev_pos (by omega) (ev_pos (by omega) (ev_pos (by omega) (ev_pos rfl ?_))))
    rw [wrap_in (by omega) (by omega)]
    exact ih (i + 1) (by omega) (by omega)
theorem eqIntS_ev (xs : List Int) (hn : xs.length ≤ 140737488351232) : Ev (fun k => laws_eqIntS.f k xs xs) true :=
  Ev.congr (fun k => by unfold laws_eqIntS.f; rfl) (ev_pos rfl (eqIntS_loop xs hn xs.length 0 (by omega) (by omega)))
theorem l12_in' (a lo hi : Int) : spec_l12In.f a lo hi = some (decide (lo ≤ a ∧ a ≤ hi)) := by
  unfold spec_l12In.f
  split <;> simp <;> omega
set_option maxHeartbeats 4000000 in
theorem dir_spec (a : Int) : spec_DirClass.f 8 a = some (impl_DirClass.g a) := by
  simp only [spec_DirClass.f, spec_DirClass.j0, spec_DirClass.j1, spec_DirClass.j2, spec_DirClass.j3, spec_DirClass.j4, spec_DirClass.j5, spec_DirClass.j6, l12_in', Option.bind_some, decide_eq_true_eq, beq_iff_eq, if_true]
  repeat' refine ite_eq (fun _ => ?_) (fun _ => ?_)
  all_goals first
    | (exfalso; omega)
    | (unfold impl_DirClass.g; refine congrArg some ?_; repeat (first | rw [if_pos (by omega)] | rw [if_neg (by omega)]))
theorem dir_ev (a : Int) : Ev (fun k => spec_DirClass.f k a) (impl_DirClass.g a) := Ev.of (fun k => spec_DirClass.mono a k) (dir_spec a)
theorem dir_range (a : Int) : 0 ≤ impl_DirClass.g a ∧ impl_DirClass.g a ≤ 12 := by
  unfold impl_DirClass.g
  repeat' split
  all_goals omega
def bl : List Int → Int
  | [] => 0
  | x :: t => if impl_DirClass.g x ≤ 2 then (if impl_DirClass.g x = 0 then 0 else 1) else bl t
theorem bl_spec (xs : List Int) (hn : xs.length ≤ 1048576) : Ev (fun k => spec_BaseLevel.f k xs) (bl xs) := by
  refine Ev.congr (fun k => spec_BaseLevel.f.eq_1 k xs) ?_
  refine ev_count (g := fun k i => spec_BaseLevel.l0 k xs i) xs.length (fun i => bl (xs.drop i)) (Ev.step (fun k => spec_BaseLevel.l0.eq_2 xs _ k) (ev_neg (by omega) (ev_now (by rw [List.drop_of_length_le (Nat.le_refl _)]; rfl)))) ?_ 0 (Nat.zero_le _)
  intro i h ih
  refine Ev.step (fun k => spec_BaseLevel.l0.eq_2 xs i k) (ev_pos (by omega) (ev_pos (by omega) ?_))
  rw [rd_nat xs i h, List.drop_eq_getElem_cons h, wrap_succ (by omega)]
  unfold bl
  refine Ev.bind (dir_ev _) (ev_ite (fun e => ?_) (fun e => ?_))
  · rw [if_pos e]
    exact ev_ite (fun e2 => ev_now (by rw [if_pos e2])) (fun e2 => ev_now (by rw [if_neg e2]))
  · rw [if_neg e]; exact ih
theorem bl_impl (xs : List Int) (hn : xs.length ≤ 1048576) : Ev (fun k => impl_BaseLevel.f k xs) (bl xs) := by
  refine Ev.congr (fun k => impl_BaseLevel.f.eq_1 k xs) ?_
  refine ev_count (g := fun k i => impl_BaseLevel.l0 k xs xs.length i) xs.length (fun i => bl (xs.drop i)) (Ev.step (fun k => impl_BaseLevel.l0.eq_2 xs xs.length _ k) (ev_neg (by omega) (ev_now (by rw [List.drop_of_length_le (Nat.le_refl _)]; rfl)))) ?_ 0 (Nat.zero_le _)
  intro i h ih
  refine Ev.step (fun k => impl_BaseLevel.l0.eq_2 xs xs.length i k) (ev_pos (by omega) (ev_pos (by omega) (ev_pos (by omega) ?_)))
  rw [rd_nat xs i h, List.drop_eq_getElem_cons h, wrap_succ (by omega)]
  unfold bl
  have hr := dir_range xs[i]
  refine ev_bc rfl (ev_ite (fun e => ev_now (by rw [if_pos (by omega), if_pos e])) (fun e => ?_))
  refine ev_ite (fun e2 => ev_now (by rw [if_pos (by omega), if_neg e])) (fun e2 => ?_)
  refine ev_ite (fun e3 => ev_now (by rw [if_pos (by omega), if_neg e])) (fun e3 => ?_)
  rw [if_neg (by omega)]; exact ih
theorem FnExactBaseLevel : laws_FnExactBaseLevel.Pure := by
  intro xs _ _ _
  refine Ev.rounds (r := true) ?_
  refine Ev.congr (fun k => laws_FnExactBaseLevel.f.eq_1 k xs) (ev_ite (fun _ => ev_now rfl) (fun h => ?_))
  have hn : xs.length ≤ 1048576 := by omega
  exact Ev.bind (toIntS_ev xs hn) (Ev.bind (bl_spec xs hn) (Ev.bind (toIntS_ev xs hn) (Ev.bind (bl_impl xs hn) (ev_pos rfl (Ev.bind (toIntS_ev xs hn) (Ev.bind (eqIntS_ev xs (by omega)) (ev_pos rfl (Ev.now _))))))))
end Go.Proofs.Ytdnlehohbbinpaa.Fact
