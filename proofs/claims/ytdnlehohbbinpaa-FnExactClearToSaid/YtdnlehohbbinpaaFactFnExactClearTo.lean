/- For every list of floats, place and sides, the program's ClearTo answers what the reference's answers, and the list stays as it is. Conditions: none. -/
import Derived.Test.YtdnlehohbbinpaaMFnExactClearTox3
namespace Go.Proofs.Ytdnlehohbbinpaa.Fact
open Go.RowKit Go.Proofs.Ytdnlehohbbinpaa.MFnExactClearTo Go.Proofs.YtdnlehohbbinpaaW.PrintWords Go.Proofs.YtdnlehohbbinpaaW.PrintLast
/-! ### what comes from some round on -/
theorem ev_pos {α : Type} {c : Prop} [Decidable c] {f g : Nat → Option α} {r : α} (h : c) (k : Ev f r) : Ev (fun n => if c then f n else g n) r := by
  simpa only [if_pos h] using k
theorem ev_neg {α : Type} {c : Prop} [Decidable c] {f g : Nat → Option α} {r : α} (h : ¬ c) (k : Ev g r) : Ev (fun n => if c then f n else g n) r := by
  simpa only [if_neg h] using k
theorem ev_now {α : Type} {q r : α} (h : q = r) : Ev (fun _ => some q) r := by rw [h]; exact Ev.now r
theorem ev_bs {α β : Type} {a : α} {f : Nat → α → Option β} {r : β} (k : Ev (fun n => f n a) r) : Ev (fun n => (some a).bind (f n)) r := by
  simpa only [Option.bind_some] using k
theorem ev_bc {α β : Type} {o : Option α} {a : α} {f : Nat → α → Option β} {r : β} (h : o = some a) (k : Ev (fun n => f n a) r) : Ev (fun n => o.bind (f n)) r := by
  rw [h]; exact ev_bs k
theorem wrap_in {i : Int} (h0 : -9223372036854775808 ≤ i) (h1 : i ≤ 9223372036854775807) : wrap64 i = i := by
  unfold wrap64
  omega
theorem i64_bounds {x : Int} (h : (Lit.int .i64 x).wf = true) : -9223372036854775808 ≤ x ∧ x ≤ 9223372036854775807 := by
  simp [Lit.wf, IntKind.min, IntKind.max, IntKind.signed, IntKind.bits] at h
  omega
theorem ev_ite {α : Type} {c : Prop} [Decidable c] {f g : Nat → Option α} {r : α} (h1 : c → Ev f r) (h2 : ¬ c → Ev g r) : Ev (fun n => if c then f n else g n) r := by
  by_cases h : c
  · exact ev_pos h (h1 h)
  · exact ev_neg h (h2 h)
theorem ev_to {α : Type} {f : Nat → Option α} {q r : α} (h : q = r) (k : Ev f q) : Ev f r := h ▸ k
theorem wrap_succ {i : Nat} (h : i < 9223372036854775807) : wrap64 ((i : Int) + 1) = ((i + 1 : Nat) : Int) := by
  rw [wrap_in (by omega) (by omega)]; rfl
theorem getD_nat {α : Type} (d : α) (xs : List α) (i : Nat) (h : i < xs.length) : xs.getD (i : Int).toNat d = xs[i] := by
  simp [List.getElem?_eq_getElem h]
/-- A loop that counts from i up to n, its state s. -/
theorem ev_loop {σ ρ : Type} {g : Nat → σ → Int → Option ρ} (n : Nat) (R : Nat → σ → ρ) (Inv : Nat → σ → Prop)
    (hend : ∀ s, Inv n s → Ev (fun k => g k s n) (R n s))
    (hstep : ∀ i s, i < n → Inv i s → (∀ s', Inv (i + 1) s' → Ev (fun k => g k s' ((i + 1 : Nat) : Int)) (R (i + 1) s')) → Ev (fun k => g k s i) (R i s)) :
    ∀ i, i ≤ n → ∀ s, Inv i s → Ev (fun k => g k s i) (R i s) := by
  have key : ∀ d i, n - i = d → i ≤ n → ∀ s, Inv i s → Ev (fun k => g k s i) (R i s) := by
    intro d
    induction d with
    | zero =>
      intro i hd hi s hs
      obtain rfl : i = n := by omega
      exact hend s hs
    | succ d ih =>
      intro i hd hi s hs
      exact hstep i s (by omega) hs (ih (i + 1) (by omega) (by omega))
  exact fun i hi s hs => key (n - i) i rfl hi s hs
/-- The same, without a state. -/
theorem ev_count {ρ : Type} {g : Nat → Int → Option ρ} (n : Nat) (R : Nat → ρ) (hend : Ev (fun k => g k n) (R n))
    (hstep : ∀ i, i < n → Ev (fun k => g k ((i + 1 : Nat) : Int)) (R (i + 1)) → Ev (fun k => g k i) (R i)) : ∀ i, i ≤ n → Ev (fun k => g k i) (R i) := by
  intro i hi
  exact ev_loop (σ := Unit) (g := fun k _ i => g k i) n (fun i _ => R i) (fun _ _ => True) (fun _ _ => hend) (fun i _ h _ ih => hstep i h (ih () trivial)) i hi () trivial
/-- A loop that writes F of each element into a list of the same length. -/
theorem ev_copy {α β : Type} {g : Nat → List β → Int → Option (List β)} (F : α → β) (xs : List α)
    (hend : ∀ ys : List β, ys.length = xs.length → Ev (fun k => g k ys xs.length) ys)
    (hstep : ∀ (ys : List β) (i : Nat) (h : i < xs.length), ys.length = xs.length → Ev (fun k => g k (ys.set i (F xs[i])) ((i + 1 : Nat) : Int)) (xs.map F) → Ev (fun k => g k ys i) (xs.map F))
    (ys : List β) (hl : ys.length = xs.length) : Ev (fun k => g k ys 0) (xs.map F) := by
  refine ev_loop (g := g) xs.length (fun _ _ => xs.map F) (fun i ys => ys.length = xs.length ∧ ys.take i = (xs.map F).take i) ?_ ?_ 0 (Nat.zero_le _) ys ⟨hl, rfl⟩
  · intro ys hs
    have e : ys = xs.map F := by
      have := hs.2
      rwa [List.take_of_length_le (by omega), List.take_of_length_le (by simp)] at this
    rw [← e]; exact hend ys hs.1
  · intro i ys hi hs ih
    refine hstep ys i hi hs.1 (ih _ ⟨by rw [List.length_set]; exact hs.1, ?_⟩)
    rw [List.take_succ_eq_append_getElem (by rw [List.length_set]; omega), List.take_succ_eq_append_getElem (by rw [List.length_map]; omega), List.take_set, hs.2, List.getElem_set_self, List.getElem_map]
    rw [List.set_eq_of_length_le (by simp; omega)]
/-! ### the rectangles: copies, comparisons, bounds -/
def cvF (x : S63) : S59 := ⟨⟨x.f0.f0, x.f0.f1, x.f0.f2, x.f0.f3⟩, x.f1⟩
abbrev FB := S59
abbrev FL := S63
theorem sz_floats (xs : List FL) : laws_szFloatBoxS.f xs 1048576 = some (if wrap64 (1048576 - (xs.length : Int)) < 0 then -1 else wrap64 (1048576 - (xs.length : Int))) := by
  unfold laws_szFloatBoxS.f; split <;> rfl
theorem sz_small (xs : List FL) (hl : xs.length ≤ maxLen) (h : ¬ (if wrap64 (1048576 - (xs.length : Int)) < 0 then -1 else wrap64 (1048576 - (xs.length : Int))) < 0) : xs.length ≤ 1048576 := by
  unfold maxLen at hl
  rw [wrap_in (by omega) (by omega)] at h
  split at h <;> omega
theorem at_FL (xs : List FL) (i : Nat) (h : i < xs.length) : rd_T63 xs (i : Int) = xs[i] := getD_nat _ xs i h
theorem at_FB (xs : List FB) (i : Nat) (h : i < xs.length) : rd_T59 xs (i : Int) = xs[i] := getD_nat _ xs i h
theorem toFloats (xs : List FL) (hn : xs.length ≤ 1048576) : Ev (fun k => laws_toFloatBoxS.f k xs) (xs.map cvF) := by
  refine Ev.congr (fun k => by unfold laws_toFloatBoxS.f; rfl) (ev_pos (by omega) (ev_pos (by omega) ?_))
  refine ev_copy (g := fun k ys i => laws_toFloatBoxS.l0 k xs ys i) cvF xs (fun ys hl => Ev.step (fun k => laws_toFloatBoxS.l0.eq_2 xs ys _ k) (ev_neg (by omega) (ev_now rfl))) ?_ _ (by simp)
  intro ys i h hl ih
  refine Ev.step (fun k => laws_toFloatBoxS.l0.eq_2 xs ys i k) (ev_pos (by omega) (ev_pos (by omega) (ev_bc (a := ((cvF xs[i]).f0.f0, (cvF xs[i]).f0.f1, (cvF xs[i]).f0.f2, (cvF xs[i]).f0.f3, (cvF xs[i]).f1)) (by rw [at_FL xs i h]; rfl) (ev_pos (by omega) ?_))))
  rw [wrap_succ (by omega), Int.toNat_natCast]; exact ih
theorem eqFloats (xs : List FB) (hn : xs.length ≤ 1048576) : Ev (fun k => laws_eqFloatBoxS.f k xs xs) true := by
  refine Ev.congr (fun k => by unfold laws_eqFloatBoxS.f; rfl) (ev_pos rfl ?_)
  refine ev_count (g := fun k i => laws_eqFloatBoxS.l0 k xs xs i) xs.length (fun _ => true) (Ev.step (fun k => laws_eqFloatBoxS.l0.eq_2 xs xs _ k) (ev_neg (by omega) (ev_now rfl))) ?_ 0 (Nat.zero_le _)
  intro i h ih
  refine Ev.step (fun k => laws_eqFloatBoxS.l0.eq_2 xs xs i k) (ev_pos (by omega) (ev_pos (by omega) (ev_pos (by omega) (ev_bc (a := true) ?_ (ev_pos rfl ?_)))))
  · simp [laws_eqFloatBox.f, laws_eqRect.f]
  · rw [wrap_succ (by omega)]; exact ih
def okF (x : FB) : Bool := decide (-100000000 ≤ x.f0.f0 ∧ x.f0.f0 ≤ 100000000) && (decide (-100000000 ≤ x.f0.f1 ∧ x.f0.f1 ≤ 100000000) && (decide (0 ≤ x.f0.f2 ∧ x.f0.f2 ≤ 100000000) && decide (0 ≤ x.f0.f3 ∧ x.f0.f3 ≤ 100000000)))
theorem l9_in (a : Int) : spec_l9In.f a 100000000 = some (decide (-100000000 ≤ a ∧ a ≤ 100000000)) := by
  unfold spec_l9In.f
  rw [wrap_in (by omega) (by omega)]
  split <;> simp <;> omega
theorem l12_in (a lo hi : Int) : spec_l12In.f a lo hi = some (decide (lo ≤ a ∧ a ≤ hi)) := by
  unfold spec_l12In.f
  split <;> simp <;> omega
theorem units_in (a : Int) : impl_inUnits.f a = some (decide (-100000000 ≤ a ∧ a ≤ 100000000)) := by
  unfold impl_inUnits.f
  split <;> simp <;> omega
theorem nonneg_in (a : Int) : impl_nonNegative.f a = some (decide (0 ≤ a ∧ a ≤ 100000000)) := by
  unfold impl_nonNegative.f
  split <;> simp <;> omega
theorem rect_ok (x : FB) : spec_l17RectOk.f x.f0.f0 x.f0.f1 x.f0.f2 x.f0.f3 = some (okF x) := by
  unfold spec_l17RectOk.f okF
  simp only [l9_in, l12_in, Option.bind_some]
  cases decide (-100000000 ≤ x.f0.f0 ∧ x.f0.f0 ≤ 100000000) <;> cases decide (-100000000 ≤ x.f0.f1 ∧ x.f0.f1 ≤ 100000000) <;> cases decide (0 ≤ x.f0.f2 ∧ x.f0.f2 ≤ 100000000) <;> rfl
theorem all_step (xs : List FB) (i : Nat) (h : i < xs.length) : (xs.drop i).all okF = (okF xs[i] && (xs.drop (i + 1)).all okF) := by
  rw [List.drop_eq_getElem_cons h, List.all_cons]
theorem spec_ok (xs : List FB) : Ev (fun k => spec_FloatsOk.f k xs) (decide (xs.length ≤ 1000) && xs.all okF) := by
  refine Ev.congr (fun k => by unfold spec_FloatsOk.f; rfl) (ev_ite (fun h => ev_now (by simp; omega)) (fun h => ?_))
  have hn : xs.length ≤ 1000 := by omega
  rw [decide_eq_true hn, Bool.true_and]
  refine ev_count (g := fun k i => spec_FloatsOk.l0 k xs i) xs.length (fun i => (xs.drop i).all okF) (Ev.step (fun k => spec_FloatsOk.l0.eq_2 xs _ k) (ev_neg (by omega) (ev_now (by rw [List.drop_of_length_le (Nat.le_refl _)]; rfl)))) ?_ 0 (Nat.zero_le _)
  intro i h ih
  refine Ev.step (fun k => spec_FloatsOk.l0.eq_2 xs i k) (ev_pos (by omega) (ev_pos (by omega) (ev_bc (a := okF xs[i]) (by rw [at_FB xs i h]; exact rect_ok _) ?_)))
  rw [all_step xs i h, wrap_succ (by omega)]
  refine ev_ite (fun e => ?_) (fun e => ev_now (by rw [Bool.eq_false_iff.mpr e]; rfl))
  rw [e, Bool.true_and]; exact ih
theorem impl_ok (xs : List FB) (hn : xs.length ≤ 1048576) : Ev (fun k => impl_FloatsOk.f k xs) (decide (xs.length ≤ 1000) && xs.all okF) := by
  refine Ev.congr (fun k => by unfold impl_FloatsOk.f; rfl) ?_
  rw [Bool.and_comm]
  refine ev_count (g := fun k i => impl_FloatsOk.l0 k xs xs xs.length i) xs.length (fun i => (xs.drop i).all okF && decide (xs.length ≤ 1000)) (Ev.step (fun k => impl_FloatsOk.l0.eq_2 xs xs xs.length _ k) (ev_neg (by omega) (ev_now (by rw [List.drop_of_length_le (Nat.le_refl _)]; simp; omega)))) ?_ 0 (Nat.zero_le _)
  intro i h ih
  refine Ev.step (fun k => impl_FloatsOk.l0.eq_2 xs xs xs.length i k) (ev_pos (by omega) (ev_pos (by omega) (ev_pos (by omega) ?_)))
  rw [all_step xs i h, wrap_succ (by omega), at_FB xs i h]
  unfold okF
  refine ev_bc (units_in _) (ev_ite (fun e => ?_) (fun e => ev_now (by rw [Bool.eq_false_iff.mpr e]; rfl)))
  refine ev_bc (units_in _) (ev_ite (fun e2 => ?_) (fun e2 => ev_now (by rw [Bool.eq_false_iff.mpr e2, e]; rfl)))
  refine ev_bc (nonneg_in _) (ev_ite (fun e3 => ?_) (fun e3 => ev_now (by rw [Bool.eq_false_iff.mpr e3, e, e2]; rfl)))
  refine ev_bc (nonneg_in _) (ev_ite (fun e4 => ?_) (fun e4 => ev_now (by rw [Bool.eq_false_iff.mpr e4, e, e2, e3]; rfl)))
  rw [e, e2, e3, e4]; exact ih
def clr (xs : List FB) (y : Int) (le ri : Bool) : Int :=
  xs.foldl (fun y x => if (if x.f1 = true then ri else le) = true then (if wrap64 (x.f0.f1 + x.f0.f3) > y then wrap64 (x.f0.f1 + x.f0.f3) else y) else y) y
theorem clr_step (xs : List FB) (i : Nat) (h : i < xs.length) (y : Int) (le ri : Bool) : clr (xs.drop i) y le ri = clr (xs.drop (i + 1)) (if (if xs[i].f1 = true then ri else le) = true then (if wrap64 (xs[i].f0.f1 + xs[i].f0.f3) > y then wrap64 (xs[i].f0.f1 + xs[i].f0.f3) else y) else y) le ri := by
  rw [List.drop_eq_getElem_cons h]; rfl
theorem spec_clr (xs : List FB) (hn : xs.length ≤ 1048576) (le ri : Bool) (y : Int) : Ev (fun k => spec_ClearTo.l0 k xs y le ri 0) (clr xs y le ri) := by
  refine ev_loop (g := fun k y i => spec_ClearTo.l0 k xs y le ri i) xs.length (fun i y => clr (xs.drop i) y le ri) (fun _ _ => True) ?_ ?_ 0 (Nat.zero_le _) y trivial
  · intro y _
    exact Ev.step (fun k => spec_ClearTo.l0.eq_2 xs y le ri _ k) (ev_neg (by omega) (ev_now (by rw [List.drop_of_length_le (Nat.le_refl _)]; rfl)))
  intro i y h _ ih
  have jump : ∀ b : Bool, (if xs[i].f1 = true then ri else le) = b → Ev (fun k => spec_ClearTo.j1 k xs y le ri i b) (clr (xs.drop i) y le ri) := by
    intro b hb
    refine Ev.step (fun k => spec_ClearTo.j1.eq_2 xs y le ri i b k) ?_
    rw [clr_step xs i h, wrap_succ (by omega), at_FB xs i h]
    simp only [hb]
    cases b with
    | true =>
      refine ev_pos rfl (ev_pos (by omega) (ev_pos (by omega) (ev_ite (fun e => ?_) (fun e => ?_))))
      · rw [if_pos rfl, if_pos e]; exact ih _ trivial
      · rw [if_pos rfl, if_neg e]; exact ih _ trivial
    | false =>
      refine ev_neg (by simp) ?_
      rw [if_neg (by simp)]; exact ih _ trivial
  refine Ev.step (fun k => spec_ClearTo.l0.eq_2 xs y le ri i k) (ev_pos (by omega) (ev_pos (by omega) ?_))
  rw [at_FB xs i h]
  refine ev_ite (fun e => ?_) (fun e => ?_)
  · refine ev_ite (fun e2 => jump _ (by rw [if_pos e, e2])) (fun e2 => jump _ (by rw [if_pos e]; simpa using e2))
  · exact jump _ (by rw [if_neg e])
theorem impl_clr (xs : List FB) (hn : xs.length ≤ 1048576) (le ri : Bool) (y : Int) : Ev (fun k => impl_clearTo.f k xs y le ri) (clr xs y le ri) := by
  refine Ev.congr (fun k => impl_clearTo.f.eq_1 k xs y le ri) ?_
  refine ev_loop (g := fun k y i => impl_clearTo.l0 k y le ri xs xs.length i) xs.length (fun i y => clr (xs.drop i) y le ri) (fun _ _ => True) ?_ ?_ 0 (Nat.zero_le _) y trivial
  · intro y _
    exact Ev.step (fun k => impl_clearTo.l0.eq_2 y le ri xs xs.length _ k) (ev_neg (by omega) (ev_now (by rw [List.drop_of_length_le (Nat.le_refl _)]; rfl)))
  intro i y h _ ih
  refine Ev.step (fun k => impl_clearTo.l0.eq_2 y le ri xs xs.length i k) (ev_pos (by omega) (ev_pos (by omega) (ev_pos (by omega) ?_)))
  rw [at_FB xs i h, clr_step xs i h, wrap_succ (by omega)]
  have up : ∀ b : Bool, b = true → (if b = true then (if wrap64 (xs[i].f0.f1 + xs[i].f0.f3) > y then wrap64 (xs[i].f0.f1 + xs[i].f0.f3) else y) else y) = mx y (wrap64 (xs[i].f0.f1 + xs[i].f0.f3)) := by
    intro b hb; rw [if_pos hb]; rfl
  have no : ∀ b : Bool, ¬ b = true → (if b = true then (if wrap64 (xs[i].f0.f1 + xs[i].f0.f3) > y then wrap64 (xs[i].f0.f1 + xs[i].f0.f3) else y) else y) = y := fun b hb => if_neg hb
  refine ev_ite (fun e => ?_) (fun e => ?_)
  · refine ev_ite (fun e2 => ?_) (fun e2 => ?_)
    · rw [up _ (by rw [if_pos e]; exact e2)]; exact ih _ trivial
    · rw [no _ (by rw [if_pos e]; exact e2)]; exact ih _ trivial
  · refine ev_ite (fun e2 => ?_) (fun e2 => ?_)
    · rw [up _ (by rw [if_neg e]; exact e2)]; exact ih _ trivial
    · rw [no _ (by rw [if_neg e]; exact e2)]; exact ih _ trivial
theorem FnExactClearTo : laws_FnExactClearTo.Pure := by
  intro xs y le ri hx _
  refine Ev.rounds (r := true) ?_
  refine Ev.congr (fun k => laws_FnExactClearTo.f.eq_1 k xs y le ri) (ev_bc (sz_floats xs) ?_)
  refine ev_ite (fun _ => ev_now rfl) (fun h => ?_)
  have hn := sz_small xs hx.1 h
  have hm : (xs.map cvF).length ≤ 1048576 := by rw [List.length_map]; exact hn
  obtain ⟨r, h1, h2⟩ : ∃ r, Ev (fun k => spec_ClearTo.f k (xs.map cvF) y le ri) r ∧ Ev (fun k => impl_ClearTo.f k (xs.map cvF) y le ri) r := by
    refine ⟨if (decide ((xs.map cvF).length ≤ 1000) && (xs.map cvF).all okF) = true then clr (xs.map cvF) y le ri else y, ?_, ?_⟩
    · refine Ev.congr (fun k => spec_ClearTo.f.eq_1 k _ y le ri) (Ev.bind (spec_ok _) (ev_ite (fun e => ?_) (fun e => ev_now (by rw [if_neg e]))))
      rw [if_pos e]; exact spec_clr _ hm le ri y
    · refine Ev.congr (fun k => impl_ClearTo.f.eq_1 k _ y le ri) (Ev.bind (impl_ok _ hm) (ev_ite (fun e => ?_) (fun e => ev_now (by rw [if_neg e]))))
      rw [if_pos e]; exact Ev.bind (impl_clr _ hm le ri y) (ev_now rfl)
  exact Ev.bind (toFloats xs hn) (Ev.bind h1 (Ev.bind (toFloats xs hn) (Ev.bind h2 (ev_pos rfl (Ev.bind (toFloats xs hn) (Ev.bind (eqFloats _ hm) (ev_pos rfl (ev_now rfl))))))))
end Go.Proofs.Ytdnlehohbbinpaa.Fact
