/- PlaceFloat. Conditions: none. -/
import Derived.Test.YtdnlehohbbinpaaMFnExactPlaceFloatx6
namespace Go.Proofs.Ytdnlehohbbinpaa.Fact
open Go.RowKit Go.Proofs.Ytdnlehohbbinpaa.MFnExactPlaceFloat Go.Proofs.YtdnlehohbbinpaaW.PrintWords Go.Proofs.YtdnlehohbbinpaaW.PrintLast
set_option linter.unusedVariables false
set_option linter.unusedSimpArgs false
/-! ### what comes from some round on -/
theorem ev_pos {α : Type} {c : Prop} [Decidable c] {f g : Nat → Option α} {r : α} (h : c) (k : Ev f r) : Ev (fun n => if c then f n else g n) r := by
  simpa only [if_pos h] using k
theorem ev_neg {α : Type} {c : Prop} [Decidable c] {f g : Nat → Option α} {r : α} (h : ¬ c) (k : Ev g r) : Ev (fun n => if c then f n else g n) r := by
  simpa only [if_neg h] using k
theorem ev_now {α : Type} {q r : α} (h : q = r) : Ev (fun _ => some q) r := by rw [h]; exact Ev.now r
theorem ev_bs {α β : Type} {a : α} {f : Nat → α → Option β} {r : β} (k : Ev (fun n => f n a) r) : Ev (fun n => (some a).bind (f n)) r := by
  simpa only [Option.bind_some] using k
theorem ev_bc {α β : Type} {o : Option α} {a : α} {f : Nat → α → Option β} {r : β} (h : o = some a) (k : Ev (fun n => f n a) r) : Ev (fun n => o.bind (f n)) r := by
  rw [h]; exact ev_bs k
theorem wrap_in {i : Int} (h0 : -9223372036854775808 ≤ i) (h1 : i ≤ 9223372036854775807) : wrap64 i = i := by
  unfold wrap64
  omega
theorem i64_bounds {x : Int} (h : (Lit.int .i64 x).wf = true) : -9223372036854775808 ≤ x ∧ x ≤ 9223372036854775807 := by
  simp [Lit.wf, IntKind.min, IntKind.max, IntKind.signed, IntKind.bits] at h
  omega
theorem ev_ite {α : Type} {c : Prop} [Decidable c] {f g : Nat → Option α} {r : α} (h1 : c → Ev f r) (h2 : ¬ c → Ev g r) : Ev (fun n => if c then f n else g n) r := by
  by_cases h : c
  · exact ev_pos h (h1 h)
  · exact ev_neg h (h2 h)
theorem ev_to {α : Type} {f : Nat → Option α} {q r : α} (h : q = r) (k : Ev f q) : Ev f r := h ▸ k
theorem wrap_succ {i : Nat} (h : i < 9223372036854775807) : wrap64 ((i : Int) + 1) = ((i + 1 : Nat) : Int) := by
  rw [wrap_in (by omega) (by omega)]; rfl
theorem getD_nat {α : Type} (d : α) (xs : List α) (i : Nat) (h : i < xs.length) : xs.getD (i : Int).toNat d = xs[i] := by
  simp [List.getElem?_eq_getElem h]
/-- A loop that counts from i up to n, its state s. -/
theorem ev_loop {σ ρ : Type} {g : Nat → σ → Int → Option ρ} (n : Nat) (R : Nat → σ → ρ) (Inv : Nat → σ → Prop)
    (hend : ∀ s, Inv n s → Ev (fun k => g k s n) (R n s))
    (hstep : ∀ i s, i < n → Inv i s → (∀ s', Inv (i + 1) s' → Ev (fun k => g k s' ((i + 1 : Nat) : Int)) (R (i + 1) s')) → Ev (fun k => g k s i) (R i s)) :
    ∀ i, i ≤ n → ∀ s, Inv i s → Ev (fun k => g k s i) (R i s) := by
  have key : ∀ d i, n - i = d → i ≤ n → ∀ s, Inv i s → Ev (fun k => g k s i) (R i s) := by
    intro d
    induction d with
    | zero =>
      intro i hd hi s hs
      obtain rfl : i = n := by omega
      exact hend s hs
    | succ d ih =>
      intro i hd hi s hs
      exact hstep i s (by omega) hs (ih (i + 1) (by omega) (by omega))
  exact fun i hi s hs => key (n - i) i rfl hi s hs
/-- The same, without a state. -/
theorem ev_count {ρ : Type} {g : Nat → Int → Option ρ} (n : Nat) (R : Nat → ρ) (hend : Ev (fun k => g k n) (R n))
    (hstep : ∀ i, i < n → Ev (fun k => g k ((i + 1 : Nat) : Int)) (R (i + 1)) → Ev (fun k => g k i) (R i)) : ∀ i, i ≤ n → Ev (fun k => g k i) (R i) := by
  intro i hi
  exact ev_loop (σ := Unit) (g := fun k _ i => g k i) n (fun i _ => R i) (fun _ _ => True) (fun _ _ => hend) (fun i _ h _ ih => hstep i h (ih () trivial)) i hi () trivial
/-- A loop that writes F of each element into a list of the same length. -/
theorem ev_copy {α β : Type} {g : Nat → List β → Int → Option (List β)} (F : α → β) (xs : List α)
    (hend : ∀ ys : List β, ys.length = xs.length → Ev (fun k => g k ys xs.length) ys)
    (hstep : ∀ (ys : List β) (i : Nat) (h : i < xs.length), ys.length = xs.length → Ev (fun k => g k (ys.set i (F xs[i])) ((i + 1 : Nat) : Int)) (xs.map F) → Ev (fun k => g k ys i) (xs.map F))
    (ys : List β) (hl : ys.length = xs.length) : Ev (fun k => g k ys 0) (xs.map F) := by
  refine ev_loop (g := g) xs.length (fun _ _ => xs.map F) (fun i ys => ys.length = xs.length ∧ ys.take i = (xs.map F).take i) ?_ ?_ 0 (Nat.zero_le _) ys ⟨hl, rfl⟩
  · intro ys hs
    have e : ys = xs.map F := by
      have := hs.2
      rwa [List.take_of_length_le (by omega), List.take_of_length_le (by simp)] at this
    rw [← e]; exact hend ys hs.1
  · intro i ys hi hs ih
    refine hstep ys i hi hs.1 (ih _ ⟨by rw [List.length_set]; exact hs.1, ?_⟩)
    rw [List.take_succ_eq_append_getElem (by rw [List.length_set]; omega), List.take_succ_eq_append_getElem (by rw [List.length_map]; omega), List.take_set, hs.2, List.getElem_set_self, List.getElem_map]
    rw [List.set_eq_of_length_le (by simp; omega)]
theorem ite_eq {α : Type} {c : Prop} [Decidable c] {x y z : α} (h1 : c → x = z) (h2 : ¬ c → y = z) : (if c then x else y) = z := by
  by_cases h : c
  · rw [if_pos h]; exact h1 h
  · rw [if_neg h]; exact h2 h
theorem iteP {α : Type} {P : α → Prop} {c : Prop} [Decidable c] {x y : α} (h1 : c → P x) (h2 : ¬ c → P y) : P (if c then x else y) := by
  by_cases h : c
  · rw [if_pos h]; exact h1 h
  · rw [if_neg h]; exact h2 h
/-! ### the rectangles: copies, comparisons, bounds -/
def cvF (x : S63) : S59 := ⟨⟨x.f0.f0, x.f0.f1, x.f0.f2, x.f0.f3⟩, x.f1⟩
abbrev FB := S59
abbrev FL := S63
theorem sz_floats (xs : List FL) : laws_szFloatBoxS.f xs 1048576 = some (if wrap64 (1048576 - (xs.length : Int)) < 0 then -1 else wrap64 (1048576 - (xs.length : Int))) := by
  unfold laws_szFloatBoxS.f; split <;> rfl
theorem sz_small (xs : List FL) (hl : xs.length ≤ maxLen) (h : ¬ (if wrap64 (1048576 - (xs.length : Int)) < 0 then -1 else wrap64 (1048576 - (xs.length : Int))) < 0) : xs.length ≤ 1048576 := by
  unfold maxLen at hl
  rw [wrap_in (by omega) (by omega)] at h
  split at h <;> omega
theorem at_FL (xs : List FL) (i : Nat) (h : i < xs.length) : rd_T63 xs (i : Int) = xs[i] := getD_nat _ xs i h
theorem at_FB (xs : List FB) (i : Nat) (h : i < xs.length) : rd_T59 xs (i : Int) = xs[i] := getD_nat _ xs i h
theorem toFloats (xs : List FL) (hn : xs.length ≤ 1048576) : Ev (fun k => laws_toFloatBoxS.f k xs) (xs.map cvF) := by
  refine Ev.congr (fun k => by unfold laws_toFloatBoxS.f; rfl) (ev_pos (by omega) (ev_pos (by omega) ?_))
  refine ev_copy (g := fun k ys i => laws_toFloatBoxS.l0 k xs ys i) cvF xs (fun ys hl => Ev.step (fun k => laws_toFloatBoxS.l0.eq_2 xs ys _ k) (ev_neg (by omega) (ev_now rfl))) ?_ _ (by simp)
  intro ys i h hl ih
  refine Ev.step (fun k => laws_toFloatBoxS.l0.eq_2 xs ys i k) (ev_pos (by omega) (ev_pos (by omega) (ev_bc (a := ((cvF xs[i]).f0.f0, (cvF xs[i]).f0.f1, (cvF xs[i]).f0.f2, (cvF xs[i]).f0.f3, (cvF xs[i]).f1)) (by rw [at_FL xs i h]; rfl) (ev_pos (by omega) ?_))))
  rw [wrap_succ (by omega), Int.toNat_natCast]; exact ih
theorem eqFloats (xs : List FB) (hn : xs.length ≤ 1048576) : Ev (fun k => laws_eqFloatBoxS.f k xs xs) true := by
  refine Ev.congr (fun k => by unfold laws_eqFloatBoxS.f; rfl) (ev_pos rfl ?_)
  refine ev_count (g := fun k i => laws_eqFloatBoxS.l0 k xs xs i) xs.length (fun _ => true) (Ev.step (fun k => laws_eqFloatBoxS.l0.eq_2 xs xs _ k) (ev_neg (by omega) (ev_now rfl))) ?_ 0 (Nat.zero_le _)
  intro i h ih
  refine Ev.step (fun k => laws_eqFloatBoxS.l0.eq_2 xs xs i k) (ev_pos (by omega) (ev_pos (by omega) (ev_pos (by omega) (ev_bc (a := true) ?_ (ev_pos rfl ?_)))))
  · simp [laws_eqFloatBox.f, laws_eqRect.f]
  · rw [wrap_succ (by omega)]; exact ih
def okF (x : FB) : Bool := decide (-100000000 ≤ x.f0.f0 ∧ x.f0.f0 ≤ 100000000) && (decide (-100000000 ≤ x.f0.f1 ∧ x.f0.f1 ≤ 100000000) && (decide (0 ≤ x.f0.f2 ∧ x.f0.f2 ≤ 100000000) && decide (0 ≤ x.f0.f3 ∧ x.f0.f3 ≤ 100000000)))
theorem l9_in (a : Int) : spec_l9In.f a 100000000 = some (decide (-100000000 ≤ a ∧ a ≤ 100000000)) := by
  unfold spec_l9In.f
  rw [wrap_in (by omega) (by omega)]
  split <;> simp <;> omega
theorem l12_in (a lo hi : Int) : spec_l12In.f a lo hi = some (decide (lo ≤ a ∧ a ≤ hi)) := by
  unfold spec_l12In.f
  split <;> simp <;> omega
theorem units_in (a : Int) : impl_inUnits.f a = some (decide (-100000000 ≤ a ∧ a ≤ 100000000)) := by
  unfold impl_inUnits.f
  split <;> simp <;> omega
theorem nonneg_in (a : Int) : impl_nonNegative.f a = some (decide (0 ≤ a ∧ a ≤ 100000000)) := by
  unfold impl_nonNegative.f
  split <;> simp <;> omega
theorem rect_ok (x : FB) : spec_l17RectOk.f x.f0.f0 x.f0.f1 x.f0.f2 x.f0.f3 = some (okF x) := by
  unfold spec_l17RectOk.f okF
  simp only [l9_in, l12_in, Option.bind_some]
  cases decide (-100000000 ≤ x.f0.f0 ∧ x.f0.f0 ≤ 100000000) <;> cases decide (-100000000 ≤ x.f0.f1 ∧ x.f0.f1 ≤ 100000000) <;> cases decide (0 ≤ x.f0.f2 ∧ x.f0.f2 ≤ 100000000) <;> rfl
theorem all_step (xs : List FB) (i : Nat) (h : i < xs.length) : (xs.drop i).all okF = (okF xs[i] && (xs.drop (i + 1)).all okF) := by
  rw [List.drop_eq_getElem_cons h, List.all_cons]
theorem spec_ok (xs : List FB) : Ev (fun k => spec_FloatsOk.f k xs) (decide (xs.length ≤ 1000) && xs.all okF) := by
  refine Ev.congr (fun k => by unfold spec_FloatsOk.f; rfl) (ev_ite (fun h => ev_now (by simp; omega)) (fun h => ?_))
  have hn : xs.length ≤ 1000 := by omega
  rw [decide_eq_true hn, Bool.true_and]
  refine ev_count (g := fun k i => spec_FloatsOk.l0 k xs i) xs.length (fun i => (xs.drop i).all okF) (Ev.step (fun k => spec_FloatsOk.l0.eq_2 xs _ k) (ev_neg (by omega) (ev_now (by rw [List.drop_of_length_le (Nat.le_refl _)]; rfl)))) ?_ 0 (Nat.zero_le _)
  intro i h ih
  refine Ev.step (fun k => spec_FloatsOk.l0.eq_2 xs i k) (ev_pos (by omega) (ev_pos (by omega) (ev_bc (a := okF xs[i]) (by rw [at_FB xs i h]; exact rect_ok _) ?_)))
  rw [all_step xs i h, wrap_succ (by omega)]
  refine ev_ite (fun e => ?_) (fun e => ev_now (by rw [Bool.eq_false_iff.mpr e]; rfl))
  rw [e, Bool.true_and]; exact ih
theorem impl_ok (xs : List FB) (hn : xs.length ≤ 1048576) : Ev (fun k => impl_FloatsOk.f k xs) (decide (xs.length ≤ 1000) && xs.all okF) := by
  refine Ev.congr (fun k => by unfold impl_FloatsOk.f; rfl) ?_
  rw [Bool.and_comm]
  refine ev_count (g := fun k i => impl_FloatsOk.l0 k xs xs xs.length i) xs.length (fun i => (xs.drop i).all okF && decide (xs.length ≤ 1000)) (Ev.step (fun k => impl_FloatsOk.l0.eq_2 xs xs xs.length _ k) (ev_neg (by omega) (ev_now (by rw [List.drop_of_length_le (Nat.le_refl _)]; simp; omega)))) ?_ 0 (Nat.zero_le _)
  intro i h ih
  refine Ev.step (fun k => impl_FloatsOk.l0.eq_2 xs xs xs.length i k) (ev_pos (by omega) (ev_pos (by omega) (ev_pos (by omega) ?_)))
  rw [all_step xs i h, wrap_succ (by omega), at_FB xs i h]
  unfold okF
  refine ev_bc (units_in _) (ev_ite (fun e => ?_) (fun e => ev_now (by rw [Bool.eq_false_iff.mpr e]; rfl)))
  refine ev_bc (units_in _) (ev_ite (fun e2 => ?_) (fun e2 => ev_now (by rw [Bool.eq_false_iff.mpr e2, e]; rfl)))
  refine ev_bc (nonneg_in _) (ev_ite (fun e3 => ?_) (fun e3 => ev_now (by rw [Bool.eq_false_iff.mpr e3, e, e2]; rfl)))
  refine ev_bc (nonneg_in _) (ev_ite (fun e4 => ?_) (fun e4 => ev_now (by rw [Bool.eq_false_iff.mpr e4, e, e2, e3]; rfl)))
  rw [e, e2, e3, e4]; exact ih
/-! ### the floats that take room, and what reaches into heights -/
def hit (x : FB) (y h : Int) : Bool := takes x && reachB x y h
def rmS (y h : Int) (s : Int × Int) (x : FB) : Int × Int := if hit x y h = true then (if x.f1 = true then (s.1, mn s.2 x.f0.f0) else (mx s.1 (wrap64 (x.f0.f0 + x.f0.f2)), s.2)) else s
def rm (xs : List FB) (a b y h : Int) : Int × Int := xs.foldl (rmS y h) (a, b)
theorem bandsF_cons (x : FB) (xs : List FB) : bandsF (x :: xs) = if takes x = true then x :: bandsF xs else bandsF xs := by
  unfold bandsF; rw [List.filter_cons]
theorem roomL_eq (y h : Int) (xs : List FB) : ∀ (a b : Int) (s : Bool), roomL (bandsF xs) a b s y h = ((rm xs a b y h).1, (rm xs a b y h).2, s || xs.any (fun x => hit x y h)) := by
  induction xs with
  | nil => intro a b s; simp [bandsF, roomL, rm]
  | cons x xs ih =>
    intro a b s
    rw [bandsF_cons]
    by_cases t : takes x = true
    · rw [if_pos t, roomL]
      by_cases r : reachB x y h = true
      · have hh : hit x y h = true := by simp [hit, t, r]
        rw [if_pos r]
        by_cases f : x.f1 = true
        · rw [if_pos f, ih]; simp [rm, rmS, hh, f]
        · rw [if_neg f, ih]; simp [rm, rmS, hh, f]
      · have hh : hit x y h = false := by simp [hit, r]
        rw [if_neg r, ih]; simp [rm, rmS, hh]
    · have hh : hit x y h = false := by simp [hit, t]
      rw [if_neg t, ih]; simp [rm, rmS, hh]
theorem okF_sizes {x : FB} (h : okF x = true) : (-100000000 ≤ x.f0.f0 ∧ x.f0.f0 ≤ 100000000) ∧ (-100000000 ≤ x.f0.f1 ∧ x.f0.f1 ≤ 100000000) ∧ (0 ≤ x.f0.f2 ∧ x.f0.f2 ≤ 100000000) ∧ (0 ≤ x.f0.f3 ∧ x.f0.f3 ≤ 100000000) := by
  simpa [okF] using h
theorem reaches_ev (x : FB) (y h : Int) (hx : okF x = true) : Ev (fun k => spec_l17Reaches.f k x.f0.f0 x.f0.f1 x.f0.f2 x.f0.f3 y h) (hit x y h) := by
  obtain ⟨_, _, h2, h3⟩ := okF_sizes hx
  have jump : ∀ b : Bool, takes x = (!b) → Ev (fun k => spec_l17Reaches.j0 k y h b x.f0.f0 x.f0.f1 x.f0.f2 x.f0.f3) (hit x y h) := by
    intro b hb
    refine Ev.step (fun k => spec_l17Reaches.j0.eq_2 y h b x.f0.f0 x.f0.f1 x.f0.f2 x.f0.f3 k) ?_
    unfold hit reachB
    rw [hb]
    cases b with
    | true => exact ev_pos rfl (ev_now rfl)
    | false =>
      refine ev_neg (by simp) ?_
      rw [Bool.not_false, Bool.true_and]
      refine ev_ite (fun e => ?_) (fun e => ?_)
      · rw [if_pos e]
        exact ev_ite (fun e2 => ev_now (by rw [decide_eq_true e2, Bool.true_and])) (fun e2 => ev_now (by rw [decide_eq_false e2, Bool.false_and]))
      · rw [if_neg e]
        exact ev_ite (fun e2 => ev_now (by rw [decide_eq_true e2, Bool.true_and])) (fun e2 => ev_now (by rw [decide_eq_false e2, Bool.false_and]))
  refine Ev.congr (fun k => spec_l17Reaches.f.eq_1 k x.f0.f0 x.f0.f1 x.f0.f2 x.f0.f3 y h) (ev_ite (fun e => jump _ ?_) (fun e => jump _ ?_))
  · unfold takes; rw [decide_eq_false (by omega)]; rfl
  · unfold takes
    rw [decide_eq_true (by omega : 0 < x.f0.f2), Bool.true_and]
    by_cases c : x.f0.f3 = 0
    · rw [decide_eq_false (by omega), beq_iff_eq.mpr c]; rfl
    · rw [decide_eq_true (by omega), beq_eq_false_iff_ne.mpr c]; rfl
theorem all_at {xs : List FB} (ha : xs.all okF = true) (i : Nat) (h : i < xs.length) : okF xs[i] = true := List.all_eq_true.mp ha _ (List.getElem_mem h)
theorem rm_step (xs : List FB) (i : Nat) (h : i < xs.length) (y t : Int) (s : Int × Int) : (xs.drop i).foldl (rmS y t) s = (xs.drop (i + 1)).foldl (rmS y t) (rmS y t s xs[i]) := by
  rw [List.drop_eq_getElem_cons h]; rfl
def okAll (xs : List FB) : Bool := decide (xs.length ≤ 1000) && xs.all okF
theorem okAll_all {xs : List FB} (h : okAll xs = true) : xs.all okF = true := by
  unfold okAll at h; rw [Bool.and_eq_true] at h; exact h.2
theorem l17ok_ev (xs : List FB) (y t : Int) : Ev (fun k => spec_l17Ok.f k xs y t) (okAll xs && (decide (-100000000 ≤ y ∧ y ≤ 100000000) && decide (0 ≤ t ∧ t ≤ 100000000))) := by
  refine Ev.congr (fun k => spec_l17Ok.f.eq_1 k xs y t) (Ev.bind (spec_ok xs) (ev_ite (fun e => ?_) (fun e => ev_now ?_)))
  · unfold okAll; rw [e, Bool.true_and]
    refine ev_bc (l9_in y) (ev_ite (fun e2 => ?_) (fun e2 => ev_now ?_))
    · rw [e2, Bool.true_and]; exact ev_bc (l12_in t 0 100000000) (ev_now rfl)
    · rw [Bool.eq_false_iff.mpr e2, Bool.false_and]
  · unfold okAll; rw [Bool.eq_false_iff.mpr e, Bool.false_and]
/-! ### the nearest end of a float below a place -/
def e64 (x : FB) : Int := wrap64 (x.f0.f1 + x.f0.f3)
def downL : List FB → Int → Int → Bool → Int
  | [], _, best, _ => best
  | x :: xs, y, best, f => if e64 x > y then (if f = true then (if e64 x < best then downL xs y (e64 x) true else downL xs y best f) else downL xs y (e64 x) true) else downL xs y best f
theorem nextL_cons (x : FB) (xs : List FB) (y out : Int) : nextL (x :: xs) y out = if y < e64 x then (if out = y then nextL xs y (e64 x) else if e64 x < out then nextL xs y (e64 x) else nextL xs y out) else nextL xs y out := rfl
theorem nextL_found (y : Int) (xs : List FB) : ∀ out, y < out → y < nextL xs y out ∧ nextL xs y out ≤ out ∧ (nextL xs y out = out ∨ ∃ x ∈ xs, e64 x = nextL xs y out) ∧ ∀ x ∈ xs, y < e64 x → nextL xs y out ≤ e64 x := by
  induction xs with
  | nil => intro out ho; exact ⟨ho, Int.le_refl _, .inl rfl, fun x hx => by cases hx⟩
  | cons x xs ih =>
    intro out ho
    rw [nextL_cons]
    by_cases c : y < e64 x
    · rw [if_pos c, if_neg (by omega)]
      by_cases d : e64 x < out
      · rw [if_pos d]
        obtain ⟨h1, h2, h3, h4⟩ := ih (e64 x) c
        refine ⟨h1, by omega, .inr ?_, fun z hz hy => ?_⟩
        · rcases h3 with h3 | ⟨z, hz, h3⟩
          · exact ⟨x, List.mem_cons_self, h3.symm⟩
          · exact ⟨z, List.mem_cons_of_mem _ hz, h3⟩
        · rcases List.mem_cons.mp hz with rfl | hz
          · exact h2
          · exact h4 z hz hy
      · rw [if_neg d]
        obtain ⟨h1, h2, h3, h4⟩ := ih out ho
        refine ⟨h1, h2, ?_, fun z hz hy => ?_⟩
        · rcases h3 with h3 | ⟨z, hz, h3⟩
          · exact .inl h3
          · exact .inr ⟨z, List.mem_cons_of_mem _ hz, h3⟩
        · rcases List.mem_cons.mp hz with rfl | hz
          · omega
          · exact h4 z hz hy
    · rw [if_neg c]
      obtain ⟨h1, h2, h3, h4⟩ := ih out ho
      refine ⟨h1, h2, ?_, fun z hz hy => ?_⟩
      · rcases h3 with h3 | ⟨z, hz, h3⟩
        · exact .inl h3
        · exact .inr ⟨z, List.mem_cons_of_mem _ hz, h3⟩
      · rcases List.mem_cons.mp hz with rfl | hz
        · exact absurd hy c
        · exact h4 z hz hy
theorem nextL_first (y : Int) (xs : List FB) : (∃ x ∈ xs, y < e64 x) → y < nextL xs y y ∧ (∃ x ∈ xs, e64 x = nextL xs y y) ∧ ∀ x ∈ xs, y < e64 x → nextL xs y y ≤ e64 x := by
  induction xs with
  | nil => rintro ⟨x, hx, _⟩; cases hx
  | cons x xs ih =>
    rintro ⟨z, hz, hy⟩
    rw [nextL_cons]
    by_cases c : y < e64 x
    · rw [if_pos c, if_pos rfl]
      obtain ⟨h1, h2, h3, h4⟩ := nextL_found y xs (e64 x) c
      refine ⟨h1, ?_, fun z hz hy => ?_⟩
      · rcases h3 with h3 | ⟨z, hz, h3⟩
        · exact ⟨x, List.mem_cons_self, h3.symm⟩
        · exact ⟨z, List.mem_cons_of_mem _ hz, h3⟩
      · rcases List.mem_cons.mp hz with rfl | hz
        · exact h2
        · exact h4 z hz hy
    · rw [if_neg c]
      have hz' : z ∈ xs := by
        rcases List.mem_cons.mp hz with rfl | hz
        · exact absurd hy c
        · exact hz
      obtain ⟨h1, ⟨q, hq, h2⟩, h3⟩ := ih ⟨z, hz', hy⟩
      refine ⟨h1, ⟨q, List.mem_cons_of_mem _ hq, h2⟩, fun z hz hy => ?_⟩
      rcases List.mem_cons.mp hz with rfl | hz
      · exact absurd hy c
      · exact h3 z hz hy
theorem downL_found (y : Int) (xs : List FB) : ∀ b, y < b → downL xs y b true = nextL xs y b := by
  induction xs with
  | nil => intro b _; rfl
  | cons x xs ih =>
    intro b hb
    rw [nextL_cons, downL]
    by_cases c : y < e64 x
    · rw [if_pos c, if_pos c, if_pos rfl, if_neg (show ¬ b = y by omega)]
      by_cases d : e64 x < b
      · rw [if_pos d, if_pos d]; exact ih _ c
      · rw [if_neg d, if_neg d]; exact ih _ hb
    · rw [if_neg c, if_neg c]; exact ih _ hb
theorem downL_first (y b : Int) (xs : List FB) : (∃ x ∈ xs, y < e64 x) → downL xs y b false = nextL xs y y := by
  induction xs with
  | nil => rintro ⟨x, hx, _⟩; cases hx
  | cons x xs ih =>
    rintro ⟨z, hz, hy⟩
    rw [nextL_cons, downL]
    by_cases c : y < e64 x
    · rw [if_pos c, if_pos c, if_neg (by simp), if_pos rfl]; exact downL_found y xs _ c
    · rw [if_neg c, if_neg c]
      refine ih ⟨z, ?_, hy⟩
      rcases List.mem_cons.mp hz with rfl | hz
      · exact absurd hy c
      · exact hz
theorem downL_step (xs : List FB) (i : Nat) (h : i < xs.length) (y b : Int) (f : Bool) : downL (xs.drop i) y b f = if e64 xs[i] > y then (if f = true then (if e64 xs[i] < b then downL (xs.drop (i + 1)) y (e64 xs[i]) true else downL (xs.drop (i + 1)) y b f) else downL (xs.drop (i + 1)) y (e64 xs[i]) true) else downL (xs.drop (i + 1)) y b f := by
  rw [List.drop_eq_getElem_cons h]; rfl
theorem down_ev (xs : List FB) (hn : xs.length ≤ 1048576) (y : Int) (h : ∃ x ∈ xs, y < e64 x) : Ev (fun k => spec_l17Down.f k xs y) (nextL xs y y) := by
  rw [← downL_first y 0 xs h]
  refine Ev.congr (fun k => spec_l17Down.f.eq_1 k xs y) ?_
  refine ev_loop (g := fun k (s : Int × Bool) i => spec_l17Down.l0 k xs y s.1 s.2 i) xs.length (fun i s => downL (xs.drop i) y s.1 s.2) (fun _ _ => True) ?_ ?_ 0 (Nat.zero_le _) (0, false) trivial
  · intro s _
    exact Ev.step (fun k => spec_l17Down.l0.eq_2 xs y s.1 s.2 _ k) (ev_neg (by omega) (ev_now (by rw [List.drop_of_length_le (Nat.le_refl _)]; rfl)))
  intro i s h _ ih
  rw [downL_step xs i h]
  refine Ev.step (fun k => spec_l17Down.l0.eq_2 xs y s.1 s.2 i k) (ev_pos (by omega) (ev_pos (by omega) ?_))
  rw [at_FB xs i h, wrap_succ (by omega)]
  refine ev_ite (fun e => ?_) (fun e => ?_)
  · have e' : e64 xs[i] > y := e
    rw [if_pos e']
    refine ev_ite (fun e2 => ?_) (fun e2 => ?_)
    · rw [if_pos e2]
      refine ev_ite (fun e3 => ?_) (fun e3 => ?_)
      · have e3' : e64 xs[i] < s.1 := e3
        rw [if_pos e3']; exact ih (e64 xs[i], true) trivial
      · have e3' : ¬ e64 xs[i] < s.1 := e3
        rw [if_neg e3']; exact ih s trivial
    · rw [if_neg e2]; exact ih (e64 xs[i], true) trivial
  · have e' : ¬ e64 xs[i] > y := e
    rw [if_neg e']; exact ih s trivial
/-! ### the room, and whether a float reaches -/
theorem room_ev (xs : List FB) (hn : xs.length ≤ 1048576) (ha : xs.all okF = true) (y t a b : Int) : Ev (fun k => spec_l17Room.f k xs a b y t) (rm xs a b y t) := by
  refine Ev.congr (fun k => spec_l17Room.f.eq_1 k xs a b y t) ?_
  refine ev_loop (g := fun k (s : Int × Int) i => spec_l17Room.l0 k xs s.1 s.2 y t i) xs.length (fun i s => (xs.drop i).foldl (rmS y t) s) (fun _ _ => True) ?_ ?_ 0 (Nat.zero_le _) (a, b) trivial
  · intro s _
    exact Ev.step (fun k => spec_l17Room.l0.eq_2 xs s.1 s.2 y t _ k) (ev_neg (by omega) (ev_now (by rw [List.drop_of_length_le (Nat.le_refl _)]; rfl)))
  intro i s h _ ih
  rw [rm_step xs i h]
  refine Ev.step (fun k => spec_l17Room.l0.eq_2 xs s.1 s.2 y t i k) (ev_pos (by omega) (ev_pos (by omega) ?_))
  rw [at_FB xs i h]
  refine Ev.bind (reaches_ev _ y t (all_at ha i h)) ?_
  have jump : ∀ b : Bool, (b = true → hit xs[i] y t = true ∧ xs[i].f1 = true) → Ev (fun k => spec_l17Room.j1 k xs s.1 s.2 y t i b xs[i].f0.f0 xs[i].f0.f1 xs[i].f0.f2 xs[i].f0.f3) ((xs.drop (i + 1)).foldl (rmS y t) (if hit xs[i] y t = true then (if xs[i].f1 = true then (s.1, if b = true then xs[i].f0.f0 else s.2) else (mx s.1 (wrap64 (xs[i].f0.f0 + xs[i].f0.f2)), s.2)) else s)) := by
    intro b hb
    refine Ev.step (fun k => spec_l17Room.j1.eq_2 xs s.1 s.2 y t i b xs[i].f0.f0 xs[i].f0.f1 xs[i].f0.f2 xs[i].f0.f3 k) ?_
    rw [at_FB xs i h, wrap_succ (by omega)]
    refine ev_ite (fun e1 => ?_) (fun e1 => ?_)
    · obtain ⟨q1, q2⟩ := hb e1
      refine Ev.bind (reaches_ev _ y t (all_at ha i h)) (ev_pos q1 (ev_pos (by omega) (ev_pos (by omega) (ev_pos q2 ?_))))
      rw [if_pos q1, if_pos q2, if_pos e1]; exact ih (s.1, xs[i].f0.f0) trivial
    · refine Ev.bind (reaches_ev _ y t (all_at ha i h)) (ev_ite (fun e => ?_) (fun e => ?_))
      · rw [if_pos e]
        refine ev_pos (by omega) (ev_pos (by omega) (ev_ite (fun e2 => ?_) (fun e2 => ?_)))
        · rw [if_pos e2, if_neg e1]; exact ih s trivial
        · rw [if_neg e2]
          unfold mx
          refine ev_ite (fun e3 => ?_) (fun e3 => ?_)
          · rw [if_pos e3]; exact ih (wrap64 (xs[i].f0.f0 + xs[i].f0.f2), s.2) trivial
          · rw [if_neg e3]; exact ih s trivial
      · rw [if_neg e]; exact ih s trivial
  refine ev_ite (fun e => ?_) (fun e => ?_)
  · have eS : rmS y t s xs[i] = if xs[i].f1 = true then (s.1, mn s.2 xs[i].f0.f0) else (mx s.1 (wrap64 (xs[i].f0.f0 + xs[i].f0.f2)), s.2) := by unfold rmS; rw [if_pos e]
    rw [eS]
    refine ev_ite (fun e2 => ?_) (fun e2 => ?_)
    · have j := jump (decide (xs[i].f0.f0 < s.2)) (fun _ => ⟨e, e2⟩)
      rw [if_pos e, if_pos e2] at j
      rw [if_pos e2]
      unfold mn
      simpa using j
    · have j := jump false (fun c => by cases c)
      rw [if_pos e, if_neg e2] at j
      rw [if_neg e2]
      exact j
  · have eS : rmS y t s xs[i] = s := by unfold rmS; rw [if_neg e]
    have j := jump false (fun c => by cases c)
    rw [if_neg e] at j
    rw [eS]; exact j
def anyHit (xs : List FB) (y t : Int) : Bool := xs.any (fun x => hit x y t)
theorem any_step (xs : List FB) (i : Nat) (h : i < xs.length) (y t : Int) : anyHit (xs.drop i) y t = (hit xs[i] y t || anyHit (xs.drop (i + 1)) y t) := by
  unfold anyHit; rw [List.drop_eq_getElem_cons h, List.any_cons]
theorem free_ev (xs : List FB) (hn : xs.length ≤ 1048576) (ha : xs.all okF = true) (y t : Int) : Ev (fun k => spec_l17Free.f k xs y t) (!anyHit xs y t) := by
  refine Ev.congr (fun k => spec_l17Free.f.eq_1 k xs y t) ?_
  refine ev_count (g := fun k i => spec_l17Free.l0 k xs y t i) xs.length (fun i => !anyHit (xs.drop i) y t) (Ev.step (fun k => spec_l17Free.l0.eq_2 xs y t _ k) (ev_neg (by omega) (ev_now (by rw [List.drop_of_length_le (Nat.le_refl _)]; rfl)))) ?_ 0 (Nat.zero_le _)
  intro i h ih
  refine Ev.step (fun k => spec_l17Free.l0.eq_2 xs y t i k) (ev_pos (by omega) (ev_pos (by omega) ?_))
  rw [at_FB xs i h, any_step xs i h]
  refine Ev.bind (reaches_ev _ y t (all_at ha i h)) (ev_ite (fun e => ev_now (by rw [e]; rfl)) (fun e => ?_))
  rw [Bool.eq_false_iff.mpr e, Bool.false_or, wrap_succ (by omega)]; exact ih
/-! ### below all tops -/
def inv (xs : List FB) (y : Int) : Prop := (∀ x ∈ xs, x.f0.f1 ≤ y) ∧ -100000000 ≤ y ∧ y ≤ 200000000
theorem hit_low {xs : List FB} {y t : Int} (hy : inv xs y) (ht : 1 ≤ t) (ht2 : t ≤ 100000000) {x : FB} (hx : x ∈ xs) : hit x y t = (takes x && decide (y < e64 x)) := by
  have := hy.1 x hx
  unfold hit reachB
  rw [if_neg (by omega), decide_eq_true (by rw [wrap_in (by have := hy.2.1; omega) (by have := hy.2.2; omega)]; omega : x.f0.f1 < wrap64 (y + t)), Bool.true_and]
  rfl
theorem e64_top {x : FB} (h : okF x = true) : e64 x ≤ 200000000 := by
  obtain ⟨_, h1, _, h3⟩ := okF_sizes h
  unfold e64
  rw [wrap_in (by omega) (by omega)]; omega
theorem rm_same (y s t : Int) (xs : List FB) : (∀ x ∈ xs, hit x s t = hit x y t) → (∀ p, xs.foldl (rmS s t) p = xs.foldl (rmS y t) p) ∧ anyHit xs s t = anyHit xs y t := by
  induction xs with
  | nil => intro _; exact ⟨fun _ => rfl, rfl⟩
  | cons x xs ih =>
    intro h
    obtain ⟨h1, h2⟩ := ih (fun z hz => h z (List.mem_cons_of_mem _ hz))
    have hx := h x List.mem_cons_self
    refine ⟨fun p => ?_, ?_⟩
    · have e : rmS s t p x = rmS y t p x := by unfold rmS; rw [hx]
      rw [List.foldl_cons, List.foldl_cons, e]; exact h1 _
    · unfold anyHit at h2 ⊢; rw [List.any_cons, List.any_cons, hx, h2]
theorem mem_bands {x : FB} {xs : List FB} : x ∈ bandsF xs ↔ x ∈ xs ∧ takes x = true := by
  unfold bandsF; rw [List.mem_filter]
def fits (xs : List FB) (a b y w t : Int) : Bool := if wrap64 ((rm xs a b y t).2 - (rm xs a b y t).1) ≥ w then true else !anyHit xs y t
theorem spec_l1 (xs : List FB) (hn : xs.length ≤ 1048576) (ha : xs.all okF = true) (a b y w h : Int) (sd : Bool) (t : Int) {r : Int × Int × Int × Int} (k : Ev (fun k => spec_PlaceFloat.j4 k xs a b y w h sd t (rm xs a b y t).1 (rm xs a b y t).2 (fits xs a b y w t)) r) : Ev (fun k => spec_PlaceFloat.l1 k xs a b y w h sd t) r := by
  refine Ev.step (fun k => spec_PlaceFloat.l1.eq_2 xs a b y w h sd t k) (Ev.bind (room_ev xs hn ha y t a b) ?_)
  unfold fits at k
  refine ev_ite (fun e => ?_) (fun e => ?_)
  · rw [if_pos e] at k; exact k
  · rw [if_neg e] at k; exact Ev.bind (free_ev xs hn ha y t) k
theorem impl_l1 (xs : List FB) (hn : xs.length ≤ 1048576) (a b y w h : Int) (sd : Bool) {r : Int × Int × Int × Int} (k : Ev (fun k => impl_placeFloat.j2 k xs a b y w h sd (rm xs a b y (mx h 1)).1 (rm xs a b y (mx h 1)).2 (fits xs a b y w (mx h 1))) r) : Ev (fun k => impl_placeFloat.l1 k xs a b y w h sd) r := by
  refine Ev.step (fun k => impl_placeFloat.l1.eq_2 xs a b y w h sd k) (ev_bc (a := ((rm xs a b y (mx h 1)).1, (rm xs a b y (mx h 1)).2, false || anyHit xs y (mx h 1))) ?_ ?_)
  · rw [impl_room.f, if_pos (by omega), roomL_eq]; rfl
  · unfold fits at k
    refine ev_ite (fun e => ?_) (fun e => ?_)
    · rw [if_pos e] at k; exact k
    · rw [if_neg e] at k; exact k
theorem spec_walk (xs : List FB) (hn : xs.length ≤ 1048576) (ha : xs.all okF = true) (a b y w h : Int) (sd : Bool) (t : Int) (ht : 1 ≤ t) (ht2 : t ≤ 100000000) (hy : inv xs y) (hf : fits xs a b y w t = false) (t' : Int) (h1 : y < t') (x0 : FB) (h2 : x0 ∈ bandsF xs) (h3 : e64 x0 = t') (h4 : ∀ x ∈ bandsF xs, y < e64 x → t' ≤ e64 x) (r : Int × Int × Int × Int) (k : Ev (fun k => spec_PlaceFloat.l1 k xs a b t' w h sd t) r) :
    ∀ (n : Nat) (s : Int), 200000000 - s ≤ n → inv xs s → y ≤ s → s < t' → Ev (fun k => spec_PlaceFloat.l1 k xs a b s w h sd t) r := by
  have hx0 := (mem_bands.mp h2).1
  have top : t' ≤ 200000000 := by rw [← h3]; exact e64_top (List.all_eq_true.mp ha _ hx0)
  intro n
  induction n with
  | zero => intro s hs _ _ hlt; omega
  | succ n ih =>
    intro s hs hi hys hlt
    have same : ∀ x ∈ xs, hit x s t = hit x y t := by
      intro x hx
      rw [hit_low hi ht ht2 hx, hit_low hy ht ht2 hx]
      cases c : takes x with
      | false => rfl
      | true =>
        by_cases d : y < e64 x
        · have := h4 x (mem_bands.mpr ⟨hx, c⟩) d
          rw [decide_eq_true d, decide_eq_true (by omega : s < e64 x)]
        · rw [decide_eq_false d, decide_eq_false (by omega : ¬ s < e64 x)]
    obtain ⟨e1, e2⟩ := rm_same y s t xs same
    have hf' : fits xs a b s w t = false := by
      rw [← hf]; unfold fits rm; rw [e1, e2]
    refine spec_l1 xs hn ha a b s w h sd t ?_
    rw [hf']
    refine Ev.step (fun k => spec_PlaceFloat.j4.eq_2 xs a b s w h sd t _ _ false k) (ev_neg (by simp) ?_)
    obtain ⟨g1, ⟨q, hq, g2⟩, g3⟩ := nextL_first s xs ⟨x0, hx0, by omega⟩
    refine Ev.bind (down_ev xs hn s ⟨x0, hx0, by omega⟩) ?_
    have g4 := g3 x0 hx0 (by omega)
    by_cases c : nextL xs s s = t'
    · rw [c]; exact k
    · refine ih _ (by omega) ⟨fun x hx => ?_, by have := hi.2.1; omega, by omega⟩ (by omega) (by omega)
      have := hi.1 x hx
      omega
theorem place (xs : List FB) (hn : xs.length ≤ 1048576) (ha : xs.all okF = true) (a b w h : Int) (sd : Bool) (ht2 : mx h 1 ≤ 100000000) (ht : 1 ≤ mx h 1) :
    ∀ (n : Nat) (y : Int), 200000000 - y ≤ n → inv xs y → ∃ r, Ev (fun k => spec_PlaceFloat.l1 k xs a b y w h sd (mx h 1)) r ∧ Ev (fun k => impl_placeFloat.l1 k xs a b y w h sd) r := by
  intro n
  induction n with
  | zero =>
    intro y hs hi
    cases c : fits xs a b y w (mx h 1) with
    | true =>
      refine ⟨if sd = true then (wrap64 ((rm xs a b y (mx h 1)).2 - w), y, w, h) else ((rm xs a b y (mx h 1)).1, y, w, h), spec_l1 xs hn ha a b y w h sd _ ?_, impl_l1 xs hn a b y w h sd ?_⟩
      · rw [c]
        refine Ev.step (fun k => spec_PlaceFloat.j4.eq_2 xs a b y w h sd (mx h 1) _ _ true k) (ev_pos rfl (ev_ite (fun e => ev_now (by rw [if_pos e])) (fun e => ev_now (by rw [if_neg e]))))
      · rw [c]
        refine Ev.step (fun k => impl_placeFloat.j2.eq_2 xs a b y w h sd _ _ true k) (ev_pos rfl (ev_ite (fun e => ev_now (by rw [if_pos e])) (fun e => ev_now (by rw [if_neg e]))))
    | false =>
      exfalso
      unfold fits at c
      split at c
      · cases c
      · rw [Bool.not_eq_false'] at c
        obtain ⟨x, hx, hh⟩ := List.any_eq_true.mp c
        rw [hit_low hi ht ht2 hx, Bool.and_eq_true, decide_eq_true_eq] at hh
        have := e64_top (List.all_eq_true.mp ha _ hx)
        omega
  | succ n ih =>
    intro y hs hi
    cases c : fits xs a b y w (mx h 1) with
    | true =>
      refine ⟨if sd = true then (wrap64 ((rm xs a b y (mx h 1)).2 - w), y, w, h) else ((rm xs a b y (mx h 1)).1, y, w, h), spec_l1 xs hn ha a b y w h sd _ ?_, impl_l1 xs hn a b y w h sd ?_⟩
      · rw [c]
        refine Ev.step (fun k => spec_PlaceFloat.j4.eq_2 xs a b y w h sd (mx h 1) _ _ true k) (ev_pos rfl (ev_ite (fun e => ev_now (by rw [if_pos e])) (fun e => ev_now (by rw [if_neg e]))))
      · rw [c]
        refine Ev.step (fun k => impl_placeFloat.j2.eq_2 xs a b y w h sd _ _ true k) (ev_pos rfl (ev_ite (fun e => ev_now (by rw [if_pos e])) (fun e => ev_now (by rw [if_neg e]))))
    | false =>
      have c0 := c
      unfold fits at c
      split at c
      · cases c
      · rw [Bool.not_eq_false'] at c
        obtain ⟨x, hx, hh⟩ := List.any_eq_true.mp c
        rw [hit_low hi ht ht2 hx, Bool.and_eq_true, decide_eq_true_eq] at hh
        obtain ⟨g1, ⟨q, hq, g2⟩, g3⟩ := nextL_first y (bandsF xs) ⟨x, mem_bands.mpr ⟨hx, hh.1⟩, hh.2⟩
        have top := e64_top (List.all_eq_true.mp ha _ (mem_bands.mp hq).1)
        obtain ⟨r, k1, k2⟩ := ih (nextL (bandsF xs) y y) (by omega) ⟨fun z hz => by have := hi.1 z hz; omega, by have := hi.2.1; omega, by omega⟩
        refine ⟨r, spec_walk xs hn ha a b y w h sd (mx h 1) ht ht2 hi c0 _ g1 q hq g2 g3 r k1 (n + 1) y (by omega) hi (by omega) g1, impl_l1 xs hn a b y w h sd ?_⟩
        rw [c0]
        refine Ev.step (fun k => impl_placeFloat.j2.eq_2 xs a b y w h sd _ _ false k) (ev_neg (by simp) (ev_bc (a := nextL (bandsF xs) y y) ?_ k2))
        rw [impl_nextEnd.f, if_pos (by omega)]
/-! ### at or below all tops -/
def tops (xs : List FB) (y : Int) : Int := xs.foldl (fun y x => mx y x.f0.f1) y
theorem tops_step (xs : List FB) (i : Nat) (h : i < xs.length) (y : Int) : tops (xs.drop i) y = tops (xs.drop (i + 1)) (mx y xs[i].f0.f1) := by
  rw [List.drop_eq_getElem_cons h]; rfl
theorem tops_low (xs : List FB) : ∀ y, y ≤ tops xs y ∧ ∀ x ∈ xs, x.f0.f1 ≤ tops xs y := by
  induction xs with
  | nil => intro y; exact ⟨Int.le_refl _, fun x hx => by cases hx⟩
  | cons x xs ih =>
    intro y
    obtain ⟨h1, h2⟩ := ih (mx y x.f0.f1)
    have e : y ≤ mx y x.f0.f1 ∧ x.f0.f1 ≤ mx y x.f0.f1 := by unfold mx; split <;> omega
    refine ⟨Int.le_trans e.1 h1, fun z hz => ?_⟩
    rcases List.mem_cons.mp hz with rfl | hz
    · exact Int.le_trans e.2 h1
    · exact h2 z hz
theorem tops_high (m : Int) (xs : List FB) : (∀ x ∈ xs, x.f0.f1 ≤ m) → ∀ y, y ≤ m → tops xs y ≤ m := by
  induction xs with
  | nil => intro _ y hy; exact hy
  | cons x xs ih =>
    intro h y hy
    refine ih (fun z hz => h z (List.mem_cons_of_mem _ hz)) _ ?_
    have := h x List.mem_cons_self
    show mx y x.f0.f1 ≤ m
    unfold mx; split <;> omega
theorem spec_tops (xs : List FB) (hn : xs.length ≤ 1048576) (a b y w h : Int) (hh : 0 ≤ h) (sd : Bool) (r : Int × Int × Int × Int) (k : Ev (fun k => spec_PlaceFloat.l1 k xs a b (tops xs y) w h sd (mx h 1)) r) : Ev (fun k => spec_PlaceFloat.l0 k xs a b y w h sd 0) r := by
  refine ev_loop (g := fun k s i => spec_PlaceFloat.l0 k xs a b s w h sd i) xs.length (fun _ _ => r) (fun i s => tops (xs.drop i) s = tops xs y) ?_ ?_ 0 (Nat.zero_le _) y rfl
  · intro s hs
    rw [List.drop_of_length_le (Nat.le_refl _)] at hs
    have hs : s = tops xs y := hs
    subst hs
    refine Ev.step (fun k => spec_PlaceFloat.l0.eq_2 xs a b _ w h sd _ k) (ev_neg (by omega) (ev_ite (fun e => ?_) (fun e => ?_)))
    · refine Ev.step (fun k => spec_PlaceFloat.j2.eq_2 xs a b _ w h sd 1 k) ?_
      have e1 : mx h 1 = 1 := by unfold mx; rw [if_pos (by omega)]
      rw [e1] at k; exact k
    · refine Ev.step (fun k => spec_PlaceFloat.j2.eq_2 xs a b _ w h sd h k) ?_
      have e1 : mx h 1 = h := by unfold mx; rw [if_neg (by omega)]
      rw [e1] at k; exact k
  intro i s hi hs ih
  rw [tops_step xs i hi] at hs
  refine Ev.step (fun k => spec_PlaceFloat.l0.eq_2 xs a b s w h sd i k) (ev_pos (by omega) (ev_pos (by omega) ?_))
  rw [at_FB xs i hi, wrap_succ (by omega)]
  unfold mx at hs
  refine ev_ite (fun e => ?_) (fun e => ?_)
  · rw [if_pos e] at hs; exact ih _ hs
  · rw [if_neg e] at hs; exact ih _ hs
theorem impl_tops (xs : List FB) (hn : xs.length ≤ 1048576) (a b y w h : Int) (sd : Bool) (r : Int × Int × Int × Int) (k : Ev (fun k => impl_placeFloat.l1 k xs a b (tops xs y) w h sd) r) : Ev (fun k => impl_placeFloat.f k xs a b y w h sd) r := by
  refine Ev.congr (fun k => impl_placeFloat.f.eq_1 k xs a b y w h sd) ?_
  refine ev_loop (g := fun k s i => impl_placeFloat.l0 k xs a b s w h sd xs xs.length i) xs.length (fun _ _ => r) (fun i s => tops (xs.drop i) s = tops xs y) ?_ ?_ 0 (Nat.zero_le _) y rfl
  · intro s hs
    rw [List.drop_of_length_le (Nat.le_refl _)] at hs
    have hs : s = tops xs y := hs
    subst hs
    exact Ev.step (fun k => impl_placeFloat.l0.eq_2 xs a b _ w h sd xs xs.length _ k) (ev_neg (by omega) k)
  intro i s hi hs ih
  rw [tops_step xs i hi] at hs
  refine Ev.step (fun k => impl_placeFloat.l0.eq_2 xs a b s w h sd xs xs.length i k) (ev_pos (by omega) (ev_pos (by omega) (ev_pos (by omega) ?_)))
  rw [at_FB xs i hi, wrap_succ (by omega)]
  exact ih _ hs
theorem FnExactPlaceFloat : laws_FnExactPlaceFloat.Pure := by
  intro xs a b y w h sd hx _ _ _ _ _
  refine Ev.rounds (r := true) ?_
  refine Ev.congr (fun k => laws_FnExactPlaceFloat.f.eq_1 k xs a b y w h sd) (ev_bc (sz_floats xs) ?_)
  refine ev_ite (fun _ => ev_now rfl) (fun h0 => ?_)
  have hn := sz_small xs hx.1 h0
  have hm : (xs.map cvF).length ≤ 1048576 := by rw [List.length_map]; exact hn
  obtain ⟨r, h1, h2⟩ : ∃ r, Ev (fun k => spec_PlaceFloat.f k (xs.map cvF) a b y w h sd) r ∧ Ev (fun k => impl_PlaceFloat.f k (xs.map cvF) a b y w h sd) r := by
    generalize xs.map cvF = zs at hm
    by_cases g : (okAll zs && (decide (-100000000 ≤ y ∧ y ≤ 100000000) && decide (0 ≤ h ∧ h ≤ 100000000))) = true ∧ decide (0 ≤ w ∧ w ≤ 100000000) = true ∧ decide (-100000000 ≤ a ∧ a ≤ 100000000) = true ∧ decide (-100000000 ≤ b ∧ b ≤ 100000000) = true
    · obtain ⟨g1, g2, g3, g4⟩ := g
      have ga := okAll_all (by rw [Bool.and_eq_true] at g1; exact g1.1)
      have gk : okAll zs = true := by rw [Bool.and_eq_true] at g1; exact g1.1
      have gy : decide (-100000000 ≤ y ∧ y ≤ 100000000) = true := by rw [Bool.and_eq_true, Bool.and_eq_true] at g1; exact g1.2.1
      have gh : decide (0 ≤ h ∧ h ≤ 100000000) = true := by rw [Bool.and_eq_true, Bool.and_eq_true] at g1; exact g1.2.2
      have by_ := of_decide_eq_true gy
      have bh := of_decide_eq_true gh
      have lo := tops_low zs y
      have hi := tops_high 100000000 zs (fun x hx => (okF_sizes (List.all_eq_true.mp ga _ hx)).2.1.2) y by_.2
      have t1 : 1 ≤ mx h 1 := by unfold mx; split <;> omega
      have t2 : mx h 1 ≤ 100000000 := by unfold mx; split <;> omega
      obtain ⟨r, k1, k2⟩ := place zs hm ga a b w h sd t2 t1 (200000000 - tops zs y).toNat (tops zs y) (by omega) ⟨lo.2, by omega, by omega⟩
      refine ⟨r, ?_, ?_⟩
      · refine Ev.congr (fun k => spec_PlaceFloat.f.eq_1 k zs a b y w h sd) (Ev.bind (l17ok_ev zs y h) (ev_pos g1 ?_))
        refine ev_bc (l12_in w 0 100000000) (ev_pos g2 (ev_bc (l9_in a) (ev_pos g3 (ev_bc (l9_in b) ?_))))
        rw [g4]
        exact Ev.step (fun k => spec_PlaceFloat.j0.eq_2 zs a b y w h sd _ k) (ev_neg (by simp) (spec_tops zs hm a b y w h bh.1 sd r k1))
      · refine Ev.congr (fun k => impl_PlaceFloat.f.eq_1 k zs a b y w h sd) (Ev.bind (impl_ok zs hm) (ev_pos gk ?_))
        refine ev_bc (units_in y) (ev_pos gy (ev_bc (nonneg_in h) (ev_pos gh (ev_bc (nonneg_in w) (ev_pos g2 (ev_bc (units_in a) (ev_pos g3 (ev_bc (units_in b) (ev_pos g4 ?_)))))))))
        exact Ev.bind (impl_tops zs hm a b y w h sd r k2) (ev_now rfl)
    · refine ⟨(0, 0, 0, 0), ?_, ?_⟩
      · have stop : Ev (fun k => spec_PlaceFloat.j0 k zs a b y w h sd true) (0, 0, 0, 0) := Ev.step (fun k => spec_PlaceFloat.j0.eq_2 zs a b y w h sd true k) (ev_pos rfl (ev_now rfl))
        refine Ev.congr (fun k => spec_PlaceFloat.f.eq_1 k zs a b y w h sd) (Ev.bind (l17ok_ev zs y h) (ev_ite (fun g1 => ?_) (fun _ => stop)))
        refine ev_bc (l12_in w 0 100000000) (ev_ite (fun g2 => ?_) (fun _ => stop))
        refine ev_bc (l9_in a) (ev_ite (fun g3 => ?_) (fun _ => stop))
        refine ev_bc (l9_in b) ?_
        cases g4 : decide (-100000000 ≤ b ∧ b ≤ 100000000) with
        | false => exact stop
        | true => exact absurd ⟨g1, g2, g3, g4⟩ g
      · refine Ev.congr (fun k => impl_PlaceFloat.f.eq_1 k zs a b y w h sd) (Ev.bind (impl_ok zs hm) (ev_ite (fun gk => ?_) (fun _ => ev_now rfl)))
        refine ev_bc (units_in y) (ev_ite (fun gy => ?_) (fun _ => ev_now rfl))
        refine ev_bc (nonneg_in h) (ev_ite (fun gh => ?_) (fun _ => ev_now rfl))
        refine ev_bc (nonneg_in w) (ev_ite (fun g2 => ?_) (fun _ => ev_now rfl))
        refine ev_bc (units_in a) (ev_ite (fun g3 => ?_) (fun _ => ev_now rfl))
        refine ev_bc (units_in b) (ev_ite (fun g4 => ?_) (fun _ => ev_now rfl))
        have gk' : okAll zs = true := gk
        exact absurd ⟨by rw [gk', gy, gh]; rfl, g2, g3, g4⟩ g
  refine Ev.bind (toFloats xs hn) (Ev.bind h1 (Ev.bind (toFloats xs hn) (Ev.bind h2 (ev_bc (a := true) (by simp [laws_eqRect.f]) (ev_pos rfl ?_)))))
  exact Ev.bind (toFloats xs hn) (Ev.bind (eqFloats _ hm) (ev_pos rfl (ev_now rfl)))
end Go.Proofs.Ytdnlehohbbinpaa.Fact
