/- The law of placed floats and margins. Conditions: none. -/
import Derived.Test.YtppjmcfcacgbdaaMFnFloatsx9
namespace Go.Proofs.Ytppjmcfcacgbdaa.Fact
open Go.RowKit Go.Proofs.Ytppjmcfcacgbdaa.MFnFloats Go.Proofs.YtppjmcfcacgbdaaW.PrintWords Go.Proofs.YtppjmcfcacgbdaaW.PrintLast
set_option linter.unusedVariables false
set_option linter.unusedSimpArgs false
/-! ### what comes from some round on -/
theorem ev_pos {α : Type} {c : Prop} [Decidable c] {f g : Nat → Option α} {r : α} (h : c) (k : Ev f r) : Ev (fun n => if c then f n else g n) r := by
  simpa only [if_pos h] using k
theorem ev_neg {α : Type} {c : Prop} [Decidable c] {f g : Nat → Option α} {r : α} (h : ¬ c) (k : Ev g r) : Ev (fun n => if c then f n else g n) r := by
  simpa only [if_neg h] using k
theorem ev_now {α : Type} {q r : α} (h : q = r) : Ev (fun _ => some q) r := by rw [h]; exact Ev.now r
theorem ev_bs {α β : Type} {a : α} {f : Nat → α → Option β} {r : β} (k : Ev (fun n => f n a) r) : Ev (fun n => (some a).bind (f n)) r := by
  simpa only [Option.bind_some] using k
theorem ev_bc {α β : Type} {o : Option α} {a : α} {f : Nat → α → Option β} {r : β} (h : o = some a) (k : Ev (fun n => f n a) r) : Ev (fun n => o.bind (f n)) r := by
  rw [h]; exact ev_bs k
theorem wrap_in {i : Int} (h0 : -9223372036854775808 ≤ i) (h1 : i ≤ 9223372036854775807) : wrap64 i = i := by
  unfold wrap64
  omega
theorem i64_bounds {x : Int} (h : (Lit.int .i64 x).wf = true) : -9223372036854775808 ≤ x ∧ x ≤ 9223372036854775807 := by
  simp [Lit.wf, IntKind.min, IntKind.max, IntKind.signed, IntKind.bits] at h
  omega
theorem ev_ite {α : Type} {c : Prop} [Decidable c] {f g : Nat → Option α} {r : α} (h1 : c → Ev f r) (h2 : ¬ c → Ev g r) : Ev (fun n => if c then f n else g n) r := by
  by_cases h : c
  · exact ev_pos h (h1 h)
  · exact ev_neg h (h2 h)
theorem ev_to {α : Type} {f : Nat → Option α} {q r : α} (h : q = r) (k : Ev f q) : Ev f r := h ▸ k
theorem wrap_succ {i : Nat} (h : i < 9223372036854775807) : wrap64 ((i : Int) + 1) = ((i + 1 : Nat) : Int) := by
  rw [wrap_in (by omega) (by omega)]; rfl
theorem getD_nat {α : Type} (d : α) (xs : List α) (i : Nat) (h : i < xs.length) : xs.getD (i : Int).toNat d = xs[i] := by
  simp [List.getElem?_eq_getElem h]
/-- A loop that counts from i up to n, its state s. -/
theorem ev_loop {σ ρ : Type} {g : Nat → σ → Int → Option ρ} (n : Nat) (R : Nat → σ → ρ) (Inv : Nat → σ → Prop)
    (hend : ∀ s, Inv n s → Ev (fun k => g k s n) (R n s))
    (hstep : ∀ i s, i < n → Inv i s → (∀ s', Inv (i + 1) s' → Ev (fun k => g k s' ((i + 1 : Nat) : Int)) (R (i + 1) s')) → Ev (fun k => g k s i) (R i s)) :
    ∀ i, i ≤ n → ∀ s, Inv i s → Ev (fun k => g k s i) (R i s) := by
  have key : ∀ d i, n - i = d → i ≤ n → ∀ s, Inv i s → Ev (fun k => g k s i) (R i s) := by
    intro d
    induction d with
    | zero =>
      intro i hd hi s hs
      obtain rfl : i = n := by omega
      exact hend s hs
    | succ d ih =>
      intro i hd hi s hs
      exact hstep i s (by omega) hs (ih (i + 1) (by omega) (by omega))
  exact fun i hi s hs => key (n - i) i rfl hi s hs
/-- The same, without a state. -/
theorem ev_count {ρ : Type} {g : Nat → Int → Option ρ} (n : Nat) (R : Nat → ρ) (hend : Ev (fun k => g k n) (R n))
    (hstep : ∀ i, i < n → Ev (fun k => g k ((i + 1 : Nat) : Int)) (R (i + 1)) → Ev (fun k => g k i) (R i)) : ∀ i, i ≤ n → Ev (fun k => g k i) (R i) := by
  intro i hi
  exact ev_loop (σ := Unit) (g := fun k _ i => g k i) n (fun i _ => R i) (fun _ _ => True) (fun _ _ => hend) (fun i _ h _ ih => hstep i h (ih () trivial)) i hi () trivial
/-- A loop that writes F of each element into a list of the same length. -/
theorem ev_copy {α β : Type} {g : Nat → List β → Int → Option (List β)} (F : α → β) (xs : List α)
    (hend : ∀ ys : List β, ys.length = xs.length → Ev (fun k => g k ys xs.length) ys)
    (hstep : ∀ (ys : List β) (i : Nat) (h : i < xs.length), ys.length = xs.length → Ev (fun k => g k (ys.set i (F xs[i])) ((i + 1 : Nat) : Int)) (xs.map F) → Ev (fun k => g k ys i) (xs.map F))
    (ys : List β) (hl : ys.length = xs.length) : Ev (fun k => g k ys 0) (xs.map F) := by
  refine ev_loop (g := g) xs.length (fun _ _ => xs.map F) (fun i ys => ys.length = xs.length ∧ ys.take i = (xs.map F).take i) ?_ ?_ 0 (Nat.zero_le _) ys ⟨hl, rfl⟩
  · intro ys hs
    have e : ys = xs.map F := by
      have := hs.2
      rwa [List.take_of_length_le (by omega), List.take_of_length_le (by simp)] at this
    rw [← e]; exact hend ys hs.1
  · intro i ys hi hs ih
    refine hstep ys i hi hs.1 (ih _ ⟨by rw [List.length_set]; exact hs.1, ?_⟩)
    rw [List.take_succ_eq_append_getElem (by rw [List.length_set]; omega), List.take_succ_eq_append_getElem (by rw [List.length_map]; omega), List.take_set, hs.2, List.getElem_set_self, List.getElem_map]
    rw [List.set_eq_of_length_le (by simp; omega)]
theorem ite_eq {α : Type} {c : Prop} [Decidable c] {x y z : α} (h1 : c → x = z) (h2 : ¬ c → y = z) : (if c then x else y) = z := by
  by_cases h : c
  · rw [if_pos h]; exact h1 h
  · rw [if_neg h]; exact h2 h
theorem iteP {α : Type} {P : α → Prop} {c : Prop} [Decidable c] {x y : α} (h1 : c → P x) (h2 : ¬ c → P y) : P (if c then x else y) := by
  by_cases h : c
  · rw [if_pos h]; exact h1 h
  · rw [if_neg h]; exact h2 h
abbrev FB := S38
theorem at_FB (xs : List FB) (i : Nat) (h : i < xs.length) : rd_T38 xs (i : Int) = xs[i] := getD_nat _ xs i h
theorem rd_nat (xs : List Int) (i : Nat) (h : i < xs.length) : rd xs (i : Int) = xs[i] := by
  simp [rd, List.getElem?_eq_getElem h]
def okF (x : FB) : Bool := decide (-100000000 ≤ x.f0.f0 ∧ x.f0.f0 ≤ 100000000) && (decide (-100000000 ≤ x.f0.f1 ∧ x.f0.f1 ≤ 100000000) && (decide (0 ≤ x.f0.f2 ∧ x.f0.f2 ≤ 100000000) && decide (0 ≤ x.f0.f3 ∧ x.f0.f3 ≤ 100000000)))
theorem l9_in (a : Int) : spec_l9In.f a 100000000 = some (decide (-100000000 ≤ a ∧ a ≤ 100000000)) := by
  unfold spec_l9In.f
  rw [wrap_in (by omega) (by omega)]
  split <;> simp <;> omega
theorem l12_in (a lo hi : Int) : spec_l12In.f a lo hi = some (decide (lo ≤ a ∧ a ≤ hi)) := by
  unfold spec_l12In.f
  split <;> simp <;> omega
theorem units_in (a : Int) : impl_inUnits.f a = some (decide (-100000000 ≤ a ∧ a ≤ 100000000)) := by
  unfold impl_inUnits.f
  split <;> simp <;> omega
theorem nonneg_in (a : Int) : impl_nonNegative.f a = some (decide (0 ≤ a ∧ a ≤ 100000000)) := by
  unfold impl_nonNegative.f
  split <;> simp <;> omega
theorem rect_ok (x : FB) : spec_l17RectOk.f x.f0.f0 x.f0.f1 x.f0.f2 x.f0.f3 = some (okF x) := by
  unfold spec_l17RectOk.f okF
  simp only [l9_in, l12_in, Option.bind_some]
  cases decide (-100000000 ≤ x.f0.f0 ∧ x.f0.f0 ≤ 100000000) <;> cases decide (-100000000 ≤ x.f0.f1 ∧ x.f0.f1 ≤ 100000000) <;> cases decide (0 ≤ x.f0.f2 ∧ x.f0.f2 ≤ 100000000) <;> rfl
theorem all_step (xs : List FB) (i : Nat) (h : i < xs.length) : (xs.drop i).all okF = (okF xs[i] && (xs.drop (i + 1)).all okF) := by
  rw [List.drop_eq_getElem_cons h, List.all_cons]
theorem spec_ok (xs : List FB) : Ev (fun k => spec_FloatsOk.f k xs) (decide (xs.length ≤ 1000) && xs.all okF) := by
  refine Ev.congr (fun k => by unfold spec_FloatsOk.f; rfl) (ev_ite (fun h => ev_now (by simp; omega)) (fun h => ?_))
  have hn : xs.length ≤ 1000 := by omega
  rw [decide_eq_true hn, Bool.true_and]
  refine ev_count (g := fun k i => spec_FloatsOk.l0 k xs i) xs.length (fun i => (xs.drop i).all okF) (Ev.step (fun k => spec_FloatsOk.l0.eq_2 xs _ k) (ev_neg (by omega) (ev_now (by rw [List.drop_of_length_le (Nat.le_refl _)]; rfl)))) ?_ 0 (Nat.zero_le _)
  intro i h ih
  refine Ev.step (fun k => spec_FloatsOk.l0.eq_2 xs i k) (ev_pos (by omega) (ev_pos (by omega) (ev_bc (a := okF xs[i]) (by rw [at_FB xs i h]; exact rect_ok _) ?_)))
  rw [all_step xs i h, wrap_succ (by omega)]
  refine ev_ite (fun e => ?_) (fun e => ev_now (by rw [Bool.eq_false_iff.mpr e]; rfl))
  rw [e, Bool.true_and]; exact ih
theorem impl_ok (xs : List FB) (hn : xs.length ≤ 1048576) : Ev (fun k => impl_FloatsOk.f k xs) (decide (xs.length ≤ 1000) && xs.all okF) := by
  refine Ev.congr (fun k => by unfold impl_FloatsOk.f; rfl) ?_
  rw [Bool.and_comm]
  refine ev_count (g := fun k i => impl_FloatsOk.l0 k xs xs xs.length i) xs.length (fun i => (xs.drop i).all okF && decide (xs.length ≤ 1000)) (Ev.step (fun k => impl_FloatsOk.l0.eq_2 xs xs xs.length _ k) (ev_neg (by omega) (ev_now (by rw [List.drop_of_length_le (Nat.le_refl _)]; simp; omega)))) ?_ 0 (Nat.zero_le _)
  intro i h ih
  refine Ev.step (fun k => impl_FloatsOk.l0.eq_2 xs xs xs.length i k) (ev_pos (by omega) (ev_pos (by omega) (ev_pos (by omega) ?_)))
  rw [all_step xs i h, wrap_succ (by omega), at_FB xs i h]
  unfold okF
  refine ev_bc (units_in _) (ev_ite (fun e => ?_) (fun e => ev_now (by rw [Bool.eq_false_iff.mpr e]; rfl)))
  refine ev_bc (units_in _) (ev_ite (fun e2 => ?_) (fun e2 => ev_now (by rw [Bool.eq_false_iff.mpr e2, e]; rfl)))
  refine ev_bc (nonneg_in _) (ev_ite (fun e3 => ?_) (fun e3 => ev_now (by rw [Bool.eq_false_iff.mpr e3, e, e2]; rfl)))
  refine ev_bc (nonneg_in _) (ev_ite (fun e4 => ?_) (fun e4 => ev_now (by rw [Bool.eq_false_iff.mpr e4, e, e2, e3]; rfl)))
  rw [e, e2, e3, e4]; exact ih
/-! ### the floats that take room, and what reaches into heights -/
def hit (x : FB) (y h : Int) : Bool := takes x && reachB x y h
def rmS (y h : Int) (s : Int × Int) (x : FB) : Int × Int := if hit x y h = true then (if x.f1 = true then (s.1, mn s.2 x.f0.f0) else (mx s.1 (wrap64 (x.f0.f0 + x.f0.f2)), s.2)) else s
def rm (xs : List FB) (a b y h : Int) : Int × Int := xs.foldl (rmS y h) (a, b)
theorem bandsF_cons (x : FB) (xs : List FB) : bandsF (x :: xs) = if takes x = true then x :: bandsF xs else bandsF xs := by
  unfold bandsF; rw [List.filter_cons]
theorem roomL_eq (y h : Int) (xs : List FB) : ∀ (a b : Int) (s : Bool), roomL (bandsF xs) a b s y h = ((rm xs a b y h).1, (rm xs a b y h).2, s || xs.any (fun x => hit x y h)) := by
  induction xs with
  | nil => intro a b s; simp [bandsF, roomL, rm]
  | cons x xs ih =>
    intro a b s
    rw [bandsF_cons]
    by_cases t : takes x = true
    · rw [if_pos t, roomL]
      by_cases r : reachB x y h = true
      · have hh : hit x y h = true := by simp [hit, t, r]
        rw [if_pos r]
        by_cases f : x.f1 = true
        · rw [if_pos f, ih]; simp [rm, rmS, hh, f]
        · rw [if_neg f, ih]; simp [rm, rmS, hh, f]
      · have hh : hit x y h = false := by simp [hit, r]
        rw [if_neg r, ih]; simp [rm, rmS, hh]
    · have hh : hit x y h = false := by simp [hit, t]
      rw [if_neg t, ih]; simp [rm, rmS, hh]
theorem okF_sizes {x : FB} (h : okF x = true) : (-100000000 ≤ x.f0.f0 ∧ x.f0.f0 ≤ 100000000) ∧ (-100000000 ≤ x.f0.f1 ∧ x.f0.f1 ≤ 100000000) ∧ (0 ≤ x.f0.f2 ∧ x.f0.f2 ≤ 100000000) ∧ (0 ≤ x.f0.f3 ∧ x.f0.f3 ≤ 100000000) := by
  simpa [okF] using h
theorem reaches_ev (x : FB) (y h : Int) (hx : okF x = true) : Ev (fun k => spec_l17Reaches.f k x.f0.f0 x.f0.f1 x.f0.f2 x.f0.f3 y h) (hit x y h) := by
  obtain ⟨_, _, h2, h3⟩ := okF_sizes hx
  have jump : ∀ b : Bool, takes x = (!b) → Ev (fun k => spec_l17Reaches.j0 k y h b x.f0.f0 x.f0.f1 x.f0.f2 x.f0.f3) (hit x y h) := by
    intro b hb
    refine Ev.step (fun k => spec_l17Reaches.j0.eq_2 y h b x.f0.f0 x.f0.f1 x.f0.f2 x.f0.f3 k) ?_
    unfold hit reachB
    rw [hb]
    cases b with
    | true => exact ev_pos rfl (ev_now rfl)
    | false =>
      refine ev_neg (by simp) ?_
      rw [Bool.not_false, Bool.true_and]
      refine ev_ite (fun e => ?_) (fun e => ?_)
      · rw [if_pos e]
        exact ev_ite (fun e2 => ev_now (by rw [decide_eq_true e2, Bool.true_and])) (fun e2 => ev_now (by rw [decide_eq_false e2, Bool.false_and]))
      · rw [if_neg e]
        exact ev_ite (fun e2 => ev_now (by rw [decide_eq_true e2, Bool.true_and])) (fun e2 => ev_now (by rw [decide_eq_false e2, Bool.false_and]))
  refine Ev.congr (fun k => spec_l17Reaches.f.eq_1 k x.f0.f0 x.f0.f1 x.f0.f2 x.f0.f3 y h) (ev_ite (fun e => jump _ ?_) (fun e => jump _ ?_))
  · unfold takes; rw [decide_eq_false (by omega)]; rfl
  · unfold takes
    rw [decide_eq_true (by omega : 0 < x.f0.f2), Bool.true_and]
    by_cases c : x.f0.f3 = 0
    · rw [decide_eq_false (by omega), beq_iff_eq.mpr c]; rfl
    · rw [decide_eq_true (by omega), beq_eq_false_iff_ne.mpr c]; rfl
theorem all_at {xs : List FB} (ha : xs.all okF = true) (i : Nat) (h : i < xs.length) : okF xs[i] = true := List.all_eq_true.mp ha _ (List.getElem_mem h)
theorem rm_step (xs : List FB) (i : Nat) (h : i < xs.length) (y t : Int) (s : Int × Int) : (xs.drop i).foldl (rmS y t) s = (xs.drop (i + 1)).foldl (rmS y t) (rmS y t s xs[i]) := by
  rw [List.drop_eq_getElem_cons h]; rfl
def okAll (xs : List FB) : Bool := decide (xs.length ≤ 1000) && xs.all okF
theorem okAll_all {xs : List FB} (h : okAll xs = true) : xs.all okF = true := by
  unfold okAll at h; rw [Bool.and_eq_true] at h; exact h.2
theorem l17ok_ev (xs : List FB) (y t : Int) : Ev (fun k => spec_l17Ok.f k xs y t) (okAll xs && (decide (-100000000 ≤ y ∧ y ≤ 100000000) && decide (0 ≤ t ∧ t ≤ 100000000))) := by
  refine Ev.congr (fun k => spec_l17Ok.f.eq_1 k xs y t) (Ev.bind (spec_ok xs) (ev_ite (fun e => ?_) (fun e => ev_now ?_)))
  · unfold okAll; rw [e, Bool.true_and]
    refine ev_bc (l9_in y) (ev_ite (fun e2 => ?_) (fun e2 => ev_now ?_))
    · rw [e2, Bool.true_and]; exact ev_bc (l12_in t 0 100000000) (ev_now rfl)
    · rw [Bool.eq_false_iff.mpr e2, Bool.false_and]
  · unfold okAll; rw [Bool.eq_false_iff.mpr e, Bool.false_and]
/-! ### the nearest end of a float below a place -/
def e64 (x : FB) : Int := wrap64 (x.f0.f1 + x.f0.f3)
def downL : List FB → Int → Int → Bool → Int
  | [], _, best, _ => best
  | x :: xs, y, best, f => if e64 x > y then (if f = true then (if e64 x < best then downL xs y (e64 x) true else downL xs y best f) else downL xs y (e64 x) true) else downL xs y best f
theorem nextL_cons (x : FB) (xs : List FB) (y out : Int) : nextL (x :: xs) y out = if y < e64 x then (if out = y then nextL xs y (e64 x) else if e64 x < out then nextL xs y (e64 x) else nextL xs y out) else nextL xs y out := rfl
theorem nextL_found (y : Int) (xs : List FB) : ∀ out, y < out → y < nextL xs y out ∧ nextL xs y out ≤ out ∧ (nextL xs y out = out ∨ ∃ x ∈ xs, e64 x = nextL xs y out) ∧ ∀ x ∈ xs, y < e64 x → nextL xs y out ≤ e64 x := by
  induction xs with
  | nil => intro out ho; exact ⟨ho, Int.le_refl _, .inl rfl, fun x hx => by cases hx⟩
  | cons x xs ih =>
    intro out ho
    rw [nextL_cons]
    by_cases c : y < e64 x
    · rw [if_pos c, if_neg (by omega)]
      by_cases d : e64 x < out
      · rw [if_pos d]
        obtain ⟨h1, h2, h3, h4⟩ := ih (e64 x) c
        refine ⟨h1, by omega, .inr ?_, fun z hz hy => ?_⟩
        · rcases h3 with h3 | ⟨z, hz, h3⟩
          · exact ⟨x, List.mem_cons_self, h3.symm⟩
          · exact ⟨z, List.mem_cons_of_mem _ hz, h3⟩
        · rcases List.mem_cons.mp hz with rfl | hz
          · exact h2
          · exact h4 z hz hy
      · rw [if_neg d]
        obtain ⟨h1, h2, h3, h4⟩ := ih out ho
        refine ⟨h1, h2, ?_, fun z hz hy => ?_⟩
        · rcases h3 with h3 | ⟨z, hz, h3⟩
          · exact .inl h3
          · exact .inr ⟨z, List.mem_cons_of_mem _ hz, h3⟩
        · rcases List.mem_cons.mp hz with rfl | hz
          · omega
          · exact h4 z hz hy
    · rw [if_neg c]
      obtain ⟨h1, h2, h3, h4⟩ := ih out ho
      refine ⟨h1, h2, ?_, fun z hz hy => ?_⟩
      · rcases h3 with h3 | ⟨z, hz, h3⟩
        · exact .inl h3
        · exact .inr ⟨z, List.mem_cons_of_mem _ hz, h3⟩
      · rcases List.mem_cons.mp hz with rfl | hz
        · exact absurd hy c
        · exact h4 z hz hy
theorem nextL_first (y : Int) (xs : List FB) : (∃ x ∈ xs, y < e64 x) → y < nextL xs y y ∧ (∃ x ∈ xs, e64 x = nextL xs y y) ∧ ∀ x ∈ xs, y < e64 x → nextL xs y y ≤ e64 x := by
  induction xs with
  | nil => rintro ⟨x, hx, _⟩; cases hx
  | cons x xs ih =>
    rintro ⟨z, hz, hy⟩
    rw [nextL_cons]
    by_cases c : y < e64 x
    · rw [if_pos c, if_pos rfl]
      obtain ⟨h1, h2, h3, h4⟩ := nextL_found y xs (e64 x) c
      refine ⟨h1, ?_, fun z hz hy => ?_⟩
      · rcases h3 with h3 | ⟨z, hz, h3⟩
        · exact ⟨x, List.mem_cons_self, h3.symm⟩
        · exact ⟨z, List.mem_cons_of_mem _ hz, h3⟩
      · rcases List.mem_cons.mp hz with rfl | hz
        · exact h2
        · exact h4 z hz hy
    · rw [if_neg c]
      have hz' : z ∈ xs := by
        rcases List.mem_cons.mp hz with rfl | hz
        · exact absurd hy c
        · exact hz
      obtain ⟨h1, ⟨q, hq, h2⟩, h3⟩ := ih ⟨z, hz', hy⟩
      refine ⟨h1, ⟨q, List.mem_cons_of_mem _ hq, h2⟩, fun z hz hy => ?_⟩
      rcases List.mem_cons.mp hz with rfl | hz
      · exact absurd hy c
      · exact h3 z hz hy
theorem downL_found (y : Int) (xs : List FB) : ∀ b, y < b → downL xs y b true = nextL xs y b := by
  induction xs with
  | nil => intro b _; rfl
  | cons x xs ih =>
    intro b hb
    rw [nextL_cons, downL]
    by_cases c : y < e64 x
    · rw [if_pos c, if_pos c, if_pos rfl, if_neg (show ¬ b = y by omega)]
      by_cases d : e64 x < b
      · rw [if_pos d, if_pos d]; exact ih _ c
      · rw [if_neg d, if_neg d]; exact ih _ hb
    · rw [if_neg c, if_neg c]; exact ih _ hb
theorem downL_first (y b : Int) (xs : List FB) : (∃ x ∈ xs, y < e64 x) → downL xs y b false = nextL xs y y := by
  induction xs with
  | nil => rintro ⟨x, hx, _⟩; cases hx
  | cons x xs ih =>
    rintro ⟨z, hz, hy⟩
    rw [nextL_cons, downL]
    by_cases c : y < e64 x
    · rw [if_pos c, if_pos c, if_neg (by simp), if_pos rfl]; exact downL_found y xs _ c
    · rw [if_neg c, if_neg c]
      refine ih ⟨z, ?_, hy⟩
      rcases List.mem_cons.mp hz with rfl | hz
      · exact absurd hy c
      · exact hz
theorem downL_step (xs : List FB) (i : Nat) (h : i < xs.length) (y b : Int) (f : Bool) : downL (xs.drop i) y b f = if e64 xs[i] > y then (if f = true then (if e64 xs[i] < b then downL (xs.drop (i + 1)) y (e64 xs[i]) true else downL (xs.drop (i + 1)) y b f) else downL (xs.drop (i + 1)) y (e64 xs[i]) true) else downL (xs.drop (i + 1)) y b f := by
  rw [List.drop_eq_getElem_cons h]; rfl
theorem down_ev (xs : List FB) (hn : xs.length ≤ 1048576) (y : Int) (h : ∃ x ∈ xs, y < e64 x) : Ev (fun k => spec_l17Down.f k xs y) (nextL xs y y) := by
  rw [← downL_first y 0 xs h]
  refine Ev.congr (fun k => spec_l17Down.f.eq_1 k xs y) ?_
  refine ev_loop (g := fun k (s : Int × Bool) i => spec_l17Down.l0 k xs y s.1 s.2 i) xs.length (fun i s => downL (xs.drop i) y s.1 s.2) (fun _ _ => True) ?_ ?_ 0 (Nat.zero_le _) (0, false) trivial
  · intro s _
    exact Ev.step (fun k => spec_l17Down.l0.eq_2 xs y s.1 s.2 _ k) (ev_neg (by omega) (ev_now (by rw [List.drop_of_length_le (Nat.le_refl _)]; rfl)))
  intro i s h _ ih
  rw [downL_step xs i h]
  refine Ev.step (fun k => spec_l17Down.l0.eq_2 xs y s.1 s.2 i k) (ev_pos (by omega) (ev_pos (by omega) ?_))
  rw [at_FB xs i h, wrap_succ (by omega)]
  refine ev_ite (fun e => ?_) (fun e => ?_)
  · have e' : e64 xs[i] > y := e
    rw [if_pos e']
    refine ev_ite (fun e2 => ?_) (fun e2 => ?_)
    · rw [if_pos e2]
      refine ev_ite (fun e3 => ?_) (fun e3 => ?_)
      · have e3' : e64 xs[i] < s.1 := e3
        rw [if_pos e3']; exact ih (e64 xs[i], true) trivial
      · have e3' : ¬ e64 xs[i] < s.1 := e3
        rw [if_neg e3']; exact ih s trivial
    · rw [if_neg e2]; exact ih (e64 xs[i], true) trivial
  · have e' : ¬ e64 xs[i] > y := e
    rw [if_neg e']; exact ih s trivial
/-! ### the room, and whether a float reaches -/
theorem room_ev (xs : List FB) (hn : xs.length ≤ 1048576) (ha : xs.all okF = true) (y t a b : Int) : Ev (fun k => spec_l17Room.f k xs a b y t) (rm xs a b y t) := by
  refine Ev.congr (fun k => spec_l17Room.f.eq_1 k xs a b y t) ?_
  refine ev_loop (g := fun k (s : Int × Int) i => spec_l17Room.l0 k xs s.1 s.2 y t i) xs.length (fun i s => (xs.drop i).foldl (rmS y t) s) (fun _ _ => True) ?_ ?_ 0 (Nat.zero_le _) (a, b) trivial
  · intro s _
    exact Ev.step (fun k => spec_l17Room.l0.eq_2 xs s.1 s.2 y t _ k) (ev_neg (by omega) (ev_now (by rw [List.drop_of_length_le (Nat.le_refl _)]; rfl)))
  intro i s h _ ih
  rw [rm_step xs i h]
  refine Ev.step (fun k => spec_l17Room.l0.eq_2 xs s.1 s.2 y t i k) (ev_pos (by omega) (ev_pos (by omega) ?_))
  rw [at_FB xs i h]
  refine Ev.bind (reaches_ev _ y t (all_at ha i h)) ?_
  have jump : ∀ b : Bool, (b = true → hit xs[i] y t = true ∧ xs[i].f1 = true) → Ev (fun k => spec_l17Room.j1 k xs s.1 s.2 y t i b xs[i].f0.f0 xs[i].f0.f1 xs[i].f0.f2 xs[i].f0.f3) ((xs.drop (i + 1)).foldl (rmS y t) (if hit xs[i] y t = true then (if xs[i].f1 = true then (s.1, if b = true then xs[i].f0.f0 else s.2) else (mx s.1 (wrap64 (xs[i].f0.f0 + xs[i].f0.f2)), s.2)) else s)) := by
    intro b hb
    refine Ev.step (fun k => spec_l17Room.j1.eq_2 xs s.1 s.2 y t i b xs[i].f0.f0 xs[i].f0.f1 xs[i].f0.f2 xs[i].f0.f3 k) ?_
    rw [at_FB xs i h, wrap_succ (by omega)]
    refine ev_ite (fun e1 => ?_) (fun e1 => ?_)
    · obtain ⟨q1, q2⟩ := hb e1
      refine Ev.bind (reaches_ev _ y t (all_at ha i h)) (ev_pos q1 (ev_pos (by omega) (ev_pos (by omega) (ev_pos q2 ?_))))
      rw [if_pos q1, if_pos q2, if_pos e1]; exact ih (s.1, xs[i].f0.f0) trivial
    · refine Ev.bind (reaches_ev _ y t (all_at ha i h)) (ev_ite (fun e => ?_) (fun e => ?_))
      · rw [if_pos e]
        refine ev_pos (by omega) (ev_pos (by omega) (ev_ite (fun e2 => ?_) (fun e2 => ?_)))
        · rw [if_pos e2, if_neg e1]; exact ih s trivial
        · rw [if_neg e2]
          unfold mx
          refine ev_ite (fun e3 => ?_) (fun e3 => ?_)
          · rw [if_pos e3]; exact ih (wrap64 (xs[i].f0.f0 + xs[i].f0.f2), s.2) trivial
          · rw [if_neg e3]; exact ih s trivial
      · rw [if_neg e]; exact ih s trivial
  refine ev_ite (fun e => ?_) (fun e => ?_)
  · have eS : rmS y t s xs[i] = if xs[i].f1 = true then (s.1, mn s.2 xs[i].f0.f0) else (mx s.1 (wrap64 (xs[i].f0.f0 + xs[i].f0.f2)), s.2) := by unfold rmS; rw [if_pos e]
    rw [eS]
    refine ev_ite (fun e2 => ?_) (fun e2 => ?_)
    · have j := jump (decide (xs[i].f0.f0 < s.2)) (fun _ => ⟨e, e2⟩)
      rw [if_pos e, if_pos e2] at j
      rw [if_pos e2]
      unfold mn
      simpa using j
    · have j := jump false (fun c => by cases c)
      rw [if_pos e, if_neg e2] at j
      rw [if_neg e2]
      exact j
  · have eS : rmS y t s xs[i] = s := by unfold rmS; rw [if_neg e]
    have j := jump false (fun c => by cases c)
    rw [if_neg e] at j
    rw [eS]; exact j
def anyHit (xs : List FB) (y t : Int) : Bool := xs.any (fun x => hit x y t)
theorem any_step (xs : List FB) (i : Nat) (h : i < xs.length) (y t : Int) : anyHit (xs.drop i) y t = (hit xs[i] y t || anyHit (xs.drop (i + 1)) y t) := by
  unfold anyHit; rw [List.drop_eq_getElem_cons h, List.any_cons]
theorem free_ev (xs : List FB) (hn : xs.length ≤ 1048576) (ha : xs.all okF = true) (y t : Int) : Ev (fun k => spec_l17Free.f k xs y t) (!anyHit xs y t) := by
  refine Ev.congr (fun k => spec_l17Free.f.eq_1 k xs y t) ?_
  refine ev_count (g := fun k i => spec_l17Free.l0 k xs y t i) xs.length (fun i => !anyHit (xs.drop i) y t) (Ev.step (fun k => spec_l17Free.l0.eq_2 xs y t _ k) (ev_neg (by omega) (ev_now (by rw [List.drop_of_length_le (Nat.le_refl _)]; rfl)))) ?_ 0 (Nat.zero_le _)
  intro i h ih
  refine Ev.step (fun k => spec_l17Free.l0.eq_2 xs y t i k) (ev_pos (by omega) (ev_pos (by omega) ?_))
  rw [at_FB xs i h, any_step xs i h]
  refine Ev.bind (reaches_ev _ y t (all_at ha i h)) (ev_ite (fun e => ev_now (by rw [e]; rfl)) (fun e => ?_))
  rw [Bool.eq_false_iff.mpr e, Bool.false_or, wrap_succ (by omega)]; exact ih
/-! ### below all tops -/
def inv (xs : List FB) (y : Int) : Prop := (∀ x ∈ xs, x.f0.f1 ≤ y) ∧ -100000000 ≤ y ∧ y ≤ 200000000
theorem hit_low {xs : List FB} {y t : Int} (hy : inv xs y) (ht : 1 ≤ t) (ht2 : t ≤ 100000000) {x : FB} (hx : x ∈ xs) : hit x y t = (takes x && decide (y < e64 x)) := by
  have := hy.1 x hx
  unfold hit reachB
  rw [if_neg (by omega), decide_eq_true (by rw [wrap_in (by have := hy.2.1; omega) (by have := hy.2.2; omega)]; omega : x.f0.f1 < wrap64 (y + t)), Bool.true_and]
  rfl
theorem e64_top {x : FB} (h : okF x = true) : e64 x ≤ 200000000 := by
  obtain ⟨_, h1, _, h3⟩ := okF_sizes h
  unfold e64
  rw [wrap_in (by omega) (by omega)]; omega
theorem rm_same (y s t : Int) (xs : List FB) : (∀ x ∈ xs, hit x s t = hit x y t) → (∀ p, xs.foldl (rmS s t) p = xs.foldl (rmS y t) p) ∧ anyHit xs s t = anyHit xs y t := by
  induction xs with
  | nil => intro _; exact ⟨fun _ => rfl, rfl⟩
  | cons x xs ih =>
    intro h
    obtain ⟨h1, h2⟩ := ih (fun z hz => h z (List.mem_cons_of_mem _ hz))
    have hx := h x List.mem_cons_self
    refine ⟨fun p => ?_, ?_⟩
    · have e : rmS s t p x = rmS y t p x := by unfold rmS; rw [hx]
      rw [List.foldl_cons, List.foldl_cons, e]; exact h1 _
    · unfold anyHit at h2 ⊢; rw [List.any_cons, List.any_cons, hx, h2]
theorem mem_bands {x : FB} {xs : List FB} : x ∈ bandsF xs ↔ x ∈ xs ∧ takes x = true := by
  unfold bandsF; rw [List.mem_filter]
def fits (xs : List FB) (a b y w t : Int) : Bool := if wrap64 ((rm xs a b y t).2 - (rm xs a b y t).1) ≥ w then true else !anyHit xs y t
theorem spec_l1 (xs : List FB) (hn : xs.length ≤ 1048576) (ha : xs.all okF = true) (a b y w h : Int) (sd : Bool) (t : Int) {r : Int × Int × Int × Int} (k : Ev (fun k => spec_PlaceFloat.j4 k xs a b y w h sd t (rm xs a b y t).1 (rm xs a b y t).2 (fits xs a b y w t)) r) : Ev (fun k => spec_PlaceFloat.l1 k xs a b y w h sd t) r := by
  refine Ev.step (fun k => spec_PlaceFloat.l1.eq_2 xs a b y w h sd t k) (Ev.bind (room_ev xs hn ha y t a b) ?_)
  unfold fits at k
  refine ev_ite (fun e => ?_) (fun e => ?_)
  · rw [if_pos e] at k; exact k
  · rw [if_neg e] at k; exact Ev.bind (free_ev xs hn ha y t) k
theorem impl_l1 (xs : List FB) (hn : xs.length ≤ 1048576) (a b y w h : Int) (sd : Bool) {r : Int × Int × Int × Int} (k : Ev (fun k => impl_placeFloat.j2 k xs a b y w h sd (rm xs a b y (mx h 1)).1 (rm xs a b y (mx h 1)).2 (fits xs a b y w (mx h 1))) r) : Ev (fun k => impl_placeFloat.l1 k xs a b y w h sd) r := by
  refine Ev.step (fun k => impl_placeFloat.l1.eq_2 xs a b y w h sd k) (ev_bc (a := ((rm xs a b y (mx h 1)).1, (rm xs a b y (mx h 1)).2, false || anyHit xs y (mx h 1))) ?_ ?_)
  · rw [impl_room.f, if_pos (by omega), roomL_eq]; rfl
  · unfold fits at k
    refine ev_ite (fun e => ?_) (fun e => ?_)
    · rw [if_pos e] at k; exact k
    · rw [if_neg e] at k; exact k
theorem spec_walk (xs : List FB) (hn : xs.length ≤ 1048576) (ha : xs.all okF = true) (a b y w h : Int) (sd : Bool) (t : Int) (ht : 1 ≤ t) (ht2 : t ≤ 100000000) (hy : inv xs y) (hf : fits xs a b y w t = false) (t' : Int) (h1 : y < t') (x0 : FB) (h2 : x0 ∈ bandsF xs) (h3 : e64 x0 = t') (h4 : ∀ x ∈ bandsF xs, y < e64 x → t' ≤ e64 x) (r : Int × Int × Int × Int) (k : Ev (fun k => spec_PlaceFloat.l1 k xs a b t' w h sd t) r) :
    ∀ (n : Nat) (s : Int), 200000000 - s ≤ n → inv xs s → y ≤ s → s < t' → Ev (fun k => spec_PlaceFloat.l1 k xs a b s w h sd t) r := by
  have hx0 := (mem_bands.mp h2).1
  have top : t' ≤ 200000000 := by rw [← h3]; exact e64_top (List.all_eq_true.mp ha _ hx0)
  intro n
  induction n with
  | zero => intro s hs _ _ hlt; omega
  | succ n ih =>
    intro s hs hi hys hlt
    have same : ∀ x ∈ xs, hit x s t = hit x y t := by
      intro x hx
      rw [hit_low hi ht ht2 hx, hit_low hy ht ht2 hx]
      cases c : takes x with
      | false => rfl
      | true =>
        by_cases d : y < e64 x
        · have := h4 x (mem_bands.mpr ⟨hx, c⟩) d
          rw [decide_eq_true d, decide_eq_true (by omega : s < e64 x)]
        · rw [decide_eq_false d, decide_eq_false (by omega : ¬ s < e64 x)]
    obtain ⟨e1, e2⟩ := rm_same y s t xs same
    have hf' : fits xs a b s w t = false := by
      rw [← hf]; unfold fits rm; rw [e1, e2]
    refine spec_l1 xs hn ha a b s w h sd t ?_
    rw [hf']
    refine Ev.step (fun k => spec_PlaceFloat.j4.eq_2 xs a b s w h sd t _ _ false k) (ev_neg (by simp) ?_)
    obtain ⟨g1, ⟨q, hq, g2⟩, g3⟩ := nextL_first s xs ⟨x0, hx0, by omega⟩
    refine Ev.bind (down_ev xs hn s ⟨x0, hx0, by omega⟩) ?_
    have g4 := g3 x0 hx0 (by omega)
    by_cases c : nextL xs s s = t'
    · rw [c]; exact k
    · refine ih _ (by omega) ⟨fun x hx => ?_, by have := hi.2.1; omega, by omega⟩ (by omega) (by omega)
      have := hi.1 x hx
      omega
theorem place (xs : List FB) (hn : xs.length ≤ 1048576) (ha : xs.all okF = true) (a b w h : Int) (sd : Bool) (ht2 : mx h 1 ≤ 100000000) (ht : 1 ≤ mx h 1) :
    ∀ (n : Nat) (y : Int), 200000000 - y ≤ n → inv xs y → ∃ (r : Int × Int × Int × Int) (z : Int), (y ≤ z ∧ inv xs z ∧ fits xs a b z w (mx h 1) = true ∧ r = if sd = true then (wrap64 ((rm xs a b z (mx h 1)).2 - w), z, w, h) else ((rm xs a b z (mx h 1)).1, z, w, h)) ∧ Ev (fun k => spec_PlaceFloat.l1 k xs a b y w h sd (mx h 1)) r ∧ Ev (fun k => impl_placeFloat.l1 k xs a b y w h sd) r := by
  intro n
  induction n with
  | zero =>
    intro y hs hi
    cases c : fits xs a b y w (mx h 1) with
    | true =>
      refine ⟨if sd = true then (wrap64 ((rm xs a b y (mx h 1)).2 - w), y, w, h) else ((rm xs a b y (mx h 1)).1, y, w, h), y, ⟨Int.le_refl _, hi, c, rfl⟩, spec_l1 xs hn ha a b y w h sd _ ?_, impl_l1 xs hn a b y w h sd ?_⟩
      · rw [c]
        refine Ev.step (fun k => spec_PlaceFloat.j4.eq_2 xs a b y w h sd (mx h 1) _ _ true k) (ev_pos rfl (ev_ite (fun e => ev_now (by rw [if_pos e])) (fun e => ev_now (by rw [if_neg e]))))
      · rw [c]
        refine Ev.step (fun k => impl_placeFloat.j2.eq_2 xs a b y w h sd _ _ true k) (ev_pos rfl (ev_ite (fun e => ev_now (by rw [if_pos e])) (fun e => ev_now (by rw [if_neg e]))))
    | false =>
      exfalso
      unfold fits at c
      split at c
      · cases c
      · rw [Bool.not_eq_false'] at c
        obtain ⟨x, hx, hh⟩ := List.any_eq_true.mp c
        rw [hit_low hi ht ht2 hx, Bool.and_eq_true, decide_eq_true_eq] at hh
        have := e64_top (List.all_eq_true.mp ha _ hx)
        omega
  | succ n ih =>
    intro y hs hi
    cases c : fits xs a b y w (mx h 1) with
    | true =>
      refine ⟨if sd = true then (wrap64 ((rm xs a b y (mx h 1)).2 - w), y, w, h) else ((rm xs a b y (mx h 1)).1, y, w, h), y, ⟨Int.le_refl _, hi, c, rfl⟩, spec_l1 xs hn ha a b y w h sd _ ?_, impl_l1 xs hn a b y w h sd ?_⟩
      · rw [c]
        refine Ev.step (fun k => spec_PlaceFloat.j4.eq_2 xs a b y w h sd (mx h 1) _ _ true k) (ev_pos rfl (ev_ite (fun e => ev_now (by rw [if_pos e])) (fun e => ev_now (by rw [if_neg e]))))
      · rw [c]
        refine Ev.step (fun k => impl_placeFloat.j2.eq_2 xs a b y w h sd _ _ true k) (ev_pos rfl (ev_ite (fun e => ev_now (by rw [if_pos e])) (fun e => ev_now (by rw [if_neg e]))))
    | false =>
      have c0 := c
      unfold fits at c
      split at c
      · cases c
      · rw [Bool.not_eq_false'] at c
        obtain ⟨x, hx, hh⟩ := List.any_eq_true.mp c
        rw [hit_low hi ht ht2 hx, Bool.and_eq_true, decide_eq_true_eq] at hh
        obtain ⟨g1, ⟨q, hq, g2⟩, g3⟩ := nextL_first y (bandsF xs) ⟨x, mem_bands.mpr ⟨hx, hh.1⟩, hh.2⟩
        have top := e64_top (List.all_eq_true.mp ha _ (mem_bands.mp hq).1)
        obtain ⟨r, z, ⟨z1, z2⟩, k1, k2⟩ := ih (nextL (bandsF xs) y y) (by omega) ⟨fun z hz => by have := hi.1 z hz; omega, by have := hi.2.1; omega, by omega⟩
        refine ⟨r, z, ⟨by omega, z2⟩, spec_walk xs hn ha a b y w h sd (mx h 1) ht ht2 hi c0 _ g1 q hq g2 g3 r k1 (n + 1) y (by omega) hi (by omega) g1, impl_l1 xs hn a b y w h sd ?_⟩
        rw [c0]
        refine Ev.step (fun k => impl_placeFloat.j2.eq_2 xs a b y w h sd _ _ false k) (ev_neg (by simp) (ev_bc (a := nextL (bandsF xs) y y) ?_ k2))
        rw [impl_nextEnd.f, if_pos (by omega)]
/-! ### at or below all tops -/
def tops (xs : List FB) (y : Int) : Int := xs.foldl (fun y x => mx y x.f0.f1) y
theorem tops_step (xs : List FB) (i : Nat) (h : i < xs.length) (y : Int) : tops (xs.drop i) y = tops (xs.drop (i + 1)) (mx y xs[i].f0.f1) := by
  rw [List.drop_eq_getElem_cons h]; rfl
theorem tops_low (xs : List FB) : ∀ y, y ≤ tops xs y ∧ ∀ x ∈ xs, x.f0.f1 ≤ tops xs y := by
  induction xs with
  | nil => intro y; exact ⟨Int.le_refl _, fun x hx => by cases hx⟩
  | cons x xs ih =>
    intro y
    obtain ⟨h1, h2⟩ := ih (mx y x.f0.f1)
    have e : y ≤ mx y x.f0.f1 ∧ x.f0.f1 ≤ mx y x.f0.f1 := by unfold mx; split <;> omega
    refine ⟨Int.le_trans e.1 h1, fun z hz => ?_⟩
    rcases List.mem_cons.mp hz with rfl | hz
    · exact Int.le_trans e.2 h1
    · exact h2 z hz
theorem tops_high (m : Int) (xs : List FB) : (∀ x ∈ xs, x.f0.f1 ≤ m) → ∀ y, y ≤ m → tops xs y ≤ m := by
  induction xs with
  | nil => intro _ y hy; exact hy
  | cons x xs ih =>
    intro h y hy
    refine ih (fun z hz => h z (List.mem_cons_of_mem _ hz)) _ ?_
    have := h x List.mem_cons_self
    show mx y x.f0.f1 ≤ m
    unfold mx; split <;> omega
theorem spec_tops (xs : List FB) (hn : xs.length ≤ 1048576) (a b y w h : Int) (hh : 0 ≤ h) (sd : Bool) (r : Int × Int × Int × Int) (k : Ev (fun k => spec_PlaceFloat.l1 k xs a b (tops xs y) w h sd (mx h 1)) r) : Ev (fun k => spec_PlaceFloat.l0 k xs a b y w h sd 0) r := by
  refine ev_loop (g := fun k s i => spec_PlaceFloat.l0 k xs a b s w h sd i) xs.length (fun _ _ => r) (fun i s => tops (xs.drop i) s = tops xs y) ?_ ?_ 0 (Nat.zero_le _) y rfl
  · intro s hs
    rw [List.drop_of_length_le (Nat.le_refl _)] at hs
    have hs : s = tops xs y := hs
    subst hs
    refine Ev.step (fun k => spec_PlaceFloat.l0.eq_2 xs a b _ w h sd _ k) (ev_neg (by omega) (ev_ite (fun e => ?_) (fun e => ?_)))
    · refine Ev.step (fun k => spec_PlaceFloat.j2.eq_2 xs a b _ w h sd 1 k) ?_
      have e1 : mx h 1 = 1 := by unfold mx; rw [if_pos (by omega)]
      rw [e1] at k; exact k
    · refine Ev.step (fun k => spec_PlaceFloat.j2.eq_2 xs a b _ w h sd h k) ?_
      have e1 : mx h 1 = h := by unfold mx; rw [if_neg (by omega)]
      rw [e1] at k; exact k
  intro i s hi hs ih
  rw [tops_step xs i hi] at hs
  refine Ev.step (fun k => spec_PlaceFloat.l0.eq_2 xs a b s w h sd i k) (ev_pos (by omega) (ev_pos (by omega) ?_))
  rw [at_FB xs i hi, wrap_succ (by omega)]
  unfold mx at hs
  refine ev_ite (fun e => ?_) (fun e => ?_)
  · rw [if_pos e] at hs; exact ih _ hs
  · rw [if_neg e] at hs; exact ih _ hs
theorem impl_tops (xs : List FB) (hn : xs.length ≤ 1048576) (a b y w h : Int) (sd : Bool) (r : Int × Int × Int × Int) (k : Ev (fun k => impl_placeFloat.l1 k xs a b (tops xs y) w h sd) r) : Ev (fun k => impl_placeFloat.f k xs a b y w h sd) r := by
  refine Ev.congr (fun k => impl_placeFloat.f.eq_1 k xs a b y w h sd) ?_
  refine ev_loop (g := fun k s i => impl_placeFloat.l0 k xs a b s w h sd xs xs.length i) xs.length (fun _ _ => r) (fun i s => tops (xs.drop i) s = tops xs y) ?_ ?_ 0 (Nat.zero_le _) y rfl
  · intro s hs
    rw [List.drop_of_length_le (Nat.le_refl _)] at hs
    have hs : s = tops xs y := hs
    subst hs
    exact Ev.step (fun k => impl_placeFloat.l0.eq_2 xs a b _ w h sd xs xs.length _ k) (ev_neg (by omega) k)
  intro i s hi hs ih
  rw [tops_step xs i hi] at hs
  refine Ev.step (fun k => impl_placeFloat.l0.eq_2 xs a b s w h sd xs xs.length i k) (ev_pos (by omega) (ev_pos (by omega) (ev_pos (by omega) ?_)))
  rw [at_FB xs i hi, wrap_succ (by omega)]
  exact ih _ hs
theorem placed (zs : List FB) (hm : zs.length ≤ 1048576) (a b y w h : Int) (sd : Bool) : ∃ r, Ev (fun k => spec_PlaceFloat.f k zs a b y w h sd) r ∧ Ev (fun k => impl_PlaceFloat.f k zs a b y w h sd) r ∧ (r = (0, 0, 0, 0) ∨ (okAll zs = true ∧ (-100000000 ≤ y ∧ y ≤ 100000000) ∧ (0 ≤ h ∧ h ≤ 100000000) ∧ (0 ≤ w ∧ w ≤ 100000000) ∧ (-100000000 ≤ a ∧ a ≤ 100000000) ∧ (-100000000 ≤ b ∧ b ≤ 100000000) ∧ ∃ z, y ≤ z ∧ inv zs z ∧ fits zs a b z w (mx h 1) = true ∧ r = if sd = true then (wrap64 ((rm zs a b z (mx h 1)).2 - w), z, w, h) else ((rm zs a b z (mx h 1)).1, z, w, h))) := by
  by_cases g : (okAll zs && (decide (-100000000 ≤ y ∧ y ≤ 100000000) && decide (0 ≤ h ∧ h ≤ 100000000))) = true ∧ decide (0 ≤ w ∧ w ≤ 100000000) = true ∧ decide (-100000000 ≤ a ∧ a ≤ 100000000) = true ∧ decide (-100000000 ≤ b ∧ b ≤ 100000000) = true
  · obtain ⟨g1, g2, g3, g4⟩ := g
    have ga := okAll_all (by rw [Bool.and_eq_true] at g1; exact g1.1)
    have gk : okAll zs = true := by rw [Bool.and_eq_true] at g1; exact g1.1
    have gy : decide (-100000000 ≤ y ∧ y ≤ 100000000) = true := by rw [Bool.and_eq_true, Bool.and_eq_true] at g1; exact g1.2.1
    have gh : decide (0 ≤ h ∧ h ≤ 100000000) = true := by rw [Bool.and_eq_true, Bool.and_eq_true] at g1; exact g1.2.2
    have by_ := of_decide_eq_true gy
    have bh := of_decide_eq_true gh
    have lo := tops_low zs y
    have hi := tops_high 100000000 zs (fun x hx => (okF_sizes (List.all_eq_true.mp ga _ hx)).2.1.2) y by_.2
    have t1 : 1 ≤ mx h 1 := by unfold mx; split <;> omega
    have t2 : mx h 1 ≤ 100000000 := by unfold mx; split <;> omega
    obtain ⟨r, z, zz, k1, k2⟩ := place zs hm ga a b w h sd t2 t1 (200000000 - tops zs y).toNat (tops zs y) (by omega) ⟨lo.2, by omega, by omega⟩
    refine ⟨r, ?_, ?_, .inr ⟨gk, by_, bh, of_decide_eq_true g2, of_decide_eq_true g3, of_decide_eq_true g4, z, Int.le_trans lo.1 zz.1, zz.2⟩⟩
    · refine Ev.congr (fun k => spec_PlaceFloat.f.eq_1 k zs a b y w h sd) (Ev.bind (l17ok_ev zs y h) (ev_pos g1 ?_))
      refine ev_bc (l12_in w 0 100000000) (ev_pos g2 (ev_bc (l9_in a) (ev_pos g3 (ev_bc (l9_in b) ?_))))
      rw [g4]
      exact Ev.step (fun k => spec_PlaceFloat.j0.eq_2 zs a b y w h sd _ k) (ev_neg (by simp) (spec_tops zs hm a b y w h bh.1 sd r k1))
    · refine Ev.congr (fun k => impl_PlaceFloat.f.eq_1 k zs a b y w h sd) (Ev.bind (impl_ok zs hm) (ev_pos gk ?_))
      refine ev_bc (units_in y) (ev_pos gy (ev_bc (nonneg_in h) (ev_pos gh (ev_bc (nonneg_in w) (ev_pos g2 (ev_bc (units_in a) (ev_pos g3 (ev_bc (units_in b) (ev_pos g4 ?_)))))))))
      exact Ev.bind (impl_tops zs hm a b y w h sd r k2) (ev_now rfl)
  · refine ⟨(0, 0, 0, 0), ?_, ?_, .inl rfl⟩
    · have stop : Ev (fun k => spec_PlaceFloat.j0 k zs a b y w h sd true) (0, 0, 0, 0) := Ev.step (fun k => spec_PlaceFloat.j0.eq_2 zs a b y w h sd true k) (ev_pos rfl (ev_now rfl))
      refine Ev.congr (fun k => spec_PlaceFloat.f.eq_1 k zs a b y w h sd) (Ev.bind (l17ok_ev zs y h) (ev_ite (fun g1 => ?_) (fun _ => stop)))
      refine ev_bc (l12_in w 0 100000000) (ev_ite (fun g2 => ?_) (fun _ => stop))
      refine ev_bc (l9_in a) (ev_ite (fun g3 => ?_) (fun _ => stop))
      refine ev_bc (l9_in b) ?_
      cases g4 : decide (-100000000 ≤ b ∧ b ≤ 100000000) with
      | false => exact stop
      | true => exact absurd ⟨g1, g2, g3, g4⟩ g
    · refine Ev.congr (fun k => impl_PlaceFloat.f.eq_1 k zs a b y w h sd) (Ev.bind (impl_ok zs hm) (ev_ite (fun gk => ?_) (fun _ => ev_now rfl)))
      refine ev_bc (units_in y) (ev_ite (fun gy => ?_) (fun _ => ev_now rfl))
      refine ev_bc (nonneg_in h) (ev_ite (fun gh => ?_) (fun _ => ev_now rfl))
      refine ev_bc (nonneg_in w) (ev_ite (fun g2 => ?_) (fun _ => ev_now rfl))
      refine ev_bc (units_in a) (ev_ite (fun g3 => ?_) (fun _ => ev_now rfl))
      refine ev_bc (units_in b) (ev_ite (fun g4 => ?_) (fun _ => ev_now rfl))
      have gk' : okAll zs = true := gk
      exact absurd ⟨by rw [gk', gy, gh]; rfl, g2, g3, g4⟩ g
def mrg : List Int → Int → Int → Int
  | [], hi, lo => wrap64 (hi + lo)
  | x :: t, hi, lo => mrg t (if x > hi then x else hi) (if x < lo then x else lo)
theorem spec_loop (xs : List Int) (hn : xs.length ≤ 1048576) (d : Nat) : ∀ (i : Nat) (hi lo : Int), xs.length - i = d → i ≤ xs.length → Ev (fun k => spec_Margin.l0 k xs hi lo i) (mrg (xs.drop i) hi lo) := by
  induction d with
  | zero =>
    intro i hi lo hd hl
    refine Ev.step (fun k => spec_Margin.l0.eq_2 xs hi lo i k) (ev_neg (by omega) (ev_now ?_))
    rw [List.drop_of_length_le (by omega)]; rfl
  | succ d ih =>
    intro i hi lo hd hl
    refine Ev.step (fun k => spec_Margin.l0.eq_2 xs hi lo i k) (ev_pos (by omega) (ev_pos (by omega) ?_))
    rw [wrap_in (by omega) (by omega), List.drop_eq_getElem_cons (by omega), rd_nat xs i (by omega)]
    unfold mrg
    by_cases h1 : xs[i] > hi
    · refine ev_pos h1 ?_
      rw [if_pos h1]
      by_cases h2 : xs[i] < lo
      · refine ev_pos h2 ?_
        rw [if_pos h2]; exact ih (i + 1) _ _ (by omega) (by omega)
      · refine ev_neg h2 ?_
        rw [if_neg h2]; exact ih (i + 1) _ _ (by omega) (by omega)
    · refine ev_neg h1 ?_
      rw [if_neg h1]
      by_cases h2 : xs[i] < lo
      · refine ev_pos h2 ?_
        rw [if_pos h2]; exact ih (i + 1) _ _ (by omega) (by omega)
      · refine ev_neg h2 ?_
        rw [if_neg h2]; exact ih (i + 1) _ _ (by omega) (by omega)
theorem impl_loop (xs : List Int) (hn : xs.length ≤ 1048576) (d : Nat) : ∀ (i : Nat) (hi lo : Int), xs.length - i = d → i ≤ xs.length → Ev (fun k => impl_Margin.l0 k hi lo xs xs.length i) (mrg (xs.drop i) hi lo) := by
  induction d with
  | zero =>
    intro i hi lo hd hl
    refine Ev.step (fun k => impl_Margin.l0.eq_2 hi lo xs xs.length i k) (ev_neg (by omega) (ev_now ?_))
    rw [List.drop_of_length_le (by omega)]; rfl
  | succ d ih =>
    intro i hi lo hd hl
    refine Ev.step (fun k => impl_Margin.l0.eq_2 hi lo xs xs.length i k) (ev_pos (by omega) (ev_pos (by omega) (ev_pos (by omega) ?_)))
    rw [wrap_in (by omega) (by omega), List.drop_eq_getElem_cons (by omega), rd_nat xs i (by omega)]
    unfold mrg
    exact ih (i + 1) _ _ (by omega) (by omega)
/-! ### what the drawing makes of the bytes: a byte, a number below n -/
theorem and255 (x : Int) : 0 ≤ Go.bits .and .i64 x 255 ∧ Go.bits .and .i64 x 255 ≤ 255 := by
  have h : ∀ n : Nat, n ≤ 255 → 0 ≤ IntKind.i64.wrap (n : Int) ∧ IntKind.i64.wrap (n : Int) ≤ 255 := by
    intro n hn
    rw [IntKind.wrap_i64]
    omega
  unfold Go.bits
  exact h _ (by simp only [BitVec.toNat_and]; exact Nat.le_trans Nat.and_le_right (by decide))
theorem byte_ev (c : List Int) (hc : c.length ≤ 1048576) (p s : Int) (h0 : 0 ≤ p) (h1 : p ≤ 1048576) : ∃ v p' s', spec_l1Byte.f c p s = some (v, p', s') ∧ 0 ≤ v ∧ v ≤ 255 ∧ 0 ≤ p' ∧ p' ≤ 1048576 := by
  unfold spec_l1Byte.f
  by_cases g : p < (c.length : Int)
  · rw [if_pos g, if_pos h0]
    exact ⟨_, _, _, rfl, (and255 _).1, (and255 _).2, by rw [wrap_in (by omega) (by omega)]; omega, by rw [wrap_in (by omega) (by omega)]; omega⟩
  · rw [if_neg g]
    exact ⟨_, _, _, rfl, (and255 _).1, (and255 _).2, h0, h1⟩
theorem below_ev (c : List Int) (hc : c.length ≤ 1048576) (p s n : Int) (h0 : 0 ≤ p) (h1 : p ≤ 1048576) (hn : 0 < n) (hn2 : n ≤ 256) : ∃ v p' s', spec_l1Below.f c p s n = some (v, p', s') ∧ 0 ≤ v ∧ v < n ∧ 0 ≤ p' ∧ p' ≤ 1048576 := by
  obtain ⟨v, p', s', e, g0, g1, g2, g3⟩ := byte_ev c hc p s h0 h1
  unfold spec_l1Below.f
  rw [if_neg (by omega), if_pos hn2, e, Option.bind_some]
  dsimp only
  rw [if_neg (by omega)]
  exact ⟨_, _, _, rfl, Int.tmod_nonneg n g0, Int.tmod_lt_of_pos v hn, g2, g3⟩
theorem new_ev (c : List Int) (hc : c.length ≤ 1048576) : ∃ s, Ev (fun k => spec_l1New.f k c) (c, 0, s) := by
  have key : ∀ (d i : Nat) (s : Int), c.length - i = d → ∃ s', Ev (fun k => spec_l1New.l0 k c s i) (c, 0, s') := by
    intro d
    induction d with
    | zero =>
      intro i s hd
      exact ⟨s, Ev.step (fun k => spec_l1New.l0.eq_2 c s i k) (ev_neg (by omega) (ev_now rfl))⟩
    | succ d ih =>
      intro i s hd
      by_cases g : (i : Int) < 4000
      · obtain ⟨s', h⟩ := ih (i + 1) (Go.bits .and .i64 (wrap64 ((wrap64 ((wrap64 (s * 131)) + (wrap64 (rd c (i : Int))))) + 7)) 1073741823) (by omega)
        refine ⟨s', Ev.step (fun k => spec_l1New.l0.eq_2 c s i k) (ev_pos (by omega) (ev_pos g (ev_pos (by omega) ?_)))⟩
        rw [wrap_succ (by omega)]
        exact h
      · exact ⟨s, Ev.step (fun k => spec_l1New.l0.eq_2 c s i k) (ev_pos (by omega) (ev_neg g (ev_now rfl)))⟩
  obtain ⟨s, h⟩ := key c.length 0 _ rfl
  exact ⟨s, Ev.congr (fun k => spec_l1New.f.eq_1 k c) h⟩
/-! ### the drawn floats -/
theorem fill_ev (c : List Int) (hc : c.length ≤ 1048576) : ∀ (n : Nat) (xs : List FB) (p s : Int), 1001 - xs.length = n → xs.length ≤ 1001 → 0 ≤ p → p ≤ 1048576 → ∃ ys p' s', Ev (fun k => spec_l17Draw.l1 k xs c p s) (ys, p', s') ∧ ys.length ≤ 1001 ∧ 0 ≤ p' ∧ p' ≤ 1048576 := by
  intro n
  induction n with
  | zero =>
    intro xs p s hd hl h0 h1
    obtain ⟨v, p', s', e, g0, g1, g2, g3⟩ := below_ev c hc p s 2 h0 h1 (by omega) (by omega)
    refine ⟨xs, p', s', Ev.step (fun k => spec_l17Draw.l1.eq_2 xs c p s k) (ev_bc e ?_), hl, g2, g3⟩
    exact ev_neg (by rw [wrap_in (by omega) (by omega)]; omega) (ev_now rfl)
  | succ n ih =>
    intro xs p s hd hl h0 h1
    obtain ⟨v, p', s', e, g0, g1, g2, g3⟩ := below_ev c hc p s 2 h0 h1 (by omega) (by omega)
    by_cases g : (xs.length : Int) < wrap64 (1000 + v)
    · obtain ⟨ys, p2, s2, k, r⟩ := ih (xs ++ [(⟨⟨0, 0, 0, 0⟩, false⟩ : FB)]) p' s' (by rw [List.length_append]; simp only [List.length_cons, List.length_nil]; omega) (by rw [List.length_append]; simp only [List.length_cons, List.length_nil]; omega) g2 g3
      exact ⟨ys, p2, s2, Ev.step (fun k => spec_l17Draw.l1.eq_2 xs c p s k) (ev_bc e (ev_pos g (ev_pos (by omega) k))), r⟩
    · exact ⟨xs, p', s', Ev.step (fun k => spec_l17Draw.l1.eq_2 xs c p s k) (ev_bc e (ev_neg g (ev_now rfl))), hl, g2, g3⟩
theorem floats_ev (c : List Int) (hc : c.length ≤ 1048576) : ∀ (n : Nat) (xs : List FB) (y p s : Int), xs.length + n ≤ 7 → 0 ≤ p → p ≤ 1048576 → ∃ ys p' s', Ev (fun k => spec_l17Draw.l0 k xs y n c p s) (ys, p', s') ∧ ys.length ≤ 1001 ∧ 0 ≤ p' ∧ p' ≤ 1048576 := by
  intro n
  induction n with
  | zero =>
    intro xs y p s hl h0 h1
    obtain ⟨v, p', s', e, g0, g1, g2, g3⟩ := below_ev c hc p s 40 h0 h1 (by omega) (by omega)
    by_cases c0 : v = 0
    · obtain ⟨v2, p2, s2, e2, q0, q1, q2, q3⟩ := below_ev c hc p' s' 2 g2 g3 (by omega) (by omega)
      exact ⟨_, _, _, Ev.step (fun k => spec_l17Draw.l0.eq_2 xs y _ c p s k) (ev_neg (by omega) (ev_bc e (ev_pos c0 (ev_bs (ev_bc e2 (ev_pos q0 (ev_pos (by simp only [List.length_cons, List.length_nil]; omega) (ev_pos (by omega) (ev_now rfl))))))))), by rw [List.length_append]; simp only [List.length_cons, List.length_nil]; omega, q2, q3⟩
    · by_cases c1 : v = 1
      · obtain ⟨v2, p2, s2, e2, q0, q1, q2, q3⟩ := below_ev c hc p' s' 3 g2 g3 (by omega) (by omega)
        exact ⟨_, _, _, Ev.step (fun k => spec_l17Draw.l0.eq_2 xs y _ c p s k) (ev_neg (by omega) (ev_bc e (ev_neg c0 (ev_pos c1 (ev_bs (ev_bc e2 (ev_pos q0 (ev_pos (by simp only [List.length_cons, List.length_nil]; omega) (ev_pos (by omega) (ev_now rfl)))))))))), by rw [List.length_append]; simp only [List.length_cons, List.length_nil]; omega, q2, q3⟩
      · by_cases c2 : v = 2
        · obtain ⟨ys, p2, s2, k, r⟩ := fill_ev c hc _ xs p' s' rfl (by omega) g2 g3
          exact ⟨ys, p2, s2, Ev.step (fun k => spec_l17Draw.l0.eq_2 xs y _ c p s k) (ev_neg (by omega) (ev_bc e (ev_neg c0 (ev_neg c1 (ev_pos c2 k))))), r⟩
        · exact ⟨_, _, _, Ev.step (fun k => spec_l17Draw.l0.eq_2 xs y _ c p s k) (ev_neg (by omega) (ev_bc e (ev_neg c0 (ev_neg c1 (ev_neg c2 (ev_now rfl)))))), by omega, g2, g3⟩
  | succ n ih =>
    intro xs y p s hl h0 h1
    obtain ⟨w, p1, s1, e1, _, _, a1, b1⟩ := below_ev c hc p s 60 h0 h1 (by omega) (by omega)
    obtain ⟨h, p2, s2, e2, _, _, a2, b2⟩ := below_ev c hc p1 s1 40 a1 b1 (by omega) (by omega)
    obtain ⟨d, p3, s3, e3, _, _, a3, b3⟩ := below_ev c hc p2 s2 2 a2 b2 (by omega) (by omega)
    obtain ⟨r, kr, _, _⟩ := placed xs (by omega) 0 100 y w h (d == 0)
    obtain ⟨q, p4, s4, e4, _, _, a4, b4⟩ := below_ev c hc p3 s3 6 a3 b3 (by omega) (by omega)
    have hn : wrap64 (((n + 1 : Nat) : Int) - 1) = (n : Int) := by rw [wrap_in (by omega) (by omega)]; omega
    by_cases c0 : q = 0
    · obtain ⟨x, p5, s5, e5, _, _, a5, b5⟩ := below_ev c hc p4 s4 120 a4 b4 (by omega) (by omega)
      obtain ⟨t, p6, s6, e6, _, _, a6, b6⟩ := below_ev c hc p5 s5 10 a5 b5 (by omega) (by omega)
      obtain ⟨ys, p7, s7, k, rr⟩ := ih (xs ++ [(⟨⟨wrap64 (x - 10), r.2.1, r.2.2.1, r.2.2.2⟩, (d == 0)⟩ : FB)]) (wrap64 (y + t)) p6 s6 (by rw [List.length_append]; simp only [List.length_cons, List.length_nil]; omega) a6 b6
      refine ⟨ys, p7, s7, Ev.step (fun k => spec_l17Draw.l0.eq_2 xs y _ c p s k) (ev_pos (by omega) (ev_bc e1 (ev_bc e2 (ev_bc e3 (Ev.bind kr (ev_bc e4 (ev_pos c0 (ev_bc e5 (ev_pos (by omega) (ev_bc e6 ?_)))))))))), rr⟩
      rw [hn]; exact k
    · obtain ⟨t, p6, s6, e6, _, _, a6, b6⟩ := below_ev c hc p4 s4 10 a4 b4 (by omega) (by omega)
      obtain ⟨ys, p7, s7, k, rr⟩ := ih (xs ++ [(⟨⟨r.1, r.2.1, r.2.2.1, r.2.2.2⟩, (d == 0)⟩ : FB)]) (wrap64 (y + t)) p6 s6 (by rw [List.length_append]; simp only [List.length_cons, List.length_nil]; omega) a6 b6
      refine ⟨ys, p7, s7, Ev.step (fun k => spec_l17Draw.l0.eq_2 xs y _ c p s k) (ev_pos (by omega) (ev_bc e1 (ev_bc e2 (ev_bc e3 (Ev.bind kr (ev_bc e4 (ev_neg c0 (ev_pos (by omega) (ev_bc e6 ?_))))))))), rr⟩
      rw [hn]; exact k
theorem drawn_ev (c : List Int) (hc : c.length ≤ 1048576) (p s : Int) (h0 : 0 ≤ p) (h1 : p ≤ 1048576) : ∃ ys p' s', Ev (fun k => spec_l17Draw.f k c p s) (ys, p', s') ∧ ys.length ≤ 1001 ∧ 0 ≤ p' ∧ p' ≤ 1048576 := by
  obtain ⟨v, p1, s1, e1, v0, v1, a1, b1⟩ := below_ev c hc p s 7 h0 h1 (by omega) (by omega)
  obtain ⟨n, rfl⟩ := Int.eq_ofNat_of_zero_le v0
  obtain ⟨ys, p', s', k, r⟩ := floats_ev c hc n [] 0 p1 s1 (by simp only [List.length_nil]; omega) a1 b1
  exact ⟨ys, p', s', Ev.congr (fun k => spec_l17Draw.f.eq_1 k c p s) (ev_bc e1 k), r⟩
theorem room_draw (c : List Int) (hc : c.length ≤ 1048576) : ∃ ys a b y h, Ev (fun k => spec_DrawRoom.f k c) (ys, a, b, y, h) ∧ ys.length ≤ 1001 := by
  obtain ⟨s0, k0⟩ := new_ev c hc
  obtain ⟨ys, p1, s1, k1, l1, a1, b1⟩ := drawn_ev c hc 0 s0 (by omega) (by omega)
  obtain ⟨y, p2, s2, e2, _, _, a2, b2⟩ := below_ev c hc p1 s1 100 a1 b1 (by omega) (by omega)
  obtain ⟨h, p3, s3, e3, _, _, a3, b3⟩ := below_ev c hc p2 s2 30 a2 b2 (by omega) (by omega)
  obtain ⟨q, p4, s4, e4, _, _, a4, b4⟩ := below_ev c hc p3 s3 40 a3 b3 (by omega) (by omega)
  have rest : ∀ y' p s, 0 ≤ p → p ≤ 1048576 → ∃ a b h', Ev (fun k => spec_DrawRoom.j0 k ys y' h c p s) (ys, a, b, y', h') := by
    intro y' p s h0 h1
    obtain ⟨q, p5, s5, e5, _, _, a5, b5⟩ := below_ev c hc p s 40 h0 h1 (by omega) (by omega)
    by_cases c0 : q = 0
    · obtain ⟨i, p6, s6, e6, i0, i1, a6, b6⟩ := below_ev c hc p5 s5 3 a5 b5 (by omega) (by omega)
      obtain ⟨a, p7, s7, e7, _, _, a7, b7⟩ := below_ev c hc p6 s6 20 a6 b6 (by omega) (by omega)
      obtain ⟨b, p8, s8, e8, _, _, a8, b8⟩ := below_ev c hc p7 s7 60 a7 b7 (by omega) (by omega)
      exact ⟨_, _, _, Ev.step (fun k => spec_DrawRoom.j0.eq_2 ys y' h c p s k) (ev_bc e5 (ev_pos c0 (ev_bs (ev_bc e6 (ev_pos i0 (ev_pos (by simp only [List.length_cons, List.length_nil]; omega) (ev_bc e7 (ev_bc e8 (ev_now rfl)))))))))⟩
    · obtain ⟨a, p7, s7, e7, _, _, a7, b7⟩ := below_ev c hc p5 s5 20 a5 b5 (by omega) (by omega)
      obtain ⟨b, p8, s8, e8, _, _, a8, b8⟩ := below_ev c hc p7 s7 60 a7 b7 (by omega) (by omega)
      exact ⟨_, _, _, Ev.step (fun k => spec_DrawRoom.j0.eq_2 ys y' h c p s k) (ev_bc e5 (ev_neg c0 (ev_bc e7 (ev_bc e8 (ev_now rfl)))))⟩
  by_cases c0 : q = 0
  · obtain ⟨i, p6, s6, e6, i0, i1, a6, b6⟩ := below_ev c hc p4 s4 3 a4 b4 (by omega) (by omega)
    obtain ⟨a, b, h', k⟩ := rest (rd [100000000, 100000001, -100000001] i) p6 s6 a6 b6
    exact ⟨ys, a, b, _, h', Ev.congr (fun k => spec_DrawRoom.f.eq_1 k c) (Ev.bind k0 (Ev.bind k1 (ev_bc e2 (ev_bc e3 (ev_bc e4 (ev_pos c0 (ev_bs (ev_bc e6 (ev_pos i0 (ev_pos (by simp only [List.length_cons, List.length_nil]; omega) k)))))))))), l1⟩
  · obtain ⟨a, b, h', k⟩ := rest (wrap64 (y - 10)) p4 s4 a4 b4
    exact ⟨ys, a, b, _, h', Ev.congr (fun k => spec_DrawRoom.f.eq_1 k c) (Ev.bind k0 (Ev.bind k1 (ev_bc e2 (ev_bc e3 (ev_bc e4 (ev_neg c0 k)))))), l1⟩
theorem place_draw (c : List Int) (hc : c.length ≤ 1048576) : ∃ ys a b y w h sd, Ev (fun k => spec_DrawPlaceFloat.f k c) (ys, a, b, y, w, h, sd) ∧ ys.length ≤ 1001 := by
  obtain ⟨s0, k0⟩ := new_ev c hc
  obtain ⟨ys, a, b, y, h, k1, l1⟩ := room_draw c hc
  obtain ⟨w, p2, s2, e2, _, _, a2, b2⟩ := below_ev c hc 0 s0 90 (by omega) (by omega) (by omega) (by omega)
  obtain ⟨q, p3, s3, e3, _, _, a3, b3⟩ := below_ev c hc p2 s2 40 a2 b2 (by omega) (by omega)
  by_cases c0 : q = 0
  · obtain ⟨i, p4, s4, e4, i0, i1, a4, b4⟩ := below_ev c hc p3 s3 3 a3 b3 (by omega) (by omega)
    obtain ⟨d, p5, s5, e5, _, _, a5, b5⟩ := below_ev c hc p4 s4 2 a4 b4 (by omega) (by omega)
    exact ⟨_, _, _, _, _, _, _, Ev.congr (fun k => spec_DrawPlaceFloat.f.eq_1 k c) (Ev.bind k0 (Ev.bind k1 (ev_bc e2 (ev_bc e3 (ev_pos c0 (ev_bs (ev_bc e4 (ev_pos i0 (ev_pos (by simp only [List.length_cons, List.length_nil]; omega) (ev_bc e5 (ev_now rfl))))))))))), l1⟩
  · by_cases c1 : q = 1
    · obtain ⟨i, p4, s4, e4, i0, i1, a4, b4⟩ := below_ev c hc p3 s3 2 a3 b3 (by omega) (by omega)
      obtain ⟨d, p5, s5, e5, _, _, a5, b5⟩ := below_ev c hc p4 s4 2 a4 b4 (by omega) (by omega)
      exact ⟨_, _, _, _, _, _, _, Ev.congr (fun k => spec_DrawPlaceFloat.f.eq_1 k c) (Ev.bind k0 (Ev.bind k1 (ev_bc e2 (ev_bc e3 (ev_neg c0 (ev_pos c1 (ev_bs (ev_bc e4 (ev_pos i0 (ev_pos (by simp only [List.length_cons, List.length_nil]; omega) (ev_bc e5 (ev_now rfl)))))))))))), l1⟩
    · obtain ⟨d, p5, s5, e5, _, _, a5, b5⟩ := below_ev c hc p3 s3 2 a3 b3 (by omega) (by omega)
      exact ⟨_, _, _, _, _, _, _, Ev.congr (fun k => spec_DrawPlaceFloat.f.eq_1 k c) (Ev.bind k0 (Ev.bind k1 (ev_bc e2 (ev_bc e3 (ev_neg c0 (ev_neg c1 (ev_bc e5 (ev_now rfl)))))))), l1⟩
/-! ### the drawn margins -/
theorem margins_ev (c : List Int) (hc : c.length ≤ 1048576) : ∀ (n : Nat) (m : List Int) (p s : Int), m.length + n ≤ 8 → (∀ v ∈ m, -40 ≤ v ∧ v ≤ 60) → 0 ≤ p → p ≤ 1048576 → ∃ m', Ev (fun k => spec_DrawMargin.l0 k m n c p s) m' ∧ m'.length ≤ 8 ∧ ∀ v ∈ m', -40 ≤ v ∧ v ≤ 60 := by
  intro n
  induction n with
  | zero =>
    intro m p s hl hm _ _
    exact ⟨m, Ev.step (fun k => spec_DrawMargin.l0.eq_2 m _ c p s k) (ev_neg (by omega) (ev_now rfl)), by omega, hm⟩
  | succ n ih =>
    intro m p s hl hm h0 h1
    obtain ⟨v, p1, s1, e1, v0, v1, a1, b1⟩ := below_ev c hc p s 100 h0 h1 (by omega) (by omega)
    obtain ⟨m', k, r⟩ := ih (m ++ [wrap64 (v - 40)]) p1 s1 (by rw [List.length_append]; simp only [List.length_cons, List.length_nil]; omega) (fun z hz => by
      rcases List.mem_append.mp hz with hz | hz
      · exact hm z hz
      · rw [List.mem_singleton] at hz
        rw [hz, wrap_in (by omega) (by omega)]; omega) a1 b1
    refine ⟨m', Ev.step (fun k => spec_DrawMargin.l0.eq_2 m _ c p s k) (ev_pos (by omega) (ev_bc e1 (ev_pos (by omega) ?_))), r⟩
    have hn : wrap64 (((n + 1 : Nat) : Int) - 1) = (n : Int) := by rw [wrap_in (by omega) (by omega)]; omega
    rw [hn]; exact k
theorem margin_draw (c : List Int) (hc : c.length ≤ 1048576) : ∃ m, Ev (fun k => spec_DrawMargin.f k c) m ∧ m.length ≤ 8 ∧ ∀ v ∈ m, -40 ≤ v ∧ v ≤ 60 := by
  obtain ⟨s0, k0⟩ := new_ev c hc
  obtain ⟨v, p1, s1, e1, v0, v1, a1, b1⟩ := below_ev c hc 0 s0 8 (by omega) (by omega) (by omega) (by omega)
  obtain ⟨n, rfl⟩ := Int.eq_ofNat_of_zero_le v0
  obtain ⟨m, k, r⟩ := margins_ev c hc n [] p1 s1 (by simp only [List.length_nil]; omega) (fun v hv => by cases hv) a1 b1
  exact ⟨m, Ev.congr (fun k => spec_DrawMargin.f.eq_1 k c) (Ev.bind k0 (ev_bc e1 k)), r⟩
/-! ### margins in any order; one alone -/
theorem mrg_cons (x : Int) (t : List Int) (hi lo : Int) : mrg (x :: t) hi lo = mrg t (if x > hi then x else hi) (if x < lo then x else lo) := rfl
theorem mrg_snoc (v : Int) (xs : List Int) : ∀ hi lo, mrg (xs ++ [v]) hi lo = mrg (v :: xs) hi lo := by
  induction xs with
  | nil => intro hi lo; rfl
  | cons x xs ih =>
    intro hi lo
    rw [List.cons_append, mrg_cons, ih, mrg_cons, mrg_cons, mrg_cons]
    have e1 : (if v > (if x > hi then x else hi) then v else (if x > hi then x else hi)) = (if x > (if v > hi then v else hi) then x else (if v > hi then v else hi)) := by
      split <;> split <;> (try split) <;> (try split) <;> omega
    have e2 : (if v < (if x < lo then x else lo) then v else (if x < lo then x else lo)) = (if x < (if v < lo then v else lo) then x else (if v < lo then v else lo)) := by
      split <;> split <;> (try split) <;> (try split) <;> omega
    rw [e1, e2]
theorem mrg_reverse (xs : List Int) : ∀ hi lo, mrg xs.reverse hi lo = mrg xs hi lo := by
  induction xs with
  | nil => intro hi lo; rfl
  | cons x xs ih =>
    intro hi lo
    rw [List.reverse_cons, mrg_snoc, mrg_cons, ih, mrg_cons]
theorem mrg_one (v : Int) (h0 : -40 ≤ v) (h1 : v ≤ 60) : mrg [v] 0 0 = v := by
  unfold mrg mrg
  rw [wrap_in (by split <;> split <;> omega) (by split <;> split <;> omega)]
  split <;> split <;> omega
theorem impl_margin (xs : List Int) (hn : xs.length ≤ 1048576) : Ev (fun k => impl_Margin.f k xs) (mrg xs 0 0) := Ev.congr (fun k => by unfold impl_Margin.f; rfl) (impl_loop xs hn xs.length 0 0 0 (by omega) (by omega))
theorem spec_margin (xs : List Int) (hn : xs.length ≤ 1048576) : Ev (fun k => spec_Margin.f k xs) (mrg xs 0 0) := Ev.congr (fun k => by unfold spec_Margin.f; rfl) (spec_loop xs hn xs.length 0 0 0 (by omega) (by omega))
theorem turned_ev (m : List Int) (hm : m.length ≤ 8) (hv : ∀ v ∈ m, -40 ≤ v ∧ v ≤ 60) : ∀ (n : Nat), n ≤ m.length → ∀ t : List Int, t = (m.drop n).reverse → Ev (fun k => laws_FnFloats.l1 k m t ((n : Int) - 1)) true := by
  intro n
  induction n with
  | zero =>
    intro _ t ht
    refine Ev.step (fun k => laws_FnFloats.l1.eq_2 m t _ k) (ev_neg (by omega) ?_)
    have ht : t = m.reverse := ht
    refine Ev.bind (impl_margin m (by omega)) (Ev.bind (impl_margin t (by rw [ht, List.length_reverse]; omega)) (ev_pos ?_ (Ev.bind (impl_margin m (by omega)) (Ev.bind (spec_margin m (by omega)) (ev_now (by simp))))))
    rw [ht, mrg_reverse]
  | succ n ih =>
    intro hn t ht
    have hi : n < m.length := by omega
    have e0 : (((n + 1 : Nat) : Int) - 1) = (n : Int) := by omega
    rw [e0]
    have hb := hv m[n] (List.getElem_mem hi)
    refine Ev.step (fun k => laws_FnFloats.l1.eq_2 m t _ k) (ev_pos (by omega) (ev_pos (by omega) (ev_pos (by omega) (ev_pos ?_ ?_))))
    · rw [ht, List.length_reverse, List.length_drop]; omega
    rw [rd_nat m n hi, wrap_in (by omega) (by omega)]
    refine Ev.bind (impl_margin [m[n]] (by simp)) (ev_pos (mrg_one _ hb.1 hb.2) (ih (by omega) _ ?_))
    rw [ht, List.drop_eq_getElem_cons hi, List.reverse_cons]
/-! ### a placed float lies over none -/
theorem rm_bounds (y t : Int) : ∀ (xs : List FB) (p : Int × Int), (∀ x ∈ xs, okF x = true) → (-100000000 ≤ p.1 ∧ p.1 ≤ 200000000) → (-100000000 ≤ p.2 ∧ p.2 ≤ 100000000) → (-100000000 ≤ (xs.foldl (rmS y t) p).1 ∧ (xs.foldl (rmS y t) p).1 ≤ 200000000) ∧ (-100000000 ≤ (xs.foldl (rmS y t) p).2 ∧ (xs.foldl (rmS y t) p).2 ≤ 100000000) ∧ p.1 ≤ (xs.foldl (rmS y t) p).1 ∧ (xs.foldl (rmS y t) p).2 ≤ p.2 ∧ ∀ x ∈ xs, hit x y t = true → (x.f1 = true → (xs.foldl (rmS y t) p).2 ≤ x.f0.f0) ∧ (x.f1 = false → x.f0.f0 + x.f0.f2 ≤ (xs.foldl (rmS y t) p).1) := by
  intro xs
  induction xs with
  | nil => intro p _ h1 h2; exact ⟨h1, h2, Int.le_refl _, Int.le_refl _, fun x hx => by cases hx⟩
  | cons x xs ih =>
    intro p ho h1 h2
    obtain ⟨b0, b1, b2, b3⟩ := okF_sizes (ho x List.mem_cons_self)
    have w1 : wrap64 (x.f0.f0 + x.f0.f2) = x.f0.f0 + x.f0.f2 := wrap_in (by omega) (by omega)
    have q : (-100000000 ≤ (rmS y t p x).1 ∧ (rmS y t p x).1 ≤ 200000000) ∧ (-100000000 ≤ (rmS y t p x).2 ∧ (rmS y t p x).2 ≤ 100000000) ∧ p.1 ≤ (rmS y t p x).1 ∧ (rmS y t p x).2 ≤ p.2 ∧ (hit x y t = true → (x.f1 = true → (rmS y t p x).2 ≤ x.f0.f0) ∧ (x.f1 = false → x.f0.f0 + x.f0.f2 ≤ (rmS y t p x).1)) := by
      unfold rmS
      by_cases c : hit x y t = true
      · rw [if_pos c]
        by_cases d : x.f1 = true
        · rw [if_pos d]
          unfold mn
          refine ⟨h1, ?_, Int.le_refl _, ?_, fun _ => ⟨fun _ => ?_, fun e => by rw [d] at e; cases e⟩⟩ <;> dsimp only <;> split <;> omega
        · rw [if_neg d, w1]
          unfold mx
          refine ⟨?_, h2, ?_, Int.le_refl _, fun _ => ⟨fun e => absurd e d, fun _ => ?_⟩⟩ <;> dsimp only <;> split <;> omega
      · rw [if_neg c]
        exact ⟨h1, h2, Int.le_refl _, Int.le_refl _, fun e => absurd e c⟩
    obtain ⟨q1, q2, q3, q4, q5⟩ := q
    obtain ⟨r1, r2, r3, r4, r5⟩ := ih (rmS y t p x) (fun z hz => ho z (List.mem_cons_of_mem _ hz)) q1 q2
    rw [List.foldl_cons]
    refine ⟨r1, r2, Int.le_trans q3 r3, Int.le_trans r4 q4, fun z hz hh => ?_⟩
    rcases List.mem_cons.mp hz with rfl | hz
    · obtain ⟨s1, s2⟩ := q5 hh
      exact ⟨fun e => Int.le_trans r4 (s1 e), fun e => Int.le_trans (s2 e) r3⟩
    · exact r5 z hz hh
theorem over_none (zs : List FB) (hk : okAll zs = true) (a b y w h : Int) (sd : Bool) (hh : 0 < h ∧ h ≤ 100000000) (hw : 0 < w ∧ w ≤ 100000000) (ha : -100000000 ≤ a ∧ a ≤ 100000000) (hb : -100000000 ≤ b ∧ b ≤ 100000000) (hi : inv zs y) (hf : fits zs a b y w (mx h 1) = true) (r : Int × Int × Int × Int) (hr : r = if sd = true then (wrap64 ((rm zs a b y (mx h 1)).2 - w), y, w, h) else ((rm zs a b y (mx h 1)).1, y, w, h)) (x : FB) (hx : x ∈ zs) (h2 : x.f0.f2 > 0) (h3 : x.f0.f3 > 0) : laws_over.f r.1 r.2.1 r.2.2.1 r.2.2.2 x.f0.f0 x.f0.f1 x.f0.f2 x.f0.f3 = some false := by
  have hall := List.all_eq_true.mp (okAll_all hk)
  obtain ⟨b0, b1, b2, b3⟩ := okF_sizes (hall x hx)
  have tall : mx h 1 = h := by unfold mx; rw [if_neg (by omega)]
  rw [tall] at hf hr
  obtain ⟨q1, q2, q3, q4, q5⟩ := rm_bounds y h zs (a, b) hall ⟨ha.1, by have := ha.2; dsimp only; omega⟩ hb
  have e1 : rm zs a b y h = zs.foldl (rmS y h) (a, b) := rfl
  rw [← e1] at q1 q2 q3 q4 q5
  unfold fits at hf
  dsimp only at q3 q4
  generalize rm zs a b y h = s at *
  have rx : r.2.1 = y ∧ r.2.2.1 = w ∧ r.2.2.2 = h ∧ r.1 = if sd = true then s.2 - w else s.1 := by
    rw [hr]
    by_cases c : sd = true
    · rw [if_pos c, if_pos c]; exact ⟨rfl, rfl, rfl, wrap_in (by omega) (by omega)⟩
    · rw [if_neg c, if_neg c]; exact ⟨rfl, rfl, rfl, rfl⟩
  obtain ⟨r1, r2, r3, r4⟩ := rx
  rw [r1, r2, r3]
  have iy := hi.2
  have top := hi.1 x hx
  have bx : -200000000 ≤ r.1 ∧ r.1 ≤ 200000000 := by rw [r4]; split <;> omega
  have w1 : wrap64 (x.f0.f0 + x.f0.f2) = x.f0.f0 + x.f0.f2 := wrap_in (by omega) (by omega)
  have w2 : wrap64 (r.1 + w) = r.1 + w := wrap_in (by omega) (by omega)
  have w3 : wrap64 (x.f0.f1 + x.f0.f3) = x.f0.f1 + x.f0.f3 := wrap_in (by omega) (by omega)
  have w4 : wrap64 (y + h) = y + h := wrap_in (by omega) (by omega)
  unfold laws_over.f
  rw [w1, w2, w3, w4]
  by_cases c : y < x.f0.f1 + x.f0.f3
  · have hit1 : hit x y h = true := by
      rw [hit_low hi (by omega) hh.2 hx]
      unfold takes e64
      rw [w3, decide_eq_true h2, decide_eq_true h3, decide_eq_true c]; rfl
    have wide : s.2 - s.1 ≥ w := by
      have : anyHit zs y h = true := List.any_eq_true.mpr ⟨x, hx, hit1⟩
      rw [this] at hf
      split at hf
      · rename_i g
        rw [wrap_in (by omega) (by omega)] at g
        exact g
      · cases hf
    obtain ⟨p1, p2⟩ := q5 x hx hit1
    cases d : x.f1 with
    | true =>
      have := p1 d
      by_cases g : r.1 < x.f0.f0 + x.f0.f2
      · rw [if_pos g, if_neg (by rw [r4]; split <;> omega)]
      · rw [if_neg g]
    | false =>
      have := p2 d
      rw [if_neg (by rw [r4]; split <;> omega)]
  · by_cases g : r.1 < x.f0.f0 + x.f0.f2
    · rw [if_pos g]
      by_cases g2 : x.f0.f0 < r.1 + w
      · rw [if_pos g2, if_neg c]
      · rw [if_neg g2]
    · rw [if_neg g]
theorem none_ev (c : List Int) (zs : List FB) (hn : zs.length ≤ 1048576) (r : Int × Int × Int × Int) (h1 : ∀ x ∈ zs, x.f0.f1 ≤ r.2.1) (h2 : ∀ x ∈ zs, x.f0.f2 > 0 → x.f0.f3 > 0 → laws_over.f r.1 r.2.1 r.2.2.1 r.2.2.2 x.f0.f0 x.f0.f1 x.f0.f2 x.f0.f3 = some false) (hd : Ev (fun k => laws_FnFloats.j2 k c) true) : Ev (fun k => laws_FnFloats.l0 k c zs 0 r.1 r.2.1 r.2.2.1 r.2.2.2) true := by
  refine ev_count (g := fun k i => laws_FnFloats.l0 k c zs i r.1 r.2.1 r.2.2.1 r.2.2.2) zs.length (fun _ => true) (Ev.step (fun k => laws_FnFloats.l0.eq_2 c zs _ r.1 r.2.1 r.2.2.1 r.2.2.2 k) (ev_neg (by omega) hd)) ?_ 0 (Nat.zero_le _)
  intro i h ih
  refine Ev.step (fun k => laws_FnFloats.l0.eq_2 c zs i r.1 r.2.1 r.2.2.1 r.2.2.2 k) (ev_pos (by omega) (ev_pos (by omega) ?_))
  rw [at_FB zs i h, wrap_succ (by omega)]
  have hm := List.getElem_mem h
  have low := h1 zs[i] hm
  refine ev_ite (fun e => ev_ite (fun e2 => ?_) (fun _ => ev_neg (by omega) ih)) (fun _ => ev_neg (by omega) ih)
  exact ev_bc (h2 zs[i] hm e e2) (ev_neg (by simp) (ev_neg (by omega) ih))
theorem FnFloats : laws_FnFloats.Pure := by
  intro c hl _ hb
  refine Ev.rounds (r := true) ?_
  refine Ev.congr (fun k => laws_FnFloats.f.eq_1 k c) (ev_bc rfl (ev_ite (fun _ => ev_now rfl) (fun h0 => ?_)))
  have hc : c.length ≤ 1048576 := by
    rw [decide_eq_true_eq] at h0; omega
  obtain ⟨zs, a, b, y, w, h, sd, k1, l1⟩ := place_draw c hc
  obtain ⟨r, k2, k3, hr⟩ := placed zs (by omega) a b y w h sd
  obtain ⟨m, k4, l4, v4⟩ := margin_draw c hc
  have hd : Ev (fun k => laws_FnFloats.j2 k c) true := by
    refine Ev.step (fun k => laws_FnFloats.j2.eq_2 c k) (Ev.bind k4 ?_)
    rw [wrap_in (by omega) (by omega)]
    exact turned_ev m l4 v4 m.length (Nat.le_refl _) [] (by rw [List.drop_of_length_le (Nat.le_refl _)]; rfl)
  refine Ev.bind k1 (Ev.bind k3 (Ev.bind k2 (ev_neg (by simp) (Ev.bind (spec_ok zs) ?_))))
  dsimp only
  have skip : Ev (fun k => laws_FnFloats.j0 k c zs y false r.1 r.2.1 r.2.2.1 r.2.2.2) true := Ev.step (fun k => laws_FnFloats.j0.eq_2 c zs y false r.1 r.2.1 r.2.2.1 r.2.2.2 k) (ev_neg (by simp) hd)
  refine ev_ite (fun g => ev_ite (fun g2 => ?_) (fun _ => skip)) (fun _ => skip)
  by_cases g3 : r.2.2.2 > 0
  · rw [decide_eq_true g3]
    rcases hr with hr | ⟨ok, by_, bh, bw, ba, bb, z, yz, iz, fz, hr⟩
    · rw [hr] at g2; exact absurd g2 (by decide)
    · have e : r.2.1 = z ∧ r.2.2.1 = w ∧ r.2.2.2 = h := by rw [hr]; split <;> exact ⟨rfl, rfl, rfl⟩
      refine Ev.step (fun k => laws_FnFloats.j0.eq_2 c zs y true r.1 r.2.1 r.2.2.1 r.2.2.2 k) (ev_pos rfl (ev_neg (by rw [e.1]; omega) ?_))
      refine none_ev c zs (by omega) r (fun x hx => by rw [e.1]; exact iz.1 x hx) (fun x hx h2 h3 => ?_) hd
      exact over_none zs ok a b z w h sd ⟨by rw [← e.2.2]; exact g3, bh.2⟩ ⟨by rw [← e.2.1]; exact g2, bw.2⟩ ba bb iz fz r hr x hx h2 h3
  · rw [decide_eq_false g3]; exact skip
end Go.Proofs.Ytppjmcfcacgbdaa.Fact
