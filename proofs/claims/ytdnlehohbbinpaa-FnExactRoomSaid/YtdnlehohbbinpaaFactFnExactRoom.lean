/- Room. Conditions: none. -/
import Derived.Test.YtdnlehohbbinpaaMFnExactRoomx4
namespace Go.Proofs.Ytdnlehohbbinpaa.Fact
open Go.RowKit Go.Proofs.Ytdnlehohbbinpaa.MFnExactRoom Go.Proofs.YtdnlehohbbinpaaW.PrintWords Go.Proofs.YtdnlehohbbinpaaW.PrintLast
set_option linter.unusedVariables false
set_option linter.unusedSimpArgs false
/-! ### what comes from some round on -/
theorem ev_pos {α : Type} {c : Prop} [Decidable c] {f g : Nat → Option α} {r : α} (h : c) (k : Ev f r) : Ev (fun n => if c then f n else g n) r := by
  simpa only [if_pos h] using k
theorem ev_neg {α : Type} {c : Prop} [Decidable c] {f g : Nat → Option α} {r : α} (h : ¬ c) (k : Ev g r) : Ev (fun n => if c then f n else g n) r := by
  simpa only [if_neg h] using k
theorem ev_now {α : Type} {q r : α} (h : q = r) : Ev (fun _ => some q) r := by rw [h]; exact Ev.now r
theorem ev_bs {α β : Type} {a : α} {f : Nat → α → Option β} {r : β} (k : Ev (fun n => f n a) r) : Ev (fun n => (some a).bind (f n)) r := by
  simpa only [Option.bind_some] using k
theorem ev_bc {α β : Type} {o : Option α} {a : α} {f : Nat → α → Option β} {r : β} (h : o = some a) (k : Ev (fun n => f n a) r) : Ev (fun n => o.bind (f n)) r := by
  rw [h]; exact ev_bs k
theorem wrap_in {i : Int} (h0 : -9223372036854775808 ≤ i) (h1 : i ≤ 9223372036854775807) : wrap64 i = i := by
  unfold wrap64
  omega
theorem i64_bounds {x : Int} (h : (Lit.int .i64 x).wf = true) : -9223372036854775808 ≤ x ∧ x ≤ 9223372036854775807 := by
  simp [Lit.wf, IntKind.min, IntKind.max, IntKind.signed, IntKind.bits] at h
  omega
theorem ev_ite {α : Type} {c : Prop} [Decidable c] {f g : Nat → Option α} {r : α} (h1 : c → Ev f r) (h2 : ¬ c → Ev g r) : Ev (fun n => if c then f n else g n) r := by
  by_cases h : c
  · exact ev_pos h (h1 h)
  · exact ev_neg h (h2 h)
theorem ev_to {α : Type} {f : Nat → Option α} {q r : α} (h : q = r) (k : Ev f q) : Ev f r := h ▸ k
theorem wrap_succ {i : Nat} (h : i < 9223372036854775807) : wrap64 ((i : Int) + 1) = ((i + 1 : Nat) : Int) := by
  rw [wrap_in (by omega) (by omega)]; rfl
theorem getD_nat {α : Type} (d : α) (xs : List α) (i : Nat) (h : i < xs.length) : xs.getD (i : Int).toNat d = xs[i] := by
  simp [List.getElem?_eq_getElem h]
/-- A loop that counts from i up to n, its state s. -/
theorem ev_loop {σ ρ : Type} {g : Nat → σ → Int → Option ρ} (n : Nat) (R : Nat → σ → ρ) (Inv : Nat → σ → Prop)
    (hend : ∀ s, Inv n s → Ev (fun k => g k s n) (R n s))
    (hstep : ∀ i s, i < n → Inv i s → (∀ s', Inv (i + 1) s' → Ev (fun k => g k s' ((i + 1 : Nat) : Int)) (R (i + 1) s')) → Ev (fun k => g k s i) (R i s)) :
    ∀ i, i ≤ n → ∀ s, Inv i s → Ev (fun k => g k s i) (R i s) := by
  have key : ∀ d i, n - i = d → i ≤ n → ∀ s, Inv i s → Ev (fun k => g k s i) (R i s) := by
    intro d
    induction d with
    | zero =>
      intro i hd hi s hs
      obtain rfl : i = n := by omega
      exact hend s hs
    | succ d ih =>
      intro i hd hi s hs
      exact hstep i s (by omega) hs (ih (i + 1) (by omega) (by omega))
  exact fun i hi s hs => key (n - i) i rfl hi s hs
/-- The same, without a state. -/
theorem ev_count {ρ : Type} {g : Nat → Int → Option ρ} (n : Nat) (R : Nat → ρ) (hend : Ev (fun k => g k n) (R n))
    (hstep : ∀ i, i < n → Ev (fun k => g k ((i + 1 : Nat) : Int)) (R (i + 1)) → Ev (fun k => g k i) (R i)) : ∀ i, i ≤ n → Ev (fun k => g k i) (R i) := by
  intro i hi
  exact ev_loop (σ := Unit) (g := fun k _ i => g k i) n (fun i _ => R i) (fun _ _ => True) (fun _ _ => hend) (fun i _ h _ ih => hstep i h (ih () trivial)) i hi () trivial
/-- A loop that writes F of each element into a list of the same length. -/
theorem ev_copy {α β : Type} {g : Nat → List β → Int → Option (List β)} (F : α → β) (xs : List α)
    (hend : ∀ ys : List β, ys.length = xs.length → Ev (fun k => g k ys xs.length) ys)
    (hstep : ∀ (ys : List β) (i : Nat) (h : i < xs.length), ys.length = xs.length → Ev (fun k => g k (ys.set i (F xs[i])) ((i + 1 : Nat) : Int)) (xs.map F) → Ev (fun k => g k ys i) (xs.map F))
    (ys : List β) (hl : ys.length = xs.length) : Ev (fun k => g k ys 0) (xs.map F) := by
  refine ev_loop (g := g) xs.length (fun _ _ => xs.map F) (fun i ys => ys.length = xs.length ∧ ys.take i = (xs.map F).take i) ?_ ?_ 0 (Nat.zero_le _) ys ⟨hl, rfl⟩
  · intro ys hs
    have e : ys = xs.map F := by
      have := hs.2
      rwa [List.take_of_length_le (by omega), List.take_of_length_le (by simp)] at this
    rw [← e]; exact hend ys hs.1
  · intro i ys hi hs ih
    refine hstep ys i hi hs.1 (ih _ ⟨by rw [List.length_set]; exact hs.1, ?_⟩)
    rw [List.take_succ_eq_append_getElem (by rw [List.length_set]; omega), List.take_succ_eq_append_getElem (by rw [List.length_map]; omega), List.take_set, hs.2, List.getElem_set_self, List.getElem_map]
    rw [List.set_eq_of_length_le (by simp; omega)]
theorem ite_eq {α : Type} {c : Prop} [Decidable c] {x y z : α} (h1 : c → x = z) (h2 : ¬ c → y = z) : (if c then x else y) = z := by
  by_cases h : c
  · rw [if_pos h]; exact h1 h
  · rw [if_neg h]; exact h2 h
theorem iteP {α : Type} {P : α → Prop} {c : Prop} [Decidable c] {x y : α} (h1 : c → P x) (h2 : ¬ c → P y) : P (if c then x else y) := by
  by_cases h : c
  · rw [if_pos h]; exact h1 h
  · rw [if_neg h]; exact h2 h
/-! ### the rectangles: copies, comparisons, bounds -/
def cvF (x : S63) : S59 := ⟨⟨x.f0.f0, x.f0.f1, x.f0.f2, x.f0.f3⟩, x.f1⟩
abbrev FB := S59
abbrev FL := S63
theorem sz_floats (xs : List FL) : laws_szFloatBoxS.f xs 1048576 = some (if wrap64 (1048576 - (xs.length : Int)) < 0 then -1 else wrap64 (1048576 - (xs.length : Int))) := by
  unfold laws_szFloatBoxS.f; split <;> rfl
theorem sz_small (xs : List FL) (hl : xs.length ≤ maxLen) (h : ¬ (if wrap64 (1048576 - (xs.length : Int)) < 0 then -1 else wrap64 (1048576 - (xs.length : Int))) < 0) : xs.length ≤ 1048576 := by
  unfold maxLen at hl
  rw [wrap_in (by omega) (by omega)] at h
  split at h <;> omega
theorem at_FL (xs : List FL) (i : Nat) (h : i < xs.length) : rd_T63 xs (i : Int) = xs[i] := getD_nat _ xs i h
theorem at_FB (xs : List FB) (i : Nat) (h : i < xs.length) : rd_T59 xs (i : Int) = xs[i] := getD_nat _ xs i h
theorem toFloats (xs : List FL) (hn : xs.length ≤ 1048576) : Ev (fun k => laws_toFloatBoxS.f k xs) (xs.map cvF) := by
  refine Ev.congr (fun k => by unfold laws_toFloatBoxS.f; rfl) (ev_pos (by omega) (ev_pos (by omega) ?_))
  refine ev_copy (g := fun k ys i => laws_toFloatBoxS.l0 k xs ys i) cvF xs (fun ys hl => Ev.step (fun k => laws_toFloatBoxS.l0.eq_2 xs ys _ k) (ev_neg (by omega) (ev_now rfl))) ?_ _ (by simp)
  intro ys i h hl ih
  refine Ev.step (fun k => laws_toFloatBoxS.l0.eq_2 xs ys i k) (ev_pos (by omega) (ev_pos (by omega) (ev_bc (a := ((cvF xs[i]).f0.f0, (cvF xs[i]).f0.f1, (cvF xs[i]).f0.f2, (cvF xs[i]).f0.f3, (cvF xs[i]).f1)) (by rw [at_FL xs i h]; rfl) (ev_pos (by omega) ?_))))
  rw [wrap_succ (by omega), Int.toNat_natCast]; exact ih
theorem eqFloats (xs : List FB) (hn : xs.length ≤ 1048576) : Ev (fun k => laws_eqFloatBoxS.f k xs xs) true := by
  refine Ev.congr (fun k => by unfold laws_eqFloatBoxS.f; rfl) (ev_pos rfl ?_)
  refine ev_count (g := fun k i => laws_eqFloatBoxS.l0 k xs xs i) xs.length (fun _ => true) (Ev.step (fun k => laws_eqFloatBoxS.l0.eq_2 xs xs _ k) (ev_neg (by omega) (ev_now rfl))) ?_ 0 (Nat.zero_le _)
  intro i h ih
  refine Ev.step (fun k => laws_eqFloatBoxS.l0.eq_2 xs xs i k) (ev_pos (by omega) (ev_pos (by omega) (ev_pos (by omega) (ev_bc (a := true) ?_ (ev_pos rfl ?_)))))
  · simp [laws_eqFloatBox.f, laws_eqRect.f]
  · rw [wrap_succ (by omega)]; exact ih
def okF (x : FB) : Bool := decide (-100000000 ≤ x.f0.f0 ∧ x.f0.f0 ≤ 100000000) && (decide (-100000000 ≤ x.f0.f1 ∧ x.f0.f1 ≤ 100000000) && (decide (0 ≤ x.f0.f2 ∧ x.f0.f2 ≤ 100000000) && decide (0 ≤ x.f0.f3 ∧ x.f0.f3 ≤ 100000000)))
theorem l9_in (a : Int) : spec_l9In.f a 100000000 = some (decide (-100000000 ≤ a ∧ a ≤ 100000000)) := by
  unfold spec_l9In.f
  rw [wrap_in (by omega) (by omega)]
  split <;> simp <;> omega
theorem l12_in (a lo hi : Int) : spec_l12In.f a lo hi = some (decide (lo ≤ a ∧ a ≤ hi)) := by
  unfold spec_l12In.f
  split <;> simp <;> omega
theorem units_in (a : Int) : impl_inUnits.f a = some (decide (-100000000 ≤ a ∧ a ≤ 100000000)) := by
  unfold impl_inUnits.f
  split <;> simp <;> omega
theorem nonneg_in (a : Int) : impl_nonNegative.f a = some (decide (0 ≤ a ∧ a ≤ 100000000)) := by
  unfold impl_nonNegative.f
  split <;> simp <;> omega
theorem rect_ok (x : FB) : spec_l17RectOk.f x.f0.f0 x.f0.f1 x.f0.f2 x.f0.f3 = some (okF x) := by
  unfold spec_l17RectOk.f okF
  simp only [l9_in, l12_in, Option.bind_some]
  cases decide (-100000000 ≤ x.f0.f0 ∧ x.f0.f0 ≤ 100000000) <;> cases decide (-100000000 ≤ x.f0.f1 ∧ x.f0.f1 ≤ 100000000) <;> cases decide (0 ≤ x.f0.f2 ∧ x.f0.f2 ≤ 100000000) <;> rfl
theorem all_step (xs : List FB) (i : Nat) (h : i < xs.length) : (xs.drop i).all okF = (okF xs[i] && (xs.drop (i + 1)).all okF) := by
  rw [List.drop_eq_getElem_cons h, List.all_cons]
theorem spec_ok (xs : List FB) : Ev (fun k => spec_FloatsOk.f k xs) (decide (xs.length ≤ 1000) && xs.all okF) := by
  refine Ev.congr (fun k => by unfold spec_FloatsOk.f; rfl) (ev_ite (fun h => ev_now (by simp; omega)) (fun h => ?_))
  have hn : xs.length ≤ 1000 := by omega
  rw [decide_eq_true hn, Bool.true_and]
  refine ev_count (g := fun k i => spec_FloatsOk.l0 k xs i) xs.length (fun i => (xs.drop i).all okF) (Ev.step (fun k => spec_FloatsOk.l0.eq_2 xs _ k) (ev_neg (by omega) (ev_now (by rw [List.drop_of_length_le (Nat.le_refl _)]; rfl)))) ?_ 0 (Nat.zero_le _)
  intro i h ih
  refine Ev.step (fun k => spec_FloatsOk.l0.eq_2 xs i k) (ev_pos (by omega) (ev_pos (by omega) (ev_bc (a := okF xs[i]) (by rw [at_FB xs i h]; exact rect_ok _) ?_)))
  rw [all_step xs i h, wrap_succ (by omega)]
  refine ev_ite (fun e => ?_) (fun e => ev_now (by rw [Bool.eq_false_iff.mpr e]; rfl))
  rw [e, Bool.true_and]; exact ih
theorem impl_ok (xs : List FB) (hn : xs.length ≤ 1048576) : Ev (fun k => impl_FloatsOk.f k xs) (decide (xs.length ≤ 1000) && xs.all okF) := by
  refine Ev.congr (fun k => by unfold impl_FloatsOk.f; rfl) ?_
  rw [Bool.and_comm]
  refine ev_count (g := fun k i => impl_FloatsOk.l0 k xs xs xs.length i) xs.length (fun i => (xs.drop i).all okF && decide (xs.length ≤ 1000)) (Ev.step (fun k => impl_FloatsOk.l0.eq_2 xs xs xs.length _ k) (ev_neg (by omega) (ev_now (by rw [List.drop_of_length_le (Nat.le_refl _)]; simp; omega)))) ?_ 0 (Nat.zero_le _)
  intro i h ih
  refine Ev.step (fun k => impl_FloatsOk.l0.eq_2 xs xs xs.length i k) (ev_pos (by omega) (ev_pos (by omega) (ev_pos (by omega) ?_)))
  rw [all_step xs i h, wrap_succ (by omega), at_FB xs i h]
  unfold okF
  refine ev_bc (units_in _) (ev_ite (fun e => ?_) (fun e => ev_now (by rw [Bool.eq_false_iff.mpr e]; rfl)))
  refine ev_bc (units_in _) (ev_ite (fun e2 => ?_) (fun e2 => ev_now (by rw [Bool.eq_false_iff.mpr e2, e]; rfl)))
  refine ev_bc (nonneg_in _) (ev_ite (fun e3 => ?_) (fun e3 => ev_now (by rw [Bool.eq_false_iff.mpr e3, e, e2]; rfl)))
  refine ev_bc (nonneg_in _) (ev_ite (fun e4 => ?_) (fun e4 => ev_now (by rw [Bool.eq_false_iff.mpr e4, e, e2, e3]; rfl)))
  rw [e, e2, e3, e4]; exact ih
/-! ### the floats that take room, and what reaches into heights -/
def hit (x : FB) (y h : Int) : Bool := takes x && reachB x y h
def rmS (y h : Int) (s : Int × Int) (x : FB) : Int × Int := if hit x y h = true then (if x.f1 = true then (s.1, mn s.2 x.f0.f0) else (mx s.1 (wrap64 (x.f0.f0 + x.f0.f2)), s.2)) else s
def rm (xs : List FB) (a b y h : Int) : Int × Int := xs.foldl (rmS y h) (a, b)
theorem bandsF_cons (x : FB) (xs : List FB) : bandsF (x :: xs) = if takes x = true then x :: bandsF xs else bandsF xs := by
  unfold bandsF; rw [List.filter_cons]
theorem roomL_eq (y h : Int) (xs : List FB) : ∀ (a b : Int) (s : Bool), roomL (bandsF xs) a b s y h = ((rm xs a b y h).1, (rm xs a b y h).2, s || xs.any (fun x => hit x y h)) := by
  induction xs with
  | nil => intro a b s; simp [bandsF, roomL, rm]
  | cons x xs ih =>
    intro a b s
    rw [bandsF_cons]
    by_cases t : takes x = true
    · rw [if_pos t, roomL]
      by_cases r : reachB x y h = true
      · have hh : hit x y h = true := by simp [hit, t, r]
        rw [if_pos r]
        by_cases f : x.f1 = true
        · rw [if_pos f, ih]; simp [rm, rmS, hh, f]
        · rw [if_neg f, ih]; simp [rm, rmS, hh, f]
      · have hh : hit x y h = false := by simp [hit, r]
        rw [if_neg r, ih]; simp [rm, rmS, hh]
    · have hh : hit x y h = false := by simp [hit, t]
      rw [if_neg t, ih]; simp [rm, rmS, hh]
theorem okF_sizes {x : FB} (h : okF x = true) : (-100000000 ≤ x.f0.f0 ∧ x.f0.f0 ≤ 100000000) ∧ (-100000000 ≤ x.f0.f1 ∧ x.f0.f1 ≤ 100000000) ∧ (0 ≤ x.f0.f2 ∧ x.f0.f2 ≤ 100000000) ∧ (0 ≤ x.f0.f3 ∧ x.f0.f3 ≤ 100000000) := by
  simpa [okF] using h
theorem reaches_ev (x : FB) (y h : Int) (hx : okF x = true) : Ev (fun k => spec_l17Reaches.f k x.f0.f0 x.f0.f1 x.f0.f2 x.f0.f3 y h) (hit x y h) := by
  obtain ⟨_, _, h2, h3⟩ := okF_sizes hx
  have jump : ∀ b : Bool, takes x = (!b) → Ev (fun k => spec_l17Reaches.j0 k y h b x.f0.f0 x.f0.f1 x.f0.f2 x.f0.f3) (hit x y h) := by
    intro b hb
    refine Ev.step (fun k => spec_l17Reaches.j0.eq_2 y h b x.f0.f0 x.f0.f1 x.f0.f2 x.f0.f3 k) ?_
    unfold hit reachB
    rw [hb]
    cases b with
    | true => exact ev_pos rfl (ev_now rfl)
    | false =>
      refine ev_neg (by simp) ?_
      rw [Bool.not_false, Bool.true_and]
      refine ev_ite (fun e => ?_) (fun e => ?_)
      · rw [if_pos e]
        exact ev_ite (fun e2 => ev_now (by rw [decide_eq_true e2, Bool.true_and])) (fun e2 => ev_now (by rw [decide_eq_false e2, Bool.false_and]))
      · rw [if_neg e]
        exact ev_ite (fun e2 => ev_now (by rw [decide_eq_true e2, Bool.true_and])) (fun e2 => ev_now (by rw [decide_eq_false e2, Bool.false_and]))
  refine Ev.congr (fun k => spec_l17Reaches.f.eq_1 k x.f0.f0 x.f0.f1 x.f0.f2 x.f0.f3 y h) (ev_ite (fun e => jump _ ?_) (fun e => jump _ ?_))
  · unfold takes; rw [decide_eq_false (by omega)]; rfl
  · unfold takes
    rw [decide_eq_true (by omega : 0 < x.f0.f2), Bool.true_and]
    by_cases c : x.f0.f3 = 0
    · rw [decide_eq_false (by omega), beq_iff_eq.mpr c]; rfl
    · rw [decide_eq_true (by omega), beq_eq_false_iff_ne.mpr c]; rfl
theorem all_at {xs : List FB} (ha : xs.all okF = true) (i : Nat) (h : i < xs.length) : okF xs[i] = true := List.all_eq_true.mp ha _ (List.getElem_mem h)
theorem rm_step (xs : List FB) (i : Nat) (h : i < xs.length) (y t : Int) (s : Int × Int) : (xs.drop i).foldl (rmS y t) s = (xs.drop (i + 1)).foldl (rmS y t) (rmS y t s xs[i]) := by
  rw [List.drop_eq_getElem_cons h]; rfl
def okAll (xs : List FB) : Bool := decide (xs.length ≤ 1000) && xs.all okF
theorem okAll_all {xs : List FB} (h : okAll xs = true) : xs.all okF = true := by
  unfold okAll at h; rw [Bool.and_eq_true] at h; exact h.2
theorem l17ok_ev (xs : List FB) (y t : Int) : Ev (fun k => spec_l17Ok.f k xs y t) (okAll xs && (decide (-100000000 ≤ y ∧ y ≤ 100000000) && decide (0 ≤ t ∧ t ≤ 100000000))) := by
  refine Ev.congr (fun k => spec_l17Ok.f.eq_1 k xs y t) (Ev.bind (spec_ok xs) (ev_ite (fun e => ?_) (fun e => ev_now ?_)))
  · unfold okAll; rw [e, Bool.true_and]
    refine ev_bc (l9_in y) (ev_ite (fun e2 => ?_) (fun e2 => ev_now ?_))
    · rw [e2, Bool.true_and]; exact ev_bc (l12_in t 0 100000000) (ev_now rfl)
    · rw [Bool.eq_false_iff.mpr e2, Bool.false_and]
  · unfold okAll; rw [Bool.eq_false_iff.mpr e, Bool.false_and]
theorem spec_rm (xs : List FB) (hn : xs.length ≤ 1048576) (ha : xs.all okF = true) (y t a b : Int) : Ev (fun k => spec_Room.l0 k xs a b y t 0) (rm xs a b y t) := by
  refine ev_loop (g := fun k (s : Int × Int) i => spec_Room.l0 k xs s.1 s.2 y t i) xs.length (fun i s => (xs.drop i).foldl (rmS y t) s) (fun _ _ => True) ?_ ?_ 0 (Nat.zero_le _) (a, b) trivial
  · intro s _
    exact Ev.step (fun k => spec_Room.l0.eq_2 xs s.1 s.2 y t _ k) (ev_neg (by omega) (ev_now (by rw [List.drop_of_length_le (Nat.le_refl _)]; rfl)))
  intro i s h _ ih
  rw [rm_step xs i h]
  refine Ev.step (fun k => spec_Room.l0.eq_2 xs s.1 s.2 y t i k) (ev_pos (by omega) (ev_pos (by omega) ?_))
  rw [at_FB xs i h]
  refine Ev.bind (reaches_ev _ y t (all_at ha i h)) ?_
  rw [wrap_succ (by omega)]
  refine ev_ite (fun e => ?_) (fun e => ?_)
  · have jump : ∀ b : Bool, (xs[i].f1 = false → b = false) → Ev (fun k => spec_Room.j1 k xs s.1 s.2 y t i b xs[i].f0.f0 xs[i].f0.f1 xs[i].f0.f2 xs[i].f0.f3) ((xs.drop (i + 1)).foldl (rmS y t) (if xs[i].f1 = true then (s.1, if b = true then xs[i].f0.f0 else s.2) else (mx s.1 (wrap64 (xs[i].f0.f0 + xs[i].f0.f2)), s.2))) := by
      intro b hb
      refine Ev.step (fun k => spec_Room.j1.eq_2 xs s.1 s.2 y t i b xs[i].f0.f0 xs[i].f0.f1 xs[i].f0.f2 xs[i].f0.f3 k) ?_
      rw [at_FB xs i h, wrap_succ (by omega)]
      refine ev_ite (fun e1 => ?_) (fun e1 => ?_)
      · refine ev_pos (by omega) (ev_pos (by omega) (ev_ite (fun e2 => ?_) (fun e2 => ?_)))
        · rw [if_pos e2, if_pos e1]; exact ih (s.1, xs[i].f0.f0) trivial
        · exact absurd (hb (Bool.eq_false_iff.mpr e2)) (by rw [e1]; simp)
      · refine ev_pos (by omega) (ev_pos (by omega) (ev_ite (fun e2 => ?_) (fun e2 => ?_)))
        · rw [if_pos e2, if_neg e1]; exact ih _ trivial
        · rw [if_neg e2]
          unfold mx
          refine ev_ite (fun e3 => ?_) (fun e3 => ?_)
          · rw [if_pos e3]; exact ih (wrap64 (xs[i].f0.f0 + xs[i].f0.f2), s.2) trivial
          · rw [if_neg e3]; exact ih _ trivial
    have eS : rmS y t s xs[i] = if xs[i].f1 = true then (s.1, mn s.2 xs[i].f0.f0) else (mx s.1 (wrap64 (xs[i].f0.f0 + xs[i].f0.f2)), s.2) := by unfold rmS; rw [if_pos e]
    rw [eS]
    refine ev_ite (fun e2 => ?_) (fun e2 => ?_)
    · have j := jump (decide (xs[i].f0.f0 < s.2)) (fun c => by rw [c] at e2; cases e2)
      rw [if_pos e2] at j ⊢
      unfold mn
      simpa using j
    · have j := jump false (fun _ => rfl)
      rw [if_neg e2] at j ⊢
      exact j
  · have eS : rmS y t s xs[i] = s := by unfold rmS; rw [if_neg e]
    rw [eS]; exact ih _ trivial
theorem FnExactRoom : laws_FnExactRoom.Pure := by
  intro xs a b y t hx _ _ _ _
  refine Ev.rounds (r := true) ?_
  refine Ev.congr (fun k => laws_FnExactRoom.f.eq_1 k xs a b y t) (ev_bc (sz_floats xs) ?_)
  refine ev_ite (fun _ => ev_now rfl) (fun h => ?_)
  have hn := sz_small xs hx.1 h
  have hm : (xs.map cvF).length ≤ 1048576 := by rw [List.length_map]; exact hn
  obtain ⟨r, h1, h2⟩ : ∃ r, Ev (fun k => spec_Room.f k (xs.map cvF) a b y t) r ∧ Ev (fun k => impl_Room.f k (xs.map cvF) a b y t) r := by
    refine ⟨if (okAll (xs.map cvF) && (decide (-100000000 ≤ y ∧ y ≤ 100000000) && decide (0 ≤ t ∧ t ≤ 100000000))) = true then rm (xs.map cvF) a b y t else (a, b), ?_, ?_⟩
    · refine Ev.congr (fun k => spec_Room.f.eq_1 k _ a b y t) (Ev.bind (l17ok_ev _ y t) (ev_ite (fun e => ?_) (fun e => ev_now (by rw [if_neg e]))))
      rw [if_pos e]
      rw [Bool.and_eq_true] at e
      exact spec_rm _ hm (okAll_all e.1) y t a b
    · refine Ev.congr (fun k => impl_Room.f.eq_1 k _ a b y t) (Ev.bind (impl_ok _ hm) ?_)
      show Ev (fun k => if okAll (xs.map cvF) = true then _ else _) _
      refine ev_ite (fun e => ?_) (fun e => ev_now (by rw [Bool.eq_false_iff.mpr e]; rfl))
      rw [e, Bool.true_and]
      refine ev_bc (units_in y) (ev_ite (fun e2 => ?_) (fun e2 => ev_now (by rw [Bool.eq_false_iff.mpr e2]; rfl)))
      rw [e2, Bool.true_and]
      refine ev_bc (nonneg_in t) (ev_ite (fun e3 => ?_) (fun e3 => ev_now (by rw [Bool.eq_false_iff.mpr e3]; rfl)))
      rw [e3, if_pos rfl]
      refine ev_bc (a := ((rm (xs.map cvF) a b y t).1, (rm (xs.map cvF) a b y t).2, false || (xs.map cvF).any (fun x => hit x y t))) ?_ (ev_now rfl)
      rw [impl_room.f, if_pos (by omega), roomL_eq]
  refine Ev.bind (toFloats xs hn) (Ev.bind h1 (Ev.bind (toFloats xs hn) (Ev.bind h2 (ev_pos rfl ?_))))
  refine Ev.step (fun k => laws_FnExactRoom.j0.eq_2 xs (xs.map cvF) _ k) (ev_neg (by simp) ?_)
  exact Ev.bind (toFloats xs hn) (Ev.bind (eqFloats _ hm) (ev_pos rfl (ev_now rfl)))
end Go.Proofs.Ytdnlehohbbinpaa.Fact
