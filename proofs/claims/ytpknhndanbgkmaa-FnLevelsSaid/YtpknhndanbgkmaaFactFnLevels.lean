/- The levels of drawn code points are 0 to 2, and Visual of them has each place once; of the L alone among them it is the order itself on base 0, of the R alone the order turned round. -/
import Derived.Test.YtpknhndanbgkmaaMFnLevelsx12
namespace Go.Proofs.Ytpknhndanbgkmaa.Fact
open Go.RowKit Go.Proofs.Ytpknhndanbgkmaa.MFnLevels Go.Proofs.YtpknhndanbgkmaaW.PrintWords Go.Proofs.YtpknhndanbgkmaaW.PrintLast
set_option linter.unusedVariables false
set_option linter.unusedSimpArgs false
/-! ### what comes from some round on -/
theorem ev_pos {α : Type} {c : Prop} [Decidable c] {f g : Nat → Option α} {r : α} (h : c) (k : Ev f r) : Ev (fun n => if c then f n else g n) r := by
  simpa only [if_pos h] using k
theorem ev_neg {α : Type} {c : Prop} [Decidable c] {f g : Nat → Option α} {r : α} (h : ¬ c) (k : Ev g r) : Ev (fun n => if c then f n else g n) r := by
  simpa only [if_neg h] using k
theorem ev_now {α : Type} {q r : α} (h : q = r) : Ev (fun _ => some q) r := by rw [h]; exact Ev.now r
theorem ev_bs {α β : Type} {a : α} {f : Nat → α → Option β} {r : β} (k : Ev (fun n => f n a) r) : Ev (fun n => (some a).bind (f n)) r := by
  simpa only [Option.bind_some] using k
theorem ev_bc {α β : Type} {o : Option α} {a : α} {f : Nat → α → Option β} {r : β} (h : o = some a) (k : Ev (fun n => f n a) r) : Ev (fun n => o.bind (f n)) r := by
  rw [h]; exact ev_bs k
theorem wrap_in {i : Int} (h0 : -9223372036854775808 ≤ i) (h1 : i ≤ 9223372036854775807) : wrap64 i = i := by
  unfold wrap64
  omega
theorem i64_bounds {x : Int} (h : (Lit.int .i64 x).wf = true) : -9223372036854775808 ≤ x ∧ x ≤ 9223372036854775807 := by
  simp [Lit.wf, IntKind.min, IntKind.max, IntKind.signed, IntKind.bits] at h
  omega
theorem ev_ite {α : Type} {c : Prop} [Decidable c] {f g : Nat → Option α} {r : α} (h1 : c → Ev f r) (h2 : ¬ c → Ev g r) : Ev (fun n => if c then f n else g n) r := by
  by_cases h : c
  · exact ev_pos h (h1 h)
  · exact ev_neg h (h2 h)
theorem ev_to {α : Type} {f : Nat → Option α} {q r : α} (h : q = r) (k : Ev f q) : Ev f r := h ▸ k
theorem wrap_succ {i : Nat} (h : i < 9223372036854775807) : wrap64 ((i : Int) + 1) = ((i + 1 : Nat) : Int) := by
  rw [wrap_in (by omega) (by omega)]; rfl
theorem getD_nat {α : Type} (d : α) (xs : List α) (i : Nat) (h : i < xs.length) : xs.getD (i : Int).toNat d = xs[i] := by
  simp [List.getElem?_eq_getElem h]
/-- A loop that counts from i up to n, its state s. -/
theorem ev_loop {σ ρ : Type} {g : Nat → σ → Int → Option ρ} (n : Nat) (R : Nat → σ → ρ) (Inv : Nat → σ → Prop)
    (hend : ∀ s, Inv n s → Ev (fun k => g k s n) (R n s))
    (hstep : ∀ i s, i < n → Inv i s → (∀ s', Inv (i + 1) s' → Ev (fun k => g k s' ((i + 1 : Nat) : Int)) (R (i + 1) s')) → Ev (fun k => g k s i) (R i s)) :
    ∀ i, i ≤ n → ∀ s, Inv i s → Ev (fun k => g k s i) (R i s) := by
  have key : ∀ d i, n - i = d → i ≤ n → ∀ s, Inv i s → Ev (fun k => g k s i) (R i s) := by
    intro d
    induction d with
    | zero =>
      intro i hd hi s hs
      obtain rfl : i = n := by omega
      exact hend s hs
    | succ d ih =>
      intro i hd hi s hs
      exact hstep i s (by omega) hs (ih (i + 1) (by omega) (by omega))
  exact fun i hi s hs => key (n - i) i rfl hi s hs
/-- The same, without a state. -/
theorem ev_count {ρ : Type} {g : Nat → Int → Option ρ} (n : Nat) (R : Nat → ρ) (hend : Ev (fun k => g k n) (R n))
    (hstep : ∀ i, i < n → Ev (fun k => g k ((i + 1 : Nat) : Int)) (R (i + 1)) → Ev (fun k => g k i) (R i)) : ∀ i, i ≤ n → Ev (fun k => g k i) (R i) := by
  intro i hi
  exact ev_loop (σ := Unit) (g := fun k _ i => g k i) n (fun i _ => R i) (fun _ _ => True) (fun _ _ => hend) (fun i _ h _ ih => hstep i h (ih () trivial)) i hi () trivial
/-- A loop that writes F of each element into a list of the same length. -/
theorem ev_copy {α β : Type} {g : Nat → List β → Int → Option (List β)} (F : α → β) (xs : List α)
    (hend : ∀ ys : List β, ys.length = xs.length → Ev (fun k => g k ys xs.length) ys)
    (hstep : ∀ (ys : List β) (i : Nat) (h : i < xs.length), ys.length = xs.length → Ev (fun k => g k (ys.set i (F xs[i])) ((i + 1 : Nat) : Int)) (xs.map F) → Ev (fun k => g k ys i) (xs.map F))
    (ys : List β) (hl : ys.length = xs.length) : Ev (fun k => g k ys 0) (xs.map F) := by
  refine ev_loop (g := g) xs.length (fun _ _ => xs.map F) (fun i ys => ys.length = xs.length ∧ ys.take i = (xs.map F).take i) ?_ ?_ 0 (Nat.zero_le _) ys ⟨hl, rfl⟩
  · intro ys hs
    have e : ys = xs.map F := by
      have := hs.2
      rwa [List.take_of_length_le (by omega), List.take_of_length_le (by simp)] at this
    rw [← e]; exact hend ys hs.1
  · intro i ys hi hs ih
    refine hstep ys i hi hs.1 (ih _ ⟨by rw [List.length_set]; exact hs.1, ?_⟩)
    rw [List.take_succ_eq_append_getElem (by rw [List.length_set]; omega), List.take_succ_eq_append_getElem (by rw [List.length_map]; omega), List.take_set, hs.2, List.getElem_set_self, List.getElem_map]
    rw [List.set_eq_of_length_le (by simp; omega)]
theorem ite_eq {α : Type} {c : Prop} [Decidable c] {x y z : α} (h1 : c → x = z) (h2 : ¬ c → y = z) : (if c then x else y) = z := by
  by_cases h : c
  · rw [if_pos h]; exact h1 h
  · rw [if_neg h]; exact h2 h
theorem iteP {α : Type} {P : α → Prop} {c : Prop} [Decidable c] {x y : α} (h1 : c → P x) (h2 : ¬ c → P y) : P (if c then x else y) := by
  by_cases h : c
  · rw [if_pos h]; exact h1 h
  · rw [if_neg h]; exact h2 h
/-! ### what the drawing makes of the bytes: a byte, a number below n -/
theorem and255 (x : Int) : 0 ≤ Go.bits .and .i64 x 255 ∧ Go.bits .and .i64 x 255 ≤ 255 := by
  have h : ∀ n : Nat, n ≤ 255 → 0 ≤ IntKind.i64.wrap (n : Int) ∧ IntKind.i64.wrap (n : Int) ≤ 255 := by
    intro n hn
    rw [IntKind.wrap_i64]
    omega
  unfold Go.bits
  exact h _ (by simp only [BitVec.toNat_and]; exact Nat.le_trans Nat.and_le_right (by decide))
theorem byte_ev (c : List Int) (hc : c.length ≤ 1048576) (p s : Int) (h0 : 0 ≤ p) (h1 : p ≤ 1048576) : ∃ v p' s', spec_l1Byte.f c p s = some (v, p', s') ∧ 0 ≤ v ∧ v ≤ 255 ∧ 0 ≤ p' ∧ p' ≤ 1048576 := by
  unfold spec_l1Byte.f
  by_cases g : p < (c.length : Int)
  · rw [if_pos g, if_pos h0]
    exact ⟨_, _, _, rfl, (and255 _).1, (and255 _).2, by rw [wrap_in (by omega) (by omega)]; omega, by rw [wrap_in (by omega) (by omega)]; omega⟩
  · rw [if_neg g]
    exact ⟨_, _, _, rfl, (and255 _).1, (and255 _).2, h0, h1⟩
theorem below_ev (c : List Int) (hc : c.length ≤ 1048576) (p s n : Int) (h0 : 0 ≤ p) (h1 : p ≤ 1048576) (hn : 0 < n) (hn2 : n ≤ 256) : ∃ v p' s', spec_l1Below.f c p s n = some (v, p', s') ∧ 0 ≤ v ∧ v < n ∧ 0 ≤ p' ∧ p' ≤ 1048576 := by
  obtain ⟨v, p', s', e, g0, g1, g2, g3⟩ := byte_ev c hc p s h0 h1
  unfold spec_l1Below.f
  rw [if_neg (by omega), if_pos hn2, e, Option.bind_some]
  dsimp only
  rw [if_neg (by omega)]
  exact ⟨_, _, _, rfl, Int.tmod_nonneg n g0, Int.tmod_lt_of_pos v hn, g2, g3⟩
theorem new_ev (c : List Int) (hc : c.length ≤ 1048576) : ∃ s, Ev (fun k => spec_l1New.f k c) (c, 0, s) := by
  have key : ∀ (d i : Nat) (s : Int), c.length - i = d → ∃ s', Ev (fun k => spec_l1New.l0 k c s i) (c, 0, s') := by
    intro d
    induction d with
    | zero =>
      intro i s hd
      exact ⟨s, Ev.step (fun k => spec_l1New.l0.eq_2 c s i k) (ev_neg (by omega) (ev_now rfl))⟩
    | succ d ih =>
      intro i s hd
      by_cases g : (i : Int) < 4000
      · obtain ⟨s', h⟩ := ih (i + 1) (Go.bits .and .i64 (wrap64 ((wrap64 ((wrap64 (s * 131)) + (wrap64 (rd c (i : Int))))) + 7)) 1073741823) (by omega)
        refine ⟨s', Ev.step (fun k => spec_l1New.l0.eq_2 c s i k) (ev_pos (by omega) (ev_pos g (ev_pos (by omega) ?_)))⟩
        rw [wrap_succ (by omega)]
        exact h
      · exact ⟨s, Ev.step (fun k => spec_l1New.l0.eq_2 c s i k) (ev_pos (by omega) (ev_neg g (ev_now rfl)))⟩
  obtain ⟨s, h⟩ := key c.length 0 _ rfl
  exact ⟨s, Ev.congr (fun k => spec_l1New.f.eq_1 k c) h⟩
/-! ### two lists the same; how many are drawn -/
theorem same_ev (xs : List Int) (hn : xs.length ≤ 1048576) : Ev (fun k => laws_sameInts.f k xs xs) true := by
  refine Ev.congr (fun k => laws_sameInts.f.eq_1 k xs xs) (ev_pos rfl ?_)
  refine ev_count (g := fun k i => laws_sameInts.l0 k xs xs i) xs.length (fun _ => true) (Ev.step (fun k => laws_sameInts.l0.eq_2 xs xs _ k) (ev_neg (by omega) (ev_now rfl))) ?_ 0 (Nat.zero_le _)
  intro i h ih
  refine Ev.step (fun k => laws_sameInts.l0.eq_2 xs xs i k) (ev_pos (by omega) (ev_pos (by omega) (ev_pos (by omega) (ev_pos rfl ?_))))
  rw [wrap_succ (by omega)]
  exact ih
theorem size_ev (c : List Int) (hc : c.length ≤ 1048576) (m : Int) (hm : 3 ≤ m ∧ m ≤ 1000) : ∃ n : Nat, spec_l1Size.f c m = some (n : Int) ∧ n ≤ 1000 := by
  unfold spec_l1Size.f
  rw [wrap_in (i := (c.length : Int) / 20) (by omega) (by omega), wrap_in (by omega) (by omega)]
  split
  · exact ⟨m.toNat, by rw [Int.toNat_of_nonneg (by omega)], by omega⟩
  · exact ⟨(3 + (c.length : Int) / 20).toNat, by rw [Int.toNat_of_nonneg (by omega)], by omega⟩
/-! ### the visual order: the reference -/
theorem l12_in (a lo hi : Int) : spec_l12In.f a lo hi = some (decide (lo ≤ a ∧ a ≤ hi)) := by
  unfold spec_l12In.f
  split <;> simp <;> omega
theorem revSeg_get (xs : List Int) (s e j : Nat) (hs : s ≤ e) (he : e ≤ xs.length) : (revSeg xs s e)[j]? = if s ≤ j ∧ j < e then xs[s + e - 1 - j]? else xs[j]? := by
  unfold revSeg
  have h1 : (xs.take s).length = s := by simp; omega
  have h2 : ((xs.drop s).take (e - s)).reverse.length = e - s := by simp; omega
  by_cases c : j < s
  · rw [if_neg (by omega), List.append_assoc, List.getElem?_append_left (by omega), List.getElem?_take, if_pos c]
  · by_cases d : j < e
    · rw [if_pos (by omega), List.append_assoc, List.getElem?_append_right (by omega), h1, List.getElem?_append_left (by omega), List.getElem?_reverse (by simp; omega), List.getElem?_take, if_pos (by simp; omega), List.getElem?_drop]
      congr 1
      simp; omega
    · rw [if_neg (by omega), List.append_assoc, List.getElem?_append_right (by omega), h1, List.getElem?_append_right (by omega), h2, List.getElem?_drop]
      congr 1
      omega
theorem revSeg_self (xs : List Int) (s e : Nat) (h : e ≤ s + 1) (hs : s ≤ e) (he : e ≤ xs.length) : revSeg xs s e = xs := by
  apply List.ext_getElem?
  intro j
  rw [revSeg_get xs s e j hs he]
  split
  · congr 1; omega
  · rfl
theorem revSeg_swap (xs : List Int) (a m : Nat) (ha : a + 1 < m) (hm : m ≤ xs.length) : revSeg ((xs.set a (xs.getD (m - 1) 0)).set (m - 1) (xs.getD a 0)) (a + 1) (m - 1) = revSeg xs a m := by
  apply List.ext_getElem?
  intro j
  rw [revSeg_get _ _ _ j (by omega) (by simp; omega), revSeg_get xs a m j (by omega) hm]
  have g1 : xs.getD (m - 1) 0 = xs[m - 1] := by simp [List.getElem?_eq_getElem (show m - 1 < xs.length by omega)]
  have g2 : xs.getD a 0 = xs[a] := by simp [List.getElem?_eq_getElem (show a < xs.length by omega)]
  rw [g1, g2]
  by_cases c : a + 1 ≤ j ∧ j < m - 1
  · rw [if_pos c, if_pos (by omega), List.getElem?_set_ne (by omega), List.getElem?_set_ne (by omega)]
    congr 1; omega
  · rw [if_neg c]
    by_cases d : j = a
    · subst d
      rw [if_pos (by omega), List.getElem?_set_ne (by omega), List.getElem?_set_self (by omega), show j + m - 1 - j = m - 1 by omega, List.getElem?_eq_getElem (by omega)]
    · by_cases e : j = m - 1
      · subst e
        rw [if_pos (by omega), List.getElem?_set_self (by simp; omega), show a + m - 1 - (m - 1) = a by omega, List.getElem?_eq_getElem (by omega)]
      · rw [if_neg (by omega), List.getElem?_set_ne (by omega), List.getElem?_set_ne (by omega)]
/-- The exchange from both ends. -/
theorem swap_ev (l : List Int) (t e : Int) (R : List Int) : ∀ (d a m : Nat) (xs : List Int), m - a ≤ d → a ≤ m → m ≤ xs.length → xs.length ≤ 1048576 → Ev (fun k => spec_Visual.l2 k l (revSeg xs a m) t (wrap64 (e + 1))) R → Ev (fun k => spec_Visual.l4 k l xs t e ((m : Int) - 1) a) R := by
  intro d
  induction d with
  | zero =>
    intro a m xs hd ha hm hl h
    rw [revSeg_self xs a m (by omega) ha hm] at h
    exact Ev.step (fun k => spec_Visual.l4.eq_2 l xs t e _ _ k) (ev_neg (by omega) h)
  | succ d ih =>
    intro a m xs hd ha hm hl h
    by_cases c : a + 1 < m
    · rw [← revSeg_swap xs a m c hm] at h
      refine Ev.step (fun k => spec_Visual.l4.eq_2 l xs t e _ _ k) (ev_pos (by omega) (ev_pos (by omega) (ev_pos (by omega) (ev_pos (by omega) (ev_pos (by omega) ?_)))))
      rw [wrap_succ (i := a) (by omega), wrap_in (by omega) (by omega), Int.toNat_natCast]
      have e1 : ((m : Int) - 1).toNat = m - 1 := by omega
      have e2 : ((m : Int) - 1 - 1) = ((m - 1 : Nat) : Int) - 1 := by omega
      rw [e1, e2]
      have r1 : rd xs ((m : Int) - 1) = xs.getD (m - 1) 0 := by unfold rd; rw [e1]
      have r2 : rd xs (a : Int) = xs.getD a 0 := by unfold rd; rw [Int.toNat_natCast]
      rw [r1, r2]
      exact ih (a + 1) (m - 1) _ (by omega) (by omega) (by simp; omega) (by simp; omega) h
    · rw [revSeg_self xs a m (by omega) ha hm] at h
      exact Ev.step (fun k => spec_Visual.l4.eq_2 l xs t e _ _ k) (ev_neg (by omega) h)
def scanAt (p : Int → Bool) (n i : Nat) (xs : List Int) : List Int := if i ≤ n then scan p (n - i) i none xs else xs
def inR (n : Nat) (xs : List Int) : Prop := xs.length = n ∧ ∀ x ∈ xs, 0 ≤ x ∧ x < n
theorem inR_rev {n : Nat} {xs : List Int} (h : inR n xs) (s e : Nat) (hs : s ≤ e) (he : e ≤ n) : inR n (revSeg xs s e) :=
  ⟨by rw [revSeg_length xs s e hs (by have := h.1; omega)]; exact h.1, fun x hx => h.2 x (revSeg_mem xs s e x hx)⟩
/-- One pass. -/
theorem pass_ev (l : List Int) (hn : l.length ≤ 1048576) (t : Nat) (R r : List Int) (hR : Ev (fun k => spec_Visual.l1 k l r (wrap64 ((t : Int) - 1))) R) : ∀ (d i : Nat) (xs : List Int), l.length + 1 - i ≤ d → i ≤ l.length + 1 → inR l.length xs → scanAt (lvAt l t) l.length i xs = r → Ev (fun k => spec_Visual.l2 k l xs t i) R := by
  intro d
  induction d with
  | zero =>
    intro i xs hd hi hx h
    have hl := hx.1
    unfold scanAt at h
    rw [if_neg (by omega)] at h
    subst h
    exact Ev.step (fun k => spec_Visual.l2.eq_2 l xs t i k) (ev_neg (by omega) hR)
  | succ d ih =>
    intro i xs hd hi hx h
    have hl := hx.1
    by_cases c : i < l.length
    · unfold scanAt at h
      rw [if_pos (by omega)] at h
      have run : ∀ (q j : Nat), l.length - j = q → i ≤ j → j ≤ l.length → scan (lvAt l t) (l.length - j) j (if i < j then some i else none) xs = r → Ev (fun k => spec_Visual.l3 k l xs t j i) R := by
        intro q
        have close : ∀ j, i ≤ j → j ≤ l.length → scanAt (lvAt l t) l.length (j + 1) (revSeg xs i j) = r → Ev (fun k => spec_Visual.j4 k l xs t j i) R := by
          intro j hij hj hs
          refine Ev.step (fun k => spec_Visual.j4.eq_2 l xs t j i k) ?_
          rw [wrap_in (by omega) (by omega)]
          refine swap_ev l t j R (j - i) i j xs (Nat.le_refl _) hij (by omega) (by omega) ?_
          rw [wrap_succ (i := j) (by omega)]
          exact ih (j + 1) _ (by omega) (by omega) (inR_rev hx i j hij hj) hs
        have fins : ∀ j, i ≤ j → j ≤ l.length → fin (if i < j then some i else none) j xs = revSeg xs i j := by
          intro j hij hj
          by_cases e : i < j
          · rw [if_pos e]; rfl
          · rw [if_neg e]
            exact (revSeg_self xs i j (by omega) hij (by omega)).symm
        induction q with
        | zero =>
          intro j hq hij hj hs
          rw [hq, scan, fins j hij hj] at hs
          refine Ev.step (fun k => spec_Visual.l3.eq_2 l xs t j i k) (ev_neg (by omega) (close j hij hj ?_))
          unfold scanAt
          rw [if_neg (by omega)]
          exact hs
        | succ q ihq =>
          intro j hq hij hj hs
          have hj2 : j < xs.length := by omega
          rw [show l.length - j = (l.length - (j + 1)) + 1 by omega, scan, fins j hij hj] at hs
          have hg : xs.getD j 0 = xs[j] := by simp [List.getElem?_eq_getElem hj2]
          rw [hg] at hs
          have hr := hx.2 xs[j] (List.getElem_mem hj2)
          refine Ev.step (fun k => spec_Visual.l3.eq_2 l xs t j i k) (ev_pos (by omega) (ev_pos (by omega) ?_))
          rw [rd_nat xs j hj2, wrap_succ (i := j) (by omega)]
          refine ev_pos hr.1 (ev_pos hr.2 (ev_ite (fun g => ?_) (fun g => ?_)))
          · have e : lvAt l t xs[j] = true := decide_eq_true g
            rw [if_pos e] at hs
            refine ihq (j + 1) (by omega) (by omega) (by omega) ?_
            rw [if_pos (by omega)]
            have e2 : (if i < j then some i else none : Option Nat).getD j = i := by
              by_cases z : i < j
              · rw [if_pos z]; rfl
              · rw [if_neg z]; show j = i; omega
            rw [e2] at hs
            exact hs
          · have e : ¬ lvAt l t xs[j] = true := by unfold lvAt; rw [decide_eq_true_eq]; exact g
            rw [if_neg e] at hs
            refine close j hij hj ?_
            unfold scanAt
            rw [if_pos (by omega)]
            exact hs
      exact Ev.step (fun k => spec_Visual.l2.eq_2 l xs t i k) (ev_pos (by omega) (run _ i rfl (Nat.le_refl _) (by omega) (by rw [if_neg (by omega)]; exact h)))
    · unfold scanAt at h
      have hh : xs = r := by
        by_cases e : i ≤ l.length
        · rw [if_pos e, show l.length - i = 0 by omega, scan] at h
          exact h
        · rw [if_neg e] at h; exact h
      subst hh
      exact Ev.step (fun k => spec_Visual.l2.eq_2 l xs t i k) (ev_neg (by omega) hR)
theorem passes_ev (l : List Int) (hn : l.length ≤ 1048576) : ∀ (t : Nat) (xs : List Int), t ≤ 125 → inR l.length xs → Ev (fun k => spec_Visual.l1 k l xs t) (passes l t xs) := by
  intro t
  induction t with
  | zero =>
    intro xs _ _
    exact Ev.step (fun k => spec_Visual.l1.eq_2 l xs _ k) (ev_neg (by omega) (ev_now rfl))
  | succ t ih =>
    intro xs ht hx
    refine Ev.step (fun k => spec_Visual.l1.eq_2 l xs _ k) (ev_pos (by omega) ?_)
    have hr : inR l.length (scan (lvAt l (t + 1)) l.length 0 none xs) := ⟨by rw [scan_length _ _ _ _ _ (by have := hx.1; omega) (by simp)]; exact hx.1, fun x h => hx.2 x (scan_mem _ _ _ _ _ x h)⟩
    have hw : wrap64 (((t + 1 : Nat) : Int) - 1) = (t : Int) := by rw [wrap_in (by omega) (by omega)]; omega
    have nx := ih _ (by omega) hr
    rw [← hw] at nx
    exact pass_ev l hn (t + 1) (passes l (t + 1) xs) _ nx (l.length + 1) 0 xs (by omega) (by omega) hx (by unfold scanAt; rw [if_pos (by omega)]; rfl)
theorem ids_in (n : Nat) : inR n (ids n) := ⟨ids_length n, fun x hx => by simp only [ids, List.mem_map, List.mem_range] at hx; obtain ⟨i, hi, rfl⟩ := hx; omega⟩
theorem vis_spec (l : List Int) (hn : l.length ≤ 1048576) : Ev (fun k => spec_Visual.f k l) (vis l) := by
  refine Ev.congr (fun k => spec_Visual.f.eq_1 k l) ?_
  refine ev_loop (σ := List Int × Int) (g := fun k s i => spec_Visual.l0 k l s.1 s.2 i) l.length (fun _ _ => vis l) (fun i s => s.1 = ids i ∧ s.2 = top (l.take i) ∧ (l.take i).all lvOk = true) ?_ ?_ 0 (Nat.zero_le _) ([], 0) ⟨rfl, rfl, rfl⟩
  · rintro ⟨ys, m⟩ ⟨h1, h2, h3⟩
    have h1 : ys = ids l.length := h1
    have h2 : m = top (l.take l.length) := h2
    rw [List.take_length] at h2 h3
    have hv : vis l = passes l (top l).toNat (ids l.length) := by unfold vis; rw [if_pos h3]
    have h0 := top_nonneg l
    have h125 := top_le l h3
    refine Ev.step (fun k => spec_Visual.l0.eq_2 l ys m _ k) (ev_neg (by omega) ?_)
    rw [hv, h1, h2]
    obtain ⟨t, ht⟩ := Int.eq_ofNat_of_zero_le h0
    rw [ht, Int.toNat_natCast]
    exact passes_ev l hn t _ (by omega) (ids_in _)
  · rintro i ⟨ys, m⟩ hi ⟨h1, h2, h3⟩ ih
    have h1 : ys = ids i := h1
    have h2 : m = top (l.take i) := h2
    have hyl : ys.length = i := by rw [h1, ids_length]
    refine Ev.step (fun k => spec_Visual.l0.eq_2 l ys m i k) (ev_pos (by omega) (ev_pos (by omega) ?_))
    rw [rd_nat l i hi, wrap_succ (i := i) (by omega)]
    refine ev_bc (l12_in _ _ _) (ev_ite (fun g => ?_) (fun g => ?_))
    · rw [decide_eq_true_eq] at g
      have ok : (l.take (i + 1)).all lvOk = true := by
        rw [take_succ l i hi, List.all_append, h3]
        simp [lvOk]; omega
      have ids1 : ys ++ [(i : Int)] = ids (i + 1) := by rw [ids_succ, h1]
      refine ev_ite (fun e => ev_pos (by omega) (ih (ys ++ [(i : Int)], l[i]) ⟨ids1, ?_, ok⟩)) (fun e => ev_pos (by omega) (ih (ys ++ [(i : Int)], m) ⟨ids1, ?_, ok⟩))
      · show l[i] = _; rw [top_succ l i hi, ← h2]; unfold mx; rw [if_pos (by omega)]
      · show m = _; rw [top_succ l i hi, ← h2]; unfold mx; rw [if_neg (by omega)]
    · rw [decide_eq_true_eq] at g
      refine ev_now ?_
      rw [vis_no l i hi (by
        unfold lvOk
        by_cases z : 0 ≤ l[i]
        · rw [decide_eq_false (p := l[i] ≤ 125) (by omega), Bool.and_false]
        · rw [decide_eq_false z, Bool.false_and])]
theorem passes_length (l : List Int) : ∀ (t : Nat) (xs : List Int), xs.length = l.length → (passes l t xs).length = l.length := by
  intro t
  induction t with
  | zero => intro xs h; exact h
  | succ t ih => intro xs h; exact ih _ (by rw [scan_length _ _ _ _ _ (by omega) (by simp)]; exact h)
theorem vis_length (l : List Int) : (vis l).length ≤ l.length := by
  unfold vis
  split
  · rw [passes_length l _ _ (ids_length _)]; exact Nat.le_refl _
  · simp
theorem vis_impl (l : List Int) (hn : l.length ≤ 1048576) : impl_Visual.f l = some (vis l) := by unfold impl_Visual.f; rw [if_pos (by omega)]
theorem l12_in' (a lo hi : Int) : spec_l12In.f a lo hi = some (decide (lo ≤ a ∧ a ≤ hi)) := by
  unfold spec_l12In.f
  split <;> simp <;> omega
set_option maxHeartbeats 4000000 in
theorem dir_spec (a : Int) : spec_DirClass.f 8 a = some (impl_DirClass.g a) := by
  simp only [spec_DirClass.f, spec_DirClass.j0, spec_DirClass.j1, spec_DirClass.j2, spec_DirClass.j3, spec_DirClass.j4, spec_DirClass.j5, spec_DirClass.j6, l12_in', Option.bind_some, decide_eq_true_eq, beq_iff_eq, if_true]
  repeat' refine ite_eq (fun _ => ?_) (fun _ => ?_)
  all_goals first
    | (exfalso; omega)
    | (unfold impl_DirClass.g; refine congrArg some ?_; repeat (first | rw [if_pos (by omega)] | rw [if_neg (by omega)]))
theorem dir_ev (a : Int) : Ev (fun k => spec_DirClass.f k a) (impl_DirClass.g a) := Ev.of (fun k => spec_DirClass.mono a k) (dir_spec a)
theorem dir_range (a : Int) : 0 ≤ impl_DirClass.g a ∧ impl_DirClass.g a ≤ 12 := by
  unfold impl_DirClass.g
  repeat' split
  all_goals omega
def bl : List Int → Int
  | [] => 0
  | x :: t => if impl_DirClass.g x ≤ 2 then (if impl_DirClass.g x = 0 then 0 else 1) else bl t
theorem bl_spec (xs : List Int) (hn : xs.length ≤ 1048576) : Ev (fun k => spec_BaseLevel.f k xs) (bl xs) := by
  refine Ev.congr (fun k => spec_BaseLevel.f.eq_1 k xs) ?_
  refine ev_count (g := fun k i => spec_BaseLevel.l0 k xs i) xs.length (fun i => bl (xs.drop i)) (Ev.step (fun k => spec_BaseLevel.l0.eq_2 xs _ k) (ev_neg (by omega) (ev_now (by rw [List.drop_of_length_le (Nat.le_refl _)]; rfl)))) ?_ 0 (Nat.zero_le _)
  intro i h ih
  refine Ev.step (fun k => spec_BaseLevel.l0.eq_2 xs i k) (ev_pos (by omega) (ev_pos (by omega) ?_))
  rw [rd_nat xs i h, List.drop_eq_getElem_cons h, wrap_succ (by omega)]
  unfold bl
  refine Ev.bind (dir_ev _) (ev_ite (fun e => ?_) (fun e => ?_))
  · rw [if_pos e]
    exact ev_ite (fun e2 => ev_now (by rw [if_pos e2])) (fun e2 => ev_now (by rw [if_neg e2]))
  · rw [if_neg e]; exact ih
theorem bl_impl (xs : List Int) (hn : xs.length ≤ 1048576) : Ev (fun k => impl_BaseLevel.f k xs) (bl xs) := by
  refine Ev.congr (fun k => impl_BaseLevel.f.eq_1 k xs) ?_
  refine ev_count (g := fun k i => impl_BaseLevel.l0 k xs xs.length i) xs.length (fun i => bl (xs.drop i)) (Ev.step (fun k => impl_BaseLevel.l0.eq_2 xs xs.length _ k) (ev_neg (by omega) (ev_now (by rw [List.drop_of_length_le (Nat.le_refl _)]; rfl)))) ?_ 0 (Nat.zero_le _)
  intro i h ih
  refine Ev.step (fun k => impl_BaseLevel.l0.eq_2 xs xs.length i k) (ev_pos (by omega) (ev_pos (by omega) (ev_pos (by omega) ?_)))
  rw [rd_nat xs i h, List.drop_eq_getElem_cons h, wrap_succ (by omega)]
  unfold bl
  have hr := dir_range xs[i]
  refine ev_bc rfl (ev_ite (fun e => ev_now (by rw [if_pos (by omega), if_pos e])) (fun e => ?_))
  refine ev_ite (fun e2 => ev_now (by rw [if_pos (by omega), if_neg e])) (fun e2 => ?_)
  refine ev_ite (fun e3 => ev_now (by rw [if_pos (by omega), if_neg e])) (fun e3 => ?_)
  rw [if_neg (by omega)]; exact ih
/-! ### the levels: what the rules keep -/
theorem rd_getD (xs : List Int) (i : Nat) : rd xs (i : Int) = xs.getD i 0 := rfl
theorem getD_set (xs : List Int) (i j : Nat) (v : Int) (h : i < xs.length) : (xs.set i v).getD j 0 = if j = i then v else xs.getD j 0 := by
  rw [List.getD_eq_getElem?_getD, List.getD_eq_getElem?_getD]
  by_cases c : j = i
  · subst c; rw [if_pos rfl, List.getElem?_set_self h]; rfl
  · rw [if_neg c, List.getElem?_set_ne (by omega)]
def AllP (P : Int → Prop) (xs : List Int) : Prop := ∀ j, j < xs.length → P (xs.getD j 0)
theorem AllP.set {P : Int → Prop} {xs : List Int} (h : AllP P xs) (i : Nat) {v : Int} (hv : P v) : AllP P (xs.set i v) := by
  intro j hj
  rw [List.length_set] at hj
  by_cases c : i < xs.length
  · rw [getD_set xs i j v c]; split
    · exact hv
    · exact h j hj
  · rw [List.set_eq_of_length_le (by omega)]; exact h j hj
theorem AllP.imp {P Q : Int → Prop} {xs : List Int} (h : AllP P xs) (k : ∀ x, P x → Q x) : AllP Q xs := fun j hj => k _ (h j hj)
theorem iterS_all {st : List Int → Nat → List Int} {P : Int → Prop} (hs : ∀ xs i, AllP P xs → AllP P (st xs i)) {xs : List Int} (h : AllP P xs) : ∀ n, AllP P (iterS st n xs) := by
  intro n
  induction n with
  | zero => exact h
  | succ n ih => rw [iterS_succ]; exact hs _ _ ih
def Mix (P Q : Int → Prop) (i : Nat) (xs : List Int) : Prop := ∀ j, j < xs.length → (j < i → Q (xs.getD j 0)) ∧ (i ≤ j → P (xs.getD j 0))
theorem Mix.set {P Q : Int → Prop} {i : Nat} {xs : List Int} (h : Mix P Q i xs) {v : Int} (hi : i < xs.length) (hv : Q v) : Mix P Q (i + 1) (xs.set i v) := by
  intro j hj
  rw [List.length_set] at hj
  rw [getD_set xs i j v hi]
  split
  · exact ⟨fun _ => hv, fun _ => by omega⟩
  · exact ⟨fun _ => (h j hj).1 (by omega), fun _ => (h j hj).2 (by omega)⟩
theorem Mix.keep {P Q : Int → Prop} {i : Nat} {xs : List Int} (h : Mix P Q i xs) (hv : i < xs.length → Q (xs.getD i 0)) : Mix P Q (i + 1) xs := by
  intro j hj
  refine ⟨fun c => ?_, fun c => (h j hj).2 (by omega)⟩
  by_cases e : j = i
  · subst e; exact hv hj
  · exact (h j hj).1 (by omega)
theorem Mix.done {P Q : Int → Prop} {xs : List Int} (h : Mix P Q xs.length xs) : AllP Q xs := fun j hj => (h j hj).1 hj
theorem iterS_mix {st : List Int → Nat → List Int} (hl : ∀ xs i, (st xs i).length = xs.length) {P Q : Int → Prop} (hs : ∀ xs i, i < xs.length → Mix P Q i xs → Mix P Q (i + 1) (st xs i)) {xs : List Int} (h : AllP P xs) : AllP Q (iterS st xs.length xs) := by
  have key : ∀ n, n ≤ xs.length → Mix P Q n (iterS st n xs) := by
    intro n
    induction n with
    | zero => exact fun _ j hj => ⟨fun c => by omega, fun _ => h j hj⟩
    | succ n ih => intro hn; rw [iterS_succ]; exact hs _ _ (by rw [iterS_len st hl]; omega) (ih (by omega))
  have := key xs.length (Nat.le_refl _)
  have e : (iterS st xs.length xs).length = xs.length := iterS_len st hl _ _
  exact Mix.done (by rw [e]; exact this)
def P1 (x : Int) : Prop := 0 ≤ x ∧ x ≤ 12
def P2 (x : Int) : Prop := 0 ≤ x ∧ x ≤ 12 ∧ x ≠ 8
def P3 (x : Int) : Prop := 0 ≤ x ∧ x ≤ 12 ∧ x ≠ 8 ∧ x ≠ 2
def P4 (x : Int) : Prop := x = 0 ∨ x = 1 ∨ x = 3 ∨ x = 4 ∨ (9 ≤ x ∧ x ≤ 12)
def P5 (x : Int) : Prop := x = 0 ∨ x = 1 ∨ x = 3 ∨ x = 4
theorem nsm_all {e : Int} (he : e = 0 ∨ e = 1) {xs : List Int} (h : AllP P1 xs) : AllP P2 (iterS (stNsm e) xs.length xs) := by
  refine iterS_mix (stNsm_len e) (P := P1) (fun xs i hi hm => ?_) h
  unfold stNsm
  split
  · split
    · rename_i h0
      exact hm.set hi ((hm (i - 1) (by omega)).1 (by omega))
    · exact hm.set hi (by unfold P2; omega)
  · rename_i h0
    have := (hm i hi).2 (Nat.le_refl _)
    exact hm.keep (fun _ => by unfold P1 at this; unfold P2; omega)
theorem en_all {e : Int} {xs : List Int} (h : AllP P2 xs) (n : Nat) : AllP P2 (iterS (stEn e) n xs) := by
  refine iterS_all (fun xs i h => ?_) h n
  unfold stEn
  split
  · exact h.set i (by unfold P2; omega)
  · exact h
theorem al_all {xs : List Int} (h : AllP P2 xs) : AllP P3 (iterS stAl xs.length xs) := by
  refine iterS_mix stAl_len (P := P2) (fun xs i hi hm => ?_) h
  unfold stAl
  split
  · exact hm.set hi (by unfold P3; omega)
  · rename_i h0
    have := (hm i hi).2 (Nat.le_refl _)
    exact hm.keep (fun _ => by unfold P2 at this; unfold P3; omega)
theorem sep_all {xs : List Int} (h : AllP P3 xs) (n : Nat) : AllP P3 (iterS stSep n xs) := by
  refine iterS_all (fun xs i h => ?_) h n
  unfold stSep
  split
  · rename_i c
    refine h.set _ ?_
    rcases c.2 with c | c
    · rw [c.1]; unfold P3; omega
    · rw [c.1]; unfold P3; omega
  · exact h
theorem weak_all {e : Int} (he : e = 0 ∨ e = 1) {xs : List Int} (h : AllP P1 xs) : AllP P3 (weakF e xs) := by
  unfold weakF
  have h1 := en_all (e := e) (nsm_all he h) xs.length
  have h2 := al_all h1
  rw [iterS_len _ (stEn_len e), iterS_len _ (stNsm_len e)] at h2
  exact sep_all h2 _
theorem setR_all {P : Int → Prop} {xs : List Int} (h : AllP P xs) (a : Nat) {c : Int} (hc : P c) : ∀ m, AllP P (setR xs a c m)
  | 0 => h
  | m + 1 => by rw [setR]; exact (setR_all h a hc m).set _ hc
theorem strS_all {p : Int → Bool} {F : List Int → Nat → Nat → List Int} {P : Int → Prop} (hF : ∀ xs a b, AllP P xs → AllP P (F xs a b)) (n : Nat) : ∀ f i xs, AllP P xs → AllP P (strS p F n f i xs)
  | 0, _, _, h => h
  | f + 1, i, xs, h => by
    rw [strS]
    split
    · split
      · exact strS_all hF n f _ _ (hF _ _ _ h)
      · exact strS_all hF n f _ _ h
    · exact h
theorem num_all {xs : List Int} (h : AllP P3 xs) (a b : Nat) : AllP P3 (numF xs a b) := by
  unfold numF
  split
  · exact setR_all h a (by unfold P3; omega) _
  · exact h
theorem on_all {xs : List Int} (h : AllP P3 xs) : AllP P4 (iterS stOn xs.length xs) := by
  refine iterS_mix stOn_len (P := P3) (fun xs i hi hm => ?_) h
  unfold stOn
  split
  · exact hm.set hi (by unfold P4; omega)
  · rename_i h0
    have := (hm i hi).2 (Nat.le_refl _)
    exact hm.keep (fun _ => by unfold P3 at this; unfold P4; omega)
theorem l_all {e : Int} {xs : List Int} (h : AllP P4 xs) (n : Nat) : AllP P4 (iterS (stL e) n xs) := by
  refine iterS_all (fun xs i h => ?_) h n
  unfold stL
  split
  · exact h.set i (by unfold P4; omega)
  · exact h
theorem nums_all {e : Int} {xs : List Int} (h : AllP P3 xs) : AllP P4 (numsF e xs) := by
  unfold numsF
  have h1 := strS_all (p := fun c => c == 6) (fun xs a b h => num_all h a b) xs.length xs.length 0 xs h
  have h2 := on_all h1
  rw [strS_len _ _ numF_len] at h2
  exact l_all h2 _
/-! ### the levels: the reference's rules -/
theorem mem012 {x : Int} (h : 0 ≤ x) : x ∈ ([0, 1, 2] : List Int) ↔ x ≤ 2 := by simp; omega
theorem mem01 {x : Int} (h : 0 ≤ x) : x ∈ ([0, 1] : List Int) ↔ x ≤ 1 := by simp; omega
theorem aheadF_congr (set : List Int) (e : Int) (xs ys : List Int) : ∀ i, (∀ j, j < i → xs.getD j 0 = ys.getD j 0) → aheadF set e xs i = aheadF set e ys i
  | 0, _ => rfl
  | i + 1, h => by rw [aheadF, aheadF, h i (by omega), aheadF_congr set e xs ys i (fun j hj => h j (by omega))]
theorem aheadF_set (set : List Int) (e : Int) (xs : List Int) (i : Nat) (v : Int) (hi : i < xs.length) : aheadF set e (xs.set i v) i = aheadF set e xs i :=
  aheadF_congr set e _ _ i (fun j hj => by rw [getD_set xs i j v hi, if_neg (by omega)])
section
variable {e : Int} {n : Nat} {R : List Int}
theorem w0_ev (hn : n ≤ 1048576) (xs0 : List Int) (hx : xs0.length = n) (h : Ev (fun k => spec_l14Weak.l1 k (iterS (stNsm e) n xs0) e n e 0) R) : Ev (fun k => spec_l14Weak.l0 k xs0 e n e 0) R := by
  refine ev_loop (g := fun k s i => spec_l14Weak.l0 k s e n e i) n (fun _ _ => R) (fun i s => s = iterS (stNsm e) i xs0) ?_ ?_ 0 (Nat.zero_le _) xs0 rfl
  · intro s hs
    subst hs
    exact Ev.step (fun k => spec_l14Weak.l0.eq_2 _ e n e n k) (ev_neg (by omega) h)
  · intro i s hi hs ih
    have hl : s.length = n := by rw [hs, iterS_len _ (stNsm_len e), hx]
    have hst : stNsm e s i = iterS (stNsm e) (i + 1) xs0 := by rw [iterS_succ, hs]
    refine Ev.step (fun k => spec_l14Weak.l0.eq_2 s e n e i k) (ev_pos (by omega) (ev_pos (by omega) (ev_pos (by omega) ?_)))
    rw [rd_getD, wrap_succ (i := i) (by omega), Int.toNat_natCast]
    refine ev_ite (fun c => ?_) (fun c => ih _ (by rw [← hst, stNsm, if_neg c]))
    refine ev_bs (ev_ite (fun d => ?_) (fun d => ih _ (by rw [← hst, stNsm, if_pos c, if_neg (by omega)])))
    have hw : wrap64 ((i : Int) - 1) = ((i - 1 : Nat) : Int) := by rw [wrap_in (by omega) (by omega)]; omega
    rw [hw]
    refine ev_pos (by omega) (ev_pos (by omega) (ih _ ?_))
    rw [← hst, stNsm, if_pos c, if_pos (by omega), rd_getD, List.set_set, getD_set s i _ _ (by omega), if_neg (by omega)]
theorem w1_ev (hn : n ≤ 1048576) (xs0 : List Int) (hx : xs0.length = n) (hp : AllP P2 xs0) (h : Ev (fun k => spec_l14Weak.l2 k (iterS (stEn e) n xs0) e n 0) R) : Ev (fun k => spec_l14Weak.l1 k xs0 e n e 0) R := by
  refine ev_loop (σ := List Int × Int) (g := fun k s i => spec_l14Weak.l1 k s.1 e n s.2 i) n (fun _ _ => R) (fun i s => s.1 = iterS (stEn e) i xs0 ∧ s.2 = aheadF [0, 1, 2] e s.1 i) ?_ ?_ 0 (Nat.zero_le _) (xs0, e) ⟨rfl, rfl⟩
  · rintro ⟨s, z⟩ ⟨hs, hz⟩
    have hs : s = iterS (stEn e) n xs0 := hs
    subst hs
    exact Ev.step (fun k => spec_l14Weak.l1.eq_2 _ e n z n k) (ev_neg (by omega) h)
  · rintro i ⟨s, z⟩ hi ⟨hs, hz⟩ ih
    have hs : s = iterS (stEn e) i xs0 := hs
    have hz : z = aheadF [0, 1, 2] e s i := hz
    have hl : s.length = n := by rw [hs, iterS_len _ (stEn_len e), hx]
    have hst : stEn e s i = iterS (stEn e) (i + 1) xs0 := by rw [iterS_succ, hs]
    have hq := en_all (e := e) hp i
    rw [← hs] at hq
    have hq := hq i (by omega)
    unfold P2 at hq
    have hm := mem012 hq.1
    refine Ev.step (fun k => spec_l14Weak.l1.eq_2 s e n z i k) (ev_pos (by omega) (ev_pos (by omega) (ev_pos (by omega) ?_)))
    rw [rd_getD, wrap_succ (i := i) (by omega), Int.toNat_natCast]
    refine ev_ite (fun c => ?_) (fun c => ?_)
    · refine ev_neg (by omega) (ih (s, s.getD i 0) ⟨?_, ?_⟩)
      · show s = _
        rw [← hst, stEn, if_neg (by omega)]
      · show _ = aheadF [0, 1, 2] e s (i + 1)
        rw [aheadF, if_pos (hm.2 c)]
    · refine ev_ite (fun d => ev_ite (fun d2 => ?_) (fun d2 => ?_)) (fun d => ?_)
      · refine ih (s.set i 4, z) ⟨?_, ?_⟩
        · show s.set i 4 = _
          rw [← hst, stEn, if_pos ⟨d, by rw [← hz]; exact d2⟩]
        · show z = aheadF [0, 1, 2] e (s.set i 4) (i + 1)
          rw [aheadF, getD_set s i i 4 (by omega), if_pos rfl, if_neg (by simp), aheadF_set _ _ _ _ _ (by omega), hz]
      · refine ih (s, z) ⟨?_, ?_⟩
        · show s = _
          rw [← hst, stEn, if_neg (by rw [← hz]; omega)]
        · show z = aheadF [0, 1, 2] e s (i + 1)
          rw [aheadF, if_neg (by rw [hm]; exact c), hz]
      · refine ih (s, z) ⟨?_, ?_⟩
        · show s = _
          rw [← hst, stEn, if_neg (by omega)]
        · show z = aheadF [0, 1, 2] e s (i + 1)
          rw [aheadF, if_neg (by rw [hm]; exact c), hz]
theorem w2_ev (hn : n ≤ 1048576) (xs0 : List Int) (hx : xs0.length = n) (h : Ev (fun k => spec_l14Weak.l3 k (iterS stAl n xs0) e n 1) R) : Ev (fun k => spec_l14Weak.l2 k xs0 e n 0) R := by
  refine ev_loop (g := fun k s i => spec_l14Weak.l2 k s e n i) n (fun _ _ => R) (fun i s => s = iterS stAl i xs0) ?_ ?_ 0 (Nat.zero_le _) xs0 rfl
  · intro s hs
    subst hs
    exact Ev.step (fun k => spec_l14Weak.l2.eq_2 _ e n n k) (ev_neg (by omega) h)
  · intro i s hi hs ih
    have hl : s.length = n := by rw [hs, iterS_len _ stAl_len, hx]
    have hst : stAl s i = iterS stAl (i + 1) xs0 := by rw [iterS_succ, hs]
    refine Ev.step (fun k => spec_l14Weak.l2.eq_2 s e n i k) (ev_pos (by omega) (ev_pos (by omega) (ev_pos (by omega) ?_)))
    rw [rd_getD, wrap_succ (i := i) (by omega), Int.toNat_natCast]
    exact ev_ite (fun c => ih _ (by rw [← hst, stAl, if_pos c])) (fun c => ih _ (by rw [← hst, stAl, if_neg c]))
theorem w3_ev (hn : n ≤ 1048576) (xs0 : List Int) (hx : xs0.length = n) (h : Ev (fun k => spec_l14Weak.l4 k (iterS stSep (n - 2) xs0) e n 0) R) : Ev (fun k => spec_l14Weak.l3 k xs0 e n 1) R := by
  have key := ev_loop (g := fun k s (i : Int) => spec_l14Weak.l3 k s e n (i + 1)) (n - 2) (fun _ _ => R) (fun i s => s = iterS stSep i xs0) ?_ ?_ 0 (Nat.zero_le _) xs0 rfl
  · exact key
  · intro s hs
    subst hs
    exact Ev.step (fun k => spec_l14Weak.l3.eq_2 _ e n _ k) (ev_neg (by rw [wrap_in (by omega) (by omega)]; omega) h)
  · intro i s hi hs ih
    have hl : s.length = n := by rw [hs, iterS_len _ stSep_len, hx]
    have hst : stSep s i = iterS stSep (i + 1) xs0 := by rw [iterS_succ, hs]
    have w1 : wrap64 (((i : Int) + 1) + 1) = ((i + 2 : Nat) : Int) := by rw [wrap_in (by omega) (by omega)]; omega
    have w2 : wrap64 (((i : Int) + 1) - 1) = ((i : Nat) : Int) := by rw [wrap_in (by omega) (by omega)]; omega
    have w3 : ((i : Int) + 1) = ((i + 1 : Nat) : Int) := rfl
    have ih2 : ∀ s', s' = iterS stSep (i + 1) xs0 → Ev (fun k => spec_l14Weak.l3 k s' e n ((i + 2 : Nat) : Int)) R := fun s' h' => ih s' h'
    have hj : ∀ t : Bool, (t = true ↔ (s.getD i 0 = 3 ∧ s.getD (i + 2) 0 = 3 ∧ (s.getD (i + 1) 0 = 5 ∨ s.getD (i + 1) 0 = 7))) → Ev (fun k => spec_l14Weak.j4 k s e n ((i + 1 : Nat) : Int) t) R := by
      intro t ht
      refine Ev.step (fun k => spec_l14Weak.j4.eq_2 s e n _ t k) (ev_ite (fun c => ?_) (fun c => ?_))
      · have hc := ht.1 c
        refine ev_pos (by omega) (ev_pos (by omega) ?_)
        rw [show ((i + 1 : Nat) : Int) + 1 = ((i : Int) + 1) + 1 from rfl, w1, Int.toNat_natCast]
        exact ih2 _ (by rw [← hst, stSep, hc.1, if_pos (by rw [hc.2.1]; exact ⟨rfl, .inl ⟨rfl, hc.2.2⟩⟩)])
      · have hc : ¬ (s.getD i 0 = 3 ∧ s.getD (i + 2) 0 = 3 ∧ (s.getD (i + 1) 0 = 5 ∨ s.getD (i + 1) 0 = 7)) := fun q => c (ht.2 q)
        refine ev_pos (by omega) (ev_pos (by omega) ?_)
        rw [show ((i + 1 : Nat) : Int) + 1 = ((i : Int) + 1) + 1 from rfl, w1, show ((i + 1 : Nat) : Int) - 1 = ((i : Int) + 1) - 1 from rfl, w2, Int.toNat_natCast, rd_getD, rd_getD, rd_getD]
        refine ev_ite (fun c1 => ev_pos (by omega) (ev_pos (by omega) (ev_ite (fun c2 => ev_pos (by omega) (ev_pos (by omega) (ev_ite (fun c3 => ?_) (fun c3 => ?_)))) (fun c2 => ?_)))) (fun c1 => ?_)
        · exact ih2 _ (by rw [← hst, stSep, if_pos ⟨by omega, .inr ⟨c2, c1⟩⟩, c2])
        · exact ih2 _ (by rw [← hst, stSep, if_neg (by omega)])
        · exact ih2 _ (by rw [← hst, stSep, if_neg (by omega)])
        · exact ih2 _ (by rw [← hst, stSep, if_neg (by omega)])
    refine Ev.step (fun k => spec_l14Weak.l3.eq_2 s e n _ k) ?_
    rw [w1, w2, w3, rd_getD, rd_getD, rd_getD]
    have hb : ∀ x : Int, ((x == 3) = true) ↔ x = 3 := fun x => beq_iff_eq
    refine ev_pos (by omega) (ev_pos (by omega) (ev_pos (by omega) (ev_ite (fun c1 => ?_) (fun c1 => ?_))))
    · refine ev_pos (by omega) (ev_pos (by omega) (ev_ite (fun c2 => ev_pos (by omega) (ev_pos (by omega) (hj _ ?_))) (fun c2 => hj _ ?_)))
      · rw [hb]; omega
      · simp only [Bool.false_eq_true, false_iff]; omega
    · refine ev_ite (fun c3 => ev_pos (by omega) (ev_pos (by omega) (ev_ite (fun c2 => ev_pos (by omega) (ev_pos (by omega) (hj _ ?_))) (fun c2 => hj _ ?_)))) (fun c3 => hj _ ?_)
      · rw [hb]; omega
      · simp only [Bool.false_eq_true, false_iff]; omega
      · simp only [Bool.false_eq_true, false_iff]; omega
theorem w6_ev (hn : n ≤ 1048576) (E a : Nat) (hE : E ≤ n) (s : List Int) (hl : s.length = n) : ∀ (d m : Nat), E - a - m = d → a + m ≤ E → Ev (fun k => spec_l14Weak.l4 k (setR s a 3 (E - a)) e n (wrap64 ((E : Int) + 1))) R → Ev (fun k => spec_l14Weak.l6 k (setR s a 3 m) e n E ((a + m : Nat) : Int)) R := by
  intro d
  induction d with
  | zero =>
    intro m hd hm h
    rw [show E - a = m by omega] at h
    exact Ev.step (fun k => spec_l14Weak.l6.eq_2 _ e n E _ k) (ev_neg (by omega) h)
  | succ d ih =>
    intro m hd hm h
    refine Ev.step (fun k => spec_l14Weak.l6.eq_2 _ e n E _ k) (ev_pos (by omega) (ev_pos (by omega) (ev_pos (by rw [setR_len]; omega) ?_)))
    rw [wrap_succ (by omega), Int.toNat_natCast]
    exact ih (m + 1) (by omega) (by omega) h
theorem w5_ev (hn : n ≤ 1048576) (a : Nat) (s : List Int) (hl : s.length = n) : ∀ (d i : Nat), n - i = d → i ≤ n → Ev (fun k => spec_l14Weak.j7 k s e n ((runEnd (fun c => c == 6) s d i : Nat) : Int) a) R → Ev (fun k => spec_l14Weak.l5 k s e n i a) R := by
  intro d
  induction d with
  | zero =>
    intro i hd hi h
    exact Ev.step (fun k => spec_l14Weak.l5.eq_2 s e n _ _ k) (ev_neg (by omega) h)
  | succ d ih =>
    intro i hd hi h
    rw [runEnd] at h
    refine Ev.step (fun k => spec_l14Weak.l5.eq_2 s e n _ _ k) (ev_pos (by omega) (ev_pos (by omega) (ev_pos (by omega) ?_)))
    rw [wrap_succ (i := i) (by omega), rd_getD]
    refine ev_ite (fun c => ?_) (fun c => ?_)
    · rw [if_pos (by simp only [beq_iff_eq]; exact c)] at h
      exact ih (i + 1) (by omega) (by omega) h
    · rw [if_neg (by simp only [beq_iff_eq]; exact c)] at h
      exact h
theorem w4_ev (hn : n ≤ 1048576) : ∀ (f i : Nat) (s : List Int), s.length = n → n ≤ i + f → i ≤ n + 1 → Ev (fun k => spec_l14Weak.l7 k (strS (fun c => c == 6) numF n f i s) n e 0) R → Ev (fun k => spec_l14Weak.l4 k s e n i) R := by
  intro f
  induction f with
  | zero =>
    intro i s hl hf hi h
    exact Ev.step (fun k => spec_l14Weak.l4.eq_2 s e n i k) (ev_neg (by omega) h)
  | succ f ih =>
    intro i s hl hf hi h
    rw [strS] at h
    refine Ev.step (fun k => spec_l14Weak.l4.eq_2 s e n i k) (ev_ite (fun c => ?_) (fun c => ?_))
    · rw [if_pos (by omega)] at h
      have hb := runEnd_ge (fun c => c == 6) s (n - i) i
      refine w5_ev hn i s hl (n - i) i rfl (by omega) ?_
      obtain ⟨E, hE⟩ : ∃ E, E = runEnd (fun c => c == 6) s (n - i) i := ⟨_, rfl⟩
      rw [← hE] at h hb ⊢
      have hw : wrap64 ((E : Int) + 1) = ((E + 1 : Nat) : Int) := wrap_succ (by omega)
      have hj : ∀ t : Bool, (t = true ↔ (i < E ∧ ((0 < i ∧ s.getD (i - 1) 0 = 3) ∨ (E < n ∧ s.getD E 0 = 3)))) → Ev (fun k => spec_l14Weak.j8 k s e n E i t) R := by
        intro t ht
        refine Ev.step (fun k => spec_l14Weak.j8.eq_2 s e n E i t k) (ev_ite (fun d => ?_) (fun d => ?_))
        · have hd := ht.1 d
          rw [if_pos hd.1, numF, if_pos (by rw [hl]; exact hd.2)] at h
          refine w6_ev hn E i (by omega) s hl (E - i) 0 (by omega) (by omega) ?_
          rw [hw]
          exact ih (E + 1) _ (by rw [setR_len, hl]) (by omega) (by omega) h
        · rw [hw]
          by_cases q : i < E
          · rw [if_pos q, numF, if_neg (by rw [hl]; intro z; exact d (ht.2 ⟨q, z⟩))] at h
            exact ih (E + 1) s hl (by omega) (by omega) h
          · rw [if_neg q] at h
            have e2 : E = i := by omega
            rw [e2]
            exact ih (i + 1) s hl (by omega) (by omega) h
      have hb2 : ∀ x : Int, ((x == 3) = true) ↔ x = 3 := fun x => beq_iff_eq
      refine Ev.step (fun k => spec_l14Weak.j7.eq_2 s e n E i k) (ev_ite (fun c1 => ev_ite (fun c2 => ?_) (fun c2 => ?_)) (fun c1 => hj _ (by simp only [Bool.false_eq_true, false_iff, true_iff]; omega)))
      · have hw2 : wrap64 ((i : Int) - 1) = ((i - 1 : Nat) : Int) := by rw [wrap_in (by omega) (by omega)]; omega
        rw [hw2, rd_getD, rd_getD]
        refine ev_pos (by omega) (ev_pos (by omega) (ev_ite (fun c3 => hj _ (by simp only [Bool.false_eq_true, false_iff, true_iff]; omega)) (fun c3 => ev_ite (fun c4 => ev_pos (by omega) (ev_pos (by omega) (hj _ ?_))) (fun c4 => hj _ (by simp only [Bool.false_eq_true, false_iff, true_iff]; omega)))))
        rw [hb2]; omega
      · rw [rd_getD]
        refine ev_ite (fun c4 => ev_pos (by omega) (ev_pos (by omega) (hj _ ?_))) (fun c4 => hj _ (by simp only [Bool.false_eq_true, false_iff, true_iff]; omega))
        rw [hb2]; omega
    · rw [if_neg (by omega)] at h
      exact h
def onI (x : Int) : Int := if x = 5 ∨ x = 6 ∨ x = 7 then 12 else x
theorem iterOn_get (xs : List Int) : ∀ i j, i ≤ xs.length → (iterS stOn i xs).getD j 0 = if j < i then onI (xs.getD j 0) else xs.getD j 0 := by
  intro i
  induction i with
  | zero => intro j _; rw [if_neg (by omega)]; rfl
  | succ i ih =>
    intro j hi
    have hl : (iterS stOn i xs).length = xs.length := iterS_len _ stOn_len _ _
    rw [iterS_succ, stOn, ih i (by omega), if_neg (Nat.lt_irrefl i)]
    by_cases c : xs.getD i 0 = 5 ∨ xs.getD i 0 = 6 ∨ xs.getD i 0 = 7
    · rw [if_pos c, getD_set _ _ _ _ (by omega), ih j (by omega)]
      by_cases d : j = i
      · subst d; rw [if_pos rfl, if_pos (by omega), onI, if_pos c]
      · rw [if_neg d]
        by_cases f : j < i
        · rw [if_pos f, if_pos (by omega)]
        · rw [if_neg f, if_neg (by omega)]
    · rw [if_neg c, ih j (by omega)]
      by_cases d : j = i
      · subst d; rw [if_neg (by omega), if_pos (by omega), onI, if_neg c]
      · by_cases f : j < i
        · rw [if_pos f, if_pos (by omega)]
        · rw [if_neg f, if_neg (by omega)]
theorem getD_ext {xs ys : List Int} (hl : xs.length = ys.length) (h : ∀ j, j < xs.length → xs.getD j 0 = ys.getD j 0) : xs = ys := by
  apply List.ext_getElem hl
  intro j h1 h2
  have := h j h1
  rwa [List.getD_eq_getElem?_getD, List.getD_eq_getElem?_getD, List.getElem?_eq_getElem h1, List.getElem?_eq_getElem h2] at this
theorem w7_ev (hn : n ≤ 1048576) (xs0 : List Int) (hx : xs0.length = n) (hp : AllP P3 xs0) : Ev (fun k => spec_l14Weak.l7 k xs0 n e 0) (iterS (stL e) n (iterS stOn n xs0)) := by
  have hA : ∀ i, (iterS (stL e) i (iterS stOn n xs0)).length = n := fun i => by rw [iterS_len _ (stL_len e), iterS_len _ stOn_len, hx]
  refine ev_loop (σ := List Int × Int) (g := fun k s i => spec_l14Weak.l7 k s.1 n s.2 i) n (fun _ _ => iterS (stL e) n (iterS stOn n xs0)) (fun i s => s.1.length = n ∧ s.2 = aheadF [0, 1] e s.1 i ∧ (∀ j, j < n → (iterS (stL e) i (iterS stOn n xs0)).getD j 0 = if j < i then s.1.getD j 0 else onI (s.1.getD j 0)) ∧ (∀ j, i ≤ j → j < n → P3 (s.1.getD j 0))) ?_ ?_ 0 (Nat.zero_le _) (xs0, e) ⟨hx, rfl, ?_, fun j _ hj => hp j (by omega)⟩
  · rintro ⟨s, z⟩ ⟨h1, h2, h3, _⟩
    have h1 : s.length = n := h1
    have h3 : ∀ j, j < n → (iterS (stL e) n (iterS stOn n xs0)).getD j 0 = if j < n then s.getD j 0 else onI (s.getD j 0) := h3
    refine Ev.step (fun k => spec_l14Weak.l7.eq_2 s n z _ k) (ev_neg (by omega) (ev_now ?_))
    exact getD_ext (by rw [h1, hA]) (fun j hj => by rw [h3 j (by omega), if_pos (by omega)])
  · rintro i ⟨s, z⟩ hi ⟨h1, h2, h3, h4⟩ ih
    have h1 : s.length = n := h1
    have h2 : z = aheadF [0, 1] e s i := h2
    have h3 : ∀ j, j < n → (iterS (stL e) i (iterS stOn n xs0)).getD j 0 = if j < i then s.getD j 0 else onI (s.getD j 0) := h3
    have h4 : ∀ j, i ≤ j → j < n → P3 (s.getD j 0) := h4
    have hq := h4 i (Nat.le_refl _) hi
    unfold P3 at hq
    have hy : onI (s.getD i 0) = if s.getD i 0 = 5 ∨ s.getD i 0 = 6 ∨ s.getD i 0 = 7 then 12 else s.getD i 0 := rfl
    obtain ⟨B, hB⟩ : ∃ B, B = iterS (stL e) i (iterS stOn n xs0) := ⟨_, rfl⟩
    have hBl : B.length = n := by rw [hB]; exact hA i
    have hBs : iterS (stL e) (i + 1) (iterS stOn n xs0) = stL e B i := by rw [iterS_succ, hB]
    have hBi : B.getD i 0 = onI (s.getD i 0) := by rw [hB, h3 i hi, if_neg (by omega)]
    have hBa : aheadF [0, 1] e B i = z := by rw [h2]; exact aheadF_congr _ _ _ _ _ (fun j hj => by rw [hB, h3 j (by omega), if_pos hj])
    rw [← hB] at h3
    -- a step's end
    have fin : ∀ (v z' : Int), (stL e B i).getD i 0 = v → (∀ j, j ≠ i → (stL e B i).getD j 0 = B.getD j 0) → z' = (if v ∈ ([0, 1] : List Int) then v else z) → Ev (fun k => spec_l14Weak.l7 k (s.set i v) n z' ((i + 1 : Nat) : Int)) (iterS (stL e) n (iterS stOn n xs0)) := by
      intro v z' k1 k2 k3
      refine ih (s.set i v, z') ⟨by rw [List.length_set]; exact h1, ?_, ?_, ?_⟩
      · show z' = aheadF [0, 1] e (s.set i v) (i + 1)
        rw [aheadF, getD_set s i i v (by omega), if_pos rfl, aheadF_set _ _ _ _ _ (by omega), ← h2, k3]
      · intro j hj
        show _ = if j < i + 1 then (s.set i v).getD j 0 else onI ((s.set i v).getD j 0)
        rw [hBs, getD_set s i j v (by omega)]
        by_cases c : j = i
        · subst c; rw [k1, if_pos (by omega), if_pos rfl]
        · rw [k2 j c, h3 j hj, if_neg c]
          by_cases d : j < i
          · rw [if_pos d, if_pos (by omega)]
          · rw [if_neg d, if_neg (by omega)]
      · intro j hj hj2
        show P3 ((s.set i v).getD j 0)
        rw [getD_set s i j v (by omega), if_neg (by omega)]
        exact h4 j (by omega) hj2
    have nochange : ¬ (B.getD i 0 = 3 ∧ z = 0) → stL e B i = B := fun q => by rw [stL, if_neg (by rw [hBa]; exact q)]
    have hgo : ∀ s1 : List Int, s1 = s.set i (onI (s.getD i 0)) → Ev (fun k => spec_l14Weak.j11 k s1 n z i) (iterS (stL e) n (iterS stOn n xs0)) := by
      intro s1 hs1
      have hl1 : s1.length = n := by rw [hs1, List.length_set]; exact h1
      have hr1 : rd s1 (i : Int) = onI (s.getD i 0) := by rw [rd_getD, hs1, getD_set s i i _ (by omega), if_pos rfl]
      obtain ⟨y, hyy⟩ : ∃ y, y = onI (s.getD i 0) := ⟨_, rfl⟩
      rw [← hyy] at hr1 hs1 hBi hy
      have hy0 : 0 ≤ y := by rw [hy]; split <;> omega
      have hm := mem01 hy0
      refine Ev.step (fun k => spec_l14Weak.j11.eq_2 s1 n z i k) (ev_pos (by omega) (ev_pos (by omega) ?_))
      rw [hr1, wrap_succ (i := i) (by omega), Int.toNat_natCast]
      refine ev_ite (fun c => ?_) (fun c => ?_)
      · refine ev_neg (by omega) ?_
        rw [hs1]
        have q := nochange (by omega)
        exact fin y y (by rw [q, hBi]) (fun j _ => by rw [q]) (by rw [if_pos (hm.2 c)])
      · refine ev_ite (fun d => ev_ite (fun d2 => ?_) (fun d2 => ?_)) (fun d => ?_)
        · rw [hs1, List.set_set]
          have q : stL e B i = B.set i 0 := by rw [stL, if_pos ⟨by omega, by rw [hBa]; exact d2⟩]
          exact fin 0 z (by rw [q, getD_set B i i 0 (by omega), if_pos rfl]) (fun j hj => by rw [q, getD_set B i j 0 (by omega), if_neg hj]) (by rw [if_pos (by simp), d2])
        · rw [hs1]
          have q := nochange (by omega)
          exact fin y z (by rw [q, hBi]) (fun j _ => by rw [q]) (by rw [if_neg (by rw [hm]; exact c)])
        · rw [hs1]
          have q := nochange (by omega)
          exact fin y z (by rw [q, hBi]) (fun j _ => by rw [q]) (by rw [if_neg (by rw [hm]; exact c)])
    refine Ev.step (fun k => spec_l14Weak.l7.eq_2 s n z i k) (ev_pos (by omega) (ev_pos (by omega) (ev_pos (by omega) (ev_bc (l12_in' _ _ _) ?_))))
    rw [rd_getD, Int.toNat_natCast]
    refine ev_ite (fun c => hgo _ ?_) (fun c => hgo _ ?_)
    · have c := of_decide_eq_true c
      rw [hy, if_pos (by omega)]
    · have c : ¬ (5 ≤ s.getD i 0 ∧ s.getD i 0 ≤ 7) := fun q => c (decide_eq_true q)
      rw [hy, if_neg (by omega)]
      exact (getD_ext (by rw [List.length_set]) (fun j hj => by
        rw [List.length_set] at hj
        rw [getD_set s i j _ (by omega)]
        split
        · rename_i q; rw [q]
        · rfl)).symm
  · intro j hj
    rw [if_neg (by omega)]
    show (iterS stOn n xs0).getD j 0 = _
    rw [iterOn_get xs0 n j (by omega), if_pos hj]
end
theorem weak_spec (xs : List Int) (e : Int) (he : e = 0 ∨ e = 1) (hn : xs.length ≤ 1048576) (hp : AllP P1 xs) : Ev (fun k => spec_l14Weak.f k xs e) (numsF e (weakF e xs)) := by
  refine Ev.congr (fun k => spec_l14Weak.f.eq_1 k xs e) (ev_bs (ev_pos (by simp; omega) (ev_bs ?_)))
  rw [List.nil_append]
  have l1 : (iterS (stNsm e) xs.length xs).length = xs.length := iterS_len _ (stNsm_len e) _ _
  have p1 := nsm_all he hp
  have l2 : (iterS (stEn e) xs.length (iterS (stNsm e) xs.length xs)).length = xs.length := by rw [iterS_len _ (stEn_len e), l1]
  have p2 := en_all (e := e) p1 xs.length
  have l3 : (iterS stAl xs.length (iterS (stEn e) xs.length (iterS (stNsm e) xs.length xs))).length = xs.length := by rw [iterS_len _ stAl_len, l2]
  have l4 : (weakF e xs).length = xs.length := weakF_len e xs
  have p4 := weak_all he hp
  refine w0_ev hn xs rfl (w1_ev hn _ l1 p1 (w2_ev hn _ l2 (w3_ev hn _ l3 ?_)))
  refine w4_ev hn xs.length 0 (weakF e xs) l4 (by omega) (by omega) ?_
  have p5 := strS_all (p := fun c => c == 6) (fun xs a b h => num_all h a b) xs.length xs.length 0 _ p4
  have := w7_ev (e := e) hn (strS (fun c => c == 6) numF xs.length xs.length 0 (weakF e xs)) (by rw [strS_len _ _ numF_len, l4]) p5
  refine ev_to ?_ this
  unfold numsF
  rw [l4]
/-! ### the levels: one piece, the reference -/
theorem side_eq {x : Int} (h : P5 x) : spec_l14Side.f x = some (strongI x) := by
  rcases h with rfl | rfl | rfl | rfl <;> rfl
theorem strong_01 {x : Int} (h : P5 x) : strongI x = 0 ∨ strongI x = 1 := by
  rcases h with rfl | rfl | rfl | rfl
  · exact .inl rfl
  · exact .inr rfl
  · exact .inr rfl
  · exact .inr rfl
theorem firstF_all (l : List Int) : AllP P1 (firstF l) := by
  intro j hj
  unfold firstF at hj ⊢
  rw [List.length_map] at hj
  rw [List.getD_eq_getElem?_getD, List.getElem?_map, List.getElem?_eq_getElem hj]
  exact dir_range _
theorem setR_get (xs : List Int) (a : Nat) (c : Int) : ∀ m j, a + m ≤ xs.length → (setR xs a c m).getD j 0 = if a ≤ j ∧ j < a + m then c else xs.getD j 0
  | 0, j, _ => by rw [setR, if_neg (by omega)]
  | m + 1, j, h => by
    rw [setR, getD_set _ _ _ _ (by rw [setR_len]; omega), setR_get xs a c m j (by omega)]
    by_cases e : j = a + m
    · rw [if_pos e, if_pos (by omega)]
    · rw [if_neg e]
      by_cases d : a ≤ j ∧ j < a + m
      · rw [if_pos d, if_pos (by omega)]
      · rw [if_neg d, if_neg (by omega)]
theorem run_in (p : Int → Bool) (s : List Int) : ∀ d i, (∀ j, i ≤ j → j < runEnd p s d i → p (s.getD j 0) = true) ∧ (runEnd p s d i < i + d → p (s.getD (runEnd p s d i) 0) = false)
  | 0, i => ⟨fun j h1 h2 => by rw [runEnd] at h2; omega, fun h => by rw [runEnd] at h; omega⟩
  | d + 1, i => by
    have ih := run_in p s d (i + 1)
    rw [runEnd]
    split
    · rename_i c
      refine ⟨fun j h1 h2 => ?_, fun h => ih.2 (by omega)⟩
      by_cases e : j = i
      · rw [e]; exact c
      · exact ih.1 j (by omega) h2
    · rename_i c
      exact ⟨fun j h1 h2 => by omega, fun _ => by simpa using c⟩
theorem sideF_01 {e : Int} (he : e = 0 ∨ e = 1) {s : List Int} {i E : Nat} (h1 : 0 < i → P5 (s.getD (i - 1) 0)) : sideF e s i E = 0 ∨ sideF e s i E = 1 := by
  have ha : (if 0 < i then strongI (s.getD (i - 1) 0) else e) = 0 ∨ (if 0 < i then strongI (s.getD (i - 1) 0) else e) = 1 := iteP (P := fun x => x = 0 ∨ x = 1) (fun c => strong_01 (h1 c)) (fun _ => he)
  unfold sideF
  exact iteP (P := fun x => x = 0 ∨ x = 1) (fun _ => ha) (fun _ => he)
theorem neu_mix {e : Int} (he : e = 0 ∨ e = 1) {s : List Int} {i E : Nat} (hE : i ≤ E) (hl : E ≤ s.length) (h : Mix P4 P5 i s) (hx : E < s.length → P5 (s.getD E 0)) : Mix P4 P5 (E + 1) (neuF e s i E) := by
  have h1 := sideF_01 (E := E) he (s := s) (i := i) (fun c => (h (i - 1) (by omega)).1 (by omega))
  intro j hj
  rw [neuF_len] at hj
  unfold neuF
  rw [setR_get _ _ _ _ _ (by omega)]
  split
  · exact ⟨fun _ => by unfold P5; omega, fun _ => by omega⟩
  · refine ⟨fun c => ?_, fun c => (h j hj).2 (by omega)⟩
    by_cases d : j = E
    · rw [d]; exact hx (by omega)
    · exact (h j hj).1 (by omega)
theorem ge9 (x : Int) : (decide (x ≥ 9)) = true ↔ 9 ≤ x := by simp
theorem neut_all {e : Int} (he : e = 0 ∨ e = 1) {n : Nat} : ∀ (f i : Nat) (s : List Int), s.length = n → n ≤ i + f → i ≤ n + 1 → Mix P4 P5 i s → AllP P5 (strS (fun c => decide (c ≥ 9)) (neuF e) n f i s) := by
  intro f
  induction f with
  | zero => intro i s hl hf hi h j hj; rw [strS] at hj ⊢; exact (h j hj).1 (by omega)
  | succ f ih =>
    intro i s hl hf hi h
    rw [strS]
    split
    · have hb := runEnd_ge (fun c => decide (c ≥ 9)) s (n - i) i
      have hr := run_in (fun c => decide (c ≥ 9)) s (n - i) i
      obtain ⟨E, hE⟩ : ∃ E, E = runEnd (fun c => decide (c ≥ 9)) s (n - i) i := ⟨_, rfl⟩
      rw [← hE] at hb hr ⊢
      have hx : E < s.length → P5 (s.getD E 0) := by
        intro c
        have := hr.2 (by omega)
        have h4 := (h E c).2 (by omega)
        unfold P4 at h4; unfold P5
        have h9 : ¬ 9 ≤ s.getD E 0 := fun q => by rw [(ge9 _).2 q] at this; cases this
        omega
      split
      · exact ih (E + 1) _ (by rw [neuF_len, hl]) (by omega) (by omega) (neu_mix he (by omega) (by omega) h hx)
      · have : E = i := by omega
        rw [this] at hx
        exact ih (i + 1) s hl (by omega) (by omega) (h.keep hx)
    · intro j hj; exact (h j hj).1 (by omega)
section
variable {e : Int} {n : Nat} {R fs : List Int}
theorem p3_ev (hn : n ≤ 1048576) (E a : Nat) (v : Int) (hE : E ≤ n) (s : List Int) (hl : s.length = n) : ∀ (d m : Nat), E - a - m = d → a + m ≤ E → Ev (fun k => spec_l14Piece.l1 k e fs (setR s a v (E - a)) n (wrap64 ((E : Int) + 1))) R → Ev (fun k => spec_l14Piece.l3 k e fs (setR s a v m) n E v ((a + m : Nat) : Int)) R := by
  intro d
  induction d with
  | zero =>
    intro m hd hm h
    rw [show E - a = m by omega] at h
    exact Ev.step (fun k => spec_l14Piece.l3.eq_2 e fs _ n E v _ k) (ev_neg (by omega) h)
  | succ d ih =>
    intro m hd hm h
    refine Ev.step (fun k => spec_l14Piece.l3.eq_2 e fs _ n E v _ k) (ev_pos (by omega) (ev_pos (by omega) (ev_pos (by rw [setR_len]; omega) ?_)))
    rw [wrap_succ (by omega), Int.toNat_natCast]
    exact ih (m + 1) (by omega) (by omega) h
theorem p2_ev (hn : n ≤ 1048576) (a : Nat) (s : List Int) (hl : s.length = n) : ∀ (d i : Nat), n - i = d → i ≤ n → Ev (fun k => spec_l14Piece.j3 k e fs s n ((runEnd (fun c => decide (c ≥ 9)) s d i : Nat) : Int) a) R → Ev (fun k => spec_l14Piece.l2 k e fs s n i a) R := by
  intro d
  induction d with
  | zero =>
    intro i hd hi h
    exact Ev.step (fun k => spec_l14Piece.l2.eq_2 e fs s n _ _ k) (ev_neg (by omega) h)
  | succ d ih =>
    intro i hd hi h
    rw [runEnd] at h
    refine Ev.step (fun k => spec_l14Piece.l2.eq_2 e fs s n _ _ k) (ev_pos (by omega) (ev_pos (by omega) (ev_pos (by omega) ?_)))
    rw [wrap_succ (i := i) (by omega), rd_getD]
    refine ev_ite (fun c => ?_) (fun c => ?_)
    · rw [if_pos ((ge9 _).2 c)] at h
      exact ih (i + 1) (by omega) (by omega) h
    · rw [if_neg (fun q => c ((ge9 _).1 q))] at h
      exact h
theorem p1_ev (he : e = 0 ∨ e = 1) (hn : n ≤ 1048576) : ∀ (f i : Nat) (s : List Int), s.length = n → n ≤ i + f → i ≤ n + 1 → Mix P4 P5 i s → Ev (fun k => spec_l14Piece.l4 k e fs (strS (fun c => decide (c ≥ 9)) (neuF e) n f i s) n [] 0) R → Ev (fun k => spec_l14Piece.l1 k e fs s n i) R := by
  intro f
  induction f with
  | zero =>
    intro i s hl hf hi hm h
    exact Ev.step (fun k => spec_l14Piece.l1.eq_2 e fs s n i k) (ev_neg (by omega) h)
  | succ f ih =>
    intro i s hl hf hi hm h
    rw [strS] at h
    refine Ev.step (fun k => spec_l14Piece.l1.eq_2 e fs s n i k) (ev_ite (fun c => ?_) (fun c => ?_))
    · rw [if_pos (by omega)] at h
      have hb := runEnd_ge (fun c => decide (c ≥ 9)) s (n - i) i
      have hr := run_in (fun c => decide (c ≥ 9)) s (n - i) i
      refine ev_pos (by omega) (ev_pos (by omega) ?_)
      rw [rd_getD]
      refine ev_ite (fun c1 => ?_) (fun c1 => ?_)
      · have e0 : runEnd (fun c => decide (c ≥ 9)) s (n - i) i = i := by
          rw [show n - i = (n - i - 1) + 1 by omega, runEnd, if_neg (fun q => by have := (ge9 _).1 q; omega)]
        rw [e0, if_neg (by omega)] at h
        rw [wrap_succ (i := i) (by omega)]
        refine ih (i + 1) s hl (by omega) (by omega) (hm.keep (fun q => ?_)) h
        have := (hm i q).2 (Nat.le_refl _)
        unfold P4 at this; unfold P5; omega
      · refine p2_ev hn i s hl (n - i) i rfl (by omega) ?_
        have e0 : i < runEnd (fun c => decide (c ≥ 9)) s (n - i) i := by
          rw [show n - i = (n - i - 1) + 1 by omega, runEnd, if_pos ((ge9 _).2 (by omega))]
          have := runEnd_ge (fun c => decide (c ≥ 9)) s (n - i - 1) (i + 1)
          omega
        obtain ⟨E, hE⟩ : ∃ E, E = runEnd (fun c => decide (c ≥ 9)) s (n - i) i := ⟨_, rfl⟩
        rw [← hE] at h hb hr e0 ⊢
        rw [if_pos e0] at h
        have hx : E < s.length → P5 (s.getD E 0) := by
          intro c
          have := hr.2 (by omega)
          have h4 := (hm E c).2 (by omega)
          unfold P4 at h4; unfold P5
          have h9 : ¬ 9 ≤ s.getD E 0 := fun q => by rw [(ge9 _).2 q] at this; cases this
          omega
        have hw : wrap64 ((E : Int) + 1) = ((E + 1 : Nat) : Int) := wrap_succ (by omega)
        have hnext : Ev (fun k => spec_l14Piece.l1 k e fs (setR s i (sideF e s i E) (E - i)) n (wrap64 ((E : Int) + 1))) R := by
          rw [hw]
          exact ih (E + 1) _ (by rw [setR_len, hl]) (by omega) (by omega) (neu_mix he (by omega) (by omega) hm hx) h
        have h6 : ∀ v, v = sideF e s i E → Ev (fun k => spec_l14Piece.j6 k e fs s n E i v) R := by
          intro v hv
          refine Ev.step (fun k => spec_l14Piece.j6.eq_2 e fs s n E i v k) ?_
          rw [hv]
          exact p3_ev hn E i _ (by omega) s hl (E - i) 0 (by omega) (by omega) hnext
        have h5 : ∀ u v, u = (if 0 < i then strongI (s.getD (i - 1) 0) else e) → v = (if E < s.length then strongI (s.getD E 0) else e) → Ev (fun k => spec_l14Piece.j5 k e fs s n E i u v) R := by
          intro u v hu hv
          have hs : sideF e s i E = if u = v then u else e := by rw [hu, hv]; rfl
          exact Ev.step (fun k => spec_l14Piece.j5.eq_2 e fs s n E i u v k) (ev_ite (fun q => h6 _ (by rw [hs, if_pos q])) (fun q => h6 _ (by rw [hs, if_neg q])))
        have h4 : ∀ u, u = (if 0 < i then strongI (s.getD (i - 1) 0) else e) → Ev (fun k => spec_l14Piece.j4 k e fs s n E i u e) R := by
          intro u hu
          refine Ev.step (fun k => spec_l14Piece.j4.eq_2 e fs s n E i u e k) (ev_ite (fun q => ev_pos (by omega) (ev_pos (by omega) ?_)) (fun q => h5 _ _ hu (by rw [if_neg (by omega)])))
          rw [rd_getD]
          exact ev_bc (side_eq (hx (by omega))) (h5 _ _ hu (by rw [if_pos (by omega)]))
        refine Ev.step (fun k => spec_l14Piece.j3.eq_2 e fs s n E i k) (ev_ite (fun q => ?_) (fun q => h4 _ (by rw [if_neg (by omega)])))
        have hw2 : wrap64 ((i : Int) - 1) = ((i - 1 : Nat) : Int) := by rw [wrap_in (by omega) (by omega)]; omega
        rw [hw2, rd_getD]
        exact ev_pos (by omega) (ev_pos (by omega) (ev_bc (side_eq ((hm (i - 1) (by omega)).1 (by omega))) (h4 _ (by rw [if_pos (by omega)]))))
    · rw [if_neg (by omega)] at h
      exact h
theorem p4_ev (he : e = 0 ∨ e = 1) (hn : n ≤ 1048576) (K : List Int) (hl : K.length = n) (hp : AllP P5 K) (h : Ev (fun k => spec_l14Piece.l5 k e fs (K.map (lvlI e)) true ((n : Int) - 1)) R) : Ev (fun k => spec_l14Piece.l4 k e fs K n [] 0) R := by
  refine ev_loop (g := fun k s i => spec_l14Piece.l4 k e fs K n s i) n (fun _ _ => R) (fun i s => s = (K.take i).map (lvlI e)) ?_ ?_ 0 (Nat.zero_le _) [] rfl
  · intro s hs
    rw [List.take_of_length_le (by omega)] at hs
    refine Ev.step (fun k => spec_l14Piece.l4.eq_2 e fs K n s n k) (ev_neg (by omega) ?_)
    rw [hs, wrap_in (by omega) (by omega)]
    exact h
  · intro i s hi hs ih
    have hsl : s.length = i := by rw [hs, List.length_map, List.length_take]; omega
    have hq := hp i (by omega)
    have hnx : ∀ v, v = lvlI e (K.getD i 0) → Ev (fun k => spec_l14Piece.l4 k e fs K n (s ++ [v]) (wrap64 ((i : Int) + 1))) R := by
      intro v hv
      rw [wrap_succ (i := i) (by omega)]
      refine ih _ ?_
      rw [hs, hv, List.take_add_one, List.getElem?_eq_getElem (by omega), List.map_append, List.getD_eq_getElem?_getD, List.getElem?_eq_getElem (by omega)]
      rfl
    have q1 : lvlI e 1 = if e = 0 then 1 else e := by unfold lvlI; split <;> rfl
    have q2 : ∀ x, P5 x → x ≠ 1 → e = 0 → lvlI e x = if x = 0 then 0 else 2 := by
      intro x hx h1 h0
      unfold lvlI
      rw [if_pos h0, if_neg h1]
      rcases hx with rfl | rfl | rfl | rfl <;> first | rfl | exact absurd rfl h1
    have q3 : ∀ x, x ≠ 1 → e = 1 → lvlI e x = 2 := by intro x h1 h0; unfold lvlI; rw [if_neg (by omega), if_neg h1]
    unfold P5 at hq
    have hj10 : ∀ t : Bool, (t = true → e = 0 ∧ K.getD i 0 ≥ 3) → (e = 0 → K.getD i 0 ≠ 1 ∧ (t = false → K.getD i 0 = 0)) → Ev (fun k => spec_l14Piece.j10 k e fs K n s i e t) R := by
      intro t ht1 ht2
      refine Ev.step (fun k => spec_l14Piece.j10.eq_2 e fs K n s i e t k) (ev_ite (fun c => ?_) (fun c => ev_ite (fun d => ev_pos (by omega) (ev_pos (by omega) ?_)) (fun d => ?_)))
      · have ht := ht1 c
        exact ev_pos (by omega) (hnx _ (by rw [q2 _ hq (ht2 ht.1).1 ht.1, if_neg (by omega)]))
      · rw [rd_getD]
        refine ev_ite (fun c1 => ev_pos (by omega) (hnx _ ?_)) (fun c1 => ev_pos (by omega) (hnx _ ?_))
        · rw [c1, q1, if_neg (by omega)]
        · rw [q3 _ c1 d]
      · have h0 : e = 0 := by omega
        have hk := ht2 h0
        have hk0 := hk.2 (by simpa using c)
        exact ev_pos (by omega) (hnx _ (by rw [q2 _ hq hk.1 h0, if_pos hk0, h0]))
    have hj9 : ∀ t : Bool, (t = true ↔ e = 0 ∧ K.getD i 0 = 1) → Ev (fun k => spec_l14Piece.j9 k e fs K n s i e t) R := by
      intro t ht
      refine Ev.step (fun k => spec_l14Piece.j9.eq_2 e fs K n s i e t k) (ev_ite (fun c => ?_) (fun c => ev_ite (fun d => ev_pos (by omega) (ev_pos (by omega) ?_)) (fun d => ?_)))
      · have hc := ht.1 c
        exact ev_pos (by omega) (hnx _ (by rw [hc.2, q1, if_pos hc.1]))
      · have hk : K.getD i 0 ≠ 1 := fun q => c (ht.2 ⟨d, q⟩)
        rw [rd_getD]
        exact hj10 _ (fun q => ⟨d, of_decide_eq_true q⟩) (fun _ => ⟨hk, fun q => by have := of_decide_eq_false q; omega⟩)
      · exact hj10 _ (fun q => by cases q) (fun q => absurd q d)
    refine Ev.step (fun k => spec_l14Piece.l4.eq_2 e fs K n s i k) (ev_pos (by omega) (ev_ite (fun c => ev_pos (by omega) (ev_pos (by omega) ?_)) (fun c => hj9 _ ?_)))
    · rw [rd_getD]
      exact hj9 _ (by rw [beq_iff_eq]; omega)
    · simp only [Bool.false_eq_true, false_iff]; omega
theorem p5_ev (hn : n ≤ 1048576) (hf : fs.length = n) : ∀ (j : Nat) (b : Bool) (out : List Int), j ≤ n → out.length = n → Ev (fun k => spec_l14Piece.l5 k e fs out b ((j : Int) - 1)) (rsF e fs j b out) := by
  intro j
  induction j with
  | zero =>
    intro b out _ _
    exact Ev.step (fun k => spec_l14Piece.l5.eq_2 e fs out b _ k) (ev_neg (by omega) (ev_now rfl))
  | succ j ih =>
    intro b out hj hl
    rw [rsF]
    have w1 : (((j + 1 : Nat) : Int) - 1) = (j : Int) := by omega
    have w2 : wrap64 ((j : Int) - 1) = (j : Int) - 1 := wrap_in (by omega) (by omega)
    have hj12 : ∀ t : Bool, t = (fs.getD j 0 == 10 || fs.getD j 0 == 11) → Ev (fun k => spec_l14Piece.j12 k e fs out b j t) (rsF e fs j (rsB (fs.getD j 0) b) (if rsB (fs.getD j 0) b = true then out.set j e else out)) := by
      intro t ht
      have hr : rsB (fs.getD j 0) b = (t || (fs.getD j 0 == 9 && b)) := by unfold rsB; rw [ht]
      rw [hr]
      refine Ev.step (fun k => spec_l14Piece.j12.eq_2 e fs out b j t k) ?_
      rw [rd_getD, w2, Int.toNat_natCast]
      refine ev_ite (fun c => ev_pos (by omega) (ev_pos (by omega) ?_)) (fun c => ev_pos (by omega) (ev_pos (by omega) (ev_ite (fun d => ev_ite (fun f => ev_pos (by omega) ?_) (fun f => ?_)) (fun d => ?_))))
      · rw [c, Bool.true_or, if_pos rfl]
        exact ih true _ (by omega) (by rw [List.length_set]; exact hl)
      · have ht : t = false := by simpa using c
        rw [ht, Bool.false_or, d, f]
        exact ih true _ (by omega) (by rw [List.length_set]; exact hl)
      · have ht : t = false := by simpa using c
        have hb : b = false := by simpa using f
        rw [ht, Bool.false_or, hb, Bool.and_false]
        exact ih false _ (by omega) hl
      · have ht : t = false := by simpa using c
        have hd : (fs.getD j 0 == 9) = false := beq_eq_false_iff_ne.2 d
        rw [ht, Bool.false_or, hd, Bool.false_and]
        exact ih false _ (by omega) hl
    refine Ev.step (fun k => spec_l14Piece.l5.eq_2 e fs out b _ k) ?_
    rw [w1, rd_getD]
    refine ev_pos (by omega) (ev_pos (by omega) (ev_pos (by omega) (ev_ite (fun c => hj12 _ ?_) (fun c => hj12 _ ?_))))
    · rw [c]; rfl
    · rw [beq_eq_false_iff_ne.2 c, Bool.false_or]
end
theorem piece_spec (l : List Int) (e : Int) (he : e = 0 ∨ e = 1) (hn : l.length ≤ 1048576) : Ev (fun k => spec_l14Piece.f k l e) (levF e l) := by
  have hfl : (firstF l).length = l.length := by unfold firstF; rw [List.length_map]
  refine Ev.congr (fun k => spec_l14Piece.f.eq_1 k l e) ?_
  refine ev_loop (g := fun k s i => spec_l14Piece.l0 k l e s i) l.length (fun _ _ => levF e l) (fun i s => s = firstF (l.take i)) ?_ ?_ 0 (Nat.zero_le _) [] rfl
  · intro s hs
    rw [List.take_of_length_le (Nat.le_refl _)] at hs
    subst hs
    refine Ev.step (fun k => spec_l14Piece.l0.eq_2 l e _ _ k) (ev_neg (by omega) (Ev.bind (weak_spec _ e he (by omega) (firstF_all l)) ?_))
    have l1 : (numsF e (weakF e (firstF l))).length = l.length := by rw [numsF_len, weakF_len, hfl]
    have p4 := nums_all (e := e) (weak_all he (firstF_all l))
    have hm : Mix P4 P5 0 (numsF e (weakF e (firstF l))) := fun j hj => ⟨fun c => by omega, fun _ => p4 j hj⟩
    rw [l1]
    refine p1_ev he hn l.length 0 _ l1 (by omega) (by omega) hm ?_
    have hk : strS (fun c => decide (c ≥ 9)) (neuF e) l.length l.length 0 (numsF e (weakF e (firstF l))) = kindsF e l := by unfold kindsF neutF; rw [l1]
    have p5 := neut_all he l.length 0 _ l1 (by omega) (by omega) hm
    rw [hk] at p5 ⊢
    exact p4_ev he hn _ (kindsF_len e l) p5 (p5_ev hn hfl l.length true _ (Nat.le_refl _) (by rw [List.length_map, kindsF_len]))
  · intro i s hi hs ih
    have hsl : s.length = i := by rw [hs]; unfold firstF; rw [List.length_map, List.length_take]; omega
    refine Ev.step (fun k => spec_l14Piece.l0.eq_2 l e s i k) (ev_pos (by omega) (ev_pos (by omega) ?_))
    rw [rd_nat l i hi, wrap_succ (i := i) (by omega)]
    refine Ev.bind (dir_ev _) (ev_pos (by omega) (ih _ ?_))
    rw [hs]
    unfold firstF
    rw [List.take_add_one, List.getElem?_eq_getElem hi, List.map_append]
    rfl
/-! ### the levels of a text -/
theorem levF_len (e : Int) (l : List Int) : (levF e l).length = l.length := by unfold levF; rw [rsF_len, List.length_map, kindsF_len]
theorem bl_01 : ∀ l : List Int, bl l = 0 ∨ bl l = 1
  | [] => .inl rfl
  | x :: t => by
    unfold bl
    split
    · split
      · exact .inl rfl
      · exact .inr rfl
    · exact bl_01 t
def levG (e : Int) (l : List Int) : Nat → Nat → Nat → List Int → List Int
  | 0, _, _, out => out
  | f + 1, a, i, out => if impl_DirClass.g (l.getD i 0) = 11 ∨ i + 1 = l.length then levG e l f (i + 1) (i + 1) (out ++ levF e ((l.take (i + 1)).drop a)) else levG e l f a (i + 1) out
theorem piece_len (l : List Int) (a i : Nat) (h : a ≤ i) (hi : i < l.length) : ((l.take (i + 1)).drop a).length = i + 1 - a := by simp; omega
theorem levG_len (e : Int) (l : List Int) : ∀ f a i out, l.length - i = f → a ≤ i → i ≤ l.length → (i = l.length → a = i) → out.length = a → (levG e l f a i out).length = l.length
  | 0, a, i, out, hd, ha, hi, hz, ho => by rw [levG]; have := hz (by omega); omega
  | f + 1, a, i, out, hd, ha, hi, hz, ho => by
    rw [levG]
    split
    · exact levG_len e l f _ _ _ (by omega) (by omega) (by omega) (fun _ => rfl) (by rw [List.length_append, levF_len, piece_len l a i ha (by omega)]; omega)
    · exact levG_len e l f _ _ _ (by omega) (by omega) (by omega) (fun q => by omega) ho
theorem levG_spec (e : Int) (he : e = 0 ∨ e = 1) (l : List Int) (hn : l.length ≤ 1048576) : ∀ f a i out, l.length - i = f → a ≤ i → i ≤ l.length → out.length = a → Ev (fun k => spec_Levels.l0 k l e out a i) (levG e l f a i out) := by
  intro f
  induction f with
  | zero =>
    intro a i out hd ha hi ho
    exact Ev.step (fun k => spec_Levels.l0.eq_2 l e out a i k) (ev_neg (by omega) (ev_now rfl))
  | succ f ih =>
    intro a i out hd ha hi ho
    have hpl := piece_len l a i ha (by omega)
    have hnext := ih (i + 1) (i + 1) (out ++ levF e ((l.take (i + 1)).drop a)) (by omega) (Nat.le_refl _) (by omega) (by rw [List.length_append, levF_len, hpl]; omega)
    have hps := piece_spec ((l.take (i + 1)).drop a) e he (by omega)
    have w1 : wrap64 ((l.length : Int) - 1) = (l.length : Int) - 1 := wrap_in (by omega) (by omega)
    rw [levG]
    refine Ev.step (fun k => spec_Levels.l0.eq_2 l e out a i k) (ev_pos (by omega) (ev_pos (by omega) ?_))
    rw [wrap_succ (i := i) (by omega), w1, Int.toNat_natCast, Int.toNat_natCast, rd_getD]
    refine Ev.bind (dir_ev _) (ev_ite (fun c => ?_) (fun c => ev_ite (fun d => ?_) (fun d => ?_)))
    · rw [if_pos (.inl c)]
      exact ev_pos (by omega) (ev_pos (by omega) (ev_pos (by omega) (Ev.bind hps (ev_pos (by rw [levF_len, hpl]; omega) hnext))))
    · rw [if_pos (.inr (by omega))]
      exact ev_pos (by omega) (ev_pos (by omega) (ev_pos (by omega) (Ev.bind hps (ev_pos (by rw [levF_len, hpl]; omega) hnext))))
    · rw [if_neg (fun q => q.elim c (fun q => d (by omega)))]
      exact ih a (i + 1) out (by omega) (by omega) (by omega) ho
theorem levG_impl (e : Int) (he : e = 0 ∨ e = 1) (l : List Int) (hn : l.length ≤ 1048576) : ∀ f a i out, l.length - i = f → a ≤ i → i ≤ l.length → out.length = a → Ev (fun k => impl_Levels.l0 k l e out a l l.length i) (levG e l f a i out) := by
  intro f
  induction f with
  | zero =>
    intro a i out hd ha hi ho
    exact Ev.step (fun k => impl_Levels.l0.eq_2 l e out a l _ i k) (ev_neg (by omega) (ev_now rfl))
  | succ f ih =>
    intro a i out hd ha hi ho
    have hpl := piece_len l a i ha (by omega)
    have hnext := ih (i + 1) (i + 1) (out ++ levF e ((l.take (i + 1)).drop a)) (by omega) (Nat.le_refl _) (by omega) (by rw [List.length_append, levF_len, hpl]; omega)
    have hps : impl_levelsOf.f ((l.take (i + 1)).drop a) e = some (levF e ((l.take (i + 1)).drop a)) := by unfold impl_levelsOf.f; rw [if_pos ⟨by omega, by omega, he⟩]
    rw [levG]
    refine Ev.step (fun k => impl_Levels.l0.eq_2 l e out a l _ i k) (ev_pos (by omega) (ev_pos (by omega) (ev_pos (by omega) ?_)))
    rw [wrap_succ (i := i) (by omega), Int.toNat_natCast, Int.toNat_natCast, rd_getD]
    refine ev_bc rfl (ev_ite (fun c => ?_) (fun c => ev_ite (fun d => ?_) (fun d => ?_)))
    · rw [if_pos (.inl c)]
      exact ev_pos (by omega) (ev_pos (by omega) (ev_pos (by omega) (ev_bc hps (ev_pos (by rw [levF_len, hpl]; omega) hnext))))
    · rw [if_pos (.inr (by omega))]
      exact ev_pos (by omega) (ev_pos (by omega) (ev_pos (by omega) (ev_bc hps (ev_pos (by rw [levF_len, hpl]; omega) hnext))))
    · rw [if_neg (fun q => q.elim c (fun q => d (by omega)))]
      exact ih a (i + 1) out (by omega) (by omega) (by omega) ho
def levsF (l : List Int) (b : Int) : List Int := levG (if b = 0 ∨ b = 1 then b else bl l) l l.length 0 0 []
theorem levsF_len (l : List Int) (b : Int) : (levsF l b).length = l.length := by
  unfold levsF
  by_cases c : l.length = 0
  · rw [c, levG]; rfl
  · exact levG_len _ l l.length 0 0 [] (by omega) (Nat.le_refl _) (by omega) (fun q => by omega) rfl
theorem levels_spec (l : List Int) (b : Int) (hn : l.length ≤ 1048576) : Ev (fun k => spec_Levels.f k l b) (levsF l b) := by
  have hj1 : ∀ e, e = (if b = 0 ∨ b = 1 then b else bl l) → Ev (fun k => spec_Levels.j1 k l e) (levsF l b) := by
    intro e he
    refine Ev.step (fun k => spec_Levels.j1.eq_2 l e k) ?_
    unfold levsF
    rw [← he]
    refine levG_spec e ?_ l hn l.length 0 0 [] (by omega) (Nat.le_refl _) (by omega) rfl
    rw [he]
    exact iteP (P := fun x => x = 0 ∨ x = 1) (fun c => c) (fun _ => bl_01 l)
  have hj0 : ∀ t : Bool, (t = true ↔ ¬ (b = 0 ∨ b = 1)) → Ev (fun k => spec_Levels.j0 k l b t) (levsF l b) := by
    intro t ht
    refine Ev.step (fun k => spec_Levels.j0.eq_2 l b t k) (ev_ite (fun c => ?_) (fun c => ?_))
    · exact Ev.bind (bl_spec l hn) (hj1 _ (by rw [if_neg (ht.1 c)]))
    · exact hj1 _ (by rw [if_pos (Classical.not_not.1 (fun q => c (ht.2 q)))])
  refine Ev.congr (fun k => spec_Levels.f.eq_1 k l b) (ev_ite (fun c => hj0 _ ?_) (fun c => hj0 _ ?_))
  · simp only [Bool.false_eq_true, false_iff]; omega
  · rw [bne_iff_ne]; omega
theorem levels_impl (l : List Int) (b : Int) (hn : l.length ≤ 1048576) : Ev (fun k => impl_Levels.f k l b) (levsF l b) := by
  have hj1 : ∀ e, e = (if b = 0 ∨ b = 1 then b else bl l) → Ev (fun k => impl_Levels.j1 k l e) (levsF l b) := by
    intro e he
    refine Ev.step (fun k => impl_Levels.j1.eq_2 l e k) ?_
    unfold levsF
    rw [← he]
    refine levG_impl e ?_ l hn l.length 0 0 [] (by omega) (Nat.le_refl _) (by omega) rfl
    rw [he]
    exact iteP (P := fun x => x = 0 ∨ x = 1) (fun c => c) (fun _ => bl_01 l)
  have hj0 : ∀ t : Bool, (t = true ↔ ¬ (b = 0 ∨ b = 1)) → Ev (fun k => impl_Levels.j0 k l b t) (levsF l b) := by
    intro t ht
    refine Ev.step (fun k => impl_Levels.j0.eq_2 l b t k) (ev_ite (fun c => ?_) (fun c => ?_))
    · exact Ev.bind (bl_impl l hn) (hj1 _ (by rw [if_neg (ht.1 c)]))
    · exact hj1 _ (by rw [if_pos (Classical.not_not.1 (fun q => c (ht.2 q)))])
  refine Ev.congr (fun k => impl_Levels.f.eq_1 k l b) (ev_ite (fun c => hj0 _ ?_) (fun c => hj0 _ ?_))
  · simp only [Bool.false_eq_true, false_iff]; omega
  · rw [bne_iff_ne]; omega
/-! ### the levels that were drawn -/
theorem AllP.append {P : Int → Prop} {xs ys : List Int} (h : AllP P xs) (k : AllP P ys) : AllP P (xs ++ ys) := by
  intro j hj
  rw [List.getD_eq_getElem?_getD]
  by_cases c : j < xs.length
  · rw [List.getElem?_append_left c, ← List.getD_eq_getElem?_getD]; exact h j c
  · rw [List.length_append] at hj
    rw [List.getElem?_append_right (by omega), ← List.getD_eq_getElem?_getD]; exact k _ (by omega)
def P02 (x : Int) : Prop := 0 ≤ x ∧ x ≤ 2
theorem rsF_all {e : Int} (he : P02 e) (fs : List Int) : ∀ j b out, AllP P02 out → AllP P02 (rsF e fs j b out)
  | 0, _, _, h => h
  | j + 1, b, out, h => by
    rw [rsF]
    refine rsF_all he fs j _ _ ?_
    split
    · exact h.set j he
    · exact h
theorem levF_all {e : Int} (he : e = 0 ∨ e = 1) (l : List Int) : AllP P02 (levF e l) := by
  unfold levF
  refine rsF_all (by unfold P02; omega) _ _ _ _ (fun j hj => ?_)
  rw [List.length_map] at hj
  rw [List.getD_eq_getElem?_getD, List.getElem?_map, List.getElem?_eq_getElem hj]
  show P02 (lvlI e _)
  unfold lvlI P02
  repeat' split
  all_goals omega
theorem levG_all {e : Int} (he : e = 0 ∨ e = 1) (l : List Int) : ∀ f a i out, AllP P02 out → AllP P02 (levG e l f a i out)
  | 0, _, _, _, h => h
  | f + 1, a, i, out, h => by
    rw [levG]
    split
    · exact levG_all he l f _ _ _ (h.append (levF_all he _))
    · exact levG_all he l f _ _ _ h
theorem levsF_all (l : List Int) (b : Int) : AllP P02 (levsF l b) := levG_all (iteP (P := fun x => x = 0 ∨ x = 1) (fun c => c) (fun _ => bl_01 l)) l _ _ _ _ (fun j hj => by simp at hj)
theorem all_ok {l : List Int} (h : AllP P02 l) : l.all lvOk = true := by
  rw [List.all_eq_true]
  intro x hx
  obtain ⟨j, hj, rfl⟩ := List.mem_iff_getElem.1 hx
  have := h j hj
  rw [List.getD_eq_getElem?_getD, List.getElem?_eq_getElem hj] at this
  have h2 : 0 ≤ l[j] ∧ l[j] ≤ 2 := this
  unfold lvOk
  rw [decide_eq_true h2.1, decide_eq_true (show l[j] ≤ 125 by omega)]; rfl
/-! ### an order: each place once -/
theorem revSeg_perm (xs : List Int) (s e : Nat) (h : s ≤ e) : (revSeg xs s e).Perm xs := by
  have e1 : xs = xs.take s ++ ((xs.drop s).take (e - s)) ++ xs.drop e := by
    have a := List.take_append_drop s xs
    have b := List.take_append_drop (e - s) (xs.drop s)
    rw [List.drop_drop, show s + (e - s) = e by omega] at b
    rw [List.append_assoc, b, a]
  conv => rhs; rw [e1]
  unfold revSeg
  exact ((List.Perm.refl _).append (List.reverse_perm _)).append (List.Perm.refl _)
theorem scan_perm (p : Int → Bool) : ∀ (k i : Nat) (st : Option Nat) (xs : List Int), (∀ s, st = some s → s ≤ i) → (scan p k i st xs).Perm xs := by
  intro k
  induction k with
  | zero =>
    intro i st xs hs
    rw [scan]
    cases st with
    | none => exact List.Perm.refl _
    | some s => exact revSeg_perm xs s i (hs s rfl)
  | succ k ih =>
    intro i st xs hs
    rw [scan]
    split
    · refine ih (i + 1) _ xs (fun s e => ?_)
      cases st with
      | none => cases e; exact Nat.le_succ i
      | some s' => cases e; have := hs s' rfl; show s' ≤ i + 1; omega
    · cases st with
      | none => exact ih (i + 1) none xs (fun s e => by cases e)
      | some s => exact (ih (i + 1) none _ (fun s e => by cases e)).trans (revSeg_perm xs s i (hs s rfl))
theorem passes_perm (l : List Int) : ∀ t xs, (passes l t xs).Perm xs
  | 0, xs => List.Perm.refl _
  | t + 1, xs => by rw [passes]; exact (passes_perm l t _).trans (scan_perm _ _ _ _ _ (fun s e => by cases e))
theorem vis_perm {l : List Int} (h : l.all lvOk = true) : (vis l).Perm (ids l.length) := by unfold vis; rw [if_pos h]; exact passes_perm _ _ _
theorem ids_nodup (n : Nat) : (ids n).Pairwise (· ≠ ·) := by
  rw [List.pairwise_iff_getElem]
  intro i j hi hj hij
  have e : ∀ k (h : k < (ids n).length), (ids n)[k] = (k : Int) := by intro k h; simp [ids]
  rw [e i hi, e j hj]
  omega
theorem vis_nodup {l : List Int} (h : l.all lvOk = true) : (vis l).Pairwise (· ≠ ·) := (vis_perm h).symm.pairwise (ids_nodup _) (fun h e => h e.symm)
theorem vis_in {l : List Int} (h : l.all lvOk = true) : inR l.length (vis l) := ⟨by rw [(vis_perm h).length_eq, ids_length], fun x hx => (ids_in l.length).2 x ((vis_perm h).mem_iff.1 hx)⟩
theorem not_ahead {xs : List Int} (h : xs.Pairwise (· ≠ ·)) (i : Nat) (hi : i < xs.length) : xs[i] ∉ xs.take i := by
  intro hm
  obtain ⟨j, hj, e⟩ := List.mem_iff_getElem.1 hm
  rw [List.length_take] at hj
  rw [List.getElem_take] at e
  exact List.pairwise_iff_getElem.1 h j i (by omega) hi (by omega) e
/-! ### a text of one class -/
def Low (xs : List Int) : Prop := ∀ j, xs.getD j 0 = 0 ∨ xs.getD j 0 = 1
theorem iterS_fix {st : List Int → Nat → List Int} {xs : List Int} (h : ∀ i, st xs i = xs) : ∀ n, iterS st n xs = xs
  | 0 => rfl
  | n + 1 => by rw [iterS_succ, iterS_fix h n, h]
theorem run_fix {p : Int → Bool} {xs : List Int} (h : ∀ j, p (xs.getD j 0) = false) : ∀ f i, runEnd p xs f i = i
  | 0, _ => rfl
  | f + 1, i => by rw [runEnd, if_neg (by rw [h]; simp)]
theorem strS_fix {p : Int → Bool} {F : List Int → Nat → Nat → List Int} {xs : List Int} (h : ∀ j, p (xs.getD j 0) = false) (n : Nat) : ∀ f i, strS p F n f i xs = xs
  | 0, _ => rfl
  | f + 1, i => by
    rw [strS, run_fix h, if_neg (Nat.lt_irrefl i), strS_fix h n f]
    split <;> rfl
theorem low_kinds {e : Int} {l : List Int} (h : Low (firstF l)) : kindsF e l = firstF l := by
  obtain ⟨xs, hx⟩ : ∃ xs, xs = firstF l := ⟨_, rfl⟩
  rw [← hx] at h
  have e1 : weakF e xs = xs := by
    unfold weakF
    rw [iterS_fix (st := stNsm e) (fun i => by rw [stNsm, if_neg (by have := h i; omega)]) _, iterS_fix (st := stEn e) (fun i => by rw [stEn, if_neg (by have := h i; omega)]) _, iterS_fix (st := stAl) (fun i => by rw [stAl, if_neg (by have := h i; omega)]) _, iterS_fix (st := stSep) (fun i => by rw [stSep, if_neg (by have := h i; omega)]) _]
  have e2 : numsF e xs = xs := by
    unfold numsF
    rw [strS_fix (fun j => by rcases h j with q | q <;> rw [q] <;> rfl), iterS_fix (st := stOn) (fun i => by rw [stOn, if_neg (by have := h i; omega)]) _, iterS_fix (st := stL e) (fun i => by rw [stL, if_neg (by have := h i; omega)]) _]
  have e3 : neutF e xs = xs := by
    unfold neutF
    rw [strS_fix (fun j => by rcases h j with q | q <;> rw [q] <;> rfl)]
  unfold kindsF
  rw [← hx, e1, e2, e3]
theorem rs_fix {e : Int} {fs : List Int} (h : Low fs) : ∀ j b out, rsF e fs j b out = out
  | 0, _, _ => rfl
  | j + 1, b, out => by
    have : rsB (fs.getD j 0) b = false := by rcases h j with q | q <;> rw [q] <;> rfl
    rw [rsF, this, rs_fix h j]; rfl
theorem first_one {l : List Int} {c : Int} (h : ∀ x ∈ l, impl_DirClass.g x = c) : firstF l = List.replicate l.length c := by
  unfold firstF
  rw [List.eq_replicate_iff]
  refine ⟨by rw [List.length_map], fun x hx => ?_⟩
  obtain ⟨y, hy, rfl⟩ := List.mem_map.1 hx
  exact h y hy
theorem low_rep (n : Nat) {c : Int} (hc : c = 0 ∨ c = 1) : Low (List.replicate n c) := by
  intro j
  rw [List.getD_eq_getElem?_getD, List.getElem?_replicate]
  split
  · exact hc
  · exact .inl rfl
theorem levF_one {l : List Int} {c : Int} (hc : c = 0 ∨ c = 1) (h : ∀ x ∈ l, impl_DirClass.g x = c) : levF c l = List.replicate l.length c := by
  have hf := first_one h
  have hlow : Low (firstF l) := by rw [hf]; exact low_rep _ hc
  unfold levF
  rw [rs_fix hlow, low_kinds hlow, hf, List.map_replicate]
  congr 1
  rcases hc with rfl | rfl <;> rfl
theorem levG_one {e : Int} {l : List Int} (h : ∀ x ∈ l, impl_DirClass.g x ≠ 11) : ∀ f i, l.length - i = f → i < l.length → levG e l f 0 i [] = levF e l
  | 0, i, hd, hi => by omega
  | f + 1, i, hd, hi => by
    have hg : ¬ impl_DirClass.g (l.getD i 0) = 11 := by
      rw [List.getD_eq_getElem?_getD, List.getElem?_eq_getElem hi]
      exact h _ (List.getElem_mem hi)
    rw [levG]
    by_cases c : i + 1 = l.length
    · rw [if_pos (.inr c), c, List.take_length, List.drop_zero, List.nil_append, show f = 0 by omega, levG]
    · rw [if_neg (fun q => q.elim hg c)]
      exact levG_one h f (i + 1) (by omega) (by omega)
theorem levs_left {l : List Int} (h : ∀ x ∈ l, impl_DirClass.g x = 0) : levsF l 0 = List.replicate l.length 0 := by
  unfold levsF
  rw [if_pos (.inl rfl)]
  by_cases c : l.length = 0
  · rw [c, levG]; rfl
  · rw [levG_one (fun x hx => by rw [h x hx]; decide) l.length 0 (by omega) (by omega)]
    exact levF_one (.inl rfl) h
theorem levs_right {l : List Int} (h : ∀ x ∈ l, impl_DirClass.g x = 1) : levsF l 2 = List.replicate l.length 1 := by
  unfold levsF
  rw [if_neg (by omega)]
  cases l with
  | nil => rfl
  | cons y t =>
    have hb : bl (y :: t) = 1 := by unfold bl; rw [h y List.mem_cons_self, if_pos (by omega), if_neg (by omega)]
    rw [hb, levG_one (fun x hx => by rw [h x hx]; decide) _ 0 (by omega) (by simp)]
    exact levF_one (.inr rfl) h
theorem foldl_top (c : Int) : ∀ n a, a = c ∨ n = 0 ∧ a = 0 ∨ (0 ≤ c ∧ a = 0) → (List.replicate n c).foldl (fun m x => mx m x) a = if n = 0 then a else c
  | 0, a, _ => rfl
  | n + 1, a, h => by
    rw [List.replicate_succ, List.foldl_cons]
    have e : mx a c = c := by unfold mx; split <;> omega
    rw [e, foldl_top c n c (.inl rfl)]
    split <;> simp
theorem rep_ok (n : Nat) {c : Int} (h0 : 0 ≤ c) (h1 : c ≤ 2) : AllP P02 (List.replicate n c) := by
  intro j hj
  rw [List.length_replicate] at hj
  rw [List.getD_eq_getElem?_getD, List.getElem?_replicate, if_pos hj]
  exact ⟨h0, h1⟩
theorem vis_left (n : Nat) : vis (List.replicate n 0) = ids n := by
  unfold vis top
  rw [if_pos (all_ok (rep_ok n (by omega) (by omega))), foldl_top 0 n 0 (.inl rfl), List.length_replicate]
  have : (if n = 0 then (0 : Int) else 0) = 0 := by split <;> rfl
  rw [this]; rfl
theorem scan_true (p : Int → Bool) (xs : List Int) : ∀ k i st, (∀ j, i ≤ j → j < i + k → p (xs.getD j 0) = true) → scan p k i st xs = fin (if k = 0 then st else some (st.getD i)) (i + k) xs
  | 0, i, st, _ => rfl
  | k + 1, i, st, h => by
    rw [scan, if_pos (h i (by omega) (by omega)), scan_true p xs k (i + 1) _ (fun j h1 h2 => h j (by omega) (by omega)), if_neg (show ¬ k + 1 = 0 by omega), show i + (k + 1) = i + 1 + k by omega]
    split <;> rfl
theorem ids_get (n j : Nat) (h : j < n) : (ids n).getD j 0 = (j : Int) := by
  unfold ids
  rw [List.getD_eq_getElem?_getD, List.getElem?_map, List.getElem?_range h]; rfl
theorem vis_right (n : Nat) : vis (List.replicate n 1) = (ids n).reverse := by
  unfold vis top
  rw [if_pos (all_ok (rep_ok n (by omega) (by omega))), foldl_top 1 n 0 (.inr (.inr ⟨by omega, rfl⟩)), List.length_replicate]
  by_cases c : n = 0
  · subst c; rfl
  · rw [if_neg c]
    show passes _ 1 (ids n) = _
    rw [passes, passes, List.length_replicate, scan_true _ _ n 0 none ?_, if_neg c]
    · show revSeg (ids n) 0 (0 + n) = _
      unfold revSeg
      rw [List.take_zero, List.drop_zero, List.nil_append, Nat.zero_add, Nat.sub_zero, List.take_of_length_le (by rw [ids_length]; omega), List.drop_of_length_le (by rw [ids_length]; omega), List.append_nil]
    · intro j _ hj
      unfold lvAt
      rw [ids_get n j (by omega), Int.toNat_natCast, List.getD_eq_getElem?_getD, List.getElem?_replicate, if_pos (by omega)]
      rfl
/-! ### what is drawn -/
theorem text_ev (c : List Int) (hc : c.length ≤ 1048576) (n : Nat) (hn : n ≤ 1000) (p s : Int) (h0 : 0 ≤ p) (h1 : p ≤ 1048576) : ∃ xs p' s', Ev (fun k => spec_l14Text.f k c p s n) (xs, p', s') ∧ xs.length ≤ 1000 ∧ 0 ≤ p' ∧ p' ≤ 1048576 := by
  have loop : ∀ (d i : Nat) (xs : List Int) (p s : Int), n - i = d → i ≤ n → xs.length ≤ i → 0 ≤ p → p ≤ 1048576 → ∃ ys p' s', Ev (fun k => spec_l14Text.l0 k n xs i c p s) (ys, p', s') ∧ ys.length ≤ 1000 ∧ 0 ≤ p' ∧ p' ≤ 1048576 := by
    intro d
    induction d with
    | zero =>
      intro i xs p s hd hi hx h0 h1
      exact ⟨xs, p, s, Ev.step (fun k => spec_l14Text.l0.eq_2 n xs i c p s k) (ev_neg (by omega) (ev_now rfl)), by omega, h0, h1⟩
    | succ d ih =>
      intro i xs p s hd hi hx h0 h1
      obtain ⟨v, p1, s1, e1, v0, v1, a1, b1⟩ := below_ev c hc p s 27 h0 h1 (by omega) (by omega)
      obtain ⟨ys, p2, s2, k2, r⟩ := ih (i + 1) (xs ++ [rd [97, 98, 1488, 1489, 1575, 49, 50, 1633, 43, 45, 36, 37, 44, 58, 769, 32, 32, 9, 10, 33, 40, 41, 8206, 8207, 8364, 12, 160] v]) p1 s1 (by omega) (by omega) (by rw [List.length_append]; simp only [List.length_cons, List.length_nil]; omega) a1 b1
      refine ⟨ys, p2, s2, Ev.step (fun k => spec_l14Text.l0.eq_2 n xs i c p s k) (ev_pos (by omega) (ev_bs (ev_bc e1 (ev_pos v0 (ev_pos (by simp only [List.length_cons, List.length_nil]; omega) (ev_pos (by omega) ?_)))))), r⟩
      rw [wrap_succ (i := i) (by omega)]
      exact k2
  obtain ⟨xs, p', s', k, r⟩ := loop n 0 [] p s (by omega) (by omega) (by simp) h0 h1
  exact ⟨xs, p', s', Ev.congr (fun k => spec_l14Text.f.eq_1 k c p s n) k, r⟩
theorem drawn_ev (c : List Int) (hc : c.length ≤ 1048576) : ∃ xs b, Ev (fun k => spec_DrawLevels.f k c) (xs, b) ∧ xs.length ≤ 1000 := by
  obtain ⟨s0, k0⟩ := new_ev c hc
  obtain ⟨n, hn, hl⟩ := size_ev c hc 60 (by omega)
  obtain ⟨xs, p, s, k, r, q0, q1⟩ := text_ev c hc n hl 0 s0 (by omega) (by omega)
  obtain ⟨v, p1, s1, e1, v0, v1, a1, b1⟩ := below_ev c hc p s 4 q0 q1 (by omega) (by omega)
  exact ⟨xs, _, Ev.congr (fun k => spec_DrawLevels.f.eq_1 k c) (Ev.bind k0 (ev_bc hn (Ev.bind k (ev_bc e1 (ev_now rfl))))), r⟩
/-! ### the law -/
theorem last_ev (R : List Int) (n : Nat) (hR : R.length = n) (hn : n ≤ 1048576) : Ev (fun k => laws_FnLevels.l3 k R (ids n).reverse 0) true := by
  refine ev_count (g := fun k i => laws_FnLevels.l3 k R (ids n).reverse i) n (fun _ => true) (Ev.step (fun k => laws_FnLevels.l3.eq_2 R _ _ k) (ev_neg (by omega) (ev_now rfl))) ?_ 0 (Nat.zero_le _)
  intro i hi ih
  have hl : (ids n).reverse.length = n := by rw [List.length_reverse, ids_length]
  have hg : rd (ids n).reverse (i : Int) = (n : Int) - 1 - i := by
    rw [rd_nat _ i (by omega), List.getElem_reverse]
    have : (ids n)[(ids n).length - 1 - i]'(by rw [ids_length]; omega) = (((ids n).length - 1 - i : Nat) : Int) := by unfold ids; simp only [List.getElem_map, List.getElem_range]
    rw [this, ids_length]; omega
  refine Ev.step (fun k => laws_FnLevels.l3.eq_2 R _ i k) (ev_pos (by omega) (ev_neg (by omega) (ev_pos (by omega) (ev_pos (by omega) (ev_pos ?_ ?_)))))
  · rw [hg, wrap_in (i := (R.length : Int) - 1) (by omega) (by omega), wrap_in (by omega) (by omega)]; omega
  · rw [wrap_succ (i := i) (by omega)]; exact ih
theorem mid_ev (L R B : List Int) (n : Nat) (hL : L.length = n) (hn : n ≤ 1048576) (h : Ev (fun k => laws_FnLevels.l3 k R B 0) true) : Ev (fun k => laws_FnLevels.l2 k L R (ids n) B 0) true := by
  refine ev_count (g := fun k i => laws_FnLevels.l2 k L R (ids n) B i) n (fun _ => true) (Ev.step (fun k => laws_FnLevels.l2.eq_2 L R _ B _ k) (ev_neg (by omega) h)) ?_ 0 (Nat.zero_le _)
  intro i hi ih
  have hl := ids_length n
  have hg : rd (ids n) (i : Int) = i := by rw [rd_getD, ids_get n i hi]
  refine Ev.step (fun k => laws_FnLevels.l2.eq_2 L R _ B i k) (ev_pos (by omega) (ev_neg (by omega) (ev_pos (by omega) (ev_pos (by omega) (ev_pos hg ?_)))))
  rw [wrap_succ (i := i) (by omega)]; exact ih
theorem parts_ev (cps : List Int) (hn : cps.length ≤ 1000) : Ev (fun k => laws_FnLevels.l1 k cps [] [] 0) true := by
  refine ev_loop (σ := List Int × List Int) (g := fun k s i => laws_FnLevels.l1 k cps s.1 s.2 i) cps.length (fun _ _ => true) (fun i s => (∀ x ∈ s.1, impl_DirClass.g x = 0) ∧ (∀ x ∈ s.2, impl_DirClass.g x = 1) ∧ s.1.length ≤ i ∧ s.2.length ≤ i) ?_ ?_ 0 (Nat.zero_le _) ([], []) ⟨(fun x hx => by cases hx), (fun x hx => by cases hx), by simp, by simp⟩
  · rintro ⟨L, R⟩ ⟨h1, h2, h3, h4⟩
    have h1 : ∀ x ∈ L, impl_DirClass.g x = 0 := h1
    have h2 : ∀ x ∈ R, impl_DirClass.g x = 1 := h2
    have h3 : L.length ≤ cps.length := h3
    have h4 : R.length ≤ cps.length := h4
    have k1 := levels_impl L 0 (by omega)
    have k2 := levels_impl R 2 (by omega)
    rw [levs_left h1] at k1
    rw [levs_right h2] at k2
    have v1 := vis_impl (List.replicate L.length 0) (by rw [List.length_replicate]; omega)
    have v2 := vis_impl (List.replicate R.length 1) (by rw [List.length_replicate]; omega)
    rw [vis_left] at v1
    rw [vis_right] at v2
    exact Ev.step (fun k => laws_FnLevels.l1.eq_2 cps L R _ k) (ev_neg (by omega) (Ev.bind k1 (ev_bc v1 (Ev.bind k2 (ev_bc v2 (mid_ev L R _ L.length rfl (by omega) (last_ev R R.length rfl (by omega))))))))
  · rintro i ⟨L, R⟩ hi ⟨h1, h2, h3, h4⟩ ih
    have h1 : ∀ x ∈ L, impl_DirClass.g x = 0 := h1
    have h2 : ∀ x ∈ R, impl_DirClass.g x = 1 := h2
    have h3 : L.length ≤ i := h3
    have h4 : R.length ≤ i := h4
    refine Ev.step (fun k => laws_FnLevels.l1.eq_2 cps L R i k) (ev_pos (by omega) (ev_pos (by omega) ?_))
    rw [wrap_succ (i := i) (by omega)]
    refine Ev.bind (dir_ev _) (ev_ite (fun c => ev_pos (by omega) (ev_bs (Ev.bind (dir_ev _) (ev_neg (by omega) ?_)))) (fun c => Ev.bind (dir_ev _) (ev_ite (fun d => ev_pos (by omega) ?_) (fun d => ?_))))
    · exact ih (L ++ [rd cps i], R) ⟨fun x hx => by rcases List.mem_append.1 hx with q | q; exact h1 x q; rw [List.mem_singleton.1 q]; exact c, h2, by show (L ++ [rd cps i]).length ≤ i + 1; rw [List.length_append]; simp; omega, by show R.length ≤ i + 1; omega⟩
    · exact ih (L, R ++ [rd cps i]) ⟨h1, fun x hx => by rcases List.mem_append.1 hx with q | q; exact h2 x q; rw [List.mem_singleton.1 q]; exact d, by show L.length ≤ i + 1; omega, by show (R ++ [rd cps i]).length ≤ i + 1; rw [List.length_append]; simp; omega⟩
    · exact ih (L, R) ⟨h1, h2, by show L.length ≤ i + 1; omega, by show R.length ≤ i + 1; omega⟩
theorem seen_ev (cps lv : List Int) (hn : cps.length ≤ 1000) (hl : lv.length = cps.length) (ha : AllP P02 lv) : Ev (fun k => laws_FnLevels.l0 k cps lv (vis lv) (List.replicate cps.length false) 0) true := by
  have hok := all_ok ha
  have hin := vis_in hok
  have hnd := vis_nodup hok
  have hvl : (vis lv).length = cps.length := by rw [hin.1, hl]
  refine ev_loop (g := fun k s i => laws_FnLevels.l0 k cps lv (vis lv) s i) cps.length (fun _ _ => true) (fun i s => s.length = cps.length ∧ ∀ j, s.getD j false = true → (j : Int) ∈ (vis lv).take i) ?_ ?_ 0 (Nat.zero_le _) _ ⟨by simp, fun j hj => ?_⟩
  · intro s hs
    exact Ev.step (fun k => laws_FnLevels.l0.eq_2 cps lv _ s _ k) (ev_neg (by omega) (parts_ev cps hn))
  · intro i s hi hs ih
    have hv := hin.2 (vis lv)[i] (List.getElem_mem (by omega))
    have hr : rd (vis lv) (i : Int) = (vis lv)[i] := rd_nat _ i (by omega)
    have hna := not_ahead hnd i (by omega)
    have hlv := ha i (by omega)
    obtain ⟨v, hvv⟩ : ∃ v, v = (vis lv)[i] := ⟨_, rfl⟩
    rw [← hvv] at hv hr hna
    have hlv : 0 ≤ lv.getD i 0 ∧ lv.getD i 0 ≤ 2 := hlv
    have hsn : ¬ rdOf false s v = true := by
      intro q
      have q : s.getD v.toNat false = true := q
      have := hs.2 _ q
      rw [Int.toNat_of_nonneg hv.1] at this
      exact hna this
    refine Ev.step (fun k => laws_FnLevels.l0.eq_2 cps lv _ s i k) (ev_pos (by omega) (ev_pos (by omega) ?_))
    rw [hr, rd_getD, wrap_succ (i := i) (by omega)]
    refine ev_neg (by omega) (ev_neg (by omega) (ev_pos (by omega) (ev_pos (by omega) (ev_neg hsn (ev_pos (by omega) (ev_neg (by omega) (ev_neg (by omega) (ih _ ⟨by rw [List.length_set]; exact hs.1, fun j hj => ?_⟩))))))))
    rw [List.take_add_one, List.getElem?_eq_getElem (by omega), List.mem_append]
    by_cases c : j = v.toNat
    · right
      rw [c, Int.toNat_of_nonneg hv.1, hvv]; simp
    · left
      refine hs.2 j ?_
      rwa [List.getD_eq_getElem?_getD, List.getElem?_set_ne (by omega), ← List.getD_eq_getElem?_getD] at hj
  · rw [List.getD_eq_getElem?_getD, List.getElem?_replicate] at hj
    split at hj <;> simp at hj
theorem FnLevels : laws_FnLevels.Pure := by
  intro c _ _ _
  refine Ev.rounds (r := true) ?_
  refine Ev.congr (fun k => laws_FnLevels.f.eq_1 k c) (ev_bc rfl (ev_ite (fun _ => ev_now rfl) (fun h => ?_)))
  have hc : c.length ≤ 1048576 := by have := of_decide_eq_false (by simpa using h : decide ((c.length : Int) > 1048576) = false); omega
  obtain ⟨cps, b, kd, hl⟩ := drawn_ev c hc
  have hlv := levsF_len cps b
  have ha := levsF_all cps b
  have hvl : (vis (levsF cps b)).length = cps.length := by rw [(vis_in (all_ok ha)).1, hlv]
  refine Ev.bind kd (Ev.bind (levels_impl cps b (by omega)) (ev_bc (vis_impl _ (by omega)) (Ev.bind (levels_spec cps b (by omega)) (Ev.bind (same_ev _ (by omega)) (ev_pos rfl (Ev.bind (vis_spec _ (by omega)) (Ev.bind (same_ev _ (by omega)) (ev_pos rfl ?_))))))))
  refine Ev.step (fun k => laws_FnLevels.j0.eq_2 cps _ _ _ k) (ev_neg (by simp [hvl]) (ev_pos (by omega) (ev_pos (by omega) ?_)))
  rw [Int.toNat_natCast]
  exact seen_ev cps _ hl hlv ha
end Go.Proofs.Ytpknhndanbgkmaa.Fact
