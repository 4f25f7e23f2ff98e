/- The program's Visual returns what the reference's returns, for all arguments. Conditions: none. -/
import Derived.Test.YtpknhndanbgkmaaMFnExactVisualx3
namespace Go.Proofs.Ytpknhndanbgkmaa.Fact
open Go.RowKit Go.Proofs.Ytpknhndanbgkmaa.MFnExactVisual Go.Proofs.YtpknhndanbgkmaaW.PrintWords Go.Proofs.YtpknhndanbgkmaaW.PrintLast
set_option linter.unusedVariables false
set_option linter.unusedSimpArgs false
/-! ### what comes from some round on -/
theorem ev_pos {α : Type} {c : Prop} [Decidable c] {f g : Nat → Option α} {r : α} (h : c) (k : Ev f r) : Ev (fun n => if c then f n else g n) r := by
  simpa only [if_pos h] using k
theorem ev_neg {α : Type} {c : Prop} [Decidable c] {f g : Nat → Option α} {r : α} (h : ¬ c) (k : Ev g r) : Ev (fun n => if c then f n else g n) r := by
  simpa only [if_neg h] using k
theorem ev_now {α : Type} {q r : α} (h : q = r) : Ev (fun _ => some q) r := by rw [h]; exact Ev.now r
theorem ev_bs {α β : Type} {a : α} {f : Nat → α → Option β} {r : β} (k : Ev (fun n => f n a) r) : Ev (fun n => (some a).bind (f n)) r := by
  simpa only [Option.bind_some] using k
theorem ev_bc {α β : Type} {o : Option α} {a : α} {f : Nat → α → Option β} {r : β} (h : o = some a) (k : Ev (fun n => f n a) r) : Ev (fun n => o.bind (f n)) r := by
  rw [h]; exact ev_bs k
theorem wrap_in {i : Int} (h0 : -9223372036854775808 ≤ i) (h1 : i ≤ 9223372036854775807) : wrap64 i = i := by
  unfold wrap64
  omega
theorem i64_bounds {x : Int} (h : (Lit.int .i64 x).wf = true) : -9223372036854775808 ≤ x ∧ x ≤ 9223372036854775807 := by
  simp [Lit.wf, IntKind.min, IntKind.max, IntKind.signed, IntKind.bits] at h
  omega
theorem ev_ite {α : Type} {c : Prop} [Decidable c] {f g : Nat → Option α} {r : α} (h1 : c → Ev f r) (h2 : ¬ c → Ev g r) : Ev (fun n => if c then f n else g n) r := by
  by_cases h : c
  · exact ev_pos h (h1 h)
  · exact ev_neg h (h2 h)
theorem ev_to {α : Type} {f : Nat → Option α} {q r : α} (h : q = r) (k : Ev f q) : Ev f r := h ▸ k
theorem wrap_succ {i : Nat} (h : i < 9223372036854775807) : wrap64 ((i : Int) + 1) = ((i + 1 : Nat) : Int) := by
  rw [wrap_in (by omega) (by omega)]; rfl
theorem getD_nat {α : Type} (d : α) (xs : List α) (i : Nat) (h : i < xs.length) : xs.getD (i : Int).toNat d = xs[i] := by
  simp [List.getElem?_eq_getElem h]
/-- A loop that counts from i up to n, its state s. -/
theorem ev_loop {σ ρ : Type} {g : Nat → σ → Int → Option ρ} (n : Nat) (R : Nat → σ → ρ) (Inv : Nat → σ → Prop)
    (hend : ∀ s, Inv n s → Ev (fun k => g k s n) (R n s))
    (hstep : ∀ i s, i < n → Inv i s → (∀ s', Inv (i + 1) s' → Ev (fun k => g k s' ((i + 1 : Nat) : Int)) (R (i + 1) s')) → Ev (fun k => g k s i) (R i s)) :
    ∀ i, i ≤ n → ∀ s, Inv i s → Ev (fun k => g k s i) (R i s) := by
  have key : ∀ d i, n - i = d → i ≤ n → ∀ s, Inv i s → Ev (fun k => g k s i) (R i s) := by
    intro d
    induction d with
    | zero =>
      intro i hd hi s hs
      obtain rfl : i = n := by omega
      exact hend s hs
    | succ d ih =>
      intro i hd hi s hs
      exact hstep i s (by omega) hs (ih (i + 1) (by omega) (by omega))
  exact fun i hi s hs => key (n - i) i rfl hi s hs
/-- The same, without a state. -/
theorem ev_count {ρ : Type} {g : Nat → Int → Option ρ} (n : Nat) (R : Nat → ρ) (hend : Ev (fun k => g k n) (R n))
    (hstep : ∀ i, i < n → Ev (fun k => g k ((i + 1 : Nat) : Int)) (R (i + 1)) → Ev (fun k => g k i) (R i)) : ∀ i, i ≤ n → Ev (fun k => g k i) (R i) := by
  intro i hi
  exact ev_loop (σ := Unit) (g := fun k _ i => g k i) n (fun i _ => R i) (fun _ _ => True) (fun _ _ => hend) (fun i _ h _ ih => hstep i h (ih () trivial)) i hi () trivial
/-- A loop that writes F of each element into a list of the same length. -/
theorem ev_copy {α β : Type} {g : Nat → List β → Int → Option (List β)} (F : α → β) (xs : List α)
    (hend : ∀ ys : List β, ys.length = xs.length → Ev (fun k => g k ys xs.length) ys)
    (hstep : ∀ (ys : List β) (i : Nat) (h : i < xs.length), ys.length = xs.length → Ev (fun k => g k (ys.set i (F xs[i])) ((i + 1 : Nat) : Int)) (xs.map F) → Ev (fun k => g k ys i) (xs.map F))
    (ys : List β) (hl : ys.length = xs.length) : Ev (fun k => g k ys 0) (xs.map F) := by
  refine ev_loop (g := g) xs.length (fun _ _ => xs.map F) (fun i ys => ys.length = xs.length ∧ ys.take i = (xs.map F).take i) ?_ ?_ 0 (Nat.zero_le _) ys ⟨hl, rfl⟩
  · intro ys hs
    have e : ys = xs.map F := by
      have := hs.2
      rwa [List.take_of_length_le (by omega), List.take_of_length_le (by simp)] at this
    rw [← e]; exact hend ys hs.1
  · intro i ys hi hs ih
    refine hstep ys i hi hs.1 (ih _ ⟨by rw [List.length_set]; exact hs.1, ?_⟩)
    rw [List.take_succ_eq_append_getElem (by rw [List.length_set]; omega), List.take_succ_eq_append_getElem (by rw [List.length_map]; omega), List.take_set, hs.2, List.getElem_set_self, List.getElem_map]
    rw [List.set_eq_of_length_le (by simp; omega)]
theorem ite_eq {α : Type} {c : Prop} [Decidable c] {x y z : α} (h1 : c → x = z) (h2 : ¬ c → y = z) : (if c then x else y) = z := by
  by_cases h : c
  · rw [if_pos h]; exact h1 h
  · rw [if_neg h]; exact h2 h
theorem iteP {α : Type} {P : α → Prop} {c : Prop} [Decidable c] {x y : α} (h1 : c → P x) (h2 : ¬ c → P y) : P (if c then x else y) := by
  by_cases h : c
  · rw [if_pos h]; exact h1 h
  · rw [if_neg h]; exact h2 h
/-! ### the copies and comparisons of lists of numbers -/
theorem toIntS_loop (xs : List Int) (hn : xs.length ≤ 140737488351232) (d : Nat) : ∀ (ys : List Int) (i : Nat), xs.length - i = d → i ≤ xs.length → ys.length = xs.length → ys.take i = xs.take i → Ev (fun k => laws_toIntS.l0 k xs ys i) xs := by
  induction d with
  | zero =>
    intro ys i hd hi hl ht
    refine Ev.step (fun k => laws_toIntS.l0.eq_2 xs ys i k) (ev_neg (by omega) (ev_now ?_))
    rw [List.take_of_length_le (by omega), List.take_of_length_le (by omega)] at ht
    exact ht
  | succ d ih =>
    intro ys i hd hi hl ht
    refine Ev.step (fun k => laws_toIntS.l0.eq_2 xs ys i k) (ev_pos (by omega) (ev_pos (by omega) (ev_pos (by omega) ?_)))
    rw [wrap_in (by omega) (by omega), Int.toNat_natCast, rd_nat xs i (by omega)]
    refine ih (ys.set i xs[i]) (i + 1) (by omega) (by omega) (by rw [List.length_set]; exact hl) ?_
    rw [List.take_succ_eq_append_getElem (by rw [List.length_set]; omega), List.take_succ_eq_append_getElem (by omega), List.take_set, ht, List.getElem_set_self]
    rw [List.set_eq_of_length_le (by simp; omega)]
theorem toIntS_ev (xs : List Int) (hn : xs.length ≤ 1048576) : Ev (fun k => laws_toIntS.f k xs) xs := by
  refine Ev.congr (fun k => by unfold laws_toIntS.f; rfl) (ev_pos (by omega) (ev_pos (by omega) ?_))
  exact toIntS_loop xs (by omega) xs.length _ 0 (by omega) (by omega) (by simp) (by simp)
theorem eqIntS_loop (xs : List Int) (hn : xs.length ≤ 140737488351232) (d : Nat) : ∀ i : Nat, xs.length - i = d → i ≤ xs.length → Ev (fun k => laws_eqIntS.l0 k xs xs i) true := by
  induction d with
  | zero =>
    intro i hd hi
    exact Ev.step (fun k => laws_eqIntS.l0.eq_2 xs xs i k) (ev_neg (by omega) (ev_now rfl))
  | succ d ih =>
    intro i hd hi
    refine Ev.step (fun k => laws_eqIntS.l0.eq_2 xs xs i k) (ev_pos (by omega) (ev_pos (by omega) (ev_pos (by omega) (ev_pos rfl ?_))))
    rw [wrap_in (by omega) (by omega)]
    exact ih (i + 1) (by omega) (by omega)
theorem eqIntS_ev (xs : List Int) (hn : xs.length ≤ 140737488351232) : Ev (fun k => laws_eqIntS.f k xs xs) true :=
  Ev.congr (fun k => by unfold laws_eqIntS.f; rfl) (ev_pos rfl (eqIntS_loop xs hn xs.length 0 (by omega) (by omega)))
/-! ### the marks -/
def mk (n : Nat) : List Int := (List.range n).map (fun i : Nat => (i : Int) + 1)
theorem mk_length (n : Nat) : (mk n).length = n := by simp [mk]
theorem mk_get (n i : Nat) (h : i < n) : (mk n)[i]'(by rw [mk_length]; exact h) = (i : Int) + 1 := by simp [mk]
theorem mark_ev (xs : List Int) (hn : xs.length ≤ 1099511627776) : Ev (fun k => laws_markIntS.f k xs 1) ((xs.length : Int) + 1, mk xs.length) := by
  refine Ev.congr (fun k => laws_markIntS.f.eq_1 k xs 1) ?_
  refine ev_loop (σ := List Int × Int) (g := fun k s i => laws_markIntS.l0 k s.1 s.2 i) xs.length (fun _ _ => ((xs.length : Int) + 1, mk xs.length)) (fun i s => s.1.length = xs.length ∧ s.1.take i = (mk xs.length).take i ∧ s.2 = (i : Int) + 1) ?_ ?_ 0 (Nat.zero_le _) (xs, 1) ⟨rfl, rfl, rfl⟩
  · rintro ⟨ys, a⟩ ⟨h1, h2, h3⟩
    have h1 : ys.length = xs.length := h1
    have h2 : ys.take xs.length = (mk xs.length).take xs.length := h2
    have h3 : a = (xs.length : Int) + 1 := h3
    refine Ev.step (fun k => laws_markIntS.l0.eq_2 ys a _ k) (ev_neg (by omega) (ev_now ?_))
    rw [List.take_of_length_le (by omega), List.take_of_length_le (by rw [mk_length]; omega)] at h2
    rw [h2, h3]
  · rintro i ⟨ys, a⟩ hi ⟨h1, h2, h3⟩ ih
    have h1 : ys.length = xs.length := h1
    have h2 : ys.take i = (mk xs.length).take i := h2
    have h3 : a = (i : Int) + 1 := h3
    refine Ev.step (fun k => laws_markIntS.l0.eq_2 ys a i k) (ev_pos (by omega) (ev_pos (by omega) ?_))
    rw [wrap_succ (i := i) (by omega), Int.toNat_natCast]
    refine ih (ys.set i a, wrap64 (a + 1)) ⟨by simp [h1], ?_, ?_⟩
    · show (ys.set i a).take (i + 1) = _
      rw [List.take_succ_eq_append_getElem (by rw [List.length_set]; omega), List.take_succ_eq_append_getElem (by rw [mk_length]; omega), List.take_set, h2, List.getElem_set_self, mk_get _ _ hi, h3]
      rw [List.set_eq_of_length_le (by simp; omega)]
    · show wrap64 (a + 1) = _
      rw [h3, wrap_in (by omega) (by omega)]; omega
theorem held_ev (n : Nat) (hn : n ≤ 1099511627776) : Ev (fun k => laws_heldIntS.f k (mk n) 1) ((n : Int) + 1) := by
  refine Ev.congr (fun k => laws_heldIntS.f.eq_1 k (mk n) 1) ?_
  refine ev_loop (g := fun k a i => laws_heldIntS.l0 k (mk n) a i) n (fun _ _ => (n : Int) + 1) (fun i a => a = (i : Int) + 1) ?_ ?_ 0 (Nat.zero_le _) 1 rfl
  · intro a h
    exact Ev.step (fun k => laws_heldIntS.l0.eq_2 (mk n) a _ k) (ev_neg (by rw [mk_length]; omega) (ev_now h))
  · intro i a hi h ih
    refine Ev.step (fun k => laws_heldIntS.l0.eq_2 (mk n) a i k) (ev_pos (by rw [mk_length]; omega) (ev_pos (by omega) (ev_pos ?_ ?_)))
    · rw [rd_nat (mk n) i (by rw [mk_length]; exact hi), mk_get n i hi, h]
    · rw [wrap_succ (i := i) (by omega)]
      exact ih _ (by rw [h, wrap_in (by omega) (by omega)]; omega)
/-! ### the visual order: the reference -/
theorem l12_in (a lo hi : Int) : spec_l12In.f a lo hi = some (decide (lo ≤ a ∧ a ≤ hi)) := by
  unfold spec_l12In.f
  split <;> simp <;> omega
theorem revSeg_get (xs : List Int) (s e j : Nat) (hs : s ≤ e) (he : e ≤ xs.length) : (revSeg xs s e)[j]? = if s ≤ j ∧ j < e then xs[s + e - 1 - j]? else xs[j]? := by
  unfold revSeg
  have h1 : (xs.take s).length = s := by simp; omega
  have h2 : ((xs.drop s).take (e - s)).reverse.length = e - s := by simp; omega
  by_cases c : j < s
  · rw [if_neg (by omega), List.append_assoc, List.getElem?_append_left (by omega), List.getElem?_take, if_pos c]
  · by_cases d : j < e
    · rw [if_pos (by omega), List.append_assoc, List.getElem?_append_right (by omega), h1, List.getElem?_append_left (by omega), List.getElem?_reverse (by simp; omega), List.getElem?_take, if_pos (by simp; omega), List.getElem?_drop]
      congr 1
      simp; omega
    · rw [if_neg (by omega), List.append_assoc, List.getElem?_append_right (by omega), h1, List.getElem?_append_right (by omega), h2, List.getElem?_drop]
      congr 1
      omega
theorem revSeg_self (xs : List Int) (s e : Nat) (h : e ≤ s + 1) (hs : s ≤ e) (he : e ≤ xs.length) : revSeg xs s e = xs := by
  apply List.ext_getElem?
  intro j
  rw [revSeg_get xs s e j hs he]
  split
  · congr 1; omega
  · rfl
theorem revSeg_swap (xs : List Int) (a m : Nat) (ha : a + 1 < m) (hm : m ≤ xs.length) : revSeg ((xs.set a (xs.getD (m - 1) 0)).set (m - 1) (xs.getD a 0)) (a + 1) (m - 1) = revSeg xs a m := by
  apply List.ext_getElem?
  intro j
  rw [revSeg_get _ _ _ j (by omega) (by simp; omega), revSeg_get xs a m j (by omega) hm]
  have g1 : xs.getD (m - 1) 0 = xs[m - 1] := by simp [List.getElem?_eq_getElem (show m - 1 < xs.length by omega)]
  have g2 : xs.getD a 0 = xs[a] := by simp [List.getElem?_eq_getElem (show a < xs.length by omega)]
  rw [g1, g2]
  by_cases c : a + 1 ≤ j ∧ j < m - 1
  · rw [if_pos c, if_pos (by omega), List.getElem?_set_ne (by omega), List.getElem?_set_ne (by omega)]
    congr 1; omega
  · rw [if_neg c]
    by_cases d : j = a
    · subst d
      rw [if_pos (by omega), List.getElem?_set_ne (by omega), List.getElem?_set_self (by omega), show j + m - 1 - j = m - 1 by omega, List.getElem?_eq_getElem (by omega)]
    · by_cases e : j = m - 1
      · subst e
        rw [if_pos (by omega), List.getElem?_set_self (by simp; omega), show a + m - 1 - (m - 1) = a by omega, List.getElem?_eq_getElem (by omega)]
      · rw [if_neg (by omega), List.getElem?_set_ne (by omega), List.getElem?_set_ne (by omega)]
/-- The exchange from both ends. -/
theorem swap_ev (l : List Int) (t e : Int) (R : List Int) : ∀ (d a m : Nat) (xs : List Int), m - a ≤ d → a ≤ m → m ≤ xs.length → xs.length ≤ 1048576 → Ev (fun k => spec_Visual.l2 k l (revSeg xs a m) t (wrap64 (e + 1))) R → Ev (fun k => spec_Visual.l4 k l xs t e ((m : Int) - 1) a) R := by
  intro d
  induction d with
  | zero =>
    intro a m xs hd ha hm hl h
    rw [revSeg_self xs a m (by omega) ha hm] at h
    exact Ev.step (fun k => spec_Visual.l4.eq_2 l xs t e _ _ k) (ev_neg (by omega) h)
  | succ d ih =>
    intro a m xs hd ha hm hl h
    by_cases c : a + 1 < m
    · rw [← revSeg_swap xs a m c hm] at h
      refine Ev.step (fun k => spec_Visual.l4.eq_2 l xs t e _ _ k) (ev_pos (by omega) (ev_pos (by omega) (ev_pos (by omega) (ev_pos (by omega) (ev_pos (by omega) ?_)))))
      rw [wrap_succ (i := a) (by omega), wrap_in (by omega) (by omega), Int.toNat_natCast]
      have e1 : ((m : Int) - 1).toNat = m - 1 := by omega
      have e2 : ((m : Int) - 1 - 1) = ((m - 1 : Nat) : Int) - 1 := by omega
      rw [e1, e2]
      have r1 : rd xs ((m : Int) - 1) = xs.getD (m - 1) 0 := by unfold rd; rw [e1]
      have r2 : rd xs (a : Int) = xs.getD a 0 := by unfold rd; rw [Int.toNat_natCast]
      rw [r1, r2]
      exact ih (a + 1) (m - 1) _ (by omega) (by omega) (by simp; omega) (by simp; omega) h
    · rw [revSeg_self xs a m (by omega) ha hm] at h
      exact Ev.step (fun k => spec_Visual.l4.eq_2 l xs t e _ _ k) (ev_neg (by omega) h)
def scanAt (p : Int → Bool) (n i : Nat) (xs : List Int) : List Int := if i ≤ n then scan p (n - i) i none xs else xs
def inR (n : Nat) (xs : List Int) : Prop := xs.length = n ∧ ∀ x ∈ xs, 0 ≤ x ∧ x < n
theorem inR_rev {n : Nat} {xs : List Int} (h : inR n xs) (s e : Nat) (hs : s ≤ e) (he : e ≤ n) : inR n (revSeg xs s e) :=
  ⟨by rw [revSeg_length xs s e hs (by have := h.1; omega)]; exact h.1, fun x hx => h.2 x (revSeg_mem xs s e x hx)⟩
/-- One pass. -/
theorem pass_ev (l : List Int) (hn : l.length ≤ 1048576) (t : Nat) (R r : List Int) (hR : Ev (fun k => spec_Visual.l1 k l r (wrap64 ((t : Int) - 1))) R) : ∀ (d i : Nat) (xs : List Int), l.length + 1 - i ≤ d → i ≤ l.length + 1 → inR l.length xs → scanAt (lvAt l t) l.length i xs = r → Ev (fun k => spec_Visual.l2 k l xs t i) R := by
  intro d
  induction d with
  | zero =>
    intro i xs hd hi hx h
    have hl := hx.1
    unfold scanAt at h
    rw [if_neg (by omega)] at h
    subst h
    exact Ev.step (fun k => spec_Visual.l2.eq_2 l xs t i k) (ev_neg (by omega) hR)
  | succ d ih =>
    intro i xs hd hi hx h
    have hl := hx.1
    by_cases c : i < l.length
    · unfold scanAt at h
      rw [if_pos (by omega)] at h
      have run : ∀ (q j : Nat), l.length - j = q → i ≤ j → j ≤ l.length → scan (lvAt l t) (l.length - j) j (if i < j then some i else none) xs = r → Ev (fun k => spec_Visual.l3 k l xs t j i) R := by
        intro q
        have close : ∀ j, i ≤ j → j ≤ l.length → scanAt (lvAt l t) l.length (j + 1) (revSeg xs i j) = r → Ev (fun k => spec_Visual.j4 k l xs t j i) R := by
          intro j hij hj hs
          refine Ev.step (fun k => spec_Visual.j4.eq_2 l xs t j i k) ?_
          rw [wrap_in (by omega) (by omega)]
          refine swap_ev l t j R (j - i) i j xs (Nat.le_refl _) hij (by omega) (by omega) ?_
          rw [wrap_succ (i := j) (by omega)]
          exact ih (j + 1) _ (by omega) (by omega) (inR_rev hx i j hij hj) hs
        have fins : ∀ j, i ≤ j → j ≤ l.length → fin (if i < j then some i else none) j xs = revSeg xs i j := by
          intro j hij hj
          by_cases e : i < j
          · rw [if_pos e]; rfl
          · rw [if_neg e]
            exact (revSeg_self xs i j (by omega) hij (by omega)).symm
        induction q with
        | zero =>
          intro j hq hij hj hs
          rw [hq, scan, fins j hij hj] at hs
          refine Ev.step (fun k => spec_Visual.l3.eq_2 l xs t j i k) (ev_neg (by omega) (close j hij hj ?_))
          unfold scanAt
          rw [if_neg (by omega)]
          exact hs
        | succ q ihq =>
          intro j hq hij hj hs
          have hj2 : j < xs.length := by omega
          rw [show l.length - j = (l.length - (j + 1)) + 1 by omega, scan, fins j hij hj] at hs
          have hg : xs.getD j 0 = xs[j] := by simp [List.getElem?_eq_getElem hj2]
          rw [hg] at hs
          have hr := hx.2 xs[j] (List.getElem_mem hj2)
          refine Ev.step (fun k => spec_Visual.l3.eq_2 l xs t j i k) (ev_pos (by omega) (ev_pos (by omega) ?_))
          rw [rd_nat xs j hj2, wrap_succ (i := j) (by omega)]
          refine ev_pos hr.1 (ev_pos hr.2 (ev_ite (fun g => ?_) (fun g => ?_)))
          · have e : lvAt l t xs[j] = true := decide_eq_true g
            rw [if_pos e] at hs
            refine ihq (j + 1) (by omega) (by omega) (by omega) ?_
            rw [if_pos (by omega)]
            have e2 : (if i < j then some i else none : Option Nat).getD j = i := by
              by_cases z : i < j
              · rw [if_pos z]; rfl
              · rw [if_neg z]; show j = i; omega
            rw [e2] at hs
            exact hs
          · have e : ¬ lvAt l t xs[j] = true := by unfold lvAt; rw [decide_eq_true_eq]; exact g
            rw [if_neg e] at hs
            refine close j hij hj ?_
            unfold scanAt
            rw [if_pos (by omega)]
            exact hs
      exact Ev.step (fun k => spec_Visual.l2.eq_2 l xs t i k) (ev_pos (by omega) (run _ i rfl (Nat.le_refl _) (by omega) (by rw [if_neg (by omega)]; exact h)))
    · unfold scanAt at h
      have hh : xs = r := by
        by_cases e : i ≤ l.length
        · rw [if_pos e, show l.length - i = 0 by omega, scan] at h
          exact h
        · rw [if_neg e] at h; exact h
      subst hh
      exact Ev.step (fun k => spec_Visual.l2.eq_2 l xs t i k) (ev_neg (by omega) hR)
theorem passes_ev (l : List Int) (hn : l.length ≤ 1048576) : ∀ (t : Nat) (xs : List Int), t ≤ 125 → inR l.length xs → Ev (fun k => spec_Visual.l1 k l xs t) (passes l t xs) := by
  intro t
  induction t with
  | zero =>
    intro xs _ _
    exact Ev.step (fun k => spec_Visual.l1.eq_2 l xs _ k) (ev_neg (by omega) (ev_now rfl))
  | succ t ih =>
    intro xs ht hx
    refine Ev.step (fun k => spec_Visual.l1.eq_2 l xs _ k) (ev_pos (by omega) ?_)
    have hr : inR l.length (scan (lvAt l (t + 1)) l.length 0 none xs) := ⟨by rw [scan_length _ _ _ _ _ (by have := hx.1; omega) (by simp)]; exact hx.1, fun x h => hx.2 x (scan_mem _ _ _ _ _ x h)⟩
    have hw : wrap64 (((t + 1 : Nat) : Int) - 1) = (t : Int) := by rw [wrap_in (by omega) (by omega)]; omega
    have nx := ih _ (by omega) hr
    rw [← hw] at nx
    exact pass_ev l hn (t + 1) (passes l (t + 1) xs) _ nx (l.length + 1) 0 xs (by omega) (by omega) hx (by unfold scanAt; rw [if_pos (by omega)]; rfl)
theorem ids_in (n : Nat) : inR n (ids n) := ⟨ids_length n, fun x hx => by simp only [ids, List.mem_map, List.mem_range] at hx; obtain ⟨i, hi, rfl⟩ := hx; omega⟩
theorem vis_spec (l : List Int) (hn : l.length ≤ 1048576) : Ev (fun k => spec_Visual.f k l) (vis l) := by
  refine Ev.congr (fun k => spec_Visual.f.eq_1 k l) ?_
  refine ev_loop (σ := List Int × Int) (g := fun k s i => spec_Visual.l0 k l s.1 s.2 i) l.length (fun _ _ => vis l) (fun i s => s.1 = ids i ∧ s.2 = top (l.take i) ∧ (l.take i).all lvOk = true) ?_ ?_ 0 (Nat.zero_le _) ([], 0) ⟨rfl, rfl, rfl⟩
  · rintro ⟨ys, m⟩ ⟨h1, h2, h3⟩
    have h1 : ys = ids l.length := h1
    have h2 : m = top (l.take l.length) := h2
    rw [List.take_length] at h2 h3
    have hv : vis l = passes l (top l).toNat (ids l.length) := by unfold vis; rw [if_pos h3]
    have h0 := top_nonneg l
    have h125 := top_le l h3
    refine Ev.step (fun k => spec_Visual.l0.eq_2 l ys m _ k) (ev_neg (by omega) ?_)
    rw [hv, h1, h2]
    obtain ⟨t, ht⟩ := Int.eq_ofNat_of_zero_le h0
    rw [ht, Int.toNat_natCast]
    exact passes_ev l hn t _ (by omega) (ids_in _)
  · rintro i ⟨ys, m⟩ hi ⟨h1, h2, h3⟩ ih
    have h1 : ys = ids i := h1
    have h2 : m = top (l.take i) := h2
    have hyl : ys.length = i := by rw [h1, ids_length]
    refine Ev.step (fun k => spec_Visual.l0.eq_2 l ys m i k) (ev_pos (by omega) (ev_pos (by omega) ?_))
    rw [rd_nat l i hi, wrap_succ (i := i) (by omega)]
    refine ev_bc (l12_in _ _ _) (ev_ite (fun g => ?_) (fun g => ?_))
    · rw [decide_eq_true_eq] at g
      have ok : (l.take (i + 1)).all lvOk = true := by
        rw [take_succ l i hi, List.all_append, h3]
        simp [lvOk]; omega
      have ids1 : ys ++ [(i : Int)] = ids (i + 1) := by rw [ids_succ, h1]
      refine ev_ite (fun e => ev_pos (by omega) (ih (ys ++ [(i : Int)], l[i]) ⟨ids1, ?_, ok⟩)) (fun e => ev_pos (by omega) (ih (ys ++ [(i : Int)], m) ⟨ids1, ?_, ok⟩))
      · show l[i] = _; rw [top_succ l i hi, ← h2]; unfold mx; rw [if_pos (by omega)]
      · show m = _; rw [top_succ l i hi, ← h2]; unfold mx; rw [if_neg (by omega)]
    · rw [decide_eq_true_eq] at g
      refine ev_now ?_
      rw [vis_no l i hi (by
        unfold lvOk
        by_cases z : 0 ≤ l[i]
        · rw [decide_eq_false (p := l[i] ≤ 125) (by omega), Bool.and_false]
        · rw [decide_eq_false z, Bool.false_and])]
theorem passes_length (l : List Int) : ∀ (t : Nat) (xs : List Int), xs.length = l.length → (passes l t xs).length = l.length := by
  intro t
  induction t with
  | zero => intro xs h; exact h
  | succ t ih => intro xs h; exact ih _ (by rw [scan_length _ _ _ _ _ (by omega) (by simp)]; exact h)
theorem vis_length (l : List Int) : (vis l).length ≤ l.length := by
  unfold vis
  split
  · rw [passes_length l _ _ (ids_length _)]; exact Nat.le_refl _
  · simp
theorem vis_impl (l : List Int) (hn : l.length ≤ 1048576) : impl_Visual.f l = some (vis l) := by unfold impl_Visual.f; rw [if_pos (by omega)]
theorem FnExactVisual : laws_FnExactVisual.Pure := by
  intro ws _ _ _
  refine Ev.rounds (r := true) ?_
  refine Ev.congr (fun k => laws_FnExactVisual.f.eq_1 k ws) (ev_ite (fun _ => ev_now rfl) (fun h => ?_))
  have hn : ws.length ≤ 1048576 := by omega
  have hr := vis_length ws
  refine Ev.bind (toIntS_ev ws hn) (Ev.bind (vis_spec ws hn) (Ev.bind (toIntS_ev ws hn) (ev_bc (vis_impl ws hn) (Ev.bind (eqIntS_ev _ (by omega)) (ev_pos rfl (Ev.bind (toIntS_ev ws hn) (Ev.bind (eqIntS_ev _ (by omega)) (ev_pos rfl ?_))))))))
  refine Ev.bind (mark_ev ws (by omega)) (ev_neg (by show ¬ _ < 0; omega) (Ev.bind (eqIntS_ev _ (by omega)) ?_))
  refine Ev.step (fun k => laws_FnExactVisual.j0.eq_2 ws _ _ _ k) (ev_neg (by simp) ?_)
  refine Ev.bind (mark_ev _ (by omega)) (Ev.bind (held_ev _ (by omega)) (ev_neg (by omega) (ev_pos rfl ?_)))
  exact Ev.bind (toIntS_ev ws hn) (ev_bc (vis_impl ws hn) (Ev.bind (eqIntS_ev _ (by omega)) (ev_pos rfl (Ev.bind (held_ev _ (by omega)) (ev_neg (by omega) (ev_pos rfl (ev_now rfl)))))))
end Go.Proofs.Ytpknhndanbgkmaa.Fact
