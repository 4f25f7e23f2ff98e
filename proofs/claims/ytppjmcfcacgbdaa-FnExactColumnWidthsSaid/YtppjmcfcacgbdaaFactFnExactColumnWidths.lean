/- For all lists of least and greatest widths and every room, the program's ColumnWidths answers what the reference's answers; the lists stay as they are; the answer is new memory. Conditions: none. -/
import Derived.Test.YtppjmcfcacgbdaaMFnExactColumnWidthsx8
import Derived.Laws.MathBits
namespace Go.Proofs.Ytppjmcfcacgbdaa.Fact
open Go.RowKit Go.Proofs.Ytppjmcfcacgbdaa.MFnExactColumnWidths Go.Proofs.YtppjmcfcacgbdaaW.PrintWords Go.Proofs.YtppjmcfcacgbdaaW.PrintLast
set_option linter.unusedVariables false
set_option linter.unusedSimpArgs false
/-! ### what comes from some round on -/
theorem ev_pos {α : Type} {c : Prop} [Decidable c] {f g : Nat → Option α} {r : α} (h : c) (k : Ev f r) : Ev (fun n => if c then f n else g n) r := by
  simpa only [if_pos h] using k
theorem ev_neg {α : Type} {c : Prop} [Decidable c] {f g : Nat → Option α} {r : α} (h : ¬ c) (k : Ev g r) : Ev (fun n => if c then f n else g n) r := by
  simpa only [if_neg h] using k
theorem ev_now {α : Type} {q r : α} (h : q = r) : Ev (fun _ => some q) r := by rw [h]; exact Ev.now r
theorem ev_bs {α β : Type} {a : α} {f : Nat → α → Option β} {r : β} (k : Ev (fun n => f n a) r) : Ev (fun n => (some a).bind (f n)) r := by
  simpa only [Option.bind_some] using k
theorem ev_bc {α β : Type} {o : Option α} {a : α} {f : Nat → α → Option β} {r : β} (h : o = some a) (k : Ev (fun n => f n a) r) : Ev (fun n => o.bind (f n)) r := by
  rw [h]; exact ev_bs k
theorem wrap_in {i : Int} (h0 : -9223372036854775808 ≤ i) (h1 : i ≤ 9223372036854775807) : wrap64 i = i := by
  unfold wrap64
  omega
theorem i64_bounds {x : Int} (h : (Lit.int .i64 x).wf = true) : -9223372036854775808 ≤ x ∧ x ≤ 9223372036854775807 := by
  simp [Lit.wf, IntKind.min, IntKind.max, IntKind.signed, IntKind.bits] at h
  omega
theorem ev_ite {α : Type} {c : Prop} [Decidable c] {f g : Nat → Option α} {r : α} (h1 : c → Ev f r) (h2 : ¬ c → Ev g r) : Ev (fun n => if c then f n else g n) r := by
  by_cases h : c
  · exact ev_pos h (h1 h)
  · exact ev_neg h (h2 h)
theorem ev_to {α : Type} {f : Nat → Option α} {q r : α} (h : q = r) (k : Ev f q) : Ev f r := h ▸ k
theorem wrap_succ {i : Nat} (h : i < 9223372036854775807) : wrap64 ((i : Int) + 1) = ((i + 1 : Nat) : Int) := by
  rw [wrap_in (by omega) (by omega)]; rfl
theorem getD_nat {α : Type} (d : α) (xs : List α) (i : Nat) (h : i < xs.length) : xs.getD (i : Int).toNat d = xs[i] := by
  simp [List.getElem?_eq_getElem h]
/-- A loop that counts from i up to n, its state s. -/
theorem ev_loop {σ ρ : Type} {g : Nat → σ → Int → Option ρ} (n : Nat) (R : Nat → σ → ρ) (Inv : Nat → σ → Prop)
    (hend : ∀ s, Inv n s → Ev (fun k => g k s n) (R n s))
    (hstep : ∀ i s, i < n → Inv i s → (∀ s', Inv (i + 1) s' → Ev (fun k => g k s' ((i + 1 : Nat) : Int)) (R (i + 1) s')) → Ev (fun k => g k s i) (R i s)) :
    ∀ i, i ≤ n → ∀ s, Inv i s → Ev (fun k => g k s i) (R i s) := by
  have key : ∀ d i, n - i = d → i ≤ n → ∀ s, Inv i s → Ev (fun k => g k s i) (R i s) := by
    intro d
    induction d with
    | zero =>
      intro i hd hi s hs
      obtain rfl : i = n := by omega
      exact hend s hs
    | succ d ih =>
      intro i hd hi s hs
      exact hstep i s (by omega) hs (ih (i + 1) (by omega) (by omega))
  exact fun i hi s hs => key (n - i) i rfl hi s hs
/-- The same, without a state. -/
theorem ev_count {ρ : Type} {g : Nat → Int → Option ρ} (n : Nat) (R : Nat → ρ) (hend : Ev (fun k => g k n) (R n))
    (hstep : ∀ i, i < n → Ev (fun k => g k ((i + 1 : Nat) : Int)) (R (i + 1)) → Ev (fun k => g k i) (R i)) : ∀ i, i ≤ n → Ev (fun k => g k i) (R i) := by
  intro i hi
  exact ev_loop (σ := Unit) (g := fun k _ i => g k i) n (fun i _ => R i) (fun _ _ => True) (fun _ _ => hend) (fun i _ h _ ih => hstep i h (ih () trivial)) i hi () trivial
/-- A loop that writes F of each element into a list of the same length. -/
theorem ev_copy {α β : Type} {g : Nat → List β → Int → Option (List β)} (F : α → β) (xs : List α)
    (hend : ∀ ys : List β, ys.length = xs.length → Ev (fun k => g k ys xs.length) ys)
    (hstep : ∀ (ys : List β) (i : Nat) (h : i < xs.length), ys.length = xs.length → Ev (fun k => g k (ys.set i (F xs[i])) ((i + 1 : Nat) : Int)) (xs.map F) → Ev (fun k => g k ys i) (xs.map F))
    (ys : List β) (hl : ys.length = xs.length) : Ev (fun k => g k ys 0) (xs.map F) := by
  refine ev_loop (g := g) xs.length (fun _ _ => xs.map F) (fun i ys => ys.length = xs.length ∧ ys.take i = (xs.map F).take i) ?_ ?_ 0 (Nat.zero_le _) ys ⟨hl, rfl⟩
  · intro ys hs
    have e : ys = xs.map F := by
      have := hs.2
      rwa [List.take_of_length_le (by omega), List.take_of_length_le (by simp)] at this
    rw [← e]; exact hend ys hs.1
  · intro i ys hi hs ih
    refine hstep ys i hi hs.1 (ih _ ⟨by rw [List.length_set]; exact hs.1, ?_⟩)
    rw [List.take_succ_eq_append_getElem (by rw [List.length_set]; omega), List.take_succ_eq_append_getElem (by rw [List.length_map]; omega), List.take_set, hs.2, List.getElem_set_self, List.getElem_map]
    rw [List.set_eq_of_length_le (by simp; omega)]
theorem ite_eq {α : Type} {c : Prop} [Decidable c] {x y z : α} (h1 : c → x = z) (h2 : ¬ c → y = z) : (if c then x else y) = z := by
  by_cases h : c
  · rw [if_pos h]; exact h1 h
  · rw [if_neg h]; exact h2 h
theorem iteP {α : Type} {P : α → Prop} {c : Prop} [Decidable c] {x y : α} (h1 : c → P x) (h2 : ¬ c → P y) : P (if c then x else y) := by
  by_cases h : c
  · rw [if_pos h]; exact h1 h
  · rw [if_neg h]; exact h2 h
/-! ### the copies and comparisons of lists of numbers -/
theorem rd_nat (xs : List Int) (i : Nat) (h : i < xs.length) : rd xs (i : Int) = xs[i] := by
  simp [rd, List.getElem?_eq_getElem h]
theorem toIntS_loop (xs : List Int) (hn : xs.length ≤ 140737488351232) (d : Nat) : ∀ (ys : List Int) (i : Nat), xs.length - i = d → i ≤ xs.length → ys.length = xs.length → ys.take i = xs.take i → Ev (fun k => laws_toIntS.l0 k xs ys i) xs := by
  induction d with
  | zero =>
    intro ys i hd hi hl ht
    refine Ev.step (fun k => laws_toIntS.l0.eq_2 xs ys i k) (ev_neg (by omega) (ev_now ?_))
    rw [List.take_of_length_le (by omega), List.take_of_length_le (by omega)] at ht
    exact ht
  | succ d ih =>
    intro ys i hd hi hl ht
    refine Ev.step (fun k => laws_toIntS.l0.eq_2 xs ys i k) (ev_pos (by omega) (ev_pos (by omega) (ev_pos (by omega) ?_)))
    rw [wrap_in (by omega) (by omega), Int.toNat_natCast, rd_nat xs i (by omega)]
    refine ih (ys.set i xs[i]) (i + 1) (by omega) (by omega) (by rw [List.length_set]; exact hl) ?_
    rw [List.take_succ_eq_append_getElem (by rw [List.length_set]; omega), List.take_succ_eq_append_getElem (by omega), List.take_set, ht, List.getElem_set_self]
    rw [List.set_eq_of_length_le (by simp; omega)]
theorem toIntS_ev (xs : List Int) (hn : xs.length ≤ 1048576) : Ev (fun k => laws_toIntS.f k xs) xs := by
  refine Ev.congr (fun k => by unfold laws_toIntS.f; rfl) (ev_pos (by omega) (ev_pos (by omega) ?_))
  exact toIntS_loop xs (by omega) xs.length _ 0 (by omega) (by omega) (by simp) (by simp)
theorem eqIntS_loop (xs : List Int) (hn : xs.length ≤ 140737488351232) (d : Nat) : ∀ i : Nat, xs.length - i = d → i ≤ xs.length → Ev (fun k => laws_eqIntS.l0 k xs xs i) true := by
  induction d with
  | zero =>
    intro i hd hi
    exact Ev.step (fun k => laws_eqIntS.l0.eq_2 xs xs i k) (ev_neg (by omega) (ev_now rfl))
  | succ d ih =>
    intro i hd hi
    refine Ev.step (fun k => laws_eqIntS.l0.eq_2 xs xs i k) (ev_pos (by omega) (ev_pos (by omega) (ev_pos (by omega) (ev_pos rfl ?_))))
    rw [wrap_in (by omega) (by omega)]
    exact ih (i + 1) (by omega) (by omega)
theorem eqIntS_ev (xs : List Int) (hn : xs.length ≤ 140737488351232) : Ev (fun k => laws_eqIntS.f k xs xs) true :=
  Ev.congr (fun k => by unfold laws_eqIntS.f; rfl) (ev_pos rfl (eqIntS_loop xs hn xs.length 0 (by omega) (by omega)))
/-! ### the marks, from any number on -/
def mkF (b : Int) (n : Nat) : List Int := (List.range n).map (fun i : Nat => b + (i : Int))
theorem mkF_length (b : Int) (n : Nat) : (mkF b n).length = n := by simp [mkF]
theorem mkF_get (b : Int) (n i : Nat) (h : i < n) : (mkF b n)[i]'(by rw [mkF_length]; exact h) = b + (i : Int) := by simp [mkF]
theorem mark_at (xs : List Int) (b : Int) (hb : 0 ≤ b) (hb1 : b ≤ 1099511627776) (hn : xs.length ≤ 1099511627776) : Ev (fun k => laws_markIntS.f k xs b) (b + (xs.length : Int), mkF b xs.length) := by
  refine Ev.congr (fun k => laws_markIntS.f.eq_1 k xs b) ?_
  refine ev_loop (σ := List Int × Int) (g := fun k s i => laws_markIntS.l0 k s.1 s.2 i) xs.length (fun _ _ => (b + (xs.length : Int), mkF b xs.length)) (fun i s => s.1.length = xs.length ∧ s.1.take i = (mkF b xs.length).take i ∧ s.2 = b + (i : Int)) ?_ ?_ 0 (Nat.zero_le _) (xs, b) ⟨rfl, rfl, by simp⟩
  · rintro ⟨ys, a⟩ ⟨h1, h2, h3⟩
    have h1 : ys.length = xs.length := h1
    have h2 : ys.take xs.length = (mkF b xs.length).take xs.length := h2
    have h3 : a = b + (xs.length : Int) := h3
    refine Ev.step (fun k => laws_markIntS.l0.eq_2 ys a _ k) (ev_neg (by omega) (ev_now ?_))
    rw [List.take_of_length_le (by omega), List.take_of_length_le (by rw [mkF_length]; omega)] at h2
    rw [h2, h3]
  · rintro i ⟨ys, a⟩ hi ⟨h1, h2, h3⟩ ih
    have h1 : ys.length = xs.length := h1
    have h2 : ys.take i = (mkF b xs.length).take i := h2
    have h3 : a = b + (i : Int) := h3
    refine Ev.step (fun k => laws_markIntS.l0.eq_2 ys a i k) (ev_pos (by omega) (ev_pos (by omega) ?_))
    rw [wrap_succ (i := i) (by omega), Int.toNat_natCast]
    refine ih (ys.set i a, wrap64 (a + 1)) ⟨by simp [h1], ?_, ?_⟩
    · show (ys.set i a).take (i + 1) = _
      rw [List.take_succ_eq_append_getElem (by rw [List.length_set]; omega), List.take_succ_eq_append_getElem (by rw [mkF_length]; omega), List.take_set, h2, List.getElem_set_self, mkF_get _ _ _ hi, h3]
      rw [List.set_eq_of_length_le (by simp; omega)]
    · show wrap64 (a + 1) = _
      rw [h3, wrap_in (by omega) (by omega)]; omega
theorem held_at (b : Int) (n : Nat) (hb : 0 ≤ b) (hb1 : b ≤ 1099511627776) (hn : n ≤ 1099511627776) : Ev (fun k => laws_heldIntS.f k (mkF b n) b) (b + (n : Int)) := by
  refine Ev.congr (fun k => laws_heldIntS.f.eq_1 k (mkF b n) b) ?_
  refine ev_loop (g := fun k a i => laws_heldIntS.l0 k (mkF b n) a i) n (fun _ _ => b + (n : Int)) (fun i a => a = b + (i : Int)) ?_ ?_ 0 (Nat.zero_le _) b (by simp)
  · intro a h
    exact Ev.step (fun k => laws_heldIntS.l0.eq_2 (mkF b n) a _ k) (ev_neg (by rw [mkF_length]; omega) (ev_now h))
  · intro i a hi h ih
    refine Ev.step (fun k => laws_heldIntS.l0.eq_2 (mkF b n) a i k) (ev_pos (by rw [mkF_length]; omega) (ev_pos (by omega) (ev_pos ?_ ?_)))
    · rw [rd_nat (mkF b n) i (by rw [mkF_length]; exact hi), mkF_get b n i hi, h]
    · rw [wrap_succ (i := i) (by omega)]
      exact ih _ (by rw [h, wrap_in (by omega) (by omega)]; omega)
/-! ### the quotient, bit by bit and by words -/
/-- What MulDiv is to answer. -/
def mdq (a b c : Int) : Int := if a * b / c > 4611686018427387904 then 0 else a * b / c
theorem mdq_zero {a b c T Q : Int} (hc : 0 < c) (hT : T ≤ a * b) (hQ : Q * c ≤ T) (h : Q > 4611686018427387904) : mdq a b c = 0 := by
  unfold mdq
  have : Q ≤ a * b / c := (Int.le_ediv_iff_mul_le hc).2 (Int.le_trans hQ hT)
  rw [if_pos (by omega)]
theorem mdq_is {a b c q r : Int} (hc : 0 < c) (h : q * c + r = a * b) (h0 : 0 ≤ r) (h1 : r < c) (hq : q ≤ 4611686018427387904) : mdq a b c = q := by
  have e : a * b / c = q := by
    rw [← h, Int.add_comm, Int.add_mul_ediv_right _ _ (by omega), Int.ediv_eq_zero_of_lt h0 h1]; omega
  unfold mdq
  rw [e, if_neg (by omega)]
theorem and_one (x : Int) (h0 : 0 ≤ x) (h1 : x ≤ 9223372036854775807) : Go.bits .and .i64 x 1 = x % 2 := by
  have := bits_mask .i64 63 (by decide) (fun n a b => by rw [IntKind.wrap_i64]; omega) 1 (by decide) x h0 (by omega)
  simpa using this
theorem shr_i64 (x : Int) (n : Nat) (hn : n ≤ 64) : shr .i64 x n = x / 2 ^ n := by
  unfold shr
  rw [show IntKind.i64.bits = 64 from rfl, Int.toNat_natCast, Nat.min_eq_left hn]
theorem two_step {a : Int} {n : Nat} (ha : 0 ≤ a) : a / 2 ^ n = 2 * (a / 2 ^ (n + 1)) + a / 2 ^ n % 2 := by
  have : a / 2 ^ (n + 1) = a / 2 ^ n / 2 := by rw [Int.ediv_ediv_of_nonneg (Int.le_of_lt (Int.pow_pos (by decide))), ← Int.pow_succ]
  rw [this]; omega
theorem top_le {a : Int} {n : Nat} (ha : 0 ≤ a) : a / 2 ^ n ≤ a := Int.ediv_le_self _ ha
theorem md_spec_loop (a b c : Int) (ha : 0 ≤ a) (ha1 : a ≤ 9223372036854775807) (hb : 0 ≤ b) (hb1 : b ≤ 9223372036854775807) (hc : 1 ≤ c) (hc1 : c ≤ 4611686018427387904) (n : Nat) :
    n ≤ 63 → ∀ q r : Int, 0 ≤ r → r < c → 0 ≤ q → q ≤ 4611686018427387904 → q * c + r = (a / 2 ^ n) * b → Ev (fun k => spec_MulDiv.l0 k a c q r (b / c) (b % c) ((n : Int) - 1)) (mdq a b c) := by
  have hbc := Int.mul_ediv_add_emod b c
  have hm0 : 0 ≤ b % c := Int.emod_nonneg _ (by omega)
  have hm1 : b % c < c := Int.emod_lt_of_pos _ (by omega)
  have hd0 : 0 ≤ b / c := Int.ediv_nonneg hb (by omega)
  have hd1 : b / c ≤ b := Int.ediv_le_self _ hb
  induction n with
  | zero =>
    intro _ q r h0 h1 h2 h3 h
    refine Ev.step (fun k => spec_MulDiv.l0.eq_2 a c q r (b / c) (b % c) _ k) (ev_neg (by omega) (ev_now ?_))
    exact (mdq_is (by omega) (by simpa using h) h0 h1 h3).symm
  | succ n ih =>
    intro hn q r h0 h1 h2 h3 h
    have ih := ih (by omega)
    have hstep := two_step (n := n) ha
    have htop : a / 2 ^ n ≤ a := top_le ha
    have htop0 : 0 ≤ a / 2 ^ n := Int.ediv_nonneg ha (Int.le_of_lt (Int.pow_pos (by decide)))
    have htopb : (a / 2 ^ n) * b ≤ a * b := Int.mul_le_mul_of_nonneg_right htop hb
    generalize hA : a / 2 ^ (n + 1) = A at *
    generalize hA' : a / 2 ^ n = A' at *
    have hbit : A' % 2 = 0 ∨ A' % 2 = 1 := by omega
    have hAb : A' * b = 2 * (A * b) + (A' % 2) * b := by
      conv => lhs; rw [hstep]
      rw [Int.add_mul, Int.mul_assoc]
    have hAb0 : 2 * (A * b) ≤ A' * b := by
      rw [hAb]
      rcases hbit with e | e <;> rw [e] <;> omega
    rw [show ((n + 1 : Nat) : Int) - 1 = n by omega]
    refine Ev.step (fun k => spec_MulDiv.l0.eq_2 a c q r (b / c) (b % c) n k) (ev_pos (by omega) (ev_ite (fun hq => ?_) (fun hq => ?_)))
    · refine ev_now (mdq_zero (T := 2 * (A * b)) (Q := 2 * q) (by omega) (by omega) ?_ (by omega)).symm
      rw [Int.mul_assoc, ← h]; omega
    -- behind the doubling
    have three : ∀ q1 r1 : Int, 0 ≤ r1 → r1 < c → 0 ≤ q1 → q1 ≤ 4611686018427387905 → q1 * c + r1 = 2 * (A * b) → Ev (fun k => spec_MulDiv.j3 k a c q1 r1 (b / c) (b % c) n) (mdq a b c) := by
      intro q1 r1 g0 g1 g2 g3 g
      refine Ev.step (fun k => spec_MulDiv.j3.eq_2 a c q1 r1 (b / c) (b % c) n k) (ev_pos (by omega) ?_)
      rw [shr_i64 a n (by omega), hA', and_one A' htop0 (by omega)]
      have back : wrap64 ((n : Int) - 1) = (n : Int) - 1 := wrap_in (by omega) (by omega)
      refine ev_ite (fun e => ?_) (fun e => ?_)
      · rw [e] at hAb
        rw [wrap_in (by omega) (by omega)]
        have hsum : (q1 + b / c) * c + (r1 + b % c) = A' * b := by
          rw [Int.add_mul, hAb, Int.one_mul, ← g]
          have : b / c * c = c * (b / c) := Int.mul_comm _ _
          omega
        refine ev_ite (fun e2 => ?_) (fun e2 => ?_)
        · refine ev_now (mdq_zero (T := A' * b) (Q := q1 + b / c) (by omega) htopb ?_ (by omega)).symm
          omega
        rw [wrap_in (i := r1 + b % c) (by omega) (by omega), wrap_in (i := q1 + b / c) (by omega) (by omega)]
        refine ev_ite (fun e3 => ?_) (fun e3 => ?_)
        · refine Ev.step (fun k => spec_MulDiv.j4.eq_2 a c _ _ (b / c) (b % c) n true k) (ev_pos rfl ?_)
          rw [wrap_in (by omega) (by omega), wrap_in (i := r1 + b % c - c) (by omega) (by omega), back]
          have hs2 : (q1 + b / c + 1) * c + (r1 + b % c - c) = A' * b := by rw [Int.add_mul, Int.one_mul, ← hsum]; omega
          refine ev_ite (fun e4 => ?_) (fun e4 => ?_)
          · refine ev_now (mdq_zero (T := A' * b) (Q := q1 + b / c + 1) (by omega) htopb ?_ (by omega)).symm
            omega
          · exact ih _ _ (by omega) (by omega) (by omega) (by omega) hs2
        · refine Ev.step (fun k => spec_MulDiv.j4.eq_2 a c _ _ (b / c) (b % c) n _ k) (ev_neg (by simp; omega) ?_)
          rw [back]
          refine ev_neg (by omega) ?_
          exact ih _ _ (by omega) (by omega) (by omega) (by omega) hsum
      · have e0 : A' % 2 = 0 := by omega
        rw [e0] at hAb
        rw [back]
        refine ev_ite (fun e2 => ?_) (fun e2 => ?_)
        · refine ev_now (mdq_zero (T := A' * b) (Q := q1) (by omega) htopb ?_ (by omega)).symm
          omega
        · exact ih _ _ g0 g1 g2 (by omega) (by omega)
    rw [wrap_in (i := 2 * r) (by omega) (by omega), wrap_in (i := 2 * q) (by omega) (by omega)]
    refine ev_ite (fun e => ?_) (fun e => ?_)
    · refine Ev.step (fun k => spec_MulDiv.j2.eq_2 a c _ _ (b / c) (b % c) n true k) (ev_pos rfl ?_)
      rw [wrap_in (by omega) (by omega), wrap_in (i := 2 * r - c) (by omega) (by omega)]
      refine three _ _ (by omega) (by omega) (by omega) (by omega) ?_
      rw [Int.add_mul, Int.mul_assoc, ← h]; omega
    · refine Ev.step (fun k => spec_MulDiv.j2.eq_2 a c _ _ (b / c) (b % c) n _ k) (ev_neg (by simp; omega) ?_)
      refine three _ _ (by omega) (by omega) (by omega) (by omega) ?_
      rw [Int.mul_assoc, ← h]; omega
/-- The guard of both. -/
def mdAll (a b c : Int) : Int := if a < 0 ∨ b < 0 ∨ c < 1 ∨ c > 4611686018427387904 then 0 else mdq a b c
theorem md_spec (a b c : Int) (ha1 : a ≤ 9223372036854775807) (hb1 : b ≤ 9223372036854775807) : Ev (fun k => spec_MulDiv.f k a b c) (mdAll a b c) := by
  have yes : (a < 0 ∨ b < 0 ∨ c < 1 ∨ c > 4611686018427387904) → Ev (fun k => spec_MulDiv.j0 k a b c true) (mdAll a b c) := fun h =>
    Ev.step (fun k => spec_MulDiv.j0.eq_2 a b c true k) (ev_pos rfl (ev_now (by unfold mdAll; rw [if_pos h])))
  refine Ev.congr (fun k => spec_MulDiv.f.eq_1 k a b c) (ev_ite (fun h => yes (by omega)) (fun h1 => ev_ite (fun h => yes (by omega)) (fun h2 => ev_ite (fun h => yes (by omega)) (fun h3 => ?_))))
  by_cases h4 : c > 4611686018427387904
  · rw [decide_eq_true h4]; exact yes (by omega)
  rw [decide_eq_false h4]
  refine Ev.step (fun k => spec_MulDiv.j0.eq_2 a b c false k) (ev_neg (by simp) (ev_neg (by omega) ?_))
  have e : mdAll a b c = mdq a b c := by unfold mdAll; rw [if_neg (by omega)]
  rw [e, Int.tdiv_eq_ediv_of_nonneg (by omega), Int.tmod_eq_emod_of_nonneg (by omega)]
  have hd0 : 0 ≤ b / c := Int.ediv_nonneg (by omega) (by omega)
  have hd1 : b / c ≤ b := Int.ediv_le_self _ (by omega)
  rw [wrap_in (i := b / c) (by omega) (by omega)]
  refine md_spec_loop a b c (by omega) ha1 (by omega) hb1 (by omega) (by omega) 63 (by omega) 0 0 (by omega) (by omega) (by omega) (by omega) ?_
  have : a / 2 ^ 63 = 0 := Int.ediv_eq_zero_of_lt (by omega) (by omega)
  rw [this]; simp
theorem w64 {x : Int} (h0 : 0 ≤ x) (h1 : x < 18446744073709551616) : IntKind.u64.wrap x = x := by rw [IntKind.wrap_u64]; omega
/-- One digit of the quotient: from a guess that is not too small down to the digit itself. V = v1 * 2^32 + v0, the three digits above it U = u32 * 2^32 + u1. -/
theorem digit {ρ : Type} {L : Nat → Int → Int → Option ρ} {J : Nat → Int → Int → Bool → Option ρ} {K : Nat → Int → Option ρ} {v1 v0 u32 u1 V U : Int} {R : ρ}
    (hL : ∀ k q r, L (k + 1) q r = if q ≥ 4294967296 then J k q r true else J k q r (decide ((IntKind.u64.wrap (q * v0)) > (IntKind.u64.wrap ((IntKind.u64.wrap (4294967296 * r)) + u1)))))
    (hJ : ∀ k q r b, J (k + 1) q r b = if b = true then (if (IntKind.u64.wrap (r + v1)) ≥ 4294967296 then K k (IntKind.u64.wrap (q - 1)) else L k (IntKind.u64.wrap (q - 1)) (IntKind.u64.wrap (r + v1))) else K k q)
    (hv1 : 2147483648 ≤ v1) (hv1' : v1 < 4294967296) (hv0 : 0 ≤ v0) (hv0' : v0 < 4294967296) (hu1 : 0 ≤ u1) (hu1' : u1 < 4294967296) (hV : V = v1 * 4294967296 + v0) (hU : U = u32 * 4294967296 + u1) (hu : 0 ≤ u32) (huV : u32 < V)
    (hK : Ev (fun k => K k (U / V)) R) (d : Nat) : ∀ q r : Int, q - U / V = d → q < 18446744073709551616 → q * v1 + r = u32 → 0 ≤ r → r < 4294967296 → Ev (fun k => L k q r) R := by
  have hVp : 0 < V := by omega
  have hq0 : 0 ≤ U / V := Int.ediv_nonneg (by omega) (by omega)
  have hqs : U / V < 4294967296 := (Int.ediv_lt_iff_lt_mul hVp).2 (by omega)
  induction d with
  | zero =>
    intro q r hd hq hr h0 h1
    have hqV : q * V ≤ U := by
      have : q ≤ U / V := by omega
      exact (Int.le_ediv_iff_mul_le hVp).1 this
    have hp : 0 ≤ q * v0 := Int.mul_nonneg (by omega) hv0
    have hp2 : q * v0 ≤ 4294967295 * 4294967295 := Int.mul_le_mul (by omega) (by omega) hv0 (by omega)
    have e : q * V = (q * v1) * 4294967296 + q * v0 := by rw [hV, Int.mul_add, Int.mul_assoc]
    refine Ev.step (hL · q r) (ev_neg (by omega) ?_)
    refine Ev.step (hJ · q r _) (ev_neg ?_ ?_)
    · rw [w64 hp (by omega), w64 (x := 4294967296 * r) (by omega) (by omega), w64 (by omega) (by omega)]
      simp; omega
    · rw [show q = U / V by omega]; exact hK
  | succ d ih =>
    intro q r hd hq hr h0 h1
    have hqV : U < q * V := by
      have : U / V < q := by omega
      exact (Int.ediv_lt_iff_lt_mul hVp).1 this
    have e : q * V = (q * v1) * 4294967296 + q * v0 := by rw [hV, Int.mul_add, Int.mul_assoc]
    have go : Ev (fun k => J k q r true) R := by
      refine Ev.step (hJ · q r true) (ev_pos rfl ?_)
      rw [w64 (x := r + v1) (by omega) (by omega), w64 (x := q - 1) (by omega) (by omega)]
      have e1 : (q - 1) * v1 + (r + v1) = u32 := by rw [Int.sub_mul, Int.one_mul]; omega
      refine ev_ite (fun c => ?_) (fun c => ih (q - 1) (r + v1) (by omega) (by omega) e1 (by omega) (by omega))
      have hle : (q - 1) * V ≤ U := by
        have hlt : q - 1 < 4294967296 := by
          rcases Int.lt_or_le (q - 1) 4294967296 with h | h
          · exact h
          · have : 4294967296 * v1 ≤ (q - 1) * v1 := Int.mul_le_mul_of_nonneg_right h (by omega)
            omega
        have : (q - 1) * v0 ≤ 4294967295 * 4294967295 := Int.mul_le_mul (by omega) (by omega) hv0 (by omega)
        have e2 : (q - 1) * V = ((q - 1) * v1) * 4294967296 + (q - 1) * v0 := by rw [hV, Int.mul_add, Int.mul_assoc]
        omega
      have : q - 1 ≤ U / V := (Int.le_ediv_iff_mul_le hVp).2 hle
      rw [show q - 1 = U / V by omega]; exact hK
    refine Ev.step (hL · q r) (ev_ite (fun _ => go) (fun c => ?_))
    have hp : 0 ≤ q * v0 := Int.mul_nonneg (by omega) hv0
    have hp2 : q * v0 ≤ 4294967295 * 4294967295 := Int.mul_le_mul (by omega) (by omega) hv0 (by omega)
    rw [w64 hp (by omega), w64 (x := 4294967296 * r) (by omega) (by omega), w64 (x := 4294967296 * r + u1) (by omega) (by omega)]
    rw [decide_eq_true (by omega)]; exact go
/-- The first guess is not too small. -/
theorem guess {v1 v0 u32 u1 V U : Int} (hv1 : 0 < v1) (hv0 : 0 ≤ v0) (hu1' : u1 < 4294967296) (hV : V = v1 * 4294967296 + v0) (hU : U = u32 * 4294967296 + u1) (hu : 0 ≤ u32) (hu1 : 0 ≤ u1) : U / V ≤ u32 / v1 := by
  have hVp : 0 < V := by omega
  have hq0 : 0 ≤ U / V := Int.ediv_nonneg (by omega) (by omega)
  refine (Int.le_ediv_iff_mul_le hv1).2 ?_
  have h1 : U / V * V ≤ U := Int.ediv_mul_le _ (by omega)
  generalize U / V = Q at *
  have e : Q * V = (Q * v1) * 4294967296 + Q * v0 := by rw [hV, Int.mul_add, Int.mul_assoc]
  have : 0 ≤ Q * v0 := Int.mul_nonneg hq0 hv0
  omega
theorem bitLen_bounds (n : Nat) : ∀ x : Nat, x ≤ n → 0 < x → x < 2 ^ 64 → 2 ^ (Lib.bitLen x - 1) ≤ x ∧ x < 2 ^ Lib.bitLen x ∧ 1 ≤ Lib.bitLen x := by
  induction n with
  | zero => intro x h1 h2; omega
  | succ n ih =>
    intro x h1 h2 h3
    have e := Lib.bitLen_half x (by omega) h3
    by_cases hx : x = 1
    · subst hx; decide
    obtain ⟨a, b, c⟩ := ih (x / 2) (by omega) (by omega) (by omega)
    rw [e]
    obtain ⟨m, hm⟩ : ∃ m, Lib.bitLen (x / 2) = m + 1 := ⟨Lib.bitLen (x / 2) - 1, by omega⟩
    rw [hm] at a b ⊢
    refine ⟨?_, ?_, by omega⟩
    · rw [show 1 + (m + 1) - 1 = m + 1 by omega, Nat.pow_succ]
      rw [show m + 1 - 1 = m by omega] at a
      omega
    · rw [show 1 + (m + 1) = (m + 1) + 1 by omega, Nat.pow_succ]; omega
theorem shift_of (y : Int) (h0 : 0 < y) (h1 : y ≤ 4611686018427387904) : ∃ s : Nat, 1 ≤ s ∧ s ≤ 63 ∧ (64 - (Lib.bitLen y.toNat : Int)) = s ∧ 9223372036854775808 ≤ y * 2 ^ s ∧ y * 2 ^ s < 18446744073709551616 := by
  obtain ⟨x, rfl⟩ := Int.eq_ofNat_of_zero_le (Int.le_of_lt h0)
  obtain ⟨a, b, c⟩ := bitLen_bounds x x (Nat.le_refl _) (by omega) (by omega)
  have hle : Lib.bitLen x ≤ 63 := Lib.bitLen_le x 63 (by omega) (by omega)
  rw [Int.toNat_natCast]
  have e : (2 : Nat) ^ (Lib.bitLen x - 1) * 2 ^ (64 - Lib.bitLen x) = 9223372036854775808 := by
    rw [← Nat.pow_add, show Lib.bitLen x - 1 + (64 - Lib.bitLen x) = 63 by omega]
  have e2 : (2 : Nat) ^ Lib.bitLen x * 2 ^ (64 - Lib.bitLen x) = 18446744073709551616 := by
    rw [← Nat.pow_add, show Lib.bitLen x + (64 - Lib.bitLen x) = 64 by omega]
  have p : 0 < (2 : Nat) ^ (64 - Lib.bitLen x) := Nat.two_pow_pos _
  have a2 := Nat.mul_le_mul_right (2 ^ (64 - Lib.bitLen x)) a
  have b2 := Nat.mul_lt_mul_of_pos_right b p
  refine ⟨64 - Lib.bitLen x, by omega, by omega, by omega, ?_, ?_⟩
  · have : ((x * 2 ^ (64 - Lib.bitLen x) : Nat) : Int) = (x : Int) * 2 ^ (64 - Lib.bitLen x) := by simp
    rw [← this]; omega
  · have : ((x * 2 ^ (64 - Lib.bitLen x) : Nat) : Int) = (x : Int) * 2 ^ (64 - Lib.bitLen x) := by simp
    rw [← this]; omega
theorem shl_u64 (x : Int) (n : Nat) (hn : n ≤ 64) : shl .u64 x n = (x * 2 ^ n) % 18446744073709551616 := by
  unfold shl
  rw [show IntKind.u64.bits = 64 from rfl, Int.toNat_natCast, Nat.min_eq_left hn, IntKind.wrap_u64]
theorem shr_u64 (x : Int) (n : Nat) (hn : n ≤ 64) : shr .u64 x n = x / 2 ^ n := by
  unfold shr
  rw [show IntKind.u64.bits = 64 from rfl, Int.toNat_natCast, Nat.min_eq_left hn]
theorem div64 (hi lo y : Int) (hy : 0 < y) (hy1 : y ≤ 4611686018427387904) (h0 : 0 ≤ hi) (h1 : hi < y) (l0 : 0 ≤ lo) (l1 : lo < 18446744073709551616) :
    ∃ rem, Ev (fun k => bits_Div64.f k hi lo y) ((hi * 18446744073709551616 + lo) / y, rem) := by
  by_cases hz : hi = 0
  · subst hz
    have a : 0 ≤ lo / y := Int.ediv_nonneg l0 (by omega)
    have b : lo / y ≤ lo := Int.ediv_le_self _ l0
    refine ⟨_, Ev.congr (fun k => bits_Div64.f.eq_1 k 0 lo y) (ev_neg (by omega) (ev_neg (by omega) (ev_pos rfl (ev_now (Prod.ext ?_ rfl)))))⟩
    show IntKind.u64.wrap (Int.tdiv lo y) = _
    rw [Int.tdiv_eq_ediv_of_nonneg l0, w64 a (by omega)]; simp
  obtain ⟨s, s1, s2, hs, v0, v1⟩ := shift_of y hy hy1
  have P : (0 : Int) < 2 ^ s := Int.pow_pos (by decide)
  have P2 : (0 : Int) < 2 ^ (64 - s) := Int.pow_pos (by decide)
  have PP : (2 : Int) ^ s * 2 ^ (64 - s) = 18446744073709551616 := by
    rw [← Int.pow_add, show s + (64 - s) = 64 by omega]; rfl
  obtain ⟨V, hV⟩ : ∃ V, V = y * 2 ^ s := ⟨_, rfl⟩
  obtain ⟨A, hA⟩ : ∃ A, A = hi * 2 ^ s := ⟨_, rfl⟩
  obtain ⟨C, hC⟩ : ∃ C, C = lo / 2 ^ (64 - s) := ⟨_, rfl⟩
  obtain ⟨D, hD⟩ : ∃ D, D = (lo * 2 ^ s) % 18446744073709551616 := ⟨_, rfl⟩
  have hA0 : 0 ≤ A := by rw [hA]; exact Int.mul_nonneg h0 (by omega)
  have hAV : A + 2 ^ s ≤ V := by
    rw [hA, hV]
    have := Int.mul_le_mul_of_nonneg_right (show hi + 1 ≤ y by omega) (Int.le_of_lt P)
    rw [Int.add_mul, Int.one_mul] at this
    exact this
  have hC0 : 0 ≤ C := by rw [hC]; exact Int.ediv_nonneg l0 (Int.le_of_lt P2)
  have hC1 : C < 2 ^ s := by rw [hC]; exact (Int.ediv_lt_iff_lt_mul P2).2 (by rw [PP]; exact l1)
  have hlo : lo * 2 ^ s = C * 18446744073709551616 + D := by
    have e1 : lo * 2 ^ s / 18446744073709551616 = C := by
      rw [← PP, Int.mul_comm (2 ^ s) (2 ^ (64 - s)), Int.mul_ediv_mul_of_pos_left _ _ P, hC]
    have := Int.mul_ediv_add_emod (lo * 2 ^ s) 18446744073709551616
    rw [e1, ← hD] at this
    omega
  have hD0 : 0 ≤ D ∧ D < 18446744073709551616 := by rw [hD]; omega
  have hN : (hi * 18446744073709551616 + lo) * 2 ^ s = (A + C) * 18446744073709551616 + D := by
    rw [Int.add_mul, hlo, hA, Int.mul_right_comm]; omega
  rw [← hV] at v0 v1
  have hu : A + C < V := by omega
  -- the two digits
  obtain ⟨q1, hq1⟩ : ∃ q, q = ((A + C) * 4294967296 + D / 4294967296) / V := ⟨_, rfl⟩
  obtain ⟨r1, hr1⟩ : ∃ r, r = ((A + C) * 4294967296 + D / 4294967296) % V := ⟨_, rfl⟩
  have d1 := Int.mul_ediv_add_emod ((A + C) * 4294967296 + D / 4294967296) V
  rw [← hq1, ← hr1] at d1
  have r10 : 0 ≤ r1 := by rw [hr1]; exact Int.emod_nonneg _ (by omega)
  have r11 : r1 < V := by rw [hr1]; exact Int.emod_lt_of_pos _ (by omega)
  obtain ⟨q0, hq0⟩ : ∃ q, q = (r1 * 4294967296 + D % 4294967296) / V := ⟨_, rfl⟩
  obtain ⟨r0, hr0⟩ : ∃ r, r = (r1 * 4294967296 + D % 4294967296) % V := ⟨_, rfl⟩
  have d0 := Int.mul_ediv_add_emod (r1 * 4294967296 + D % 4294967296) V
  rw [← hq0, ← hr0] at d0
  have r00 : 0 ≤ r0 := by rw [hr0]; exact Int.emod_nonneg _ (by omega)
  have r01 : r0 < V := by rw [hr0]; exact Int.emod_lt_of_pos _ (by omega)
  have q10 : 0 ≤ q1 := by rw [hq1]; exact Int.ediv_nonneg (by omega) (by omega)
  have q11 : q1 < 4294967296 := by rw [hq1]; exact (Int.ediv_lt_iff_lt_mul (by omega)).2 (by omega)
  have q00 : 0 ≤ q0 := by rw [hq0]; exact Int.ediv_nonneg (by omega) (by omega)
  have q01 : q0 < 4294967296 := by rw [hq0]; exact (Int.ediv_lt_iff_lt_mul (by omega)).2 (by omega)
  have hQ : (hi * 18446744073709551616 + lo) / y = q1 * 4294967296 + q0 := by
    have e : (hi * 18446744073709551616 + lo) / y = ((A + C) * 18446744073709551616 + D) / V := by
      rw [← hN, hV, Int.mul_ediv_mul_of_pos_left _ _ P]
    have e2 : (A + C) * 18446744073709551616 + D = r0 + (q1 * 4294967296 + q0) * V := by
      have e3 : (q1 * 4294967296 + q0) * V = V * q1 * 4294967296 + V * q0 := by rw [Int.add_mul, Int.mul_right_comm, Int.mul_comm q1 V, Int.mul_comm q0 V]
      omega
    rw [e, e2, Int.add_mul_ediv_right _ _ (by omega), Int.ediv_eq_zero_of_lt r00 r01]; omega
  have hvB : V / 4294967296 * 4294967296 + V % 4294967296 = V := by omega
  have hor : Go.bits .or .u64 A C = A + C := bits_join .u64 64 (by decide) (fun n a b => w64 a b) s A C hA0 (by rw [hA]; exact Int.mul_emod_left _ _) (by omega) hC0 hC1 (by omega)
  have hsw : IntKind.u64.wrap (s : Int) = s := w64 (by omega) (by omega)
  have hsw2 : IntKind.u64.wrap (64 - (s : Int)) = ((64 - s : Nat) : Int) := by rw [w64 (by omega) (by omega)]; omega
  refine ⟨r0 / 2 ^ s, Ev.congr (fun k => bits_Div64.f.eq_1 k hi lo y) (ev_neg (by omega) (ev_neg (by omega) (ev_neg hz (ev_bc (a := (s : Int)) ?_ ?_))))⟩
  · unfold bits_LeadingZeros64.f
    rw [if_pos (by omega), hs]
  rw [hsw, hsw2]
  refine ev_pos (by omega) (ev_pos (by omega) ?_)
  rw [shl_u64 y s (by omega), shl_u64 hi s (by omega), shr_u64 lo (64 - s) (by omega), shl_u64 lo s (by omega), ← hV, ← hA, ← hC, ← hD, Int.emod_eq_of_lt (a := V) (by omega) (by omega), Int.emod_eq_of_lt (a := A) (by omega) (by omega), hor,
    and_low32 V (by omega) (by omega), and_low32 D (by omega) (by omega), Int.tdiv_eq_ediv_of_nonneg (by omega)]
  refine ev_neg (by omega) ?_
  have g1 : 0 ≤ (A + C) / (V / 4294967296) := Int.ediv_nonneg (by omega) (by omega)
  have g2 : (A + C) / (V / 4294967296) ≤ A + C := Int.ediv_le_self _ (by omega)
  have g3 := Int.mul_ediv_add_emod (A + C) (V / 4294967296)
  have g4 : 0 ≤ (A + C) % (V / 4294967296) := Int.emod_nonneg _ (by omega)
  have g5 : (A + C) % (V / 4294967296) < V / 4294967296 := Int.emod_lt_of_pos _ (by omega)
  rw [Int.mul_comm] at g3
  have g6 : 0 ≤ (A + C) / (V / 4294967296) * (V / 4294967296) := Int.mul_nonneg g1 (by omega)
  rw [w64 g1 (by omega), w64 (x := (A + C) / (V / 4294967296) * (V / 4294967296)) (by omega) (by omega), w64 (x := A + C - (A + C) / (V / 4294967296) * (V / 4294967296)) (by omega) (by omega)]
  rw [hQ]
  obtain ⟨n1, hn1⟩ := Int.eq_ofNat_of_zero_le (show 0 ≤ (A + C) / (V / 4294967296) - ((A + C) * 4294967296 + D / 4294967296) / V by
    have := guess (v1 := V / 4294967296) (v0 := V % 4294967296) (u32 := A + C) (u1 := D / 4294967296) (by omega) (by omega) (by omega) hvB.symm rfl (by omega) (by omega)
    omega)
  refine digit (L := fun k q r => bits_Div64.l0 k V s (V / 4294967296) (V % 4294967296) (A + C) (D / 4294967296) (D % 4294967296) q r)
    (J := fun k q r b => bits_Div64.j1 k V s (V / 4294967296) (V % 4294967296) (A + C) (D / 4294967296) (D % 4294967296) q r b)
    (K := fun k q => bits_Div64.j2 k V s (V / 4294967296) (V % 4294967296) (A + C) (D / 4294967296) (D % 4294967296) q)
    (fun k q r => bits_Div64.l0.eq_2 V s _ _ _ _ _ q r k) (fun k q r b => bits_Div64.j1.eq_2 V s _ _ _ _ _ q r b k) (V := V) (by omega) (by omega) (by omega) (by omega) (by omega) (by omega) hvB.symm rfl (by omega) hu ?_ n1 _ _ hn1 (by omega) (by omega) (by omega) (by omega)
  rw [← hq1]
  refine Ev.step (fun k => bits_Div64.j2.eq_2 V s _ _ _ _ _ q1 k) (ev_neg (by omega) ?_)
  have hE : IntKind.u64.wrap ((IntKind.u64.wrap ((IntKind.u64.wrap ((A + C) * 4294967296)) + D / 4294967296)) - (IntKind.u64.wrap (q1 * V))) = r1 := by
    have : q1 * V = V * q1 := Int.mul_comm _ _
    simp only [IntKind.wrap_u64]
    generalize q1 * V = t at *
    omega
  rw [hE, Int.tdiv_eq_ediv_of_nonneg r10]
  have k1 : 0 ≤ r1 / (V / 4294967296) := Int.ediv_nonneg (by omega) (by omega)
  have k2 : r1 / (V / 4294967296) ≤ r1 := Int.ediv_le_self _ (by omega)
  have k3 := Int.mul_ediv_add_emod r1 (V / 4294967296)
  have k4 : 0 ≤ r1 % (V / 4294967296) := Int.emod_nonneg _ (by omega)
  have k5 : r1 % (V / 4294967296) < V / 4294967296 := Int.emod_lt_of_pos _ (by omega)
  rw [Int.mul_comm] at k3
  have k6 : 0 ≤ r1 / (V / 4294967296) * (V / 4294967296) := Int.mul_nonneg k1 (by omega)
  rw [w64 k1 (by omega), w64 (x := r1 / (V / 4294967296) * (V / 4294967296)) (by omega) (by omega), w64 (x := r1 - r1 / (V / 4294967296) * (V / 4294967296)) (by omega) (by omega)]
  obtain ⟨n0, hn0⟩ := Int.eq_ofNat_of_zero_le (show 0 ≤ r1 / (V / 4294967296) - (r1 * 4294967296 + D % 4294967296) / V by
    have := guess (v1 := V / 4294967296) (v0 := V % 4294967296) (u32 := r1) (u1 := D % 4294967296) (by omega) (by omega) (by omega) hvB.symm rfl (by omega) (by omega)
    omega)
  refine digit (L := fun k q r => bits_Div64.l1 k V s (V / 4294967296) (V % 4294967296) (D % 4294967296) q1 r r1 q)
    (J := fun k q r b => bits_Div64.j4 k V s (V / 4294967296) (V % 4294967296) (D % 4294967296) q1 r r1 q b)
    (K := fun k q => if 0 ≤ (s : Int) then (some (IntKind.u64.wrap ((IntKind.u64.wrap (q1 * 4294967296)) + q), shr .u64 (IntKind.u64.wrap ((IntKind.u64.wrap ((IntKind.u64.wrap (r1 * 4294967296)) + D % 4294967296)) - (IntKind.u64.wrap (q * V)))) s)) else none)
    (fun k q r => bits_Div64.l1.eq_2 V s _ _ _ q1 r r1 q k) (fun k q r b => bits_Div64.j4.eq_2 V s _ _ _ q1 r r1 q b k) (V := V) (by omega) (by omega) (by omega) (by omega) (by omega) (by omega) hvB.symm rfl (by omega) r11 ?_ n0 _ _ hn0 (by omega) (by omega) (by omega) (by omega)
  rw [← hq0]
  refine ev_pos (by omega) (ev_now ?_)
  have hE2 : IntKind.u64.wrap ((IntKind.u64.wrap ((IntKind.u64.wrap (r1 * 4294967296)) + D % 4294967296)) - (IntKind.u64.wrap (q0 * V))) = r0 := by
    have : q0 * V = V * q0 := Int.mul_comm _ _
    simp only [IntKind.wrap_u64]
    generalize q0 * V = t at *
    omega
  rw [hE2, shr_u64 r0 s (by omega), w64 (x := q1 * 4294967296) (by omega) (by omega), w64 (by omega) (by omega)]
theorem md_impl (a b c : Int) (ha1 : a ≤ 9223372036854775807) (hb1 : b ≤ 9223372036854775807) : Ev (fun k => impl_MulDiv.f k a b c) (mdAll a b c) := by
  have yes : (a < 0 ∨ b < 0 ∨ c < 1 ∨ c > 4611686018427387904) → Ev (fun k => impl_MulDiv.j0 k a b c true) (mdAll a b c) := fun h =>
    Ev.step (fun k => impl_MulDiv.j0.eq_2 a b c true k) (ev_pos rfl (ev_now (by unfold mdAll; rw [if_pos h])))
  refine Ev.congr (fun k => impl_MulDiv.f.eq_1 k a b c) (ev_ite (fun h => yes (by omega)) (fun h1 => ev_ite (fun h => yes (by omega)) (fun h2 => ev_ite (fun h => yes (by omega)) (fun h3 => ?_))))
  by_cases h4 : c > 4611686018427387904
  · rw [decide_eq_true h4]; exact yes (by omega)
  rw [decide_eq_false h4]
  have e : mdAll a b c = mdq a b c := by unfold mdAll; rw [if_neg (by omega)]
  rw [e]
  have hab : 0 ≤ a * b := Int.mul_nonneg (by omega) (by omega)
  have hab2 : a * b ≤ 9223372036854775807 * 9223372036854775807 := Int.mul_le_mul ha1 hb1 (by omega) (by omega)
  refine Ev.step (fun k => impl_MulDiv.j0.eq_2 a b c false k) (ev_neg (by simp) ?_)
  rw [w64 (x := a) (by omega) (by omega), w64 (x := b) (by omega) (by omega), w64 (x := c) (by omega) (by omega)]
  refine ev_bc (a := (a * b / 18446744073709551616, a * b % 18446744073709551616)) (by unfold bits_Mul64.f; rw [if_pos (by omega)]) ?_
  have hsum : a * b / 18446744073709551616 * 18446744073709551616 + a * b % 18446744073709551616 = a * b := by omega
  refine ev_ite (fun h => ev_now ?_) (fun h => ?_)
  · exact (mdq_zero (T := a * b) (Q := 18446744073709551616) (by omega) (Int.le_refl _) (by have h : c ≤ a * b / 18446744073709551616 := h; omega) (by omega)).symm
  obtain ⟨rem, hr⟩ := div64 (a * b / 18446744073709551616) (a * b % 18446744073709551616) c (by omega) (by omega) (by omega) (by omega) (by omega) (by omega)
  rw [hsum] at hr
  refine Ev.bind hr (ev_ite (fun h => ev_now ?_) (fun h => ev_now ?_))
  · unfold mdq; rw [if_pos h]
  · have : 0 ≤ a * b / c := Int.ediv_nonneg hab (by omega)
    show wrap64 (a * b / c) = _
    unfold mdq
    rw [if_neg h, wrap_in (by omega) (by simp at h; omega)]
/-! ### shares -/
def sm : List Int → Int
  | [] => 0
  | x :: t => x + sm t
def okW (ws : List Int) : Prop := ws.length ≤ 400 ∧ ∀ x ∈ ws, 0 ≤ x ∧ x ≤ 100000000000
theorem sm_bound : ∀ ws : List Int, (∀ x ∈ ws, 0 ≤ x ∧ x ≤ 100000000000) → 0 ≤ sm ws ∧ sm ws ≤ 100000000000 * (ws.length : Int)
  | [], _ => by simp [sm]
  | x :: t, h => by
    have h1 := h x (by simp)
    have h2 := sm_bound t (fun y hy => h y (by simp [hy]))
    simp only [sm, List.length_cons]
    omega
theorem sm_zero : ∀ ws : List Int, (∀ x ∈ ws, 0 ≤ x ∧ x ≤ 100000000000) → sm ws = 0 → ∀ x ∈ ws, x = 0
  | [], _, _ => by simp
  | x :: t, h, hs => by
    have h1 := h x (by simp)
    have h2 := sm_bound t (fun y hy => h y (by simp [hy]))
    simp only [sm] at hs
    intro y hy
    rcases List.mem_cons.1 hy with rfl | hy
    · omega
    · exact sm_zero t (fun y hy => h y (by simp [hy])) (by omega) y hy
theorem sm_drop (ws : List Int) (i : Nat) (h : i < ws.length) : sm (ws.drop i) = ws[i] + sm (ws.drop (i + 1)) := by
  rw [List.drop_eq_getElem_cons h]; rfl
/-- The shares, from a place on: t the total, n all weights together. -/
def spr (t n : Int) (even : Bool) : List Int → Int → List Int
  | [], _ => []
  | x :: xs, v => wrap64 (mdAll t (if even = true then v + 1 else v + x) n - mdAll t v n) :: spr t n even xs (if even = true then v + 1 else v + x)
def spread (t : Int) (ws : List Int) : List Int := if sm ws = 0 then spr t ws.length true ws 0 else spr t (sm ws) false ws 0
theorem spr_length (t n : Int) (even : Bool) : ∀ (ws : List Int) (v : Int), (spr t n even ws v).length = ws.length
  | [], _ => rfl
  | _ :: xs, _ => by simp [spr, spr_length t n even xs]
theorem spread_length (t : Int) (ws : List Int) : (spread t ws).length = ws.length := by
  unfold spread; split <;> exact spr_length _ _ _ _ _
theorem spr_drop (t n : Int) (even : Bool) (ws : List Int) (i : Nat) (h : i < ws.length) (v : Int) (acc : List Int) :
    acc ++ spr t n even (ws.drop i) v = (acc ++ [wrap64 (mdAll t (if even = true then v + 1 else v + ws[i]) n - mdAll t v n)]) ++ spr t n even (ws.drop (i + 1)) (if even = true then v + 1 else v + ws[i]) := by
  rw [List.drop_eq_getElem_cons h, List.append_assoc]; rfl
theorem spread_spec (t : Int) (ws : List Int) (ht : t ≤ 9223372036854775807) (hw : okW ws) : Ev (fun k => spec_l16Spread.f k t ws) (spread t ws) := by
  have hb := sm_bound ws hw.2
  have hl := hw.1
  refine Ev.congr (fun k => spec_l16Spread.f.eq_1 k t ws) ?_
  refine ev_loop (g := fun k s i => spec_l16Spread.l0 k t ws [] s i) ws.length (fun _ _ => spread t ws) (fun i s => s + sm (ws.drop i) = sm ws ∧ 0 ≤ s) ?_ ?_ 0 (Nat.zero_le _) 0 ⟨by simp, by omega⟩
  · rintro s ⟨h1, h2⟩
    rw [List.drop_of_length_le (Nat.le_refl _)] at h1
    obtain rfl : s = sm ws := by simpa [sm] using h1
    have fin : ∀ (n : Int) (even : Bool), n ≤ 9223372036854775807 → (even = true ↔ sm ws = 0) → spread t ws = spr t n even ws 0 → Ev (fun k => spec_l16Spread.j1 k t ws [] n even) (spread t ws) := by
      intro n even _ he hs
      rw [hs]
      refine Ev.step (fun k => spec_l16Spread.j1.eq_2 t ws [] n even k) ?_
      refine ev_loop (σ := List Int × Int) (g := fun k s i => spec_l16Spread.l1 k t ws s.1 n even s.2 i) ws.length (fun i s => s.1 ++ spr t n even (ws.drop i) s.2) (fun i s => s.1.length = i ∧ 0 ≤ s.2 ∧ (even = true → s.2 = i) ∧ (even = false → s.2 + sm (ws.drop i) = sm ws)) ?_ ?_ 0 (Nat.zero_le _) ([], 0) ⟨rfl, by simp, fun _ => rfl, fun _ => by simp⟩
      · rintro ⟨acc, v⟩ _
        refine Ev.step (fun k => spec_l16Spread.l1.eq_2 t ws acc n even v _ k) (ev_neg (by omega) (ev_now ?_))
        rw [List.drop_of_length_le (Nat.le_refl _)]; simp [spr]
      · rintro i ⟨acc, v⟩ hi ⟨g1, g2, g3, g4⟩ ih
        have g1 : acc.length = i := g1
        have g2 : 0 ≤ v := g2
        have g3 : even = true → v = i := g3
        have g4 : even = false → v + sm (ws.drop i) = sm ws := g4
        have hx := hw.2 ws[i] (List.getElem_mem hi)
        refine Ev.step (fun k => spec_l16Spread.l1.eq_2 t ws acc n even v i k) (ev_pos (by omega) (ev_pos (by omega) ?_))
        show Ev _ (acc ++ spr t n even (ws.drop i) v)
        rw [rd_nat ws i hi, wrap_succ (i := i) (by omega), spr_drop t n even ws i hi v acc]
        cases even with
        | true =>
          have h0 : ws[i] = 0 := sm_zero ws hw.2 (he.1 rfl) _ (List.getElem_mem hi)
          have hv := g3 rfl
          refine ev_pos rfl ?_
          rw [h0, Int.add_zero, wrap_in (i := v) (by omega) (by omega), wrap_in (i := v + 1) (by omega) (by omega)]
          simp only [if_true]
          refine Ev.bind (md_spec t _ n ht (by omega)) (Ev.bind (md_spec t _ n ht (by omega)) (ev_pos (by omega) ?_))
          exact ih (acc ++ [wrap64 (mdAll t (v + 1) n - mdAll t v n)], v + 1) ⟨by simp [g1], by show 0 ≤ v + 1; omega, fun _ => by show v + 1 = _; omega, fun h => by cases h⟩
        | false =>
          have hv := g4 rfl
          rw [sm_drop ws i hi] at hv
          have hd := sm_bound (ws.drop (i + 1)) (fun x hx => hw.2 x (List.mem_of_mem_drop hx))
          refine ev_neg (by simp) ?_
          rw [wrap_in (i := v + ws[i]) (by omega) (by omega)]
          simp only [Bool.false_eq_true, if_false]
          refine Ev.bind (md_spec t _ n ht (by omega)) (Ev.bind (md_spec t _ n ht (by omega)) (ev_pos (by omega) ?_))
          exact ih (acc ++ [wrap64 (mdAll t (v + ws[i]) n - mdAll t v n)], v + ws[i]) ⟨by simp [g1], by show 0 ≤ v + ws[i]; omega, fun h => (by cases h), fun _ => by show v + ws[i] + _ = _; omega⟩
    refine Ev.step (fun k => spec_l16Spread.l0.eq_2 t ws [] (sm ws) _ k) (ev_neg (by omega) (ev_ite (fun h => ?_) (fun h => ?_)))
    · rw [beq_iff_eq.mpr h]
      exact fin _ true (by omega) (by simp [h]) (by unfold spread; rw [if_pos h])
    · rw [beq_eq_false_iff_ne.mpr h]
      exact fin _ false (by omega) (by simp [h]) (by unfold spread; rw [if_neg h])
  · rintro i s hi ⟨h1, h2⟩ ih
    have hx := hw.2 ws[i] (List.getElem_mem hi)
    rw [sm_drop ws i hi] at h1
    have hd := sm_bound (ws.drop (i + 1)) (fun x hx => hw.2 x (List.mem_of_mem_drop hx))
    refine Ev.step (fun k => spec_l16Spread.l0.eq_2 t ws [] s i k) (ev_pos (by omega) (ev_pos (by omega) ?_))
    rw [rd_nat ws i hi, wrap_succ (i := i) (by omega), wrap_in (i := s + ws[i]) (by omega) (by omega)]
    exact ih _ ⟨by omega, by omega⟩
theorem spread_impl (t : Int) (ws : List Int) (ht : t ≤ 9223372036854775807) (hw : okW ws) : Ev (fun k => impl_spread.f k t ws) (spread t ws) := by
  have hb := sm_bound ws hw.2
  have hl := hw.1
  refine Ev.congr (fun k => impl_spread.f.eq_1 k t ws) ?_
  refine ev_loop (g := fun k s i => impl_spread.l0 k t ws s ws ws.length i) ws.length (fun _ _ => spread t ws) (fun i s => s + sm (ws.drop i) = sm ws ∧ 0 ≤ s) ?_ ?_ 0 (Nat.zero_le _) 0 ⟨by simp, by omega⟩
  · rintro s ⟨h1, h2⟩
    rw [List.drop_of_length_le (Nat.le_refl _)] at h1
    obtain rfl : s = sm ws := by simpa [sm] using h1
    refine Ev.step (fun k => impl_spread.l0.eq_2 t ws (sm ws) ws ws.length _ k) (ev_neg (by omega) ?_)
    by_cases hz : sm ws = 0
    · have hs : spread t ws = spr t ws.length true ws 0 := by unfold spread; rw [if_pos hz]
      rw [hs, hz]
      refine ev_loop (σ := List Int × Int) (g := fun k s i => impl_spread.l1 k t ws 0 s.1 s.2 ws ws.length i) ws.length (fun i s => s.1 ++ spr t ws.length true (ws.drop i) i) (fun i s => s.1.length = i ∧ s.2 = 0) ?_ ?_ 0 (Nat.zero_le _) ([], 0) ⟨rfl, rfl⟩
      · rintro ⟨acc, v⟩ _
        refine Ev.step (fun k => impl_spread.l1.eq_2 t ws 0 acc v ws ws.length _ k) (ev_neg (by omega) (ev_now ?_))
        rw [List.drop_of_length_le (Nat.le_refl _)]; simp [spr]
      · rintro i ⟨acc, v⟩ hi ⟨g1, g2⟩ ih
        have g1 : acc.length = i := g1
        obtain rfl : v = 0 := g2
        have h0 : ws[i] = 0 := sm_zero ws hw.2 hz _ (List.getElem_mem hi)
        refine Ev.step (fun k => impl_spread.l1.eq_2 t ws 0 acc 0 ws ws.length i k) (ev_pos (by omega) (ev_pos (by omega) (ev_pos (by omega) (ev_pos rfl ?_))))
        show Ev _ (acc ++ spr t ws.length true (ws.drop i) i)
        rw [rd_nat ws i hi, h0, wrap_succ (i := i) (by omega), spr_drop t ws.length true ws i hi i acc]
        simp only [if_true]
        refine Ev.step (fun k => impl_spread.j2.eq_2 t ws 0 acc 0 0 i _ ws ws.length i k) (ev_pos rfl ?_)
        refine Ev.bind (md_impl t _ _ ht (by omega)) (Ev.bind (md_impl t _ _ ht (by omega)) (ev_pos (by omega) ?_))
        rw [wrap_succ (i := i) (by omega)]
        exact ih (acc ++ [wrap64 (mdAll t ((i + 1 : Nat) : Int) ws.length - mdAll t i ws.length)], wrap64 (0 + 0)) ⟨by simp [g1], by show wrap64 (0 + 0) = 0; decide +kernel⟩
    · have hs : spread t ws = spr t (sm ws) false ws 0 := by unfold spread; rw [if_neg hz]
      rw [hs]
      refine ev_loop (σ := List Int × Int) (g := fun k s i => impl_spread.l1 k t ws (sm ws) s.1 s.2 ws ws.length i) ws.length (fun i s => s.1 ++ spr t (sm ws) false (ws.drop i) s.2) (fun i s => s.1.length = i ∧ 0 ≤ s.2 ∧ s.2 + sm (ws.drop i) = sm ws) ?_ ?_ 0 (Nat.zero_le _) ([], 0) ⟨rfl, by simp, by simp⟩
      · rintro ⟨acc, v⟩ _
        refine Ev.step (fun k => impl_spread.l1.eq_2 t ws (sm ws) acc v ws ws.length _ k) (ev_neg (by omega) (ev_now ?_))
        rw [List.drop_of_length_le (Nat.le_refl _)]; simp [spr]
      · rintro i ⟨acc, v⟩ hi ⟨g1, g2, g4⟩ ih
        have g1 : acc.length = i := g1
        have g2 : 0 ≤ v := g2
        have hv : v + sm (ws.drop i) = sm ws := g4
        have hx := hw.2 ws[i] (List.getElem_mem hi)
        rw [sm_drop ws i hi] at hv
        have hd := sm_bound (ws.drop (i + 1)) (fun x hx => hw.2 x (List.mem_of_mem_drop hx))
        refine Ev.step (fun k => impl_spread.l1.eq_2 t ws (sm ws) acc v ws ws.length i k) (ev_pos (by omega) (ev_pos (by omega) (ev_pos (by omega) (ev_neg hz ?_))))
        show Ev _ (acc ++ spr t (sm ws) false (ws.drop i) v)
        rw [rd_nat ws i hi, spr_drop t (sm ws) false ws i hi v acc, wrap_in (i := v + ws[i]) (by omega) (by omega)]
        simp only [Bool.false_eq_true, if_false]
        refine Ev.step (fun k => impl_spread.j2.eq_2 t ws (sm ws) acc v ws[i] v _ ws ws.length i k) (ev_neg hz ?_)
        refine Ev.bind (md_impl t _ _ ht (by omega)) (Ev.bind (md_impl t _ _ ht (by omega)) (ev_pos (by omega) ?_))
        rw [wrap_succ (i := i) (by omega), wrap_in (i := v + ws[i]) (by omega) (by omega)]
        exact ih (acc ++ [wrap64 (mdAll t (v + ws[i]) (sm ws) - mdAll t v (sm ws))], v + ws[i]) ⟨by simp [g1], by show 0 ≤ v + ws[i]; omega, by show v + ws[i] + _ = _; omega⟩
  · rintro i s hi ⟨h1, h2⟩ ih
    have hx := hw.2 ws[i] (List.getElem_mem hi)
    rw [sm_drop ws i hi] at h1
    have hd := sm_bound (ws.drop (i + 1)) (fun x hx => hw.2 x (List.mem_of_mem_drop hx))
    refine Ev.step (fun k => impl_spread.l0.eq_2 t ws s ws ws.length i k) (ev_pos (by omega) (ev_pos (by omega) (ev_pos (by omega) ?_)))
    rw [rd_nat ws i hi, wrap_succ (i := i) (by omega), wrap_in (i := s + ws[i]) (by omega) (by omega)]
    exact ih _ ⟨by omega, by omega⟩
/-! ### the widths of columns -/
theorem l12_in (a lo hi : Int) : spec_l12In.f a lo hi = some (decide (lo ≤ a ∧ a ≤ hi)) := by
  unfold spec_l12In.f
  split <;> simp <;> omega
theorem nonneg_in (a : Int) : impl_nonNegative.f a = some (decide (0 ≤ a ∧ a ≤ 100000000)) := by
  unfold impl_nonNegative.f
  split <;> simp <;> omega
theorem sum_spec (xs : List Int) (hw : okW xs) : Ev (fun k => spec_l16Sum.f k xs) (sm xs) := by
  have hb := sm_bound xs hw.2
  have hl := hw.1
  refine Ev.congr (fun k => spec_l16Sum.f.eq_1 k xs) ?_
  refine ev_loop (g := fun k s i => spec_l16Sum.l0 k xs s i) xs.length (fun _ _ => sm xs) (fun i s => s + sm (xs.drop i) = sm xs ∧ 0 ≤ s) ?_ ?_ 0 (Nat.zero_le _) 0 ⟨by simp, by omega⟩
  · rintro s ⟨h1, h2⟩
    rw [List.drop_of_length_le (Nat.le_refl _)] at h1
    exact Ev.step (fun k => spec_l16Sum.l0.eq_2 xs s _ k) (ev_neg (by omega) (ev_now (by simpa [sm] using h1)))
  · rintro i s hi ⟨h1, h2⟩ ih
    have hx := hw.2 xs[i] (List.getElem_mem hi)
    rw [sm_drop xs i hi] at h1
    have hd := sm_bound (xs.drop (i + 1)) (fun x hx => hw.2 x (List.mem_of_mem_drop hx))
    refine Ev.step (fun k => spec_l16Sum.l0.eq_2 xs s i k) (ev_pos (by omega) (ev_pos (by omega) ?_))
    rw [rd_nat xs i hi, wrap_succ (i := i) (by omega), wrap_in (i := s + xs[i]) (by omega) (by omega)]
    exact ih _ ⟨by omega, by omega⟩
theorem sum_impl (xs : List Int) (hw : okW xs) : Ev (fun k => impl_total.f k xs) (sm xs) := by
  have hb := sm_bound xs hw.2
  have hl := hw.1
  refine Ev.congr (fun k => impl_total.f.eq_1 k xs) ?_
  refine ev_loop (g := fun k s i => impl_total.l0 k s xs xs.length i) xs.length (fun _ _ => sm xs) (fun i s => s + sm (xs.drop i) = sm xs ∧ 0 ≤ s) ?_ ?_ 0 (Nat.zero_le _) 0 ⟨by simp, by omega⟩
  · rintro s ⟨h1, h2⟩
    rw [List.drop_of_length_le (Nat.le_refl _)] at h1
    exact Ev.step (fun k => impl_total.l0.eq_2 s xs xs.length _ k) (ev_neg (by omega) (ev_now (by simpa [sm] using h1)))
  · rintro i s hi ⟨h1, h2⟩ ih
    have hx := hw.2 xs[i] (List.getElem_mem hi)
    rw [sm_drop xs i hi] at h1
    have hd := sm_bound (xs.drop (i + 1)) (fun x hx => hw.2 x (List.mem_of_mem_drop hx))
    refine Ev.step (fun k => impl_total.l0.eq_2 s xs xs.length i k) (ev_pos (by omega) (ev_pos (by omega) (ev_pos (by omega) ?_)))
    rw [rd_nat xs i hi, wrap_succ (i := i) (by omega), wrap_in (i := s + xs[i]) (by omega) (by omega)]
    exact ih _ ⟨by omega, by omega⟩
def addS (a b : List Int) : List Int := List.zipWith (fun x y => wrap64 (x + y)) a b
def gap (a b : List Int) : List Int := List.zipWith (fun x y => y - x) a b
theorem add_spec (a b : List Int) (hl : a.length = b.length) (hn : a.length ≤ 400) : Ev (fun k => spec_ColumnWidths.j2 k a.length [] a b) (addS a b) := by
  refine Ev.step (fun k => spec_ColumnWidths.j2.eq_2 a.length [] a b k) ?_
  refine ev_loop (g := fun k s i => spec_ColumnWidths.l1 k a.length s a b i) a.length (fun i s => s ++ addS (a.drop i) (b.drop i)) (fun i s => s.length = i) ?_ ?_ 0 (Nat.zero_le _) [] rfl
  · intro s _
    refine Ev.step (fun k => spec_ColumnWidths.l1.eq_2 a.length s a b _ k) (ev_neg (by omega) (ev_now ?_))
    rw [List.drop_of_length_le (l := a) (Nat.le_refl _)]; simp [addS]
  · intro i s hi hs ih
    refine Ev.step (fun k => spec_ColumnWidths.l1.eq_2 a.length s a b i k) (ev_pos (by omega) (ev_pos (by omega) (ev_pos (by omega) (ev_pos (by omega) (ev_pos (by omega) ?_)))))
    rw [rd_nat a i hi, rd_nat b i (by omega), wrap_succ (i := i) (by omega)]
    have e : s ++ addS (a.drop i) (b.drop i) = (s ++ [wrap64 (a[i] + b[i])]) ++ addS (a.drop (i + 1)) (b.drop (i + 1)) := by
      rw [List.drop_eq_getElem_cons (l := a) hi, List.drop_eq_getElem_cons (l := b) (by omega), List.append_assoc]; rfl
    show Ev _ (s ++ addS (a.drop i) (b.drop i))
    rw [e]
    exact ih _ (by simp [hs])
theorem add_impl (a b : List Int) (hl : a.length = b.length) (hn : a.length ≤ 400) : Ev (fun k => impl_columnWidths.j1 k a b) (addS a b) := by
  refine Ev.step (fun k => impl_columnWidths.j1.eq_2 a b k) ?_
  have hR : (addS a b).length = a.length := by simp [addS]; omega
  refine ev_loop (g := fun k s i => impl_columnWidths.l1 k s b a.length i) a.length (fun _ _ => addS a b) (fun i s => s.length = a.length ∧ s.take i = (addS a b).take i ∧ s.drop i = a.drop i) ?_ ?_ 0 (Nat.zero_le _) a ⟨rfl, rfl, rfl⟩
  · rintro s ⟨h1, h2, _⟩
    refine Ev.step (fun k => impl_columnWidths.l1.eq_2 s b a.length _ k) (ev_neg (by omega) (ev_now ?_))
    rwa [List.take_of_length_le (by omega), List.take_of_length_le (by omega)] at h2
  · rintro i s hi ⟨h1, h2, h3⟩ ih
    have hsi : s[i]'(by omega) = a[i] := by
      have e1 := List.drop_eq_getElem_cons (l := s) (i := i) (by omega)
      have e2 := List.drop_eq_getElem_cons (l := a) (i := i) hi
      rw [h3, e2] at e1
      exact (List.cons.inj e1).1.symm
    refine Ev.step (fun k => impl_columnWidths.l1.eq_2 s b a.length i k) (ev_pos (by omega) (ev_pos (by omega) (ev_pos (by omega) (ev_pos (by omega) ?_))))
    rw [rd_nat s i (by omega), rd_nat b i (by omega), wrap_succ (i := i) (by omega), Int.toNat_natCast, hsi]
    refine ih _ ⟨by rw [List.length_set]; exact h1, ?_, ?_⟩
    · rw [List.take_succ_eq_append_getElem (by rw [List.length_set]; omega), List.take_succ_eq_append_getElem (by omega), List.take_set, h2, List.getElem_set_self]
      rw [List.set_eq_of_length_le (by simp; omega)]
      congr 1
      simp [addS]
    · rw [List.drop_set_of_lt (by omega)]
      have e1 := List.drop_eq_getElem_cons (l := s) (i := i) (by omega)
      have e2 := List.drop_eq_getElem_cons (l := a) (i := i) hi
      rw [h3, e2] at e1
      exact (List.cons.inj e1).2.symm
def okc (a b : Int) : Bool := decide (0 ≤ a ∧ a ≤ 100000000) && decide (a ≤ b ∧ b ≤ 100000000)
/-- The columns from place i on are as they are wanted. -/
def okCols (mins maxs : List Int) : Prop := ∀ i (h1 : i < mins.length) (h2 : i < maxs.length), okc mins[i] maxs[i] = true
def cwBody (mins maxs : List Int) (room : Int) : List Int :=
  if sm mins ≥ room then mins else if sm maxs ≤ room then addS maxs (spread (room - sm maxs) maxs) else addS mins (spread (room - sm mins) (gap mins maxs))
theorem okc_iff {a b : Int} (h : okc a b = true) : (0 ≤ a ∧ a ≤ 100000000) ∧ (a ≤ b ∧ b ≤ 100000000) := by simpa [okc] using h
theorem cols_ok {mins maxs : List Int} (hl : mins.length = maxs.length) (hn : mins.length ≤ 100) (h : okCols mins maxs) : okW mins ∧ okW maxs ∧ okW (gap mins maxs) := by
  refine ⟨⟨by omega, fun x hx => ?_⟩, ⟨by omega, fun x hx => ?_⟩, ⟨by simp [gap]; omega, fun x hx => ?_⟩⟩
  · obtain ⟨i, hi, rfl⟩ := List.getElem_of_mem hx
    have := okc_iff (h i hi (by omega)); omega
  · obtain ⟨i, hi, rfl⟩ := List.getElem_of_mem hx
    have := okc_iff (h i (by omega) hi); omega
  · obtain ⟨i, hi, rfl⟩ := List.getElem_of_mem hx
    have hi2 : i < mins.length ∧ i < maxs.length := by simp [gap] at hi; omega
    have := okc_iff (h i hi2.1 hi2.2)
    simp [gap]; omega
theorem gap_length {mins maxs : List Int} (hl : mins.length = maxs.length) : (gap mins maxs).length = mins.length := by simp [gap]; omega
/-- Behind the looks at the columns: the reference. -/
theorem body_spec (mins maxs : List Int) (room : Int) (hr : 0 ≤ room ∧ room ≤ 100000000) (hl : mins.length = maxs.length) (hn : mins.length ≤ 100) (h : okCols mins maxs) (n : Int) (hnn : ¬ n < mins.length) :
    Ev (fun k => spec_ColumnWidths.l0 k mins maxs room mins.length [] (gap mins maxs) n) (cwBody mins maxs room) := by
  obtain ⟨w1, w2, w3⟩ := cols_ok hl hn h
  have b1 := sm_bound mins w1.2
  have b2 := sm_bound maxs w2.2
  unfold cwBody
  refine Ev.step (fun k => spec_ColumnWidths.l0.eq_2 mins maxs room mins.length [] (gap mins maxs) n k) (ev_neg hnn (Ev.bind (sum_spec mins w1) (ev_ite (fun c => ?_) (fun c => ?_))))
  · rw [if_pos c]
    exact ev_pos (by simp; omega) (ev_now rfl)
  rw [if_neg c]
  refine Ev.bind (sum_spec maxs w2) (ev_ite (fun c2 => ?_) (fun c2 => ?_))
  · rw [if_pos c2]
    refine Ev.bind (sum_spec maxs w2) ?_
    rw [wrap_in (by omega) (by omega)]
    refine Ev.bind (spread_spec _ maxs (by omega) w2) ?_
    rw [hl]
    exact add_spec maxs _ (by rw [spread_length]) (by omega)
  · rw [if_neg c2]
    refine Ev.bind (sum_spec mins w1) ?_
    rw [wrap_in (by omega) (by omega)]
    refine Ev.bind (spread_spec _ _ (by omega) w3) ?_
    exact add_spec mins _ (by rw [spread_length, gap_length hl]) (by omega)
theorem body_impl (mins maxs : List Int) (room : Int) (hr : 0 ≤ room ∧ room ≤ 100000000) (hl : mins.length = maxs.length) (hn : mins.length ≤ 100) (h : okCols mins maxs) :
    Ev (fun k => impl_columnWidths.f k mins maxs room) (cwBody mins maxs room) := by
  obtain ⟨w1, w2, w3⟩ := cols_ok hl hn h
  have b1 := sm_bound mins w1.2
  have b2 := sm_bound maxs w2.2
  have cl : ∀ xs : List Int, xs.length ≤ 100 → slices_Clone_int_int.f xs = some xs := fun xs hx => by unfold slices_Clone_int_int.f; rw [if_pos (by omega)]
  unfold cwBody
  refine Ev.congr (fun k => impl_columnWidths.f.eq_1 k mins maxs room) (Ev.bind (sum_impl mins w1) (Ev.bind (sum_impl maxs w2) (ev_bc (cl mins hn) (ev_ite (fun c => ?_) (fun c => ?_)))))
  · rw [if_pos c]; exact ev_now rfl
  rw [if_neg c]
  refine ev_ite (fun c2 => ?_) (fun c2 => ?_)
  · rw [if_pos c2]
    refine ev_bc (cl maxs (by omega)) ?_
    rw [wrap_in (by omega) (by omega)]
    refine Ev.bind (spread_impl _ maxs (by omega) w2) ?_
    exact add_impl maxs _ (by rw [spread_length]) (by omega)
  · rw [if_neg c2]
    refine ev_loop (g := fun k s i => impl_columnWidths.l0 k mins maxs room (sm mins) mins s mins.length i) mins.length (fun _ _ => addS mins (spread (room - sm mins) (gap mins maxs))) (fun i s => s = (gap mins maxs).take i) ?_ ?_ 0 (Nat.zero_le _) [] rfl
    · intro s hs
      rw [List.take_of_length_le (by rw [gap_length hl]; exact Nat.le_refl _)] at hs
      subst hs
      refine Ev.step (fun k => impl_columnWidths.l0.eq_2 mins maxs room (sm mins) mins _ mins.length _ k) (ev_neg (by omega) ?_)
      rw [wrap_in (by omega) (by omega)]
      refine Ev.bind (spread_impl _ _ (by omega) w3) ?_
      exact add_impl mins _ (by rw [spread_length, gap_length hl]) (by omega)
    · intro i s hi hs ih
      have hsl : s.length = i := by rw [hs, List.length_take, gap_length hl]; omega
      have hc := okc_iff (h i hi (by omega))
      refine Ev.step (fun k => impl_columnWidths.l0.eq_2 mins maxs room (sm mins) mins s mins.length i k) (ev_pos (by omega) (ev_pos (by omega) (ev_pos (by omega) (ev_pos (by omega) (ev_pos (by omega) ?_)))))
      rw [rd_nat mins i hi, rd_nat maxs i (by omega), wrap_succ (i := i) (by omega), wrap_in (i := maxs[i] - mins[i]) (by omega) (by omega)]
      refine ih _ ?_
      rw [List.take_succ_eq_append_getElem (by rw [gap_length hl]; exact hi), ← hs]
      simp [gap]
def cwGuard (mins maxs : List Int) (room : Int) : Prop := mins.length = maxs.length ∧ mins.length ≤ 100 ∧ (0 ≤ room ∧ room ≤ 100000000)
open Classical in
noncomputable def cw (mins maxs : List Int) (room : Int) : List Int := if cwGuard mins maxs room ∧ okCols mins maxs then cwBody mins maxs room else []
theorem cw_spec (mins maxs : List Int) (room : Int) : Ev (fun k => spec_ColumnWidths.f k mins maxs room) (cw mins maxs room) := by
  have no : ¬ cwGuard mins maxs room → Ev (fun k => spec_ColumnWidths.j0 k mins maxs room mins.length [] true) (cw mins maxs room) := fun h =>
    Ev.step (fun k => spec_ColumnWidths.j0.eq_2 mins maxs room mins.length [] true k) (ev_pos rfl (ev_now (by unfold cw; rw [if_neg (fun z => h z.1)])))
  refine Ev.congr (fun k => spec_ColumnWidths.f.eq_1 k mins maxs room) (ev_bs ?_)
  refine ev_ite (fun h1 => ?_) (fun h1 => no (fun z => h1 (by rw [z.1])))
  refine ev_ite (fun h2 => no (fun z => by have := z.2.1; omega)) (fun h2 => ev_bc (l12_in room _ _) ?_)
  by_cases h3 : 0 ≤ room ∧ room ≤ 100000000
  · have hg : cwGuard mins maxs room := ⟨by omega, by omega, h3⟩
    have hl := hg.1
    have hn := hg.2.1
    rw [decide_eq_true h3]
    refine Ev.step (fun k => spec_ColumnWidths.j0.eq_2 mins maxs room mins.length [] _ k) (ev_neg (by simp) ?_)
    by_cases hc : okCols mins maxs
    · have e : cw mins maxs room = cwBody mins maxs room := by unfold cw; rw [if_pos ⟨hg, hc⟩]
      rw [e]
      refine ev_loop (g := fun k s i => spec_ColumnWidths.l0 k mins maxs room mins.length [] s i) mins.length (fun _ _ => cwBody mins maxs room) (fun i s => s = (gap mins maxs).take i) ?_ ?_ 0 (Nat.zero_le _) [] rfl
      · intro s hs
        rw [List.take_of_length_le (by rw [gap_length hl]; exact Nat.le_refl _)] at hs
        subst hs
        exact body_spec mins maxs room h3 hl hn hc _ (by omega)
      · intro i s hi hs ih
        have hsl : s.length = i := by rw [hs, List.length_take, gap_length hl]; omega
        have hcc := okc_iff (hc i hi (by omega))
        refine Ev.step (fun k => spec_ColumnWidths.l0.eq_2 mins maxs room mins.length [] s i k) (ev_pos (by omega) (ev_pos (by omega) (ev_pos (by omega) ?_)))
        rw [rd_nat mins i hi, rd_nat maxs i (by omega), wrap_succ (i := i) (by omega), wrap_in (i := maxs[i] - mins[i]) (by omega) (by omega)]
        refine ev_bc (l12_in _ _ _) (ev_pos (decide_eq_true hcc.1) (ev_pos (by omega) (ev_bc (l12_in _ _ _) (ev_pos (decide_eq_true hcc.2) (ev_pos (by omega) ?_)))))
        refine ih _ ?_
        rw [List.take_succ_eq_append_getElem (by rw [gap_length hl]; exact hi), ← hs]
        simp [gap]
    · have e : cw mins maxs room = [] := by unfold cw; rw [if_neg (fun z => hc z.2)]
      rw [e]
      refine ev_loop (g := fun k s i => spec_ColumnWidths.l0 k mins maxs room mins.length [] s i) mins.length (fun _ _ => []) (fun i s => s.length = i ∧ ∀ j (g1 : j < mins.length) (g2 : j < maxs.length), j < i → okc mins[j] maxs[j] = true) ?_ ?_ 0 (Nat.zero_le _) [] ⟨rfl, fun j _ _ hj => by omega⟩
      · rintro s ⟨_, hs⟩
        exact absurd (fun j g1 g2 => hs j g1 g2 g1) hc
      · rintro i s hi ⟨hsl, hs⟩ ih
        refine Ev.step (fun k => spec_ColumnWidths.l0.eq_2 mins maxs room mins.length [] s i k) (ev_pos (by omega) (ev_pos (by omega) (ev_pos (by omega) ?_)))
        rw [rd_nat mins i hi, rd_nat maxs i (by omega), wrap_succ (i := i) (by omega)]
        refine ev_bc (l12_in _ _ _) (ev_ite (fun c1 => ev_pos (by omega) (ev_bc (l12_in _ _ _) (ev_ite (fun c2 => ev_pos (by omega) ?_) (fun _ => ev_now rfl)))) (fun _ => ev_now rfl))
        refine ih _ ⟨by simp [hsl], fun j g1 g2 hj => ?_⟩
        by_cases hji : j = i
        · subst hji; simp only [okc, c1, c2, Bool.and_self]
        · exact hs j g1 g2 (by omega)
  · rw [decide_eq_false h3]
    exact no (fun z => h3 z.2.2)
theorem cw_impl (mins maxs : List Int) (room : Int) : Ev (fun k => impl_ColumnWidths.f k mins maxs room) (cw mins maxs room) := by
  have no : ¬ cwGuard mins maxs room → Ev (fun k => impl_ColumnWidths.j0 k mins maxs room true) (cw mins maxs room) := fun h =>
    Ev.step (fun k => impl_ColumnWidths.j0.eq_2 mins maxs room true k) (ev_pos rfl (ev_now (by unfold cw; rw [if_neg (fun z => h z.1)])))
  refine Ev.congr (fun k => impl_ColumnWidths.f.eq_1 k mins maxs room) ?_
  refine ev_ite (fun h1 => ?_) (fun h1 => no (fun z => h1 (by rw [z.1])))
  refine ev_ite (fun h2 => no (fun z => by have := z.2.1; omega)) (fun h2 => ev_bc (nonneg_in room) ?_)
  by_cases h3 : 0 ≤ room ∧ room ≤ 100000000
  · have hg : cwGuard mins maxs room := ⟨by omega, by omega, h3⟩
    have hl := hg.1
    have hn := hg.2.1
    rw [decide_eq_true h3]
    refine Ev.step (fun k => impl_ColumnWidths.j0.eq_2 mins maxs room _ k) (ev_neg (by simp) ?_)
    by_cases hc : okCols mins maxs
    · have e : cw mins maxs room = cwBody mins maxs room := by unfold cw; rw [if_pos ⟨hg, hc⟩]
      rw [e]
      refine ev_count (g := fun k i => impl_ColumnWidths.l0 k mins maxs room mins.length i) mins.length (fun _ => cwBody mins maxs room) ?_ ?_ 0 (Nat.zero_le _)
      · exact Ev.step (fun k => impl_ColumnWidths.l0.eq_2 mins maxs room mins.length _ k) (ev_neg (by omega) (Ev.bind (body_impl mins maxs room h3 hl hn hc) (ev_now rfl)))
      · intro i hi ih
        have hcc := okc_iff (hc i hi (by omega))
        refine Ev.step (fun k => impl_ColumnWidths.l0.eq_2 mins maxs room mins.length i k) (ev_pos (by omega) (ev_pos (by omega) (ev_pos (by omega) ?_)))
        rw [rd_nat mins i hi, rd_nat maxs i (by omega), wrap_succ (i := i) (by omega)]
        exact ev_bc (nonneg_in _) (ev_pos (decide_eq_true hcc.1) (ev_pos (by omega) (ev_neg (by omega) (ev_neg (by omega) ih))))
    · have e : cw mins maxs room = [] := by unfold cw; rw [if_neg (fun z => hc z.2)]
      rw [e]
      refine ev_loop (σ := Unit) (g := fun k _ i => impl_ColumnWidths.l0 k mins maxs room mins.length i) mins.length (fun _ _ => []) (fun i _ => ∀ j (g1 : j < mins.length) (g2 : j < maxs.length), j < i → okc mins[j] maxs[j] = true) ?_ ?_ 0 (Nat.zero_le _) () (fun j _ _ hj => by omega)
      · intro _ hs
        exact absurd (fun j g1 g2 => hs j g1 g2 g1) hc
      · intro i _ hi hs ih
        refine Ev.step (fun k => impl_ColumnWidths.l0.eq_2 mins maxs room mins.length i k) (ev_pos (by omega) (ev_pos (by omega) (ev_pos (by omega) ?_)))
        rw [rd_nat mins i hi, rd_nat maxs i (by omega), wrap_succ (i := i) (by omega)]
        refine ev_bc (nonneg_in _) (ev_ite (fun c1 => ev_pos (by omega) (ev_ite (fun _ => ev_now rfl) (fun c2 => ev_ite (fun _ => ev_now rfl) (fun c3 => ?_)))) (fun _ => ev_now rfl))
        refine ih () (fun j g1 g2 hj => ?_)
        by_cases hji : j = i
        · subst hji
          have c4 : decide (mins[j] ≤ maxs[j] ∧ maxs[j] ≤ 100000000) = true := decide_eq_true (by omega)
          simp only [okc, c1, c4, Bool.and_self]
        · exact hs j g1 g2 (by omega)
  · rw [decide_eq_false h3]
    exact no (fun z => h3 z.2.2)
theorem cw_length (mins maxs : List Int) (room : Int) : (cw mins maxs room).length ≤ 100 := by
  unfold cw
  split
  · rename_i h
    have h1 := h.1.1
    have h2 := h.1.2.1
    unfold cwBody
    split
    · omega
    split
    · simp [addS]; omega
    · simp [addS]; omega
  · simp
theorem FnExactColumnWidths : laws_FnExactColumnWidths.Pure := by
  intro a b room _ _ _ _ _ _ _
  refine Ev.rounds (r := true) ?_
  refine Ev.congr (fun k => laws_FnExactColumnWidths.f.eq_1 k a b room) (ev_ite (fun _ => ev_now rfl) (fun h => ev_ite (fun _ => ev_now rfl) (fun h' => ?_)))
  have hn : a.length ≤ 1048576 := by omega
  have hm : b.length ≤ 1048576 := by omega
  have hr := cw_length a b room
  refine Ev.bind (toIntS_ev a hn) (Ev.bind (toIntS_ev b hm) (Ev.bind (cw_spec a b room) (Ev.bind (toIntS_ev a hn) (Ev.bind (toIntS_ev b hm) (Ev.bind (cw_impl a b room) (Ev.bind (eqIntS_ev _ (by omega)) (ev_pos rfl ?_)))))))
  refine Ev.bind (toIntS_ev a hn) (Ev.bind (eqIntS_ev _ (by omega)) (ev_pos rfl (Ev.bind (toIntS_ev b hm) (Ev.bind (eqIntS_ev _ (by omega)) (ev_pos rfl ?_)))))
  refine Ev.bind (mark_at a 1 (by omega) (by omega) (by omega)) (Ev.bind (mark_at b _ (by show 0 ≤ 1 + _; omega) (by show 1 + _ ≤ _; omega) (by omega)) (ev_neg (by show ¬ 1 + _ + _ < _; omega) (Ev.bind (eqIntS_ev _ (by omega)) ?_)))
  refine Ev.step (fun k => laws_FnExactColumnWidths.j0.eq_2 a b room _ _ _ k) (ev_neg (by simp) ?_)
  refine Ev.bind (mark_at _ 1 (by omega) (by omega) (by omega)) (Ev.bind (held_at 1 _ (by omega) (by omega) (by omega)) (ev_neg (by omega) (ev_pos rfl ?_)))
  exact Ev.bind (toIntS_ev a hn) (Ev.bind (toIntS_ev b hm) (Ev.bind (cw_impl a b room) (Ev.bind (eqIntS_ev _ (by omega)) (ev_pos rfl (Ev.bind (held_at 1 _ (by omega) (by omega) (by omega)) (ev_neg (by omega) (ev_pos rfl (ev_now rfl))))))))
end Go.Proofs.Ytppjmcfcacgbdaa.Fact
