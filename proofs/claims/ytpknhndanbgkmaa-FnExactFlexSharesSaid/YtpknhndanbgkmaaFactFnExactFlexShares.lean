/- The program's FlexShares answers as the reference's does, for all arguments. -/
import Derived.Test.YtpknhndanbgkmaaMFnExactFlexSharesx9
import Derived.Laws.MathBits
namespace Go.Proofs.Ytpknhndanbgkmaa.Fact
open Go.RowKit Go.Proofs.Ytpknhndanbgkmaa.MFnExactFlexShares Go.Proofs.YtpknhndanbgkmaaW.PrintWords Go.Proofs.YtpknhndanbgkmaaW.PrintLast
set_option linter.unusedVariables false
set_option linter.unusedSimpArgs false
/-! ### what comes from some round on -/
theorem ev_pos {α : Type} {c : Prop} [Decidable c] {f g : Nat → Option α} {r : α} (h : c) (k : Ev f r) : Ev (fun n => if c then f n else g n) r := by
  simpa only [if_pos h] using k
theorem ev_neg {α : Type} {c : Prop} [Decidable c] {f g : Nat → Option α} {r : α} (h : ¬ c) (k : Ev g r) : Ev (fun n => if c then f n else g n) r := by
  simpa only [if_neg h] using k
theorem ev_now {α : Type} {q r : α} (h : q = r) : Ev (fun _ => some q) r := by rw [h]; exact Ev.now r
theorem ev_bs {α β : Type} {a : α} {f : Nat → α → Option β} {r : β} (k : Ev (fun n => f n a) r) : Ev (fun n => (some a).bind (f n)) r := by
  simpa only [Option.bind_some] using k
theorem ev_bc {α β : Type} {o : Option α} {a : α} {f : Nat → α → Option β} {r : β} (h : o = some a) (k : Ev (fun n => f n a) r) : Ev (fun n => o.bind (f n)) r := by
  rw [h]; exact ev_bs k
theorem wrap_in {i : Int} (h0 : -9223372036854775808 ≤ i) (h1 : i ≤ 9223372036854775807) : wrap64 i = i := by
  unfold wrap64
  omega
theorem i64_bounds {x : Int} (h : (Lit.int .i64 x).wf = true) : -9223372036854775808 ≤ x ∧ x ≤ 9223372036854775807 := by
  simp [Lit.wf, IntKind.min, IntKind.max, IntKind.signed, IntKind.bits] at h
  omega
theorem ev_ite {α : Type} {c : Prop} [Decidable c] {f g : Nat → Option α} {r : α} (h1 : c → Ev f r) (h2 : ¬ c → Ev g r) : Ev (fun n => if c then f n else g n) r := by
  by_cases h : c
  · exact ev_pos h (h1 h)
  · exact ev_neg h (h2 h)
theorem ev_to {α : Type} {f : Nat → Option α} {q r : α} (h : q = r) (k : Ev f q) : Ev f r := h ▸ k
theorem wrap_succ {i : Nat} (h : i < 9223372036854775807) : wrap64 ((i : Int) + 1) = ((i + 1 : Nat) : Int) := by
  rw [wrap_in (by omega) (by omega)]; rfl
theorem getD_nat {α : Type} (d : α) (xs : List α) (i : Nat) (h : i < xs.length) : xs.getD (i : Int).toNat d = xs[i] := by
  simp [List.getElem?_eq_getElem h]
/-- A loop that counts from i up to n, its state s. -/
theorem ev_loop {σ ρ : Type} {g : Nat → σ → Int → Option ρ} (n : Nat) (R : Nat → σ → ρ) (Inv : Nat → σ → Prop)
    (hend : ∀ s, Inv n s → Ev (fun k => g k s n) (R n s))
    (hstep : ∀ i s, i < n → Inv i s → (∀ s', Inv (i + 1) s' → Ev (fun k => g k s' ((i + 1 : Nat) : Int)) (R (i + 1) s')) → Ev (fun k => g k s i) (R i s)) :
    ∀ i, i ≤ n → ∀ s, Inv i s → Ev (fun k => g k s i) (R i s) := by
  have key : ∀ d i, n - i = d → i ≤ n → ∀ s, Inv i s → Ev (fun k => g k s i) (R i s) := by
    intro d
    induction d with
    | zero =>
      intro i hd hi s hs
      obtain rfl : i = n := by omega
      exact hend s hs
    | succ d ih =>
      intro i hd hi s hs
      exact hstep i s (by omega) hs (ih (i + 1) (by omega) (by omega))
  exact fun i hi s hs => key (n - i) i rfl hi s hs
/-- The same, without a state. -/
theorem ev_count {ρ : Type} {g : Nat → Int → Option ρ} (n : Nat) (R : Nat → ρ) (hend : Ev (fun k => g k n) (R n))
    (hstep : ∀ i, i < n → Ev (fun k => g k ((i + 1 : Nat) : Int)) (R (i + 1)) → Ev (fun k => g k i) (R i)) : ∀ i, i ≤ n → Ev (fun k => g k i) (R i) := by
  intro i hi
  exact ev_loop (σ := Unit) (g := fun k _ i => g k i) n (fun i _ => R i) (fun _ _ => True) (fun _ _ => hend) (fun i _ h _ ih => hstep i h (ih () trivial)) i hi () trivial
/-- A loop that writes F of each element into a list of the same length. -/
theorem ev_copy {α β : Type} {g : Nat → List β → Int → Option (List β)} (F : α → β) (xs : List α)
    (hend : ∀ ys : List β, ys.length = xs.length → Ev (fun k => g k ys xs.length) ys)
    (hstep : ∀ (ys : List β) (i : Nat) (h : i < xs.length), ys.length = xs.length → Ev (fun k => g k (ys.set i (F xs[i])) ((i + 1 : Nat) : Int)) (xs.map F) → Ev (fun k => g k ys i) (xs.map F))
    (ys : List β) (hl : ys.length = xs.length) : Ev (fun k => g k ys 0) (xs.map F) := by
  refine ev_loop (g := g) xs.length (fun _ _ => xs.map F) (fun i ys => ys.length = xs.length ∧ ys.take i = (xs.map F).take i) ?_ ?_ 0 (Nat.zero_le _) ys ⟨hl, rfl⟩
  · intro ys hs
    have e : ys = xs.map F := by
      have := hs.2
      rwa [List.take_of_length_le (by omega), List.take_of_length_le (by simp)] at this
    rw [← e]; exact hend ys hs.1
  · intro i ys hi hs ih
    refine hstep ys i hi hs.1 (ih _ ⟨by rw [List.length_set]; exact hs.1, ?_⟩)
    rw [List.take_succ_eq_append_getElem (by rw [List.length_set]; omega), List.take_succ_eq_append_getElem (by rw [List.length_map]; omega), List.take_set, hs.2, List.getElem_set_self, List.getElem_map]
    rw [List.set_eq_of_length_le (by simp; omega)]
theorem ite_eq {α : Type} {c : Prop} [Decidable c] {x y z : α} (h1 : c → x = z) (h2 : ¬ c → y = z) : (if c then x else y) = z := by
  by_cases h : c
  · rw [if_pos h]; exact h1 h
  · rw [if_neg h]; exact h2 h
theorem iteP {α : Type} {P : α → Prop} {c : Prop} [Decidable c] {x y : α} (h1 : c → P x) (h2 : ¬ c → P y) : P (if c then x else y) := by
  by_cases h : c
  · rw [if_pos h]; exact h1 h
  · rw [if_neg h]; exact h2 h
/-! ### the copies and comparisons of lists of numbers -/
theorem rd_nat (xs : List Int) (i : Nat) (h : i < xs.length) : rd xs (i : Int) = xs[i] := by
  simp [rd, List.getElem?_eq_getElem h]
theorem eqIntS_loop (xs : List Int) (hn : xs.length ≤ 140737488351232) (d : Nat) : ∀ i : Nat, xs.length - i = d → i ≤ xs.length → Ev (fun k => laws_eqIntS.l0 k xs xs i) true := by
  induction d with
  | zero =>
    intro i hd hi
    exact Ev.step (fun k => laws_eqIntS.l0.eq_2 xs xs i k) (ev_neg (by omega) (ev_now rfl))
  | succ d ih =>
    intro i hd hi
    refine Ev.step (fun k => laws_eqIntS.l0.eq_2 xs xs i k) (ev_pos (by omega) (ev_pos (by omega) (ev_pos (by omega) (ev_pos rfl ?_))))
    rw [wrap_in (by omega) (by omega)]
    exact ih (i + 1) (by omega) (by omega)
theorem eqIntS_ev (xs : List Int) (hn : xs.length ≤ 140737488351232) : Ev (fun k => laws_eqIntS.f k xs xs) true :=
  Ev.congr (fun k => by unfold laws_eqIntS.f; rfl) (ev_pos rfl (eqIntS_loop xs hn xs.length 0 (by omega) (by omega)))
/-! ### the marks -/
def mk (n : Nat) : List Int := (List.range n).map (fun i : Nat => (i : Int) + 1)
theorem mk_length (n : Nat) : (mk n).length = n := by simp [mk]
theorem mk_get (n i : Nat) (h : i < n) : (mk n)[i]'(by rw [mk_length]; exact h) = (i : Int) + 1 := by simp [mk]
theorem mark_ev (xs : List Int) (hn : xs.length ≤ 1099511627776) : Ev (fun k => laws_markIntS.f k xs 1) ((xs.length : Int) + 1, mk xs.length) := by
  refine Ev.congr (fun k => laws_markIntS.f.eq_1 k xs 1) ?_
  refine ev_loop (σ := List Int × Int) (g := fun k s i => laws_markIntS.l0 k s.1 s.2 i) xs.length (fun _ _ => ((xs.length : Int) + 1, mk xs.length)) (fun i s => s.1.length = xs.length ∧ s.1.take i = (mk xs.length).take i ∧ s.2 = (i : Int) + 1) ?_ ?_ 0 (Nat.zero_le _) (xs, 1) ⟨rfl, rfl, rfl⟩
  · rintro ⟨ys, a⟩ ⟨h1, h2, h3⟩
    have h1 : ys.length = xs.length := h1
    have h2 : ys.take xs.length = (mk xs.length).take xs.length := h2
    have h3 : a = (xs.length : Int) + 1 := h3
    refine Ev.step (fun k => laws_markIntS.l0.eq_2 ys a _ k) (ev_neg (by omega) (ev_now ?_))
    rw [List.take_of_length_le (by omega), List.take_of_length_le (by rw [mk_length]; omega)] at h2
    rw [h2, h3]
  · rintro i ⟨ys, a⟩ hi ⟨h1, h2, h3⟩ ih
    have h1 : ys.length = xs.length := h1
    have h2 : ys.take i = (mk xs.length).take i := h2
    have h3 : a = (i : Int) + 1 := h3
    refine Ev.step (fun k => laws_markIntS.l0.eq_2 ys a i k) (ev_pos (by omega) (ev_pos (by omega) ?_))
    rw [wrap_succ (i := i) (by omega), Int.toNat_natCast]
    refine ih (ys.set i a, wrap64 (a + 1)) ⟨by simp [h1], ?_, ?_⟩
    · show (ys.set i a).take (i + 1) = _
      rw [List.take_succ_eq_append_getElem (by rw [List.length_set]; omega), List.take_succ_eq_append_getElem (by rw [mk_length]; omega), List.take_set, h2, List.getElem_set_self, mk_get _ _ hi, h3]
      rw [List.set_eq_of_length_le (by simp; omega)]
    · show wrap64 (a + 1) = _
      rw [h3, wrap_in (by omega) (by omega)]; omega
theorem held_ev (n : Nat) (hn : n ≤ 1099511627776) : Ev (fun k => laws_heldIntS.f k (mk n) 1) ((n : Int) + 1) := by
  refine Ev.congr (fun k => laws_heldIntS.f.eq_1 k (mk n) 1) ?_
  refine ev_loop (g := fun k a i => laws_heldIntS.l0 k (mk n) a i) n (fun _ _ => (n : Int) + 1) (fun i a => a = (i : Int) + 1) ?_ ?_ 0 (Nat.zero_le _) 1 rfl
  · intro a h
    exact Ev.step (fun k => laws_heldIntS.l0.eq_2 (mk n) a _ k) (ev_neg (by rw [mk_length]; omega) (ev_now h))
  · intro i a hi h ih
    refine Ev.step (fun k => laws_heldIntS.l0.eq_2 (mk n) a i k) (ev_pos (by rw [mk_length]; omega) (ev_pos (by omega) (ev_pos ?_ ?_)))
    · rw [rd_nat (mk n) i (by rw [mk_length]; exact hi), mk_get n i hi, h]
    · rw [wrap_succ (i := i) (by omega)]
      exact ih _ (by rw [h, wrap_in (by omega) (by omega)]; omega)
/-! ### the quotient, bit by bit and by words -/
/-- What MulDiv is to answer. -/
def mdq (a b c : Int) : Int := if a * b / c > 4611686018427387904 then 0 else a * b / c
theorem mdq_zero {a b c T Q : Int} (hc : 0 < c) (hT : T ≤ a * b) (hQ : Q * c ≤ T) (h : Q > 4611686018427387904) : mdq a b c = 0 := by
  unfold mdq
  have : Q ≤ a * b / c := (Int.le_ediv_iff_mul_le hc).2 (Int.le_trans hQ hT)
  rw [if_pos (by omega)]
theorem mdq_is {a b c q r : Int} (hc : 0 < c) (h : q * c + r = a * b) (h0 : 0 ≤ r) (h1 : r < c) (hq : q ≤ 4611686018427387904) : mdq a b c = q := by
  have e : a * b / c = q := by
    rw [← h, Int.add_comm, Int.add_mul_ediv_right _ _ (by omega), Int.ediv_eq_zero_of_lt h0 h1]; omega
  unfold mdq
  rw [e, if_neg (by omega)]
theorem and_one (x : Int) (h0 : 0 ≤ x) (h1 : x ≤ 9223372036854775807) : Go.bits .and .i64 x 1 = x % 2 := by
  have := bits_mask .i64 63 (by decide) (fun n a b => by rw [IntKind.wrap_i64]; omega) 1 (by decide) x h0 (by omega)
  simpa using this
theorem shr_i64 (x : Int) (n : Nat) (hn : n ≤ 64) : shr .i64 x n = x / 2 ^ n := by
  unfold shr
  rw [show IntKind.i64.bits = 64 from rfl, Int.toNat_natCast, Nat.min_eq_left hn]
theorem two_step {a : Int} {n : Nat} (ha : 0 ≤ a) : a / 2 ^ n = 2 * (a / 2 ^ (n + 1)) + a / 2 ^ n % 2 := by
  have : a / 2 ^ (n + 1) = a / 2 ^ n / 2 := by rw [Int.ediv_ediv_of_nonneg (Int.le_of_lt (Int.pow_pos (by decide))), ← Int.pow_succ]
  rw [this]; omega
theorem top_le {a : Int} {n : Nat} (ha : 0 ≤ a) : a / 2 ^ n ≤ a := Int.ediv_le_self _ ha
theorem md_spec_loop (a b c : Int) (ha : 0 ≤ a) (ha1 : a ≤ 9223372036854775807) (hb : 0 ≤ b) (hb1 : b ≤ 9223372036854775807) (hc : 1 ≤ c) (hc1 : c ≤ 4611686018427387904) (n : Nat) :
    n ≤ 63 → ∀ q r : Int, 0 ≤ r → r < c → 0 ≤ q → q ≤ 4611686018427387904 → q * c + r = (a / 2 ^ n) * b → Ev (fun k => spec_MulDiv.l0 k a c q r (b / c) (b % c) ((n : Int) - 1)) (mdq a b c) := by
  have hbc := Int.mul_ediv_add_emod b c
  have hm0 : 0 ≤ b % c := Int.emod_nonneg _ (by omega)
  have hm1 : b % c < c := Int.emod_lt_of_pos _ (by omega)
  have hd0 : 0 ≤ b / c := Int.ediv_nonneg hb (by omega)
  have hd1 : b / c ≤ b := Int.ediv_le_self _ hb
  induction n with
  | zero =>
    intro _ q r h0 h1 h2 h3 h
    refine Ev.step (fun k => spec_MulDiv.l0.eq_2 a c q r (b / c) (b % c) _ k) (ev_neg (by omega) (ev_now ?_))
    exact (mdq_is (by omega) (by simpa using h) h0 h1 h3).symm
  | succ n ih =>
    intro hn q r h0 h1 h2 h3 h
    have ih := ih (by omega)
    have hstep := two_step (n := n) ha
    have htop : a / 2 ^ n ≤ a := top_le ha
    have htop0 : 0 ≤ a / 2 ^ n := Int.ediv_nonneg ha (Int.le_of_lt (Int.pow_pos (by decide)))
    have htopb : (a / 2 ^ n) * b ≤ a * b := Int.mul_le_mul_of_nonneg_right htop hb
    generalize hA : a / 2 ^ (n + 1) = A at *
    generalize hA' : a / 2 ^ n = A' at *
    have hbit : A' % 2 = 0 ∨ A' % 2 = 1 := by omega
    have hAb : A' * b = 2 * (A * b) + (A' % 2) * b := by
      conv => lhs; rw [hstep]
      rw [Int.add_mul, Int.mul_assoc]
    have hAb0 : 2 * (A * b) ≤ A' * b := by
      rw [hAb]
      rcases hbit with e | e <;> rw [e] <;> omega
    rw [show ((n + 1 : Nat) : Int) - 1 = n by omega]
    refine Ev.step (fun k => spec_MulDiv.l0.eq_2 a c q r (b / c) (b % c) n k) (ev_pos (by omega) (ev_ite (fun hq => ?_) (fun hq => ?_)))
    · refine ev_now (mdq_zero (T := 2 * (A * b)) (Q := 2 * q) (by omega) (by omega) ?_ (by omega)).symm
      rw [Int.mul_assoc, ← h]; omega
    -- behind the doubling
    have three : ∀ q1 r1 : Int, 0 ≤ r1 → r1 < c → 0 ≤ q1 → q1 ≤ 4611686018427387905 → q1 * c + r1 = 2 * (A * b) → Ev (fun k => spec_MulDiv.j3 k a c q1 r1 (b / c) (b % c) n) (mdq a b c) := by
      intro q1 r1 g0 g1 g2 g3 g
      refine Ev.step (fun k => spec_MulDiv.j3.eq_2 a c q1 r1 (b / c) (b % c) n k) (ev_pos (by omega) ?_)
      rw [shr_i64 a n (by omega), hA', and_one A' htop0 (by omega)]
      have back : wrap64 ((n : Int) - 1) = (n : Int) - 1 := wrap_in (by omega) (by omega)
      refine ev_ite (fun e => ?_) (fun e => ?_)
      · rw [e] at hAb
        rw [wrap_in (by omega) (by omega)]
        have hsum : (q1 + b / c) * c + (r1 + b % c) = A' * b := by
          rw [Int.add_mul, hAb, Int.one_mul, ← g]
          have : b / c * c = c * (b / c) := Int.mul_comm _ _
          omega
        refine ev_ite (fun e2 => ?_) (fun e2 => ?_)
        · refine ev_now (mdq_zero (T := A' * b) (Q := q1 + b / c) (by omega) htopb ?_ (by omega)).symm
          omega
        rw [wrap_in (i := r1 + b % c) (by omega) (by omega), wrap_in (i := q1 + b / c) (by omega) (by omega)]
        refine ev_ite (fun e3 => ?_) (fun e3 => ?_)
        · refine Ev.step (fun k => spec_MulDiv.j4.eq_2 a c _ _ (b / c) (b % c) n true k) (ev_pos rfl ?_)
          rw [wrap_in (by omega) (by omega), wrap_in (i := r1 + b % c - c) (by omega) (by omega), back]
          have hs2 : (q1 + b / c + 1) * c + (r1 + b % c - c) = A' * b := by rw [Int.add_mul, Int.one_mul, ← hsum]; omega
          refine ev_ite (fun e4 => ?_) (fun e4 => ?_)
          · refine ev_now (mdq_zero (T := A' * b) (Q := q1 + b / c + 1) (by omega) htopb ?_ (by omega)).symm
            omega
          · exact ih _ _ (by omega) (by omega) (by omega) (by omega) hs2
        · refine Ev.step (fun k => spec_MulDiv.j4.eq_2 a c _ _ (b / c) (b % c) n _ k) (ev_neg (by simp; omega) ?_)
          rw [back]
          refine ev_neg (by omega) ?_
          exact ih _ _ (by omega) (by omega) (by omega) (by omega) hsum
      · have e0 : A' % 2 = 0 := by omega
        rw [e0] at hAb
        rw [back]
        refine ev_ite (fun e2 => ?_) (fun e2 => ?_)
        · refine ev_now (mdq_zero (T := A' * b) (Q := q1) (by omega) htopb ?_ (by omega)).symm
          omega
        · exact ih _ _ g0 g1 g2 (by omega) (by omega)
    rw [wrap_in (i := 2 * r) (by omega) (by omega), wrap_in (i := 2 * q) (by omega) (by omega)]
    refine ev_ite (fun e => ?_) (fun e => ?_)
    · refine Ev.step (fun k => spec_MulDiv.j2.eq_2 a c _ _ (b / c) (b % c) n true k) (ev_pos rfl ?_)
      rw [wrap_in (by omega) (by omega), wrap_in (i := 2 * r - c) (by omega) (by omega)]
      refine three _ _ (by omega) (by omega) (by omega) (by omega) ?_
      rw [Int.add_mul, Int.mul_assoc, ← h]; omega
    · refine Ev.step (fun k => spec_MulDiv.j2.eq_2 a c _ _ (b / c) (b % c) n _ k) (ev_neg (by simp; omega) ?_)
      refine three _ _ (by omega) (by omega) (by omega) (by omega) ?_
      rw [Int.mul_assoc, ← h]; omega
/-- The guard of both. -/
def mdAll (a b c : Int) : Int := if a < 0 ∨ b < 0 ∨ c < 1 ∨ c > 4611686018427387904 then 0 else mdq a b c
theorem md_spec (a b c : Int) (ha1 : a ≤ 9223372036854775807) (hb1 : b ≤ 9223372036854775807) : Ev (fun k => spec_MulDiv.f k a b c) (mdAll a b c) := by
  have yes : (a < 0 ∨ b < 0 ∨ c < 1 ∨ c > 4611686018427387904) → Ev (fun k => spec_MulDiv.j0 k a b c true) (mdAll a b c) := fun h =>
    Ev.step (fun k => spec_MulDiv.j0.eq_2 a b c true k) (ev_pos rfl (ev_now (by unfold mdAll; rw [if_pos h])))
  refine Ev.congr (fun k => spec_MulDiv.f.eq_1 k a b c) (ev_ite (fun h => yes (by omega)) (fun h1 => ev_ite (fun h => yes (by omega)) (fun h2 => ev_ite (fun h => yes (by omega)) (fun h3 => ?_))))
  by_cases h4 : c > 4611686018427387904
  · rw [decide_eq_true h4]; exact yes (by omega)
  rw [decide_eq_false h4]
  refine Ev.step (fun k => spec_MulDiv.j0.eq_2 a b c false k) (ev_neg (by simp) (ev_neg (by omega) ?_))
  have e : mdAll a b c = mdq a b c := by unfold mdAll; rw [if_neg (by omega)]
  rw [e, Int.tdiv_eq_ediv_of_nonneg (by omega), Int.tmod_eq_emod_of_nonneg (by omega)]
  have hd0 : 0 ≤ b / c := Int.ediv_nonneg (by omega) (by omega)
  have hd1 : b / c ≤ b := Int.ediv_le_self _ (by omega)
  rw [wrap_in (i := b / c) (by omega) (by omega)]
  refine md_spec_loop a b c (by omega) ha1 (by omega) hb1 (by omega) (by omega) 63 (by omega) 0 0 (by omega) (by omega) (by omega) (by omega) ?_
  have : a / 2 ^ 63 = 0 := Int.ediv_eq_zero_of_lt (by omega) (by omega)
  rw [this]; simp
theorem w64 {x : Int} (h0 : 0 ≤ x) (h1 : x < 18446744073709551616) : IntKind.u64.wrap x = x := by rw [IntKind.wrap_u64]; omega
/-- One digit of the quotient: from a guess that is not too small down to the digit itself. V = v1 * 2^32 + v0, the three digits above it U = u32 * 2^32 + u1. -/
theorem digit {ρ : Type} {L : Nat → Int → Int → Option ρ} {J : Nat → Int → Int → Bool → Option ρ} {K : Nat → Int → Option ρ} {v1 v0 u32 u1 V U : Int} {R : ρ}
    (hL : ∀ k q r, L (k + 1) q r = if q ≥ 4294967296 then J k q r true else J k q r (decide ((IntKind.u64.wrap (q * v0)) > (IntKind.u64.wrap ((IntKind.u64.wrap (4294967296 * r)) + u1)))))
    (hJ : ∀ k q r b, J (k + 1) q r b = if b = true then (if (IntKind.u64.wrap (r + v1)) ≥ 4294967296 then K k (IntKind.u64.wrap (q - 1)) else L k (IntKind.u64.wrap (q - 1)) (IntKind.u64.wrap (r + v1))) else K k q)
    (hv1 : 2147483648 ≤ v1) (hv1' : v1 < 4294967296) (hv0 : 0 ≤ v0) (hv0' : v0 < 4294967296) (hu1 : 0 ≤ u1) (hu1' : u1 < 4294967296) (hV : V = v1 * 4294967296 + v0) (hU : U = u32 * 4294967296 + u1) (hu : 0 ≤ u32) (huV : u32 < V)
    (hK : Ev (fun k => K k (U / V)) R) (d : Nat) : ∀ q r : Int, q - U / V = d → q < 18446744073709551616 → q * v1 + r = u32 → 0 ≤ r → r < 4294967296 → Ev (fun k => L k q r) R := by
  have hVp : 0 < V := by omega
  have hq0 : 0 ≤ U / V := Int.ediv_nonneg (by omega) (by omega)
  have hqs : U / V < 4294967296 := (Int.ediv_lt_iff_lt_mul hVp).2 (by omega)
  induction d with
  | zero =>
    intro q r hd hq hr h0 h1
    have hqV : q * V ≤ U := by
      have : q ≤ U / V := by omega
      exact (Int.le_ediv_iff_mul_le hVp).1 this
    have hp : 0 ≤ q * v0 := Int.mul_nonneg (by omega) hv0
    have hp2 : q * v0 ≤ 4294967295 * 4294967295 := Int.mul_le_mul (by omega) (by omega) hv0 (by omega)
    have e : q * V = (q * v1) * 4294967296 + q * v0 := by rw [hV, Int.mul_add, Int.mul_assoc]
    refine Ev.step (hL · q r) (ev_neg (by omega) ?_)
    refine Ev.step (hJ · q r _) (ev_neg ?_ ?_)
    · rw [w64 hp (by omega), w64 (x := 4294967296 * r) (by omega) (by omega), w64 (by omega) (by omega)]
      simp; omega
    · rw [show q = U / V by omega]; exact hK
  | succ d ih =>
    intro q r hd hq hr h0 h1
    have hqV : U < q * V := by
      have : U / V < q := by omega
      exact (Int.ediv_lt_iff_lt_mul hVp).1 this
    have e : q * V = (q * v1) * 4294967296 + q * v0 := by rw [hV, Int.mul_add, Int.mul_assoc]
    have go : Ev (fun k => J k q r true) R := by
      refine Ev.step (hJ · q r true) (ev_pos rfl ?_)
      rw [w64 (x := r + v1) (by omega) (by omega), w64 (x := q - 1) (by omega) (by omega)]
      have e1 : (q - 1) * v1 + (r + v1) = u32 := by rw [Int.sub_mul, Int.one_mul]; omega
      refine ev_ite (fun c => ?_) (fun c => ih (q - 1) (r + v1) (by omega) (by omega) e1 (by omega) (by omega))
      have hle : (q - 1) * V ≤ U := by
        have hlt : q - 1 < 4294967296 := by
          rcases Int.lt_or_le (q - 1) 4294967296 with h | h
          · exact h
          · have : 4294967296 * v1 ≤ (q - 1) * v1 := Int.mul_le_mul_of_nonneg_right h (by omega)
            omega
        have : (q - 1) * v0 ≤ 4294967295 * 4294967295 := Int.mul_le_mul (by omega) (by omega) hv0 (by omega)
        have e2 : (q - 1) * V = ((q - 1) * v1) * 4294967296 + (q - 1) * v0 := by rw [hV, Int.mul_add, Int.mul_assoc]
        omega
      have : q - 1 ≤ U / V := (Int.le_ediv_iff_mul_le hVp).2 hle
      rw [show q - 1 = U / V by omega]; exact hK
    refine Ev.step (hL · q r) (ev_ite (fun _ => go) (fun c => ?_))
    have hp : 0 ≤ q * v0 := Int.mul_nonneg (by omega) hv0
    have hp2 : q * v0 ≤ 4294967295 * 4294967295 := Int.mul_le_mul (by omega) (by omega) hv0 (by omega)
    rw [w64 hp (by omega), w64 (x := 4294967296 * r) (by omega) (by omega), w64 (x := 4294967296 * r + u1) (by omega) (by omega)]
    rw [decide_eq_true (by omega)]; exact go
/-- The first guess is not too small. -/
theorem guess {v1 v0 u32 u1 V U : Int} (hv1 : 0 < v1) (hv0 : 0 ≤ v0) (hu1' : u1 < 4294967296) (hV : V = v1 * 4294967296 + v0) (hU : U = u32 * 4294967296 + u1) (hu : 0 ≤ u32) (hu1 : 0 ≤ u1) : U / V ≤ u32 / v1 := by
  have hVp : 0 < V := by omega
  have hq0 : 0 ≤ U / V := Int.ediv_nonneg (by omega) (by omega)
  refine (Int.le_ediv_iff_mul_le hv1).2 ?_
  have h1 : U / V * V ≤ U := Int.ediv_mul_le _ (by omega)
  generalize U / V = Q at *
  have e : Q * V = (Q * v1) * 4294967296 + Q * v0 := by rw [hV, Int.mul_add, Int.mul_assoc]
  have : 0 ≤ Q * v0 := Int.mul_nonneg hq0 hv0
  omega
theorem bitLen_bounds (n : Nat) : ∀ x : Nat, x ≤ n → 0 < x → x < 2 ^ 64 → 2 ^ (Lib.bitLen x - 1) ≤ x ∧ x < 2 ^ Lib.bitLen x ∧ 1 ≤ Lib.bitLen x := by
  induction n with
  | zero => intro x h1 h2; omega
  | succ n ih =>
    intro x h1 h2 h3
    have e := Lib.bitLen_half x (by omega) h3
    by_cases hx : x = 1
    · subst hx; decide
    obtain ⟨a, b, c⟩ := ih (x / 2) (by omega) (by omega) (by omega)
    rw [e]
    obtain ⟨m, hm⟩ : ∃ m, Lib.bitLen (x / 2) = m + 1 := ⟨Lib.bitLen (x / 2) - 1, by omega⟩
    rw [hm] at a b ⊢
    refine ⟨?_, ?_, by omega⟩
    · rw [show 1 + (m + 1) - 1 = m + 1 by omega, Nat.pow_succ]
      rw [show m + 1 - 1 = m by omega] at a
      omega
    · rw [show 1 + (m + 1) = (m + 1) + 1 by omega, Nat.pow_succ]; omega
theorem shift_of (y : Int) (h0 : 0 < y) (h1 : y ≤ 4611686018427387904) : ∃ s : Nat, 1 ≤ s ∧ s ≤ 63 ∧ (64 - (Lib.bitLen y.toNat : Int)) = s ∧ 9223372036854775808 ≤ y * 2 ^ s ∧ y * 2 ^ s < 18446744073709551616 := by
  obtain ⟨x, rfl⟩ := Int.eq_ofNat_of_zero_le (Int.le_of_lt h0)
  obtain ⟨a, b, c⟩ := bitLen_bounds x x (Nat.le_refl _) (by omega) (by omega)
  have hle : Lib.bitLen x ≤ 63 := Lib.bitLen_le x 63 (by omega) (by omega)
  rw [Int.toNat_natCast]
  have e : (2 : Nat) ^ (Lib.bitLen x - 1) * 2 ^ (64 - Lib.bitLen x) = 9223372036854775808 := by
    rw [← Nat.pow_add, show Lib.bitLen x - 1 + (64 - Lib.bitLen x) = 63 by omega]
  have e2 : (2 : Nat) ^ Lib.bitLen x * 2 ^ (64 - Lib.bitLen x) = 18446744073709551616 := by
    rw [← Nat.pow_add, show Lib.bitLen x + (64 - Lib.bitLen x) = 64 by omega]
  have p : 0 < (2 : Nat) ^ (64 - Lib.bitLen x) := Nat.two_pow_pos _
  have a2 := Nat.mul_le_mul_right (2 ^ (64 - Lib.bitLen x)) a
  have b2 := Nat.mul_lt_mul_of_pos_right b p
  refine ⟨64 - Lib.bitLen x, by omega, by omega, by omega, ?_, ?_⟩
  · have : ((x * 2 ^ (64 - Lib.bitLen x) : Nat) : Int) = (x : Int) * 2 ^ (64 - Lib.bitLen x) := by simp
    rw [← this]; omega
  · have : ((x * 2 ^ (64 - Lib.bitLen x) : Nat) : Int) = (x : Int) * 2 ^ (64 - Lib.bitLen x) := by simp
    rw [← this]; omega
theorem shl_u64 (x : Int) (n : Nat) (hn : n ≤ 64) : shl .u64 x n = (x * 2 ^ n) % 18446744073709551616 := by
  unfold shl
  rw [show IntKind.u64.bits = 64 from rfl, Int.toNat_natCast, Nat.min_eq_left hn, IntKind.wrap_u64]
theorem shr_u64 (x : Int) (n : Nat) (hn : n ≤ 64) : shr .u64 x n = x / 2 ^ n := by
  unfold shr
  rw [show IntKind.u64.bits = 64 from rfl, Int.toNat_natCast, Nat.min_eq_left hn]
theorem div64 (hi lo y : Int) (hy : 0 < y) (hy1 : y ≤ 4611686018427387904) (h0 : 0 ≤ hi) (h1 : hi < y) (l0 : 0 ≤ lo) (l1 : lo < 18446744073709551616) :
    ∃ rem, Ev (fun k => bits_Div64.f k hi lo y) ((hi * 18446744073709551616 + lo) / y, rem) := by
  by_cases hz : hi = 0
  · subst hz
    have a : 0 ≤ lo / y := Int.ediv_nonneg l0 (by omega)
    have b : lo / y ≤ lo := Int.ediv_le_self _ l0
    refine ⟨_, Ev.congr (fun k => bits_Div64.f.eq_1 k 0 lo y) (ev_neg (by omega) (ev_neg (by omega) (ev_pos rfl (ev_now (Prod.ext ?_ rfl)))))⟩
    show IntKind.u64.wrap (Int.tdiv lo y) = _
    rw [Int.tdiv_eq_ediv_of_nonneg l0, w64 a (by omega)]; simp
  obtain ⟨s, s1, s2, hs, v0, v1⟩ := shift_of y hy hy1
  have P : (0 : Int) < 2 ^ s := Int.pow_pos (by decide)
  have P2 : (0 : Int) < 2 ^ (64 - s) := Int.pow_pos (by decide)
  have PP : (2 : Int) ^ s * 2 ^ (64 - s) = 18446744073709551616 := by
    rw [← Int.pow_add, show s + (64 - s) = 64 by omega]; rfl
  obtain ⟨V, hV⟩ : ∃ V, V = y * 2 ^ s := ⟨_, rfl⟩
  obtain ⟨A, hA⟩ : ∃ A, A = hi * 2 ^ s := ⟨_, rfl⟩
  obtain ⟨C, hC⟩ : ∃ C, C = lo / 2 ^ (64 - s) := ⟨_, rfl⟩
  obtain ⟨D, hD⟩ : ∃ D, D = (lo * 2 ^ s) % 18446744073709551616 := ⟨_, rfl⟩
  have hA0 : 0 ≤ A := by rw [hA]; exact Int.mul_nonneg h0 (by omega)
  have hAV : A + 2 ^ s ≤ V := by
    rw [hA, hV]
    have := Int.mul_le_mul_of_nonneg_right (show hi + 1 ≤ y by omega) (Int.le_of_lt P)
    rw [Int.add_mul, Int.one_mul] at this
    exact this
  have hC0 : 0 ≤ C := by rw [hC]; exact Int.ediv_nonneg l0 (Int.le_of_lt P2)
  have hC1 : C < 2 ^ s := by rw [hC]; exact (Int.ediv_lt_iff_lt_mul P2).2 (by rw [PP]; exact l1)
  have hlo : lo * 2 ^ s = C * 18446744073709551616 + D := by
    have e1 : lo * 2 ^ s / 18446744073709551616 = C := by
      rw [← PP, Int.mul_comm (2 ^ s) (2 ^ (64 - s)), Int.mul_ediv_mul_of_pos_left _ _ P, hC]
    have := Int.mul_ediv_add_emod (lo * 2 ^ s) 18446744073709551616
    rw [e1, ← hD] at this
    omega
  have hD0 : 0 ≤ D ∧ D < 18446744073709551616 := by rw [hD]; omega
  have hN : (hi * 18446744073709551616 + lo) * 2 ^ s = (A + C) * 18446744073709551616 + D := by
    rw [Int.add_mul, hlo, hA, Int.mul_right_comm]; omega
  rw [← hV] at v0 v1
  have hu : A + C < V := by omega
  -- the two digits
  obtain ⟨q1, hq1⟩ : ∃ q, q = ((A + C) * 4294967296 + D / 4294967296) / V := ⟨_, rfl⟩
  obtain ⟨r1, hr1⟩ : ∃ r, r = ((A + C) * 4294967296 + D / 4294967296) % V := ⟨_, rfl⟩
  have d1 := Int.mul_ediv_add_emod ((A + C) * 4294967296 + D / 4294967296) V
  rw [← hq1, ← hr1] at d1
  have r10 : 0 ≤ r1 := by rw [hr1]; exact Int.emod_nonneg _ (by omega)
  have r11 : r1 < V := by rw [hr1]; exact Int.emod_lt_of_pos _ (by omega)
  obtain ⟨q0, hq0⟩ : ∃ q, q = (r1 * 4294967296 + D % 4294967296) / V := ⟨_, rfl⟩
  obtain ⟨r0, hr0⟩ : ∃ r, r = (r1 * 4294967296 + D % 4294967296) % V := ⟨_, rfl⟩
  have d0 := Int.mul_ediv_add_emod (r1 * 4294967296 + D % 4294967296) V
  rw [← hq0, ← hr0] at d0
  have r00 : 0 ≤ r0 := by rw [hr0]; exact Int.emod_nonneg _ (by omega)
  have r01 : r0 < V := by rw [hr0]; exact Int.emod_lt_of_pos _ (by omega)
  have q10 : 0 ≤ q1 := by rw [hq1]; exact Int.ediv_nonneg (by omega) (by omega)
  have q11 : q1 < 4294967296 := by rw [hq1]; exact (Int.ediv_lt_iff_lt_mul (by omega)).2 (by omega)
  have q00 : 0 ≤ q0 := by rw [hq0]; exact Int.ediv_nonneg (by omega) (by omega)
  have q01 : q0 < 4294967296 := by rw [hq0]; exact (Int.ediv_lt_iff_lt_mul (by omega)).2 (by omega)
  have hQ : (hi * 18446744073709551616 + lo) / y = q1 * 4294967296 + q0 := by
    have e : (hi * 18446744073709551616 + lo) / y = ((A + C) * 18446744073709551616 + D) / V := by
      rw [← hN, hV, Int.mul_ediv_mul_of_pos_left _ _ P]
    have e2 : (A + C) * 18446744073709551616 + D = r0 + (q1 * 4294967296 + q0) * V := by
      have e3 : (q1 * 4294967296 + q0) * V = V * q1 * 4294967296 + V * q0 := by rw [Int.add_mul, Int.mul_right_comm, Int.mul_comm q1 V, Int.mul_comm q0 V]
      omega
    rw [e, e2, Int.add_mul_ediv_right _ _ (by omega), Int.ediv_eq_zero_of_lt r00 r01]; omega
  have hvB : V / 4294967296 * 4294967296 + V % 4294967296 = V := by omega
  have hor : Go.bits .or .u64 A C = A + C := bits_join .u64 64 (by decide) (fun n a b => w64 a b) s A C hA0 (by rw [hA]; exact Int.mul_emod_left _ _) (by omega) hC0 hC1 (by omega)
  have hsw : IntKind.u64.wrap (s : Int) = s := w64 (by omega) (by omega)
  have hsw2 : IntKind.u64.wrap (64 - (s : Int)) = ((64 - s : Nat) : Int) := by rw [w64 (by omega) (by omega)]; omega
  refine ⟨r0 / 2 ^ s, Ev.congr (fun k => bits_Div64.f.eq_1 k hi lo y) (ev_neg (by omega) (ev_neg (by omega) (ev_neg hz (ev_bc (a := (s : Int)) ?_ ?_))))⟩
  · unfold bits_LeadingZeros64.f
    rw [if_pos (by omega), hs]
  rw [hsw, hsw2]
  refine ev_pos (by omega) (ev_pos (by omega) ?_)
  rw [shl_u64 y s (by omega), shl_u64 hi s (by omega), shr_u64 lo (64 - s) (by omega), shl_u64 lo s (by omega), ← hV, ← hA, ← hC, ← hD, Int.emod_eq_of_lt (a := V) (by omega) (by omega), Int.emod_eq_of_lt (a := A) (by omega) (by omega), hor,
    and_low32 V (by omega) (by omega), and_low32 D (by omega) (by omega), Int.tdiv_eq_ediv_of_nonneg (by omega)]
  refine ev_neg (by omega) ?_
  have g1 : 0 ≤ (A + C) / (V / 4294967296) := Int.ediv_nonneg (by omega) (by omega)
  have g2 : (A + C) / (V / 4294967296) ≤ A + C := Int.ediv_le_self _ (by omega)
  have g3 := Int.mul_ediv_add_emod (A + C) (V / 4294967296)
  have g4 : 0 ≤ (A + C) % (V / 4294967296) := Int.emod_nonneg _ (by omega)
  have g5 : (A + C) % (V / 4294967296) < V / 4294967296 := Int.emod_lt_of_pos _ (by omega)
  rw [Int.mul_comm] at g3
  have g6 : 0 ≤ (A + C) / (V / 4294967296) * (V / 4294967296) := Int.mul_nonneg g1 (by omega)
  rw [w64 g1 (by omega), w64 (x := (A + C) / (V / 4294967296) * (V / 4294967296)) (by omega) (by omega), w64 (x := A + C - (A + C) / (V / 4294967296) * (V / 4294967296)) (by omega) (by omega)]
  rw [hQ]
  obtain ⟨n1, hn1⟩ := Int.eq_ofNat_of_zero_le (show 0 ≤ (A + C) / (V / 4294967296) - ((A + C) * 4294967296 + D / 4294967296) / V by
    have := guess (v1 := V / 4294967296) (v0 := V % 4294967296) (u32 := A + C) (u1 := D / 4294967296) (by omega) (by omega) (by omega) hvB.symm rfl (by omega) (by omega)
    omega)
  refine digit (L := fun k q r => bits_Div64.l0 k V s (V / 4294967296) (V % 4294967296) (A + C) (D / 4294967296) (D % 4294967296) q r)
    (J := fun k q r b => bits_Div64.j1 k V s (V / 4294967296) (V % 4294967296) (A + C) (D / 4294967296) (D % 4294967296) q r b)
    (K := fun k q => bits_Div64.j2 k V s (V / 4294967296) (V % 4294967296) (A + C) (D / 4294967296) (D % 4294967296) q)
    (fun k q r => bits_Div64.l0.eq_2 V s _ _ _ _ _ q r k) (fun k q r b => bits_Div64.j1.eq_2 V s _ _ _ _ _ q r b k) (V := V) (by omega) (by omega) (by omega) (by omega) (by omega) (by omega) hvB.symm rfl (by omega) hu ?_ n1 _ _ hn1 (by omega) (by omega) (by omega) (by omega)
  rw [← hq1]
  refine Ev.step (fun k => bits_Div64.j2.eq_2 V s _ _ _ _ _ q1 k) (ev_neg (by omega) ?_)
  have hE : IntKind.u64.wrap ((IntKind.u64.wrap ((IntKind.u64.wrap ((A + C) * 4294967296)) + D / 4294967296)) - (IntKind.u64.wrap (q1 * V))) = r1 := by
    have : q1 * V = V * q1 := Int.mul_comm _ _
    simp only [IntKind.wrap_u64]
    generalize q1 * V = t at *
    omega
  rw [hE, Int.tdiv_eq_ediv_of_nonneg r10]
  have k1 : 0 ≤ r1 / (V / 4294967296) := Int.ediv_nonneg (by omega) (by omega)
  have k2 : r1 / (V / 4294967296) ≤ r1 := Int.ediv_le_self _ (by omega)
  have k3 := Int.mul_ediv_add_emod r1 (V / 4294967296)
  have k4 : 0 ≤ r1 % (V / 4294967296) := Int.emod_nonneg _ (by omega)
  have k5 : r1 % (V / 4294967296) < V / 4294967296 := Int.emod_lt_of_pos _ (by omega)
  rw [Int.mul_comm] at k3
  have k6 : 0 ≤ r1 / (V / 4294967296) * (V / 4294967296) := Int.mul_nonneg k1 (by omega)
  rw [w64 k1 (by omega), w64 (x := r1 / (V / 4294967296) * (V / 4294967296)) (by omega) (by omega), w64 (x := r1 - r1 / (V / 4294967296) * (V / 4294967296)) (by omega) (by omega)]
  obtain ⟨n0, hn0⟩ := Int.eq_ofNat_of_zero_le (show 0 ≤ r1 / (V / 4294967296) - (r1 * 4294967296 + D % 4294967296) / V by
    have := guess (v1 := V / 4294967296) (v0 := V % 4294967296) (u32 := r1) (u1 := D % 4294967296) (by omega) (by omega) (by omega) hvB.symm rfl (by omega) (by omega)
    omega)
  refine digit (L := fun k q r => bits_Div64.l1 k V s (V / 4294967296) (V % 4294967296) (D % 4294967296) q1 r r1 q)
    (J := fun k q r b => bits_Div64.j4 k V s (V / 4294967296) (V % 4294967296) (D % 4294967296) q1 r r1 q b)
    (K := fun k q => if 0 ≤ (s : Int) then (some (IntKind.u64.wrap ((IntKind.u64.wrap (q1 * 4294967296)) + q), shr .u64 (IntKind.u64.wrap ((IntKind.u64.wrap ((IntKind.u64.wrap (r1 * 4294967296)) + D % 4294967296)) - (IntKind.u64.wrap (q * V)))) s)) else none)
    (fun k q r => bits_Div64.l1.eq_2 V s _ _ _ q1 r r1 q k) (fun k q r b => bits_Div64.j4.eq_2 V s _ _ _ q1 r r1 q b k) (V := V) (by omega) (by omega) (by omega) (by omega) (by omega) (by omega) hvB.symm rfl (by omega) r11 ?_ n0 _ _ hn0 (by omega) (by omega) (by omega) (by omega)
  rw [← hq0]
  refine ev_pos (by omega) (ev_now ?_)
  have hE2 : IntKind.u64.wrap ((IntKind.u64.wrap ((IntKind.u64.wrap (r1 * 4294967296)) + D % 4294967296)) - (IntKind.u64.wrap (q0 * V))) = r0 := by
    have : q0 * V = V * q0 := Int.mul_comm _ _
    simp only [IntKind.wrap_u64]
    generalize q0 * V = t at *
    omega
  rw [hE2, shr_u64 r0 s (by omega), w64 (x := q1 * 4294967296) (by omega) (by omega), w64 (by omega) (by omega)]
theorem md_impl (a b c : Int) (ha1 : a ≤ 9223372036854775807) (hb1 : b ≤ 9223372036854775807) : Ev (fun k => impl_MulDiv.f k a b c) (mdAll a b c) := by
  have yes : (a < 0 ∨ b < 0 ∨ c < 1 ∨ c > 4611686018427387904) → Ev (fun k => impl_MulDiv.j0 k a b c true) (mdAll a b c) := fun h =>
    Ev.step (fun k => impl_MulDiv.j0.eq_2 a b c true k) (ev_pos rfl (ev_now (by unfold mdAll; rw [if_pos h])))
  refine Ev.congr (fun k => impl_MulDiv.f.eq_1 k a b c) (ev_ite (fun h => yes (by omega)) (fun h1 => ev_ite (fun h => yes (by omega)) (fun h2 => ev_ite (fun h => yes (by omega)) (fun h3 => ?_))))
  by_cases h4 : c > 4611686018427387904
  · rw [decide_eq_true h4]; exact yes (by omega)
  rw [decide_eq_false h4]
  have e : mdAll a b c = mdq a b c := by unfold mdAll; rw [if_neg (by omega)]
  rw [e]
  have hab : 0 ≤ a * b := Int.mul_nonneg (by omega) (by omega)
  have hab2 : a * b ≤ 9223372036854775807 * 9223372036854775807 := Int.mul_le_mul ha1 hb1 (by omega) (by omega)
  refine Ev.step (fun k => impl_MulDiv.j0.eq_2 a b c false k) (ev_neg (by simp) ?_)
  rw [w64 (x := a) (by omega) (by omega), w64 (x := b) (by omega) (by omega), w64 (x := c) (by omega) (by omega)]
  refine ev_bc (a := (a * b / 18446744073709551616, a * b % 18446744073709551616)) (by unfold bits_Mul64.f; rw [if_pos (by omega)]) ?_
  have hsum : a * b / 18446744073709551616 * 18446744073709551616 + a * b % 18446744073709551616 = a * b := by omega
  refine ev_ite (fun h => ev_now ?_) (fun h => ?_)
  · exact (mdq_zero (T := a * b) (Q := 18446744073709551616) (by omega) (Int.le_refl _) (by have h : c ≤ a * b / 18446744073709551616 := h; omega) (by omega)).symm
  obtain ⟨rem, hr⟩ := div64 (a * b / 18446744073709551616) (a * b % 18446744073709551616) c (by omega) (by omega) (by omega) (by omega) (by omega) (by omega)
  rw [hsum] at hr
  refine Ev.bind hr (ev_ite (fun h => ev_now ?_) (fun h => ev_now ?_))
  · unfold mdq; rw [if_pos h]
  · have : 0 ≤ a * b / c := Int.ediv_nonneg hab (by omega)
    show wrap64 (a * b / c) = _
    unfold mdq
    rw [if_neg h, wrap_in (by omega) (by simp at h; omega)]
/-! ### shares -/
def sm : List Int → Int
  | [] => 0
  | x :: t => x + sm t
def okW (ws : List Int) : Prop := ws.length ≤ 400 ∧ ∀ x ∈ ws, 0 ≤ x ∧ x ≤ 100000000000
theorem sm_bound : ∀ ws : List Int, (∀ x ∈ ws, 0 ≤ x ∧ x ≤ 100000000000) → 0 ≤ sm ws ∧ sm ws ≤ 100000000000 * (ws.length : Int)
  | [], _ => by simp [sm]
  | x :: t, h => by
    have h1 := h x (by simp)
    have h2 := sm_bound t (fun y hy => h y (by simp [hy]))
    simp only [sm, List.length_cons]
    omega
theorem sm_zero : ∀ ws : List Int, (∀ x ∈ ws, 0 ≤ x ∧ x ≤ 100000000000) → sm ws = 0 → ∀ x ∈ ws, x = 0
  | [], _, _ => by simp
  | x :: t, h, hs => by
    have h1 := h x (by simp)
    have h2 := sm_bound t (fun y hy => h y (by simp [hy]))
    simp only [sm] at hs
    intro y hy
    rcases List.mem_cons.1 hy with rfl | hy
    · omega
    · exact sm_zero t (fun y hy => h y (by simp [hy])) (by omega) y hy
theorem sm_drop (ws : List Int) (i : Nat) (h : i < ws.length) : sm (ws.drop i) = ws[i] + sm (ws.drop (i + 1)) := by
  rw [List.drop_eq_getElem_cons h]; rfl
/-- The shares, from a place on: t the total, n all weights together. -/
def spr (t n : Int) (even : Bool) : List Int → Int → List Int
  | [], _ => []
  | x :: xs, v => wrap64 (mdAll t (if even = true then v + 1 else v + x) n - mdAll t v n) :: spr t n even xs (if even = true then v + 1 else v + x)
def spread (t : Int) (ws : List Int) : List Int := if sm ws = 0 then spr t ws.length true ws 0 else spr t (sm ws) false ws 0
theorem spr_length (t n : Int) (even : Bool) : ∀ (ws : List Int) (v : Int), (spr t n even ws v).length = ws.length
  | [], _ => rfl
  | _ :: xs, _ => by simp [spr, spr_length t n even xs]
theorem spread_length (t : Int) (ws : List Int) : (spread t ws).length = ws.length := by
  unfold spread; split <;> exact spr_length _ _ _ _ _
theorem spr_drop (t n : Int) (even : Bool) (ws : List Int) (i : Nat) (h : i < ws.length) (v : Int) (acc : List Int) :
    acc ++ spr t n even (ws.drop i) v = (acc ++ [wrap64 (mdAll t (if even = true then v + 1 else v + ws[i]) n - mdAll t v n)]) ++ spr t n even (ws.drop (i + 1)) (if even = true then v + 1 else v + ws[i]) := by
  rw [List.drop_eq_getElem_cons h, List.append_assoc]; rfl
theorem spread_spec (t : Int) (ws : List Int) (ht : t ≤ 9223372036854775807) (hw : okW ws) : Ev (fun k => spec_l16Spread.f k t ws) (spread t ws) := by
  have hb := sm_bound ws hw.2
  have hl := hw.1
  refine Ev.congr (fun k => spec_l16Spread.f.eq_1 k t ws) ?_
  refine ev_loop (g := fun k s i => spec_l16Spread.l0 k t ws [] s i) ws.length (fun _ _ => spread t ws) (fun i s => s + sm (ws.drop i) = sm ws ∧ 0 ≤ s) ?_ ?_ 0 (Nat.zero_le _) 0 ⟨by simp, by omega⟩
  · rintro s ⟨h1, h2⟩
    rw [List.drop_of_length_le (Nat.le_refl _)] at h1
    obtain rfl : s = sm ws := by simpa [sm] using h1
    have fin : ∀ (n : Int) (even : Bool), n ≤ 9223372036854775807 → (even = true ↔ sm ws = 0) → spread t ws = spr t n even ws 0 → Ev (fun k => spec_l16Spread.j1 k t ws [] n even) (spread t ws) := by
      intro n even _ he hs
      rw [hs]
      refine Ev.step (fun k => spec_l16Spread.j1.eq_2 t ws [] n even k) ?_
      refine ev_loop (σ := List Int × Int) (g := fun k s i => spec_l16Spread.l1 k t ws s.1 n even s.2 i) ws.length (fun i s => s.1 ++ spr t n even (ws.drop i) s.2) (fun i s => s.1.length = i ∧ 0 ≤ s.2 ∧ (even = true → s.2 = i) ∧ (even = false → s.2 + sm (ws.drop i) = sm ws)) ?_ ?_ 0 (Nat.zero_le _) ([], 0) ⟨rfl, by simp, fun _ => rfl, fun _ => by simp⟩
      · rintro ⟨acc, v⟩ _
        refine Ev.step (fun k => spec_l16Spread.l1.eq_2 t ws acc n even v _ k) (ev_neg (by omega) (ev_now ?_))
        rw [List.drop_of_length_le (Nat.le_refl _)]; simp [spr]
      · rintro i ⟨acc, v⟩ hi ⟨g1, g2, g3, g4⟩ ih
        have g1 : acc.length = i := g1
        have g2 : 0 ≤ v := g2
        have g3 : even = true → v = i := g3
        have g4 : even = false → v + sm (ws.drop i) = sm ws := g4
        have hx := hw.2 ws[i] (List.getElem_mem hi)
        refine Ev.step (fun k => spec_l16Spread.l1.eq_2 t ws acc n even v i k) (ev_pos (by omega) (ev_pos (by omega) ?_))
        show Ev _ (acc ++ spr t n even (ws.drop i) v)
        rw [rd_nat ws i hi, wrap_succ (i := i) (by omega), spr_drop t n even ws i hi v acc]
        cases even with
        | true =>
          have h0 : ws[i] = 0 := sm_zero ws hw.2 (he.1 rfl) _ (List.getElem_mem hi)
          have hv := g3 rfl
          refine ev_pos rfl ?_
          rw [h0, Int.add_zero, wrap_in (i := v) (by omega) (by omega), wrap_in (i := v + 1) (by omega) (by omega)]
          simp only [if_true]
          refine Ev.bind (md_spec t _ n ht (by omega)) (Ev.bind (md_spec t _ n ht (by omega)) (ev_pos (by omega) ?_))
          exact ih (acc ++ [wrap64 (mdAll t (v + 1) n - mdAll t v n)], v + 1) ⟨by simp [g1], by show 0 ≤ v + 1; omega, fun _ => by show v + 1 = _; omega, fun h => by cases h⟩
        | false =>
          have hv := g4 rfl
          rw [sm_drop ws i hi] at hv
          have hd := sm_bound (ws.drop (i + 1)) (fun x hx => hw.2 x (List.mem_of_mem_drop hx))
          refine ev_neg (by simp) ?_
          rw [wrap_in (i := v + ws[i]) (by omega) (by omega)]
          simp only [Bool.false_eq_true, if_false]
          refine Ev.bind (md_spec t _ n ht (by omega)) (Ev.bind (md_spec t _ n ht (by omega)) (ev_pos (by omega) ?_))
          exact ih (acc ++ [wrap64 (mdAll t (v + ws[i]) n - mdAll t v n)], v + ws[i]) ⟨by simp [g1], by show 0 ≤ v + ws[i]; omega, fun h => (by cases h), fun _ => by show v + ws[i] + _ = _; omega⟩
    refine Ev.step (fun k => spec_l16Spread.l0.eq_2 t ws [] (sm ws) _ k) (ev_neg (by omega) (ev_ite (fun h => ?_) (fun h => ?_)))
    · rw [beq_iff_eq.mpr h]
      exact fin _ true (by omega) (by simp [h]) (by unfold spread; rw [if_pos h])
    · rw [beq_eq_false_iff_ne.mpr h]
      exact fin _ false (by omega) (by simp [h]) (by unfold spread; rw [if_neg h])
  · rintro i s hi ⟨h1, h2⟩ ih
    have hx := hw.2 ws[i] (List.getElem_mem hi)
    rw [sm_drop ws i hi] at h1
    have hd := sm_bound (ws.drop (i + 1)) (fun x hx => hw.2 x (List.mem_of_mem_drop hx))
    refine Ev.step (fun k => spec_l16Spread.l0.eq_2 t ws [] s i k) (ev_pos (by omega) (ev_pos (by omega) ?_))
    rw [rd_nat ws i hi, wrap_succ (i := i) (by omega), wrap_in (i := s + ws[i]) (by omega) (by omega)]
    exact ih _ ⟨by omega, by omega⟩
theorem spread_impl (t : Int) (ws : List Int) (ht : t ≤ 9223372036854775807) (hw : okW ws) : Ev (fun k => impl_spread.f k t ws) (spread t ws) := by
  have hb := sm_bound ws hw.2
  have hl := hw.1
  refine Ev.congr (fun k => impl_spread.f.eq_1 k t ws) ?_
  refine ev_loop (g := fun k s i => impl_spread.l0 k t ws s ws ws.length i) ws.length (fun _ _ => spread t ws) (fun i s => s + sm (ws.drop i) = sm ws ∧ 0 ≤ s) ?_ ?_ 0 (Nat.zero_le _) 0 ⟨by simp, by omega⟩
  · rintro s ⟨h1, h2⟩
    rw [List.drop_of_length_le (Nat.le_refl _)] at h1
    obtain rfl : s = sm ws := by simpa [sm] using h1
    refine Ev.step (fun k => impl_spread.l0.eq_2 t ws (sm ws) ws ws.length _ k) (ev_neg (by omega) ?_)
    by_cases hz : sm ws = 0
    · have hs : spread t ws = spr t ws.length true ws 0 := by unfold spread; rw [if_pos hz]
      rw [hs, hz]
      refine ev_loop (σ := List Int × Int) (g := fun k s i => impl_spread.l1 k t ws 0 s.1 s.2 ws ws.length i) ws.length (fun i s => s.1 ++ spr t ws.length true (ws.drop i) i) (fun i s => s.1.length = i ∧ s.2 = 0) ?_ ?_ 0 (Nat.zero_le _) ([], 0) ⟨rfl, rfl⟩
      · rintro ⟨acc, v⟩ _
        refine Ev.step (fun k => impl_spread.l1.eq_2 t ws 0 acc v ws ws.length _ k) (ev_neg (by omega) (ev_now ?_))
        rw [List.drop_of_length_le (Nat.le_refl _)]; simp [spr]
      · rintro i ⟨acc, v⟩ hi ⟨g1, g2⟩ ih
        have g1 : acc.length = i := g1
        obtain rfl : v = 0 := g2
        have h0 : ws[i] = 0 := sm_zero ws hw.2 hz _ (List.getElem_mem hi)
        refine Ev.step (fun k => impl_spread.l1.eq_2 t ws 0 acc 0 ws ws.length i k) (ev_pos (by omega) (ev_pos (by omega) (ev_pos (by omega) (ev_pos rfl ?_))))
        show Ev _ (acc ++ spr t ws.length true (ws.drop i) i)
        rw [rd_nat ws i hi, h0, wrap_succ (i := i) (by omega), spr_drop t ws.length true ws i hi i acc]
        simp only [if_true]
        refine Ev.step (fun k => impl_spread.j2.eq_2 t ws 0 acc 0 0 i _ ws ws.length i k) (ev_pos rfl ?_)
        refine Ev.bind (md_impl t _ _ ht (by omega)) (Ev.bind (md_impl t _ _ ht (by omega)) (ev_pos (by omega) ?_))
        rw [wrap_succ (i := i) (by omega)]
        exact ih (acc ++ [wrap64 (mdAll t ((i + 1 : Nat) : Int) ws.length - mdAll t i ws.length)], wrap64 (0 + 0)) ⟨by simp [g1], by show wrap64 (0 + 0) = 0; decide +kernel⟩
    · have hs : spread t ws = spr t (sm ws) false ws 0 := by unfold spread; rw [if_neg hz]
      rw [hs]
      refine ev_loop (σ := List Int × Int) (g := fun k s i => impl_spread.l1 k t ws (sm ws) s.1 s.2 ws ws.length i) ws.length (fun i s => s.1 ++ spr t (sm ws) false (ws.drop i) s.2) (fun i s => s.1.length = i ∧ 0 ≤ s.2 ∧ s.2 + sm (ws.drop i) = sm ws) ?_ ?_ 0 (Nat.zero_le _) ([], 0) ⟨rfl, by simp, by simp⟩
      · rintro ⟨acc, v⟩ _
        refine Ev.step (fun k => impl_spread.l1.eq_2 t ws (sm ws) acc v ws ws.length _ k) (ev_neg (by omega) (ev_now ?_))
        rw [List.drop_of_length_le (Nat.le_refl _)]; simp [spr]
      · rintro i ⟨acc, v⟩ hi ⟨g1, g2, g4⟩ ih
        have g1 : acc.length = i := g1
        have g2 : 0 ≤ v := g2
        have hv : v + sm (ws.drop i) = sm ws := g4
        have hx := hw.2 ws[i] (List.getElem_mem hi)
        rw [sm_drop ws i hi] at hv
        have hd := sm_bound (ws.drop (i + 1)) (fun x hx => hw.2 x (List.mem_of_mem_drop hx))
        refine Ev.step (fun k => impl_spread.l1.eq_2 t ws (sm ws) acc v ws ws.length i k) (ev_pos (by omega) (ev_pos (by omega) (ev_pos (by omega) (ev_neg hz ?_))))
        show Ev _ (acc ++ spr t (sm ws) false (ws.drop i) v)
        rw [rd_nat ws i hi, spr_drop t (sm ws) false ws i hi v acc, wrap_in (i := v + ws[i]) (by omega) (by omega)]
        simp only [Bool.false_eq_true, if_false]
        refine Ev.step (fun k => impl_spread.j2.eq_2 t ws (sm ws) acc v ws[i] v _ ws ws.length i k) (ev_neg hz ?_)
        refine Ev.bind (md_impl t _ _ ht (by omega)) (Ev.bind (md_impl t _ _ ht (by omega)) (ev_pos (by omega) ?_))
        rw [wrap_succ (i := i) (by omega), wrap_in (i := v + ws[i]) (by omega) (by omega)]
        exact ih (acc ++ [wrap64 (mdAll t (v + ws[i]) (sm ws) - mdAll t v (sm ws))], v + ws[i]) ⟨by simp [g1], by show 0 ≤ v + ws[i]; omega, by show v + ws[i] + _ = _; omega⟩
  · rintro i s hi ⟨h1, h2⟩ ih
    have hx := hw.2 ws[i] (List.getElem_mem hi)
    rw [sm_drop ws i hi] at h1
    have hd := sm_bound (ws.drop (i + 1)) (fun x hx => hw.2 x (List.mem_of_mem_drop hx))
    refine Ev.step (fun k => impl_spread.l0.eq_2 t ws s ws ws.length i k) (ev_pos (by omega) (ev_pos (by omega) (ev_pos (by omega) ?_)))
    rw [rd_nat ws i hi, wrap_succ (i := i) (by omega), wrap_in (i := s + ws[i]) (by omega) (by omega)]
    exact ih _ ⟨by omega, by omega⟩
/-! ### the rounds of both sides -/
theorem mdAll_bound {t b n : Int} (ht : 0 ≤ t) (ht1 : t ≤ 4611686018427387904) (hb : 0 ≤ b) (hn : b ≤ n) (hn0 : 1 ≤ n) (hn1 : n ≤ 4611686018427387904) : mdAll t b n = t * b / n ∧ 0 ≤ t * b / n ∧ t * b / n ≤ t := by
  have h1 : 0 ≤ t * b / n := Int.ediv_nonneg (Int.mul_nonneg ht hb) (by omega)
  have h2 : t * b / n ≤ t := Int.ediv_le_of_le_mul (by omega) (Int.mul_le_mul_of_nonneg_left hn ht)
  refine ⟨?_, h1, h2⟩
  unfold mdAll mdq
  rw [if_neg (by omega), if_neg (by omega)]
theorem mdAll_mono {t a b n : Int} (ht : 0 ≤ t) (hab : a ≤ b) (hn0 : 1 ≤ n) : t * a / n ≤ t * b / n := Int.ediv_le_ediv (by omega) (Int.mul_le_mul_of_nonneg_left hab ht)
theorem spr_bound (t n : Int) (even : Bool) (ht : 0 ≤ t) (ht1 : t ≤ 4611686018427387904) (hn0 : 1 ≤ n) (hn1 : n ≤ 4611686018427387904) : ∀ (ws : List Int) (v : Int), (∀ x ∈ ws, 0 ≤ x ∧ x ≤ 100000000000) → 0 ≤ v → (if even = true then v + ws.length else v + sm ws) ≤ n → ∀ y ∈ spr t n even ws v, 0 ≤ y ∧ y ≤ t
  | [], _, _, _, _ => fun y hy => (by cases hy)
  | x :: r, v, hw, hv, hs => by
    have hx := hw x (by simp)
    have hb := sm_bound r (fun y hy => hw y (by simp [hy]))
    obtain ⟨v', hv'⟩ : ∃ v', v' = (if even = true then v + 1 else v + x) := ⟨_, rfl⟩
    have h1 : v ≤ v' := by rw [hv']; split <;> omega
    have h2 : (if even = true then v' + r.length else v' + sm r) ≤ n := by
      rw [hv']
      cases even with
      | true => rw [if_pos rfl] at hs ⊢; rw [if_pos rfl]; rw [List.length_cons] at hs; push_cast at hs; omega
      | false => rw [if_neg (by decide)] at hs ⊢; rw [if_neg (by decide)]; simp only [sm] at hs; omega
    have h3 : v' ≤ n := by
      cases even with
      | true => rw [if_pos rfl] at h2; omega
      | false => rw [if_neg (by decide)] at h2; omega
    intro y hy
    unfold spr at hy
    rw [← hv'] at hy
    rcases List.mem_cons.1 hy with rfl | hy
    · have m1 := mdAll_bound ht ht1 (show 0 ≤ v' by omega) h3 hn0 hn1
      have m2 := mdAll_bound ht ht1 hv (show v ≤ n by omega) hn0 hn1
      have m3 := mdAll_mono ht h1 hn0
      rw [m1.1, m2.1, wrap_in (by omega) (by omega)]
      omega
    · exact spr_bound t n even ht ht1 hn0 hn1 r v' (fun y hy => hw y (by simp [hy])) (by omega) h2 y hy
theorem spread_bound {t : Int} {ws : List Int} (ht : 0 ≤ t) (ht1 : t ≤ 4611686018427387904) (hw : okW ws) : ∀ y ∈ spread t ws, 0 ≤ y ∧ y ≤ t := by
  have hb := sm_bound ws hw.2
  have hl := hw.1
  intro y hy
  unfold spread at hy
  by_cases hz : ws = []
  · subst hz
    simp [sm, spr] at hy
  · have hlp : 0 < ws.length := List.length_pos_iff.2 hz
    by_cases h : sm ws = 0
    · rw [if_pos h] at hy
      exact spr_bound t _ true ht ht1 (by omega) (by omega) ws 0 hw.2 (by omega) (by rw [if_pos rfl]; omega) y hy
    · rw [if_neg h] at hy
      exact spr_bound t _ false ht ht1 (by omega) (by omega) ws 0 hw.2 (by omega) (by rw [if_neg (by decide)]; omega) y hy
theorem ev_all {α β : Type} {f : Nat → α → Option β} {g : α → β} : ∀ xs : List α, (∀ x ∈ xs, Ev (fun k => f k x) (g x)) → ∃ K, ∀ k, K ≤ k → ∀ x ∈ xs, f k x = some (g x)
  | [], _ => ⟨0, fun _ _ x hx => (by cases hx)⟩
  | x :: r, h => by
    obtain ⟨K1, h1⟩ := h x (by simp)
    obtain ⟨K2, h2⟩ := ev_all r (fun y hy => h y (by simp [hy]))
    refine ⟨max K1 K2, fun k hk y hy => ?_⟩
    rcases List.mem_cons.1 hy with rfl | hy
    · exact h1 k (by omega)
    · exact h2 k (by omega) y hy
def okI (i : S66) : Prop := (0 ≤ i.f0 ∧ i.f0 ≤ 100000000) ∧ (0 ≤ i.f3 ∧ i.f3 ≤ 100000000) ∧ (-1 ≤ i.f4 ∧ i.f4 ≤ 100000000)
def okX (x : Fx) : Prop := okI x.i ∧ (0 ≤ x.f ∧ x.f ≤ 1000000) ∧ (0 ≤ x.t ∧ x.t ≤ 200000000)
theorem fit_bound {i : S66} {v : Int} (hi : okI i) (h0 : 0 ≤ v) (h1 : v ≤ 200000000) : 0 ≤ fitI i v ∧ fitI i v ≤ 200000000 := by
  obtain ⟨_, h3, h4⟩ := hi
  unfold fitI mx mn
  repeat' split
  all_goals omega
def wP (gr : Bool) (x : Fx) : Int := if gr = true then x.f else mdAll x.i.f0 x.f 1000
theorem wP_bound {gr : Bool} {x : Fx} (h : okX x) : 0 ≤ wP gr x ∧ wP gr x ≤ 100000000000 := by
  obtain ⟨⟨h0, _, _⟩, h1, _⟩ := h
  unfold wP
  split
  · omega
  · have e1 : 0 ≤ x.i.f0 * x.f := Int.mul_nonneg h0.1 h1.1
    have e2 : x.i.f0 * x.f ≤ 100000000 * 1000000 := Int.mul_le_mul h0.2 h1.2 h1.1 (by decide)
    have e3 : 0 ≤ x.i.f0 * x.f / 1000 := Int.ediv_nonneg e1 (by decide)
    have e4 : x.i.f0 * x.f / 1000 ≤ 100000000000 := Int.ediv_le_of_le_mul (by decide) (by omega)
    unfold mdAll mdq
    rw [if_neg (by omega), if_neg (by omega)]
    omega
def shP (gr : Bool) (r : Int) (os : List Fx) : List Int := if goF gr r = true then spread (absI r) (os.map (wP gr)) else List.replicate os.length 0
def roundP (gr : Bool) (first room : Int) (xs : List Fx) : List Fx := roundX gr xs (shP gr (restX first room xs) (opX xs))
theorem opX_len (xs : List Fx) : (opX xs).length ≤ xs.length := List.length_filter_le _ _
theorem okW_wP {gr : Bool} {xs : List Fx} (hx : ∀ x ∈ xs, okX x) (hl : xs.length ≤ 400) : okW ((opX xs).map (wP gr)) := by
  refine ⟨by rw [List.length_map]; exact Nat.le_trans (opX_len xs) hl, fun w hw => ?_⟩
  obtain ⟨x, h, rfl⟩ := List.mem_map.1 hw
  exact wP_bound (hx x (opX_mem h))
/-! the numbers stay small -/
theorem left_bound : ∀ (xs : List Fx) (a : Int), (∀ x ∈ xs, okX x) → xs.length ≤ 400 → -100000000000 ≤ a - 200000000 * xs.length → a ≤ 100000000 → a - 200000000 * xs.length ≤ leftF xs a ∧ leftF xs a ≤ a
  | [], a, _, _, _, _ => by simp [leftF]
  | x :: r, a, hx, hl, h0, h1 => by
    have h := hx x (by simp)
    obtain ⟨⟨h2, _, _⟩, _, h3⟩ := h
    rw [List.length_cons] at hl h0 ⊢
    push_cast at h0 ⊢
    obtain ⟨d, hd⟩ : ∃ d, d = (if x.fx = true then x.t else x.i.f0) := ⟨_, rfl⟩
    have hdb : 0 ≤ d ∧ d ≤ 200000000 := by rw [hd]; split <;> omega
    have e : leftF (x :: r) a = leftF r (a - d) := by
      unfold leftF
      rw [List.foldl_cons, ← hd, wrap_in (by omega) (by omega)]
    rw [e]
    have ih := left_bound r (a - d) (fun y hy => hx y (by simp [hy])) (by omega) (by omega) (by omega)
    omega
theorem fac_bound : ∀ (xs : List Fx) (a : Int), (∀ x ∈ xs, okX x) → 0 ≤ a → xs.length ≤ 400 → a + 1000000 * xs.length ≤ 1000000000 → a ≤ xs.foldl (fun r x => wrap64 (r + x.f)) a ∧ xs.foldl (fun r x => wrap64 (r + x.f)) a ≤ 1000000000
  | [], a, _, _, _, h => by simp at h ⊢; omega
  | x :: r, a, hx, h0, hl, h1 => by
    obtain ⟨_, h3, _⟩ := hx x (by simp)
    rw [List.length_cons] at hl h1
    push_cast at h1
    rw [List.foldl_cons, wrap_in (by omega) (by omega)]
    have ih := fac_bound r (a + x.f) (fun y hy => hx y (by simp [hy])) (by omega) (by omega) (by omega)
    omega
theorem abs_eq {v : Int} (h0 : -1000000000000 ≤ v) (h1 : v ≤ 1000000000000) : absI v = (v.natAbs : Int) := by
  unfold absI
  split
  · rw [wrap_in (by omega) (by omega)]; omega
  · omega
theorem rest_bound {first room : Int} {xs : List Fx} (hx : ∀ x ∈ xs, okX x) (hl : xs.length ≤ 400) (hr : 0 ≤ room ∧ room ≤ 100000000) (hf : -100000000000 ≤ first ∧ first ≤ 100000000) : -100000000000 ≤ restX first room xs ∧ restX first room xs ≤ 100000000 := by
  have h1 := left_bound xs room hx hl (by omega) hr.2
  have hol := opX_len xs
  have h2 := fac_bound (opX xs) 0 (fun x h => hx x (opX_mem h)) (by omega) (by omega) (by omega)
  unfold restX restF
  obtain ⟨fc, hfc⟩ : ∃ fc, fc = facX (opX xs) := ⟨_, rfl⟩
  have h3 : 0 ≤ fc ∧ fc ≤ 1000000000 := by rw [hfc]; exact h2
  rw [← hfc]
  split
  · rename_i hc
    simp only [Bool.and_eq_true, decide_eq_true_eq] at hc
    have hfb : fc ≤ 999 := by omega
    have e1 : -100000000000 * 999 ≤ first * fc := by
      have := Int.mul_le_mul_of_nonneg_right hf.1 h3.1
      have h4 : (100000000000 : Int) * fc ≤ 100000000000 * 999 := Int.mul_le_mul_of_nonneg_left hfb (by decide)
      rw [Int.neg_mul] at this
      omega
    have e2 : first * fc ≤ 100000000 * 999 := by
      have := Int.mul_le_mul_of_nonneg_right hf.2 h3.1
      have h4 : (100000000 : Int) * fc ≤ 100000000 * 999 := Int.mul_le_mul_of_nonneg_left hfb (by decide)
      omega
    unfold partF
    rw [show wrap64 (first * fc) = first * fc from wrap_in (by omega) (by omega)]
    have e3 : -100000000000 ≤ Int.tdiv (first * fc) 1000 ∧ Int.tdiv (first * fc) 1000 ≤ 100000000 := by
      rw [Int.tdiv_eq_ediv, show Int.sign 1000 = 1 from rfl]
      split <;> omega
    rw [wrap_in (by omega) (by omega)]
    exact e3
  · omega
theorem s2_bound {gr : Bool} {x : Fx} {r sh : Int} (hx : okX x) (hr : -100000000000 ≤ r ∧ r ≤ 100000000) (hs : 0 ≤ sh) (hs1 : goF gr r = true → sh ≤ absI r) (hs0 : goF gr r = false → sh = 0) : 0 ≤ (s2 gr x sh).s ∧ (s2 gr x sh).s ≤ 200000000 := by
  obtain ⟨⟨h0, _, _⟩, _, _⟩ := hx
  rw [abs_eq (by omega) (by omega)] at hs1
  unfold s2
  dsimp only
  cases gr with
  | true =>
    rw [if_pos rfl]
    have hb : sh ≤ 100000000 := by
      cases hg : goF true r with
      | true =>
        have := hs1 hg
        unfold goF at hg
        rw [if_pos rfl] at hg
        have := of_decide_eq_true hg
        omega
      | false => rw [hs0 hg]; decide
    rw [wrap_in (by omega) (by omega)]
    omega
  | false =>
    rw [if_neg (by decide)]
    have hb : sh ≤ 100000000000 := by
      cases hg : goF false r with
      | true => have := hs1 hg; omega
      | false => rw [hs0 hg]; decide
    rw [wrap_in (by omega) (by omega)]
    unfold mx
    split <;> omega
theorem shP_len (gr : Bool) (r : Int) (os : List Fx) : (shP gr r os).length = os.length := by
  unfold shP
  split
  · rw [spread_length, List.length_map]
  · rw [List.length_replicate]
theorem shP_bound {gr : Bool} {r : Int} {os : List Fx} (hw : okW (os.map (wP gr))) (hr : -100000000000 ≤ r ∧ r ≤ 100000000) : ∀ y ∈ shP gr r os, 0 ≤ y ∧ (goF gr r = true → y ≤ absI r) ∧ (goF gr r = false → y = 0) := by
  intro y hy
  unfold shP at hy
  cases hg : goF gr r with
  | true =>
    rw [hg, if_pos rfl] at hy
    have hab := abs_eq (v := r) (by omega) (by omega)
    have h := spread_bound (t := absI r) (by omega) (by omega) hw y hy
    exact ⟨h.1, fun _ => h.2, fun h => (by cases h)⟩
  | false =>
    rw [hg, if_neg (by decide)] at hy
    have := List.eq_of_mem_replicate hy
    exact ⟨by omega, fun h => (by cases h), fun _ => this⟩
/-! a round of the program, and what it leaves -/
theorem impl_round {gr : Bool} {first room : Int} {xs : List Fx} (hx : ∀ x ∈ xs, okX x) (hl : xs.length ≤ 400) (hr : -100000000000 ≤ restX first room xs ∧ restX first room xs ≤ 100000000) : Ev (fun k => roundO k gr first room xs) (roundP gr first room xs) := by
  obtain ⟨K1, h1⟩ := ev_all (f := fun k (x : Fx) => impl_MulDiv.f k x.i.f0 x.f 1000) (g := fun x => mdAll x.i.f0 x.f 1000) xs (fun x h => md_impl _ _ _ (by have := (hx x h).1.1; omega) (by have := (hx x h).2.1; omega))
  have hab := abs_eq (v := restX first room xs) (by omega) (by omega)
  obtain ⟨K2, h2⟩ := spread_impl (absI (restX first room xs)) ((opX xs).map (wP gr)) (by omega) (okW_wP hx hl)
  refine ⟨max K1 K2, fun k hk => ?_⟩
  have h3 := h1 k (by omega)
  have h4 := h2 k (by omega)
  have hm : mOkB k gr xs = true := by
    unfold mOkB
    rw [Bool.or_eq_true, List.all_eq_true]
    exact .inr fun x h => by rw [h3 x h]; rfl
  have hw : (opX xs).map (mW k gr) = (opX xs).map (wP gr) := List.map_congr_left fun x h => by
    unfold mW wP
    rw [h3 x (opX_mem h)]
    rfl
  show roundO k gr first room xs = _
  unfold roundO roundP shP
  rw [if_pos hm, hw]
  by_cases hg : goF gr (restX first room xs) = true
  · rw [if_pos hg, if_pos hg]
    have h4 : impl_spread.f k (absI (restX first room xs)) ((opX xs).map (wP gr)) = some (spread (absI (restX first room xs)) ((opX xs).map (wP gr))) := h4
    rw [h4]
    dsimp only
    rw [if_pos (by rw [spread_length, List.length_map])]
  · rw [if_neg hg, if_neg hg]
/-! ### the reference's state as a list of items -/
def toS (ys : List Fx) (gr : Bool) (room first : Int) : Sx := ⟨ys.map (·.i), ys.map (·.t), ys.map (·.fx), ys.map (·.f), gr, room, first⟩
def frO : Nat → List Fx → List Nat
  | _, [] => []
  | o, y :: r => if y.fx = true then frO (o + 1) r else o :: frO (o + 1) r
theorem range_filter (fixed : List Bool) : ∀ (ys : List Fx) (o : Nat), (∀ j, j < ys.length → fixed.getD (o + j) false = (ys.getD j zFx).fx) → (List.range' o ys.length).filter (fun i => !(fixed.getD i false)) = frO o ys
  | [], _, _ => rfl
  | y :: r, o, h => by
    have h0 := h 0 (by simp)
    have ih := range_filter fixed r (o + 1) (fun j hj => by have := h (j + 1) (by simp; omega); rw [show o + (j + 1) = o + 1 + j by omega] at this; exact this)
    rw [List.length_cons, List.range'_succ, List.filter_cons]
    rw [Nat.add_zero] at h0
    rw [h0]
    unfold frO
    show (if (!y.fx) = true then _ else _) = _
    cases y.fx
    · rw [if_pos (show (!false) = true from rfl), if_neg (show ¬ (false = true) by decide), ih]
    · rw [if_neg (show ¬ ((!true) = true) by decide), if_pos rfl, ih]
theorem map_getD {α β : Type} (f : α → β) (l : List α) (i : Nat) (d : α) (e : β) (h : i < l.length) : (l.map f).getD i e = f (l.getD i d) := by
  rw [List.getD_eq_getElem?_getD, List.getElem?_map, List.getD_eq_getElem?_getD, List.getElem?_eq_getElem h]
  rfl
theorem fr_toS (ys : List Fx) (gr : Bool) (room first : Int) : frN (toS ys gr room first).fixed (toS ys gr room first).items.length = frO 0 ys := by
  unfold frN
  show (List.range (ys.map (·.i)).length).filter (fun i => !((ys.map (·.fx)).getD i false)) = _
  rw [List.length_map, List.range_eq_range']
  exact range_filter _ ys 0 (fun j hj => by rw [Nat.zero_add]; exact map_getD _ ys j zFx false hj)
theorem frO_lt : ∀ (ys : List Fx) (o : Nat), ∀ i ∈ frO o ys, o ≤ i ∧ i < o + ys.length
  | [], _, i, h => by cases h
  | y :: r, o, i, h => by
    unfold frO at h
    rw [List.length_cons]
    cases hf : y.fx with
    | true => rw [hf, if_pos rfl] at h; have := frO_lt r (o + 1) i h; omega
    | false =>
      rw [hf, if_neg (by decide)] at h
      rcases List.mem_cons.1 h with rfl | h
      · omega
      · have := frO_lt r (o + 1) i h; omega
theorem frO_map {β : Type} (g : Nat → β) (f : Fx → β) : ∀ (ys : List Fx) (o : Nat), (∀ j, j < ys.length → g (o + j) = f (ys.getD j zFx)) → (frO o ys).map g = (opX ys).map f
  | [], _, _ => rfl
  | y :: r, o, h => by
    have h0 := h 0 (by simp)
    rw [Nat.add_zero] at h0
    have ih := frO_map g f r (o + 1) (fun j hj => by have := h (j + 1) (by simp; omega); rw [show o + (j + 1) = o + 1 + j by omega] at this; exact this)
    unfold frO opX
    rw [List.filter_cons]
    cases hf : y.fx with
    | true => rw [if_pos rfl, if_neg (by decide), ih]; rfl
    | false =>
      rw [if_neg (by decide), if_pos (by rfl), List.map_cons, List.map_cons, ih, h0]
      rfl
theorem frO_len (ys : List Fx) (o : Nat) : (frO o ys).length = (opX ys).length := by
  have := congrArg List.length (frO_map (fun _ => ()) (fun _ => ()) ys o (fun _ _ => rfl))
  rwa [List.length_map, List.length_map] at this
theorem fac_toS (ys : List Fx) (gr : Bool) (room first : Int) : facS (toS ys gr room first) (frO 0 ys) = facX (opX ys) := by
  unfold facS facX
  have h := frO_map (fun i => (ys.map (·.f)).getD i 0) (fun x => x.f) ys 0 (fun j hj => by rw [Nat.zero_add]; exact map_getD _ ys j zFx 0 hj)
  have e1 : (frO 0 ys).foldl (fun a i => wrap64 (a + (toS ys gr room first).factor.getD i 0)) 0 = ((frO 0 ys).map (fun i => (ys.map (·.f)).getD i 0)).foldl (fun a v => wrap64 (a + v)) 0 := by rw [List.foldl_map]; rfl
  rw [e1, h, List.foldl_map]
theorem left_toS (ys : List Fx) (gr : Bool) (room first : Int) : leftN (toS ys gr room first) (toS ys gr room first).items.length = leftF ys room := by
  unfold leftN leftF leftStep
  show (List.range (ys.map (·.i)).length).foldl _ room = _
  rw [List.length_map]
  have key : ∀ (zs : List Fx) (o : Nat) (a : Int), (∀ j, j < zs.length → ys.getD (o + j) zFx = zs.getD j zFx ∧ o + j < ys.length) → (List.range' o zs.length).foldl (fun r i => wrap64 (r - (if (ys.map (·.fx)).getD i false = true then (ys.map (·.t)).getD i 0 else ((ys.map (·.i)).getD i z66).f0))) a = zs.foldl (fun r x => wrap64 (r - (if x.fx = true then x.t else x.i.f0))) a := by
    intro zs
    induction zs with
    | nil => intro o a _; rfl
    | cons z r ih =>
      intro o a h
      have h0 := h 0 (by simp)
      rw [Nat.add_zero] at h0
      have h1 : ys.getD o zFx = z := h0.1
      rw [List.length_cons, List.range'_succ, List.foldl_cons, List.foldl_cons, map_getD (·.fx) ys o zFx false h0.2, map_getD (·.t) ys o zFx 0 h0.2, map_getD (·.i) ys o zFx z66 h0.2, h1]
      exact ih (o + 1) _ (fun j hj => by have := h (j + 1) (by simp; omega); rw [show o + (j + 1) = o + 1 + j by omega] at this; exact this)
  rw [List.range_eq_range']
  exact key ys 0 room (fun j hj => by rw [Nat.zero_add]; exact ⟨rfl, hj⟩)
/-! ### both rounds as one merge -/
def mergeG (Hn : Fx → Int → Fx) : List Fx → List Int → List Fx
  | [], _ => []
  | y :: r, [] => y :: mergeG Hn r []
  | y :: r, v :: m => if y.fx = true then y :: mergeG Hn r (v :: m) else Hn y v :: mergeG Hn r m
theorem opX_cons_fx {y : Fx} {r : List Fx} (h : y.fx = true) : opX (y :: r) = opX r := by unfold opX; rw [List.filter_cons, h]; rfl
theorem opX_cons_op {y : Fx} {r : List Fx} (h : y.fx = false) : opX (y :: r) = y :: opX r := by unfold opX; rw [List.filter_cons, h]; rfl
theorem mergeG_fx {Hn : Fx → Int → Fx} {y : Fx} {r : List Fx} {vs : List Int} (h : y.fx = true) : mergeG Hn (y :: r) vs = y :: mergeG Hn r vs := by
  cases vs with
  | nil => rw [mergeG]
  | cons v m => rw [mergeG, if_pos h]
theorem mergeG_op {Hn : Fx → Int → Fx} {y : Fx} {r : List Fx} {v : Int} {m : List Int} (h : y.fx = false) : mergeG Hn (y :: r) (v :: m) = Hn y v :: mergeG Hn r m := by rw [mergeG, if_neg (by rw [h]; decide)]
theorem mergeF_fx {y : Fx} {r zs : List Fx} (h : y.fx = true) : mergeF (y :: r) zs = y :: mergeF r zs := by
  rw [mergeF.eq_def]
  dsimp only
  rw [if_pos h]
theorem mergeF_op {y z : Fx} {r m : List Fx} (h : y.fx = false) : mergeF (y :: r) (z :: m) = z :: mergeF r m := by
  rw [mergeF.eq_def]
  dsimp only
  rw [if_neg (by rw [h]; decide)]
theorem merge_zip (Hn : Fx → Int → Fx) : ∀ (ys : List Fx) (vs : List Int), vs.length = (opX ys).length → mergeF ys (((opX ys).zip vs).map (fun p => Hn p.1 p.2)) = mergeG Hn ys vs
  | [], _, _ => rfl
  | y :: r, vs, h => by
    cases hf : y.fx with
    | true =>
      rw [opX_cons_fx hf] at h ⊢
      rw [mergeG_fx hf, mergeF_fx hf, merge_zip Hn r vs h]
    | false =>
      rw [opX_cons_op hf] at h ⊢
      cases vs with
      | nil => simp at h
      | cons v m =>
        rw [mergeG_op hf, List.zip_cons_cons, List.map_cons, mergeF_op hf, merge_zip Hn r m (by simpa using h)]
theorem fold_merge {β : Type} (f : Fx → β) (Hn : Fx → Int → Fx) (st : List β → Nat × Int → List β) (all : List Fx) (hst : ∀ (pre : List β) y rest v, all.getD pre.length zFx = y → pre.length < all.length → y.fx = false → st (pre ++ f y :: rest) (pre.length, v) = pre ++ f (Hn y v) :: rest) : ∀ (ys : List Fx) (vs : List Int) (pre : List β), vs.length = (opX ys).length → (∀ j, j < ys.length → all.getD (pre.length + j) zFx = ys.getD j zFx ∧ pre.length + j < all.length) → ((frO pre.length ys).zip vs).foldl st (pre ++ ys.map f) = pre ++ (mergeG Hn ys vs).map f
  | [], _, pre, _, _ => by simp [frO, mergeG]
  | y :: r, vs, pre, h, ha => by
    have h0 := ha 0 (by simp)
    rw [Nat.add_zero] at h0
    have step := fold_merge f Hn st all hst r
    have hnext : ∀ x : β, ∀ j, j < r.length → all.getD ((pre ++ [x]).length + j) zFx = r.getD j zFx ∧ (pre ++ [x]).length + j < all.length := by
      intro x j hj
      have := ha (j + 1) (by simp; omega)
      rw [List.length_append, List.length_singleton, show pre.length + 1 + j = pre.length + (j + 1) by omega]
      exact this
    unfold frO
    cases hf : y.fx with
    | true =>
      rw [opX_cons_fx hf] at h
      rw [if_pos rfl, mergeG_fx hf]
      have := step vs (pre ++ [f y]) h (hnext _)
      rw [List.length_append, List.length_singleton, List.append_assoc, List.append_assoc] at this
      exact this
    | false =>
      rw [opX_cons_op hf] at h
      rw [if_neg (by decide)]
      cases vs with
      | nil => simp at h
      | cons v m =>
        rw [mergeG_op hf, List.zip_cons_cons, List.foldl_cons, List.map_cons, hst pre y (r.map f) v h0.1 h0.2 hf]
        have := step m (pre ++ [f (Hn y v)]) (by simpa using h) (hnext _)
        rw [List.length_append, List.length_singleton, List.append_assoc, List.append_assoc] at this
        exact this
theorem frO_zip {β : Type} (g : Nat × Int → β) (G : Fx → Int → β) : ∀ (ys : List Fx) (o : Nat) (vs : List Int), (∀ j v, j < ys.length → g (o + j, v) = G (ys.getD j zFx) v) → ((frO o ys).zip vs).map g = ((opX ys).zip vs).map (fun p => G p.1 p.2)
  | [], _, _, _ => by simp [frO, opX]
  | y :: r, o, vs, h => by
    have hn : ∀ j v, j < r.length → g (o + 1 + j, v) = G (r.getD j zFx) v := fun j v hj => by
      have := h (j + 1) v (by simp; omega)
      rw [show o + (j + 1) = o + 1 + j by omega] at this
      exact this
    unfold frO
    cases hf : y.fx with
    | true => rw [if_pos rfl, opX_cons_fx hf]; exact frO_zip g G r (o + 1) vs hn
    | false =>
      rw [if_neg (by decide), opX_cons_op hf]
      cases vs with
      | nil => simp
      | cons v m =>
        rw [List.zip_cons_cons, List.zip_cons_cons, List.map_cons, List.map_cons, frO_zip g G r (o + 1) m hn]
        have := h 0 v (by simp)
        rw [Nat.add_zero] at this
        rw [this]
        rfl
/-- What the reference makes of an open item. -/
def qn (gr : Bool) (r : Int) (y : Fx) (sh : Int) : Int := nS gr r y.i.f0 sh
def qd (gr : Bool) (r : Int) (y : Fx) (sh : Int) : Int := wrap64 (fitI y.i (qn gr r y sh) - qn gr r y sh)
def qH (gr : Bool) (r tot : Int) (y : Fx) (sh : Int) : Fx := ⟨y.i, fitI y.i (qn gr r y sh), y.f, hitS tot (qd gr r y sh), y.s⟩
def sumW (ds : List Int) : Int := ds.foldl (fun v d => wrap64 (v + d)) 0
def roundQ (gr : Bool) (r : Int) (ys : List Fx) (shs : List Int) : List Fx := mergeG (qH gr r (sumW (((opX ys).zip shs).map (fun p => qd gr r p.1 p.2)))) ys shs
theorem round_toS (ys : List Fx) (gr : Bool) (room first : Int) (shs : List Int) (hl : shs.length = (opX ys).length) : roundSX (toS ys gr room first) shs = toS (roundQ gr (rstS (toS ys gr room first)) ys shs) gr room first := by
  unfold roundSX
  dsimp only
  rw [fr_toS]
  obtain ⟨r, hr⟩ : ∃ r, r = rstS (toS ys gr room first) := ⟨_, rfl⟩
  rw [← hr]
  have hpF : ∀ j v, j < ys.length → pF (toS ys gr room first) r (j, v) = fitI (ys.getD j zFx).i (qn gr r (ys.getD j zFx) v) := by
    intro j v hj
    unfold pF qn
    show fitI ((ys.map (·.i)).getD j z66) (nS gr r ((ys.map (·.i)).getD j z66).f0 v) = _
    rw [map_getD (·.i) ys j zFx z66 hj]
  have hpD : ∀ j v, j < ys.length → pD (toS ys gr room first) r (j, v) = qd gr r (ys.getD j zFx) v := by
    intro j v hj
    have h1 := hpF j v hj
    unfold pD qd
    rw [h1]
    unfold qn
    show wrap64 (_ - nS gr r ((ys.map (·.i)).getD j z66).f0 v) = _
    rw [map_getD (·.i) ys j zFx z66 hj]
  have htot : totS (toS ys gr room first) r ((frO 0 ys).zip shs) = sumW (((opX ys).zip shs).map (fun p => qd gr r p.1 p.2)) := by
    rw [← frO_zip (fun p => pD (toS ys gr room first) r p) (qd gr r) ys 0 shs (fun j v hj => by rw [Nat.zero_add]; exact hpD j v hj)]
    unfold totS sumW
    rw [List.foldl_map]
  have hall : ∀ j, j < ys.length → ys.getD (([] : List Int).length + j) zFx = ys.getD j zFx ∧ ([] : List Int).length + j < ys.length := fun j hj => by simp; exact hj
  have hallb : ∀ j, j < ys.length → ys.getD (([] : List Bool).length + j) zFx = ys.getD j zFx ∧ ([] : List Bool).length + j < ys.length := fun j hj => by simp; exact hj
  rw [htot]
  obtain ⟨tot, ht⟩ : ∃ t, t = sumW (((opX ys).zip shs).map (fun p => qd gr r p.1 p.2)) := ⟨_, rfl⟩
  unfold roundQ
  rw [← ht]
  have hsz : szS (toS ys gr room first) r ((frO 0 ys).zip shs) = (mergeG (qH gr r tot) ys shs).map (·.t) := by
    have := fold_merge (fun x => x.t) (qH gr r tot) (fun l p => l.set p.1 (pF (toS ys gr room first) r p)) ys (fun pre y rest v hy hlt hf => by
      rw [List.set_append_right _ _ (Nat.le_refl _), Nat.sub_self, List.set_cons_zero, hpF _ v hlt, hy]
      rfl) ys shs [] hl hall
    exact this
  have hfx : fxS (toS ys gr room first) r tot ((frO 0 ys).zip shs) = (mergeG (qH gr r tot) ys shs).map (·.fx) := by
    have := fold_merge (fun x => x.fx) (qH gr r tot) (fun l p => if hitS tot (pD (toS ys gr room first) r p) = true then l.set p.1 true else l) ys (fun pre y rest v hy hlt hf => by
      rw [hpD _ v hlt, hy]
      show _ = pre ++ hitS tot (qd gr r y v) :: rest
      cases hh : hitS tot (qd gr r y v) with
      | true => rw [if_pos rfl, List.set_append_right _ _ (Nat.le_refl _), Nat.sub_self, List.set_cons_zero]
      | false => rw [if_neg (by decide), hf]) ys shs [] hl hallb
    exact this
  have hmi : ∀ (zs : List Fx) (vs : List Int), (mergeG (qH gr r tot) zs vs).map (·.i) = zs.map (·.i) ∧ (mergeG (qH gr r tot) zs vs).map (·.f) = zs.map (·.f) := by
    intro zs
    induction zs with
    | nil => intro vs; exact ⟨rfl, rfl⟩
    | cons z t ih =>
      intro vs
      cases hf : z.fx with
      | true => rw [mergeG_fx hf, List.map_cons, List.map_cons, List.map_cons, List.map_cons, (ih vs).1, (ih vs).2]; exact ⟨rfl, rfl⟩
      | false =>
        cases vs with
        | nil =>
          rw [mergeG, List.map_cons, List.map_cons, List.map_cons, List.map_cons, (ih []).1, (ih []).2]
          exact ⟨rfl, rfl⟩
        | cons v m => rw [mergeG_op hf, List.map_cons, List.map_cons, List.map_cons, List.map_cons, (ih m).1, (ih m).2]; exact ⟨rfl, rfl⟩
  rw [hsz, hfx]
  unfold toS
  rw [(hmi ys shs).1, (hmi ys shs).2]
/-- A round of the reference. -/
theorem spec_round {gr : Bool} {first room : Int} {ys : List Fx} (hx : ∀ x ∈ ys, okX x) (hl : ys.length ≤ 400) (hr : -100000000000 ≤ restX first room ys ∧ restX first room ys ≤ 100000000) : ∃ K, ∀ k, K ≤ k → mOkS k (toS ys gr room first) = true ∧ roundSO k (toS ys gr room first) = some (toS (roundQ gr (restX first room ys) ys (spread (absI (restX first room ys)) ((opX ys).map (wP gr)))) gr room first) := by
  obtain ⟨K1, h1⟩ := ev_all (f := fun k (x : Fx) => spec_MulDiv.f k x.i.f0 x.f 1000) (g := fun x => mdAll x.i.f0 x.f 1000) ys (fun x h => md_spec _ _ _ (by have := (hx x h).1.1; omega) (by have := (hx x h).2.1; omega))
  have hab := abs_eq (v := restX first room ys) (by omega) (by omega)
  obtain ⟨K2, h2⟩ := spread_spec (absI (restX first room ys)) ((opX ys).map (wP gr)) (by omega) (okW_wP hx hl)
  have hrst : rstS (toS ys gr room first) = restX first room ys := by
    unfold rstS restX
    rw [fr_toS, fac_toS, left_toS]
    rfl
  refine ⟨max K1 K2, fun k hk => ?_⟩
  have h3 := h1 k (by omega)
  have h4 : spec_l16Spread.f k (absI (restX first room ys)) ((opX ys).map (wP gr)) = some (spread (absI (restX first room ys)) ((opX ys).map (wP gr))) := h2 k (by omega)
  have hat : ∀ j, j < ys.length → (spec_MulDiv.f k ((toS ys gr room first).items.getD j z66).f0 ((toS ys gr room first).factor.getD j 0) 1000) = some (mdAll (ys.getD j zFx).i.f0 (ys.getD j zFx).f 1000) := by
    intro j hj
    show spec_MulDiv.f k ((ys.map (·.i)).getD j z66).f0 ((ys.map (·.f)).getD j 0) 1000 = _
    rw [map_getD (·.i) ys j zFx z66 hj, map_getD (·.f) ys j zFx 0 hj]
    exact h3 _ (by rw [List.getD_eq_getElem?_getD, List.getElem?_eq_getElem hj]; exact List.getElem_mem _)
  have hm : mOkS k (toS ys gr room first) = true := by
    unfold mOkS
    rw [Bool.or_eq_true, List.all_eq_true]
    refine .inr fun j hj => ?_
    have hj2 : j < ys.length := by have := List.mem_range.1 hj; unfold toS at this; rwa [List.length_map] at this
    rw [hat j hj2]
    rfl
  have hw : (frO 0 ys).map (wtS k (toS ys gr room first)) = (opX ys).map (wP gr) := frO_map _ _ ys 0 (fun j hj => by
    rw [Nat.zero_add]
    unfold wtS wP
    rw [hat j hj]
    show (if gr = true then (ys.map (·.f)).getD j 0 else _) = _
    rw [map_getD (·.f) ys j zFx 0 hj]
    rfl)
  refine ⟨hm, ?_⟩
  unfold roundSO
  rw [if_pos hm, fr_toS, hrst, hw, h4]
  dsimp only
  rw [if_pos (by rw [spread_length, List.length_map, frO_len]), round_toS _ _ _ _ _ (by rw [spread_length, List.length_map]), hrst]
/-! ### the two in step -/
structure RelX (x y : Fx) : Prop where
  i : x.i = y.i
  f : x.f = y.f
  fx : x.fx = y.fx
  t : x.fx = true → x.t = y.t
def RelL : List Fx → List Fx → Prop
  | [], [] => True
  | x :: r, y :: t => RelX x y ∧ RelL r t
  | _, _ => False
def RelI (P : Int → Int → Prop) : List Int → List Int → Prop
  | [], [] => True
  | a :: r, b :: t => P a b ∧ RelI P r t
  | _, _ => False
theorem RelL.refl : ∀ xs, RelL xs xs
  | [] => trivial
  | _ :: r => ⟨⟨rfl, rfl, rfl, fun _ => rfl⟩, RelL.refl r⟩
theorem RelL.len : ∀ {xs ys : List Fx}, RelL xs ys → xs.length = ys.length
  | [], [], _ => rfl
  | _ :: _, _ :: _, h => by rw [List.length_cons, List.length_cons, RelL.len h.2]
  | [], _ :: _, h => h.elim
  | _ :: _, [], h => h.elim
theorem RelL.op : ∀ {xs ys : List Fx}, RelL xs ys → RelL (opX xs) (opX ys)
  | [], [], _ => trivial
  | x :: r, y :: t, h => by
    cases hf : x.fx with
    | true => rw [opX_cons_fx hf, opX_cons_fx (h.1.fx ▸ hf)]; exact RelL.op h.2
    | false => rw [opX_cons_op hf, opX_cons_op (h.1.fx ▸ hf)]; exact ⟨h.1, RelL.op h.2⟩
  | [], _ :: _, h => h.elim
  | _ :: _, [], h => h.elim
theorem RelL.map {β : Type} (g : Fx → β) (hg : ∀ x y, RelX x y → g x = g y) : ∀ {xs ys : List Fx}, RelL xs ys → xs.map g = ys.map g
  | [], [], _ => rfl
  | x :: r, y :: t, h => by rw [List.map_cons, List.map_cons, hg x y h.1, RelL.map g hg h.2]
  | [], _ :: _, h => h.elim
  | _ :: _, [], h => h.elim
theorem RelL.left : ∀ {xs ys : List Fx}, RelL xs ys → ∀ a, leftF xs a = leftF ys a
  | [], [], _, _ => rfl
  | x :: r, y :: t, h, a => by
    have e : (if x.fx = true then x.t else x.i.f0) = (if y.fx = true then y.t else y.i.f0) := by
      cases hf : x.fx with
      | true => rw [if_pos rfl, if_pos (h.1.fx ▸ hf), h.1.t hf]
      | false => rw [if_neg (by decide), if_neg (by rw [← h.1.fx, hf]; decide), h.1.i]
    have ih := RelL.left h.2 (wrap64 (a - (if y.fx = true then y.t else y.i.f0)))
    show leftF r (wrap64 (a - (if x.fx = true then x.t else x.i.f0))) = leftF t (wrap64 (a - (if y.fx = true then y.t else y.i.f0)))
    rw [e]
    exact ih
  | [], _ :: _, h, _ => h.elim
  | _ :: _, [], h, _ => h.elim
theorem RelL.fac {xs ys : List Fx} (h : RelL xs ys) : facX xs = facX ys := by
  have := congrArg (fun l : List Int => l.foldl (fun a v => wrap64 (a + v)) 0) (h.map (fun x => x.f) (fun _ _ h => h.f))
  rw [List.foldl_map, List.foldl_map] at this
  exact this
theorem RelL.rest {xs ys : List Fx} (h : RelL xs ys) (first room : Int) : restX first room xs = restX first room ys := by
  unfold restX
  rw [h.op.fac, h.left]
def PV (gr : Bool) (r v v' : Int) : Prop := 0 ≤ v ∧ (goF gr r = true → v = v' ∧ v ≤ absI r) ∧ (goF gr r = false → v = 0)
theorem sh_rel {gr : Bool} {r : Int} {os : List Fx} (hw : okW (os.map (wP gr))) (hr : -100000000000 ≤ r ∧ r ≤ 100000000) : RelI (PV gr r) (shP gr r os) (spread (absI r) (os.map (wP gr))) := by
  have hb := shP_bound hw hr
  have hl := shP_len gr r os
  have hl2 : (spread (absI r) (os.map (wP gr))).length = os.length := by rw [spread_length, List.length_map]
  have heq : goF gr r = true → shP gr r os = spread (absI r) (os.map (wP gr)) := fun h => by unfold shP; rw [if_pos h]
  obtain ⟨vs, hv⟩ : ∃ vs, vs = shP gr r os := ⟨_, rfl⟩
  obtain ⟨us, hu⟩ : ∃ us, us = spread (absI r) (os.map (wP gr)) := ⟨_, rfl⟩
  rw [← hv] at hb hl
  rw [← hu] at hl2
  rw [← hv, ← hu] at heq
  rw [← hv, ← hu]
  clear hv hu hw
  have : vs.length = us.length := by omega
  clear hl hl2
  induction vs generalizing us with
  | nil => cases us with | nil => trivial | cons => simp at this
  | cons v t ih =>
    cases us with
    | nil => simp at this
    | cons u s =>
      have h := hb v (by simp)
      exact ⟨⟨h.1, fun hg => ⟨by have := heq hg; injection this, h.2.1 hg⟩, h.2.2⟩, ih (fun y hy => hb y (by simp [hy])) s (fun hg => by have := heq hg; injection this) (by simpa using this)⟩
theorem s2_qn {gr : Bool} {r v v' : Int} {x y : Fx} (hx : okX x) (h : RelX x y) (hv : PV gr r v v') : (s2 gr x v).s = qn gr r y v' := by
  obtain ⟨⟨h0, _, _⟩, _, _⟩ := hx
  unfold s2 qn nS
  rw [← h.i]
  dsimp only
  cases hg : goF gr r with
  | true =>
    obtain ⟨e, _⟩ := hv.2.1 hg
    subst e
    unfold goF at hg
    cases gr with
    | true => rw [if_pos rfl] at hg ⊢; rw [hg, if_pos (show (true && true) = true from rfl)]
    | false =>
      rw [if_neg (by decide)] at hg ⊢
      rw [hg, if_neg (by simp), if_pos (by rfl)]
      unfold mx
      split <;> split <;> omega
  | false =>
    have e := hv.2.2 hg
    subst e
    unfold goF at hg
    cases gr with
    | true =>
      rw [if_pos rfl] at hg ⊢
      rw [hg, if_neg (by simp), if_neg (by simp), wrap_in (by omega) (by omega)]
      omega
    | false =>
      rw [if_neg (by decide)] at hg ⊢
      rw [hg, if_neg (by simp), if_neg (by simp), wrap_in (by omega) (by omega)]
      unfold mx
      split <;> omega
def iH (gr : Bool) (tot : Int) (x : Fx) (v : Int) : Fx := s3 tot (s2 gr x v)
def idf (gr : Bool) (x : Fx) (v : Int) : Int := wrap64 (fitI x.i (s2 gr x v).s - (s2 gr x v).s)
theorem roundP_eq (gr : Bool) (first room : Int) (xs : List Fx) : roundP gr first room xs = mergeG (iH gr (sumW (((opX xs).zip (shP gr (restX first room xs) (opX xs))).map (fun p => idf gr p.1 p.2)))) xs (shP gr (restX first room xs) (opX xs)) := by
  unfold roundP roundX
  rw [← merge_zip _ xs _ (shP_len _ _ _)]
  unfold ysX
  rw [List.map_map]
  have e : totF (((opX xs).zip (shP gr (restX first room xs) (opX xs))).map (fun p => s2 gr p.1 p.2)) = sumW (((opX xs).zip (shP gr (restX first room xs) (opX xs))).map (fun p => idf gr p.1 p.2)) := by
    unfold totF sumW
    rw [List.foldl_map, List.foldl_map]
    rfl
  rw [e]
  rfl
theorem ds_eq {gr : Bool} {r : Int} : ∀ {os ps : List Fx} {vs us : List Int}, RelL os ps → RelI (PV gr r) vs us → (∀ x ∈ os, okX x) → (os.zip vs).map (fun p => idf gr p.1 p.2) = (ps.zip us).map (fun p => qd gr r p.1 p.2)
  | [], [], _, _, _, _, _ => rfl
  | x :: t, y :: q, [], [], _, _, _ => rfl
  | x :: t, y :: q, v :: vs, u :: us, h, hv, hx => by
    rw [List.zip_cons_cons, List.zip_cons_cons, List.map_cons, List.map_cons, ds_eq h.2 hv.2 (fun z hz => hx z (by simp [hz]))]
    congr 1
    show idf gr x v = qd gr r y u
    unfold idf qd
    rw [s2_qn (hx x (by simp)) h.1 hv.1, h.1.i]
  | _ :: _, _ :: _, [], _ :: _, _, hv, _ => hv.elim
  | _ :: _, _ :: _, _ :: _, [], _, hv, _ => hv.elim
  | [], _ :: _, _, _, h, _, _ => h.elim
  | _ :: _, [], _, _, h, _, _ => h.elim
theorem s_bound {gr : Bool} {r v v' : Int} {x : Fx} (hx : okX x) (hr : -100000000000 ≤ r ∧ r ≤ 100000000) (hv : PV gr r v v') : 0 ≤ (s2 gr x v).s ∧ (s2 gr x v).s ≤ 200000000 :=
  s2_bound hx hr hv.1 (fun h => (hv.2.1 h).2) hv.2.2
theorem d_val {gr : Bool} {r v v' : Int} {x : Fx} (hx : okX x) (hr : -100000000000 ≤ r ∧ r ≤ 100000000) (hv : PV gr r v v') : idf gr x v = fitI x.i (s2 gr x v).s - (s2 gr x v).s ∧ -200000000 ≤ idf gr x v ∧ idf gr x v ≤ 200000000 := by
  have hs := s_bound hx hr hv
  have hf := fit_bound hx.1 hs.1 hs.2
  have e : idf gr x v = fitI x.i (s2 gr x v).s - (s2 gr x v).s := by
    unfold idf
    rw [wrap_in (by omega) (by omega)]
  rw [e]
  exact ⟨rfl, by omega, by omega⟩
theorem hit_eq {gr : Bool} {r v v' tot : Int} {x y : Fx} (hx : okX x) (hr : -100000000000 ≤ r ∧ r ≤ 100000000) (h : RelX x y) (hv : PV gr r v v') : hitF tot (s2 gr x v) = hitS tot (qd gr r y v') := by
  have hd := d_val hx hr hv
  have e : qd gr r y v' = idf gr x v := by unfold qd idf; rw [s2_qn hx h hv, h.i]
  rw [e, hd.1]
  unfold hitF hitS
  have hi : (s2 gr x v).i = x.i := rfl
  rw [hi]
  congr 1
  · congr 2
    rw [decide_eq_decide]; omega
  · congr 1
    rw [decide_eq_decide]; omega
theorem merge_rel {gr : Bool} {r tot : Int} (hr : -100000000000 ≤ r ∧ r ≤ 100000000) : ∀ {xs ys : List Fx} {vs us : List Int}, RelL xs ys → RelI (PV gr r) vs us → (∀ x ∈ xs, okX x) → (∀ y ∈ ys, okX y) → vs.length = (opX xs).length →
    RelL (mergeG (iH gr tot) xs vs) (mergeG (qH gr r tot) ys us) ∧ (∀ x ∈ mergeG (iH gr tot) xs vs, okX x) ∧ (∀ y ∈ mergeG (qH gr r tot) ys us, okX y) ∧ (mergeG (iH gr tot) xs vs).length = xs.length
  | [], [], _, _, _, _, _, _, _ => ⟨trivial, fun _ h => (by cases h), fun _ h => (by cases h), rfl⟩
  | x :: t, y :: q, vs, us, h, hv, hx, hy, hl => by
    have hx1 := hx x (by simp)
    have hy1 := hy y (by simp)
    have hx2 : ∀ z ∈ t, okX z := fun z hz => hx z (by simp [hz])
    have hy2 : ∀ z ∈ q, okX z := fun z hz => hy z (by simp [hz])
    cases hf : x.fx with
    | true =>
      rw [opX_cons_fx hf] at hl
      have hf' : y.fx = true := h.1.fx ▸ hf
      obtain ⟨a1, a2, a3, a4⟩ := merge_rel hr (tot := tot) h.2 hv hx2 hy2 hl
      rw [mergeG_fx hf, mergeG_fx hf']
      exact ⟨⟨h.1, a1⟩, fun z hz => by rcases List.mem_cons.1 hz with rfl | hz; exact hx1; exact a2 z hz, fun z hz => by rcases List.mem_cons.1 hz with rfl | hz; exact hy1; exact a3 z hz, by rw [List.length_cons, List.length_cons, a4]⟩
    | false =>
      rw [opX_cons_op hf] at hl
      have hf' : y.fx = false := h.1.fx ▸ hf
      cases vs with
      | nil => simp at hl
      | cons v vs =>
        cases us with
        | nil => exact hv.elim
        | cons u us =>
          obtain ⟨a1, a2, a3, a4⟩ := merge_rel hr (tot := tot) h.2 hv.2 hx2 hy2 (by simpa using hl)
          rw [mergeG_op hf, mergeG_op hf']
          have hs := s_bound hx1 hr hv.1
          have hfb := fit_bound hx1.1 hs.1 hs.2
          have hq := s2_qn hx1 h.1 hv.1
          have hh := hit_eq (tot := tot) hx1 hr h.1 hv.1
          have hix : okX (iH gr tot x v) := by
            unfold iH s3
            split
            · exact ⟨hx1.1, hx1.2.1, hfb⟩
            · exact hx1
          have hqy : okX (qH gr r tot y u) := by
            refine ⟨hy1.1, hy1.2.1, ?_⟩
            show 0 ≤ fitI y.i (qn gr r y u) ∧ fitI y.i (qn gr r y u) ≤ 200000000
            rw [← hq, ← h.1.i]
            exact hfb
          have hrel : RelX (iH gr tot x v) (qH gr r tot y u) := by
            unfold iH s3
            cases hc : hitF tot (s2 gr x v) with
            | true =>
              rw [if_pos rfl]
              refine ⟨h.1.i, h.1.f, ?_, fun _ => ?_⟩
              · show true = hitS tot (qd gr r y u)
                rw [← hh, hc]
              · show fitI x.i (s2 gr x v).s = fitI y.i (qn gr r y u)
                rw [hq, h.1.i]
            | false =>
              rw [if_neg (by decide)]
              refine ⟨h.1.i, h.1.f, ?_, fun h2 => ?_⟩
              · show x.fx = hitS tot (qd gr r y u)
                rw [← hh, hc, hf]
              · have : x.fx = true := h2
                rw [hf] at this
                cases this
          exact ⟨⟨hrel, a1⟩, fun z hz => by rcases List.mem_cons.1 hz with rfl | hz; exact hix; exact a2 z hz, fun z hz => by rcases List.mem_cons.1 hz with rfl | hz; exact hqy; exact a3 z hz, by rw [List.length_cons, List.length_cons, a4]⟩
  | [], _ :: _, _, _, h, _, _, _, _ => h.elim
  | _ :: _, [], _, _, h, _, _, _, _ => h.elim
theorem count_merge (Hn : Fx → Int → Fx) : ∀ (xs : List Fx) (vs : List Int), vs.length = (opX xs).length → (opX (mergeG Hn xs vs)).length = (((opX xs).zip vs).filter (fun p => !(Hn p.1 p.2).fx)).length
  | [], _, _ => by simp [mergeG, opX]
  | x :: r, vs, h => by
    cases hf : x.fx with
    | true => rw [opX_cons_fx hf] at h ⊢; rw [mergeG_fx hf, opX_cons_fx hf, count_merge Hn r vs h]
    | false =>
      rw [opX_cons_op hf] at h ⊢
      cases vs with
      | nil => simp at h
      | cons v m =>
        have ih := count_merge Hn r m (by simpa using h)
        rw [mergeG_op hf, List.zip_cons_cons, List.filter_cons]
        cases hc : (Hn x v).fx with
        | true => rw [opX_cons_fx hc, if_neg (by simp [hc]), ih]
        | false => rw [opX_cons_op hc, if_pos (by simp [hc]), List.length_cons, List.length_cons, ih]
theorem sumW_sm : ∀ (ds : List Int) (a : Int), (∀ d ∈ ds, -200000000 ≤ d ∧ d ≤ 200000000) → -1000000000000 ≤ a - 200000000 * ds.length → a + 200000000 * ds.length ≤ 1000000000000 → ds.foldl (fun v d => wrap64 (v + d)) a = a + sm ds
  | [], a, _, _, _ => by simp [sm]
  | d :: t, a, h, h0, h1 => by
    have hd := h d (by simp)
    rw [List.length_cons] at h0 h1
    push_cast at h0 h1
    rw [List.foldl_cons, wrap_in (by omega) (by omega), sumW_sm t (a + d) (fun e he => h e (by simp [he])) (by omega) (by omega)]
    simp only [sm]
    omega
theorem sm_le0 : ∀ ds : List Int, (∀ d ∈ ds, d ≤ 0) → sm ds ≤ 0
  | [], _ => by simp [sm]
  | d :: t, h => by
    have h1 := h d (by simp)
    have h2 := sm_le0 t (fun e he => h e (by simp [he]))
    simp only [sm]
    omega
theorem sm_ge0 : ∀ ds : List Int, (∀ d ∈ ds, 0 ≤ d) → 0 ≤ sm ds
  | [], _ => by simp [sm]
  | d :: t, h => by
    have h1 := h d (by simp)
    have h2 := sm_ge0 t (fun e he => h e (by simp [he]))
    simp only [sm]
    omega
theorem relI_zip {P : Int → Int → Prop} : ∀ {os : List Fx} {vs us : List Int}, RelI P vs us → ∀ p ∈ os.zip vs, p.1 ∈ os ∧ ∃ u, P p.2 u
  | [], _, _, _, p, hp => by simp at hp
  | x :: t, [], _, _, p, hp => by simp at hp
  | x :: t, v :: vs, [], h, _, _ => h.elim
  | x :: t, v :: vs, u :: us, h, p, hp => by
    rw [List.zip_cons_cons] at hp
    rcases List.mem_cons.1 hp with rfl | hp
    · exact ⟨by simp, u, h.1⟩
    · obtain ⟨h1, h2⟩ := relI_zip h.2 p hp
      exact ⟨by simp [h1], h2⟩
/-- Each round fixes an item at least. -/
theorem round_less {gr : Bool} {r : Int} {xs : List Fx} {vs us : List Int} (hr : -100000000000 ≤ r ∧ r ≤ 100000000) (hx : ∀ x ∈ xs, okX x) (hl : xs.length ≤ 400) (hv : RelI (PV gr r) vs us) (hvl : vs.length = (opX xs).length) (hne : 0 < (opX xs).length) :
    (opX (mergeG (iH gr (sumW (((opX xs).zip vs).map (fun p => idf gr p.1 p.2)))) xs vs)).length < (opX xs).length := by
  rw [count_merge _ xs vs hvl]
  have hz : ((opX xs).zip vs).length = (opX xs).length := by rw [List.length_zip, hvl, Nat.min_self]
  rw [← hz]
  rw [List.length_filter_lt_length_iff_exists]
  have hall : ∀ p ∈ (opX xs).zip vs, idf gr p.1 p.2 = fitI p.1.i (s2 gr p.1 p.2).s - (s2 gr p.1 p.2).s ∧ -200000000 ≤ idf gr p.1 p.2 ∧ idf gr p.1 p.2 ≤ 200000000 := by
    intro p hp
    obtain ⟨h1, u, h2⟩ := relI_zip hv p hp
    exact d_val (hx _ (opX_mem h1)) hr h2
  have hol := opX_len xs
  obtain ⟨tot, ht⟩ : ∃ t, t = sumW (((opX xs).zip vs).map (fun p => idf gr p.1 p.2)) := ⟨_, rfl⟩
  have hsm : tot = sm (((opX xs).zip vs).map (fun p => idf gr p.1 p.2)) := by
    rw [ht]
    unfold sumW
    rw [sumW_sm _ 0 (fun d hd => by obtain ⟨p, hp, rfl⟩ := List.mem_map.1 hd; exact (hall p hp).2) (by rw [List.length_map]; omega) (by rw [List.length_map]; omega)]
    omega
  rw [← ht]
  have hit : ∀ p ∈ (opX xs).zip vs, hitF tot (s2 gr p.1 p.2) = true → ∃ x ∈ (opX xs).zip vs, ¬ ((!(iH gr tot x.1 x.2).fx) = true) := by
    intro p hp hh
    refine ⟨p, hp, ?_⟩
    unfold iH s3
    rw [if_pos hh]
    simp
  by_cases h0 : tot = 0
  · obtain ⟨p, hp⟩ := List.exists_mem_of_length_pos (by omega : 0 < ((opX xs).zip vs).length)
    exact hit p hp (by unfold hitF; rw [decide_eq_true h0]; rfl)
  · by_cases h1 : tot > 0
    · by_cases hex : ∃ p ∈ (opX xs).zip vs, idf gr p.1 p.2 > 0
      · obtain ⟨p, hp, hd⟩ := hex
        refine hit p hp ?_
        have he := (hall p hp).1
        unfold hitF
        have hi : (s2 gr p.1 p.2).i = p.1.i := rfl
        rw [hi, decide_eq_true h1, decide_eq_true (show fitI p.1.i (s2 gr p.1 p.2).s > (s2 gr p.1 p.2).s by omega)]
        simp
      · have := sm_le0 (((opX xs).zip vs).map (fun p => idf gr p.1 p.2)) (fun d hd => by
          obtain ⟨p, hp, rfl⟩ := List.mem_map.1 hd
          exact Int.not_lt.1 (fun h => hex ⟨p, hp, h⟩))
        omega
    · by_cases hex : ∃ p ∈ (opX xs).zip vs, idf gr p.1 p.2 < 0
      · obtain ⟨p, hp, hd⟩ := hex
        refine hit p hp ?_
        have he := (hall p hp).1
        unfold hitF
        have hi : (s2 gr p.1 p.2).i = p.1.i := rfl
        rw [hi, decide_eq_true (show tot < 0 by omega), decide_eq_true (show fitI p.1.i (s2 gr p.1 p.2).s < (s2 gr p.1 p.2).s by omega)]
        simp
      · have := sm_ge0 (((opX xs).zip vs).map (fun p => idf gr p.1 p.2)) (fun d hd => by
          obtain ⟨p, hp, rfl⟩ := List.mem_map.1 hd
          exact Int.not_lt.1 (fun h => hex ⟨p, hp, h⟩))
        omega
theorem mergeG_none (Hn : Fx → Int → Fx) : ∀ (xs : List Fx) (vs : List Int), (opX xs).length = 0 → mergeG Hn xs vs = xs
  | [], _, _ => rfl
  | x :: r, vs, h => by
    cases hf : x.fx with
    | true => rw [opX_cons_fx hf] at h; rw [mergeG_fx hf, mergeG_none Hn r vs h]
    | false => rw [opX_cons_op hf] at h; simp at h
theorem RelL.ts : ∀ {xs ys : List Fx}, RelL xs ys → (opX xs).length = 0 → xs.map (·.t) = ys.map (·.t)
  | [], [], _, _ => rfl
  | x :: r, y :: t, h, hz => by
    cases hf : x.fx with
    | true => rw [opX_cons_fx hf] at hz; rw [List.map_cons, List.map_cons, h.1.t hf, RelL.ts h.2 hz]
    | false => rw [opX_cons_op hf] at hz; simp at hz
  | [], _ :: _, h, _ => h.elim
  | _ :: _, [], h, _ => h.elim
theorem run_zero {gr : Bool} {room first : Int} (hr : 0 ≤ room ∧ room ≤ 100000000) (hf : -100000000000 ≤ first ∧ first ≤ 100000000) (xs ys : List Fx) (h : RelL xs ys) (hx : ∀ x ∈ xs, okX x) (hy : ∀ y ∈ ys, okX y) (hl : xs.length ≤ 400) (hz : (opX xs).length = 0) :
    ∃ r : List Int, r.length = xs.length ∧ (∀ d, Ev (fun k => flexO k gr first room (k - d) xs) r) ∧ (∀ d, Ev (fun k => flexSO k (k - d) (toS ys gr room first)) r) := by
  have hyl := h.len
  have hrb := rest_bound hx hl hr hf
  have hrb2 := rest_bound hy (by omega) hr hf
  have hzy : (opX ys).length = 0 := by rw [← h.op.len]; exact hz
  refine ⟨xs.map (·.t), List.length_map _, fun d => ?_, fun d => ?_⟩
  · obtain ⟨K, hK⟩ := impl_round (gr := gr) hx hl hrb
    refine ⟨max K (d + 1), fun k hk => ?_⟩
    show flexO k gr first room (k - d) xs = _
    have h1 : roundO k gr first room xs = some (roundP gr first room xs) := hK k (by omega)
    rw [show k - d = (k - (d + 1)) + 1 by omega, flexO, h1]
    dsimp only
    rw [if_pos hz, roundP_eq, mergeG_none _ xs _ hz]
  · obtain ⟨K, hK⟩ := spec_round (gr := gr) (first := first) (room := room) hy (by omega) hrb2
    refine ⟨max K (d + 1), fun k hk => ?_⟩
    show flexSO k (k - d) (toS ys gr room first) = _
    have h1 := hK k (by omega)
    rw [show k - d = (k - (d + 1)) + 1 by omega, flexSO, if_pos h1.1, fr_toS, if_pos (List.length_eq_zero_iff.1 (by rw [frO_len]; exact hzy))]
    rw [h.ts hz]
    rfl
theorem run_both {gr : Bool} {room first : Int} (hr : 0 ≤ room ∧ room ≤ 100000000) (hf : -100000000000 ≤ first ∧ first ≤ 100000000) : ∀ (m : Nat) (xs ys : List Fx), (opX xs).length ≤ m → RelL xs ys → (∀ x ∈ xs, okX x) → (∀ y ∈ ys, okX y) → xs.length ≤ 400 →
    ∃ r : List Int, r.length = xs.length ∧ (∀ d, Ev (fun k => flexO k gr first room (k - d) xs) r) ∧ (∀ d, Ev (fun k => flexSO k (k - d) (toS ys gr room first)) r) := by
  intro m
  induction m with
  | zero =>
    intro xs ys hm h hx hy hl
    exact run_zero hr hf xs ys h hx hy hl (by omega)
  | succ m ih =>
    intro xs ys hm h hx hy hl
    by_cases hz : (opX xs).length = 0
    · exact run_zero hr hf xs ys h hx hy hl hz
    · have hyl := h.len
      have hrb := rest_bound hx hl hr hf
      have hrest := h.rest first room
      have hrb2 : -100000000000 ≤ restX first room ys ∧ restX first room ys ≤ 100000000 := by rw [← hrest]; exact hrb
      have hwp : (opX ys).map (wP gr) = (opX xs).map (wP gr) := (h.op.map (wP gr) (fun x y h => by unfold wP; rw [h.i, h.f])).symm
      have hrel := sh_rel (gr := gr) (okW_wP (gr := gr) hx hl) hrb
      have hvl := shP_len gr (restX first room xs) (opX xs)
      have hds := ds_eq h.op hrel (fun x hx' => hx x (opX_mem hx'))
      obtain ⟨a1, a2, a3, a4⟩ := merge_rel (tot := sumW (((opX xs).zip (shP gr (restX first room xs) (opX xs))).map (fun p => idf gr p.1 p.2))) hrb h hrel hx hy hvl
      have hless := round_less hrb hx hl hrel hvl (by omega)
      rw [← roundP_eq] at a1 a2 a4 hless
      have hq : roundQ gr (restX first room ys) ys (spread (absI (restX first room ys)) ((opX ys).map (wP gr))) = mergeG (qH gr (restX first room xs) (sumW (((opX xs).zip (shP gr (restX first room xs) (opX xs))).map (fun p => idf gr p.1 p.2)))) ys (spread (absI (restX first room xs)) ((opX xs).map (wP gr))) := by
        unfold roundQ
        rw [hwp, ← hrest, hds]
      rw [← hq] at a1 a3
      obtain ⟨r, r1, r2, r3⟩ := ih _ _ (by omega) a1 a2 a3 (by omega)
      refine ⟨r, by omega, fun d => ?_, fun d => ?_⟩
      · obtain ⟨K, hK⟩ := impl_round (gr := gr) hx hl hrb
        obtain ⟨K2, hK2⟩ := r2 (d + 1)
        refine ⟨max (max K K2) (d + 1), fun k hk => ?_⟩
        show flexO k gr first room (k - d) xs = _
        have h1 : roundO k gr first room xs = some (roundP gr first room xs) := hK k (by omega)
        rw [show k - d = (k - (d + 1)) + 1 by omega, flexO, h1]
        dsimp only
        rw [if_neg hz]
        exact hK2 k (by omega)
      · obtain ⟨K, hK⟩ := spec_round (gr := gr) (first := first) (room := room) hy (by omega) hrb2
        obtain ⟨K2, hK2⟩ := r3 (d + 1)
        refine ⟨max (max K K2) (d + 1), fun k hk => ?_⟩
        show flexSO k (k - d) (toS ys gr room first) = _
        have h1 := hK k (by omega)
        rw [show k - d = (k - (d + 1)) + 1 by omega, flexSO, if_pos h1.1, fr_toS, if_neg (fun he => hz (by rw [h.op.len, ← frO_len ys 0, he]; rfl)), h1.2]
        exact hK2 k (by omega)
/-! ### FlexShares of both sides -/
theorem l12_in (a lo hi : Int) : spec_l12In.f a lo hi = some (decide (lo ≤ a ∧ a ≤ hi)) := by
  unfold spec_l12In.f
  split <;> simp <;> omega
theorem nonneg_in (a : Int) : impl_nonNegative.f a = some (decide (0 ≤ a ∧ a ≤ 100000000)) := by
  unfold impl_nonNegative.f
  split <;> simp <;> omega
theorem begL_ok {items : List S66} {room : Int} (h : ∀ i ∈ items, okI i) : ∀ x ∈ begL items room, okX x := by
  intro x hx
  unfold begL at hx
  obtain ⟨y, hy, rfl⟩ := List.mem_map.1 hx
  obtain ⟨i, hi, rfl⟩ := List.mem_map.1 hy
  have h1 := h i hi
  have hf := fit_bound h1 h1.1.1 (by have := h1.1.2; omega)
  refine ⟨h1, ?_, hf⟩
  show 0 ≤ clampI _ ∧ clampI _ ≤ 1000000
  unfold clampI mx mn
  repeat' split
  all_goals omega
theorem begL_items (items : List S66) (room : Int) : (begL items room).map (·.i) = items := by
  unfold begL
  rw [List.map_map, List.map_map]
  exact List.map_id' items
theorem flex_both {items : List S66} {room : Int} (h : ∀ i ∈ items, okI i) (hl : items.length ≤ 400) (hr : 0 ≤ room ∧ room ≤ 100000000) : ∃ r : List Int, r.length = items.length ∧ Ev (fun k => impl_flexShares.f k items room) r ∧ Ev (fun k => spec_l16Flex.f k items room) r := by
  have hx := begL_ok (room := room) h
  have hlen := begL_len items room
  have hlb := left_bound (begL items room) room hx (by omega) (by omega) hr.2
  obtain ⟨r, r1, r2, r3⟩ := run_both (gr := decide (sumT (items.map beg1) 0 < room)) (room := room) (first := leftF (begL items room) room) hr (by omega) (opX (begL items room)).length (begL items room) (begL items room) (Nat.le_refl _) (RelL.refl _) hx hx (by omega)
  refine ⟨r, by omega, ?_, ?_⟩
  · refine Ev.congr (fun k => impl_flexShares.f.eq_1 k items room) ?_
    refine ev_pos (by omega) ?_
    exact r2 0
  · refine Ev.congr (fun k => spec_l16Flex.f.eq_1 k items room) ?_
    refine ev_pos (by omega) ?_
    have e0 : begS items room = toS (begL items room) (decide (sumT (items.map beg1) 0 < room)) room 0 := by unfold begS toS; rw [begL_items]
    have e : begSS items room = toS (begL items room) (decide (sumT (items.map beg1) 0 < room)) room (leftF (begL items room) room) := by
      unfold begSS
      rw [e0]
      have h2 := left_toS (begL items room) (decide (sumT (items.map beg1) 0 < room)) room 0
      rw [show (toS (begL items room) (decide (sumT (items.map beg1) 0 < room)) room 0).items.length = items.length by unfold toS; rw [begL_items]] at h2
      rw [h2]
      unfold toS
      rw [begL_items]
    rw [e]
    exact r3 0
def okb (i : S66) : Bool := decide (0 ≤ i.f0 ∧ i.f0 ≤ 100000000) && (decide (0 ≤ i.f3 ∧ i.f3 ≤ 100000000) && decide (-1 ≤ i.f4 ∧ i.f4 ≤ 100000000))
theorem okb_okI {i : S66} (h : okb i = true) : okI i := by
  unfold okb at h
  simp only [Bool.and_eq_true, decide_eq_true_eq] at h
  exact ⟨h.1, h.2.1, h.2.2⟩
theorem at_66 (xs : List S66) (i : Nat) (h : i < xs.length) : rd_T66 xs (i : Int) = xs[i] := getD_nat _ xs i h
theorem at_100 (xs : List S100) (i : Nat) (h : i < xs.length) : rd_T100 xs (i : Int) = xs[i] := getD_nat _ xs i h
theorem okb_step (xs : List S66) (i : Nat) (h : i < xs.length) : (xs.drop i).all okb = (okb xs[i] && (xs.drop (i + 1)).all okb) := by
  rw [List.drop_eq_getElem_cons h, List.all_cons]
def flexOk (items : List S66) (room : Int) : Bool := decide (items.length ≤ 400) && (decide (0 ≤ room ∧ room ≤ 100000000) && items.all okb)
theorem items_ok (xs : List S66) (room : Int) : Ev (fun k => spec_l16ItemsOk.f k xs room) (flexOk xs room) := by
  unfold flexOk
  refine Ev.congr (fun k => spec_l16ItemsOk.f.eq_1 k xs room) (ev_ite (fun h => ?_) (fun h => ?_))
  · rw [decide_eq_false (by omega), Bool.false_and]
    exact Ev.step (fun k => spec_l16ItemsOk.j0.eq_2 xs true k) (ev_pos rfl (ev_now rfl))
  · rw [decide_eq_true (by omega), Bool.true_and]
    refine ev_bc (l12_in _ _ _) (Ev.step (fun k => spec_l16ItemsOk.j0.eq_2 xs _ k) ?_)
    cases hr : decide (0 ≤ room ∧ room ≤ 100000000) with
    | false => exact ev_pos rfl (ev_now rfl)
    | true =>
      refine ev_neg (by decide) ?_
      rw [Bool.true_and]
      refine ev_count (g := fun k i => spec_l16ItemsOk.l0 k xs i) xs.length (fun i => (xs.drop i).all okb) (Ev.step (fun k => spec_l16ItemsOk.l0.eq_2 xs _ k) (ev_neg (by omega) (ev_now (by rw [List.drop_of_length_le (Nat.le_refl _)]; rfl)))) ?_ 0 (Nat.zero_le _)
      intro i hi ih
      refine Ev.step (fun k => spec_l16ItemsOk.l0.eq_2 xs i k) (ev_pos (by omega) (ev_pos (by omega) ?_))
      rw [okb_step xs i hi, at_66 xs i hi, wrap_succ (by omega)]
      unfold okb
      refine ev_bc (l12_in _ _ _) (ev_ite (fun e => ?_) (fun e => ev_now (by rw [Bool.eq_false_iff.mpr e]; rfl)))
      refine ev_bc (l12_in _ _ _) (ev_ite (fun e2 => ?_) (fun e2 => ev_now (by rw [Bool.eq_false_iff.mpr e2, e]; rfl)))
      refine ev_bc (l12_in _ _ _) (ev_ite (fun e3 => ?_) (fun e3 => ev_now (by rw [Bool.eq_false_iff.mpr e3, e, e2]; rfl)))
      rw [e, e2, e3]
      exact ih
theorem impl_flex_ev (xs : List S66) (room : Int) (r : List Int) (h0 : flexOk xs room = false → r = []) (h1 : flexOk xs room = true → Ev (fun k => impl_flexShares.f k xs room) r) : Ev (fun k => impl_FlexShares.f k xs room) r := by
  unfold flexOk at h0 h1
  refine Ev.congr (fun k => impl_FlexShares.f.eq_1 k xs room) (ev_ite (fun h => ?_) (fun h => ?_))
  · rw [decide_eq_false (show ¬ xs.length ≤ 400 by omega), Bool.false_and] at h0
    rw [h0 rfl]
    exact Ev.step (fun k => impl_FlexShares.j0.eq_2 xs room true k) (ev_pos rfl (ev_now rfl))
  · rw [decide_eq_true (show xs.length ≤ 400 by omega), Bool.true_and] at h0 h1
    refine ev_bc (nonneg_in _) (Ev.step (fun k => impl_FlexShares.j0.eq_2 xs room _ k) ?_)
    cases hr : decide (0 ≤ room ∧ room ≤ 100000000) with
    | false =>
      rw [hr, Bool.false_and] at h0
      rw [h0 rfl]
      exact ev_pos rfl (ev_now rfl)
    | true =>
      rw [hr, Bool.true_and] at h0 h1
      refine ev_neg (by decide) ?_
      have key : ∀ i, i ≤ xs.length → ((xs.drop i).all okb = false → r = []) → ((xs.drop i).all okb = true → Ev (fun k => impl_flexShares.f k xs room) r) → Ev (fun k => impl_FlexShares.l0 k xs room xs xs.length i) r := by
        have : ∀ d i, xs.length - i = d → i ≤ xs.length → ((xs.drop i).all okb = false → r = []) → ((xs.drop i).all okb = true → Ev (fun k => impl_flexShares.f k xs room) r) → Ev (fun k => impl_FlexShares.l0 k xs room xs xs.length i) r := by
          intro d
          induction d with
          | zero =>
            intro i hd hi _ h1
            refine Ev.step (fun k => impl_FlexShares.l0.eq_2 xs room xs xs.length i k) (ev_neg (by omega) ?_)
            exact Ev.bind (h1 (by rw [List.drop_of_length_le (by omega)]; rfl)) (ev_now rfl)
          | succ d ih =>
            intro i hd hi h0 h1
            have hlt : i < xs.length := by omega
            rw [okb_step xs i hlt] at h0 h1
            refine Ev.step (fun k => impl_FlexShares.l0.eq_2 xs room xs xs.length i k) (ev_pos (by omega) (ev_pos (by omega) (ev_pos (by omega) ?_)))
            rw [at_66 xs i hlt, wrap_succ (by omega)]
            unfold okb at h0 h1
            refine ev_bc (nonneg_in _) (ev_ite (fun e => ?_) (fun e => ev_now (by rw [Bool.eq_false_iff.mpr e] at h0; exact (h0 rfl).symm)))
            rw [e, Bool.true_and] at h0 h1
            refine ev_bc (nonneg_in _) (ev_ite (fun e2 => ?_) (fun e2 => ev_now (by rw [Bool.eq_false_iff.mpr e2] at h0; exact (h0 rfl).symm)))
            rw [e2, Bool.true_and] at h0 h1
            refine ev_ite (fun e3 => ?_) (fun e3 => ?_)
            · rw [decide_eq_true (by omega), Bool.true_and] at h0 h1
              exact ih (i + 1) (by omega) (by omega) h0 h1
            · refine ev_bc (nonneg_in _) (ev_ite (fun e4 => ?_) (fun e4 => ev_now ?_))
              · have := of_decide_eq_true e4
                rw [decide_eq_true (by omega), Bool.true_and] at h0 h1
                exact ih (i + 1) (by omega) (by omega) h0 h1
              · have := of_decide_eq_false (Bool.eq_false_iff.mpr e4)
                rw [decide_eq_false (by omega), Bool.false_and] at h0
                exact (h0 rfl).symm
        exact fun i => this (xs.length - i) i rfl
      exact key 0 (Nat.zero_le _) h0 h1
theorem flexAll (xs : List S66) (room : Int) : ∃ r : List Int, r.length ≤ 400 ∧ (r.length = xs.length ∨ r = []) ∧ Ev (fun k => impl_FlexShares.f k xs room) r ∧ Ev (fun k => spec_FlexShares.f k xs room) r := by
  cases hok : flexOk xs room with
  | false =>
    refine ⟨[], by simp, .inr rfl, impl_flex_ev xs room [] (fun _ => rfl) (fun h => by rw [hok] at h; cases h), ?_⟩
    refine Ev.congr (fun k => spec_FlexShares.f.eq_1 k xs room) (Ev.bind (items_ok xs room) ?_)
    rw [hok]
    exact ev_neg (by decide) (ev_now rfl)
  | true =>
    have h := hok
    unfold flexOk at h
    simp only [Bool.and_eq_true, decide_eq_true_eq, List.all_eq_true] at h
    obtain ⟨r, r1, r2, r3⟩ := flex_both (fun i hi => okb_okI (h.2.2 i hi)) h.1 h.2.1
    refine ⟨r, by omega, .inl r1, impl_flex_ev xs room r (fun h => by rw [hok] at h; cases h) (fun _ => r2), ?_⟩
    refine Ev.congr (fun k => spec_FlexShares.f.eq_1 k xs room) (Ev.bind (items_ok xs room) ?_)
    rw [hok]
    exact ev_pos rfl (Ev.bind r3 (ev_now rfl))
/-! ### the items: copies, comparisons, marks -/
def cv (x : S100) : S66 := ⟨x.f0, x.f1, x.f2, x.f3, x.f4⟩
theorem to_flex (xs : List S100) (hn : xs.length ≤ 1048576) : Ev (fun k => laws_toFlexItemS.f k xs) (xs.map cv) := by
  refine Ev.congr (fun k => by unfold laws_toFlexItemS.f; rfl) (ev_pos (by omega) (ev_pos (by omega) ?_))
  refine ev_copy (g := fun k ys i => laws_toFlexItemS.l0 k xs ys i) cv xs (fun ys hl => Ev.step (fun k => laws_toFlexItemS.l0.eq_2 xs ys _ k) (ev_neg (by omega) (ev_now rfl))) ?_ _ (by simp)
  intro ys i h hl ih
  refine Ev.step (fun k => laws_toFlexItemS.l0.eq_2 xs ys i k) (ev_pos (by omega) (ev_pos (by omega) (ev_bc (a := ((cv xs[i]).f0, (cv xs[i]).f1, (cv xs[i]).f2, (cv xs[i]).f3, (cv xs[i]).f4)) (by rw [at_100 xs i h]; rfl) (ev_pos (by omega) ?_))))
  rw [wrap_succ (by omega), Int.toNat_natCast]; exact ih
theorem eq_flex (xs : List S66) (hn : xs.length ≤ 1048576) : Ev (fun k => laws_eqFlexItemS.f k xs xs) true := by
  refine Ev.congr (fun k => by unfold laws_eqFlexItemS.f; rfl) (ev_pos rfl ?_)
  refine ev_count (g := fun k i => laws_eqFlexItemS.l0 k xs xs i) xs.length (fun _ => true) (Ev.step (fun k => laws_eqFlexItemS.l0.eq_2 xs xs _ k) (ev_neg (by omega) (ev_now rfl))) ?_ 0 (Nat.zero_le _)
  intro i h ih
  refine Ev.step (fun k => laws_eqFlexItemS.l0.eq_2 xs xs i k) (ev_pos (by omega) (ev_pos (by omega) (ev_pos (by omega) (ev_bc (a := true) ?_ (ev_pos rfl ?_)))))
  · simp [laws_eqFlexItem.f]
  · rw [wrap_succ (by omega)]; exact ih
theorem mark_flex : ∀ (d : Nat) (xs : List S66) (a : Int) (i : Nat), xs.length - i = d → i ≤ xs.length → xs.length ≤ 1048576 → 0 ≤ a → a + 5 * d ≤ 10000000 → ∃ l : List S66, Ev (fun k => laws_markFlexItemS.l0 k xs a i) (a + 5 * d, l)
  | 0, xs, a, i, hd, hi, hn, ha, hb => ⟨xs, Ev.step (fun k => laws_markFlexItemS.l0.eq_2 xs a i k) (ev_neg (by omega) (ev_now (by simp)))⟩
  | d + 1, xs, a, i, hd, hi, hn, ha, hb => by
    push_cast at hb
    have e1 : wrap64 (a + 1) = a + 1 := wrap_in (by omega) (by omega)
    have e2 : wrap64 (a + 1 + 1) = a + 2 := by rw [wrap_in (by omega) (by omega)]; omega
    have e3 : wrap64 (a + 2 + 1) = a + 3 := by rw [wrap_in (by omega) (by omega)]; omega
    have e4 : wrap64 (a + 3 + 1) = a + 4 := by rw [wrap_in (by omega) (by omega)]; omega
    have e5 : wrap64 (a + 4 + 1) = a + 5 := by rw [wrap_in (by omega) (by omega)]; omega
    have step := fun (zs : List S66) (hz : zs.length = xs.length) => mark_flex d zs (a + 5) (i + 1) (by omega) (by omega) (by omega) (by omega) (by omega)
    have h : ∃ zs : List S66, zs.length = xs.length ∧ ∀ k, laws_markFlexItemS.l0 (k + 1) xs a i = laws_markFlexItemS.l0 k zs (a + 5) ((i + 1 : Nat) : Int) := by
      apply Exists.intro
      constructor
      rotate_left
      · intro k
        rw [laws_markFlexItemS.l0.eq_2, if_pos (by omega), if_pos (by omega)]
        simp only [Option.bind_some, e1, e2, e3, e4, e5]
        rw [wrap_succ (by omega)]
      · simp only [List.length_set]
    obtain ⟨zs, hz, h⟩ := h
    obtain ⟨l, hl⟩ := step zs hz
    exact ⟨l, Ev.step h (ev_to (by rw [show a + 5 + 5 * (d : Int) = a + 5 * ((d + 1 : Nat) : Int) by push_cast; omega]) hl)⟩
theorem FnExactFlexShares : laws_FnExactFlexShares.Pure := by
  intro l room hl _
  have hl1 := hl.1
  unfold maxLen at hl1
  refine Ev.rounds (r := true) ?_
  refine Ev.congr (fun k => laws_FnExactFlexShares.f.eq_1 k l room) (ev_bc (a := if wrap64 (1048576 - (l.length : Int)) < 0 then -1 else wrap64 (1048576 - (l.length : Int))) (by unfold laws_szFlexItemS.f; split <;> rfl) (ev_ite (fun _ => ev_now rfl) (fun h => ?_)))
  have hn : l.length ≤ 1048576 := by
    rw [wrap_in (by omega) (by omega)] at h
    split at h <;> omega
  have hm : (l.map cv).length ≤ 1048576 := by rw [List.length_map]; exact hn
  obtain ⟨r, r0, _, r1, r2⟩ := flexAll (l.map cv) room
  refine Ev.bind (to_flex l hn) (Ev.bind r2 (Ev.bind (to_flex l hn) (Ev.bind r1 (Ev.bind (eqIntS_ev _ (by omega)) (ev_pos rfl (Ev.bind (to_flex l hn) (Ev.bind (eq_flex _ hm) (ev_pos rfl ?_))))))))
  obtain ⟨ml, hml⟩ := mark_flex (l.map cv).length (l.map cv) 1 0 (by omega) (by omega) hm (by omega) (by omega)
  refine Ev.bind (Ev.congr (fun k => laws_markFlexItemS.f.eq_1 k _ 1) hml) (ev_neg (by show ¬ (_ < (0 : Int)); dsimp only; omega) (Ev.bind (eqIntS_ev _ (by omega)) ?_))
  refine Ev.step (fun k => laws_FnExactFlexShares.j0.eq_2 l room _ _ _ k) (ev_neg (by simp) ?_)
  refine Ev.bind (mark_ev _ (by omega)) (Ev.bind (held_ev _ (by omega)) (ev_neg (by omega) (ev_pos rfl ?_)))
  exact Ev.bind (to_flex l hn) (Ev.bind r1 (Ev.bind (eqIntS_ev _ (by omega)) (ev_pos rfl (Ev.bind (held_ev _ (by omega)) (ev_neg (by omega) (ev_pos rfl (ev_now rfl)))))))
end Go.Proofs.Ytpknhndanbgkmaa.Fact
