/- MulDiv, Spread and FlexShares of drawn inputs keep what the statement FnShares says of them. -/
import Derived.Test.YtpknhndanbgkmaaMFnSharesx12
import Derived.Laws.MathBits
namespace Go.Proofs.Ytpknhndanbgkmaa.Fact
open Go.RowKit Go.Proofs.Ytpknhndanbgkmaa.MFnShares Go.Proofs.YtpknhndanbgkmaaW.PrintWords Go.Proofs.YtpknhndanbgkmaaW.PrintLast
set_option linter.unusedVariables false
set_option linter.unusedSimpArgs false
/-! ### what comes from some round on -/
theorem ev_pos {α : Type} {c : Prop} [Decidable c] {f g : Nat → Option α} {r : α} (h : c) (k : Ev f r) : Ev (fun n => if c then f n else g n) r := by
 simpa only [if_pos h] using k
theorem ev_neg {α : Type} {c : Prop} [Decidable c] {f g : Nat → Option α} {r : α} (h : ¬ c) (k : Ev g r) : Ev (fun n => if c then f n else g n) r := by
 simpa only [if_neg h] using k
theorem ev_now {α : Type} {q r : α} (h : q = r) : Ev (fun _ => some q) r := by rw [h]; exact Ev.now r
theorem ev_bs {α β : Type} {a : α} {f : Nat → α → Option β} {r : β} (k : Ev (fun n => f n a) r) : Ev (fun n => (some a).bind (f n)) r := by
 simpa only [Option.bind_some] using k
theorem ev_bc {α β : Type} {o : Option α} {a : α} {f : Nat → α → Option β} {r : β} (h : o = some a) (k : Ev (fun n => f n a) r) : Ev (fun n => o.bind (f n)) r := by
 rw [h]; exact ev_bs k
theorem wrap_in {i : Int} (h0 : -9223372036854775808 ≤ i) (h1 : i ≤ 9223372036854775807) : wrap64 i = i := by
 unfold wrap64
 omega
theorem ev_ite {α : Type} {c : Prop} [Decidable c] {f g : Nat → Option α} {r : α} (h1 : c → Ev f r) (h2 : ¬ c → Ev g r) : Ev (fun n => if c then f n else g n) r := by
 by_cases h : c
 · exact ev_pos h (h1 h)
 · exact ev_neg h (h2 h)
theorem wrap_succ {i : Nat} (h : i < 9223372036854775807) : wrap64 ((i : Int) + 1) = ((i + 1 : Nat) : Int) := by
 rw [wrap_in (by omega) (by omega)]; rfl
theorem getD_nat {α : Type} (d : α) (xs : List α) (i : Nat) (h : i < xs.length) : xs.getD (i : Int).toNat d = xs[i] := by
 simp [List.getElem?_eq_getElem h]
/-- A loop that counts from i up to n, its state s. -/
theorem ev_loop {σ ρ : Type} {g : Nat → σ → Int → Option ρ} (n : Nat) (R : Nat → σ → ρ) (Inv : Nat → σ → Prop)
 (hend : ∀ s, Inv n s → Ev (fun k => g k s n) (R n s))
 (hstep : ∀ i s, i < n → Inv i s → (∀ s', Inv (i + 1) s' → Ev (fun k => g k s' ((i + 1 : Nat) : Int)) (R (i + 1) s')) → Ev (fun k => g k s i) (R i s)) :
 ∀ i, i ≤ n → ∀ s, Inv i s → Ev (fun k => g k s i) (R i s) := by
 have key : ∀ d i, n - i = d → i ≤ n → ∀ s, Inv i s → Ev (fun k => g k s i) (R i s) := by
  intro d
  induction d with
  | zero =>
   intro i hd hi s hs
   obtain rfl : i = n := by omega
   exact hend s hs
  | succ d ih =>
   intro i hd hi s hs
   exact hstep i s (by omega) hs (ih (i + 1) (by omega) (by omega))
 exact fun i hi s hs => key (n - i) i rfl hi s hs
/-- The same, without a state. -/
theorem ev_count {ρ : Type} {g : Nat → Int → Option ρ} (n : Nat) (R : Nat → ρ) (hend : Ev (fun k => g k n) (R n))
 (hstep : ∀ i, i < n → Ev (fun k => g k ((i + 1 : Nat) : Int)) (R (i + 1)) → Ev (fun k => g k i) (R i)) : ∀ i, i ≤ n → Ev (fun k => g k i) (R i) := by
 intro i hi
 exact ev_loop (σ := Unit) (g := fun k _ i => g k i) n (fun i _ => R i) (fun _ _ => True) (fun _ _ => hend) (fun i _ h _ ih => hstep i h (ih () trivial)) i hi () trivial
/-! ### the copies and comparisons of lists of numbers -/
theorem rd_nat (xs : List Int) (i : Nat) (h : i < xs.length) : rd xs (i : Int) = xs[i] := by
 simp [rd, List.getElem?_eq_getElem h]
/-! ### what the drawing makes of the bytes: a byte, a number below n -/
theorem and255 (x : Int) : 0 ≤ Go.bits .and .i64 x 255 ∧ Go.bits .and .i64 x 255 ≤ 255 := by
 have h : ∀ n : Nat, n ≤ 255 → 0 ≤ IntKind.i64.wrap (n : Int) ∧ IntKind.i64.wrap (n : Int) ≤ 255 := by
  intro n hn
  rw [IntKind.wrap_i64]
  omega
 unfold Go.bits
 exact h _ (by simp only [BitVec.toNat_and]; exact Nat.le_trans Nat.and_le_right (by decide))
theorem byte_ev (c : List Int) (hc : c.length ≤ 1048576) (p s : Int) (h0 : 0 ≤ p) (h1 : p ≤ 1048576) : ∃ v p' s', spec_l1Byte.f c p s = some (v, p', s') ∧ 0 ≤ v ∧ v ≤ 255 ∧ 0 ≤ p' ∧ p' ≤ 1048576 := by
 unfold spec_l1Byte.f
 by_cases g : p < (c.length : Int)
 · rw [if_pos g, if_pos h0]
   exact ⟨_, _, _, rfl, (and255 _).1, (and255 _).2, by rw [wrap_in (by omega) (by omega)]; omega, by rw [wrap_in (by omega) (by omega)]; omega⟩
 · rw [if_neg g]
   exact ⟨_, _, _, rfl, (and255 _).1, (and255 _).2, h0, h1⟩
theorem below_ev (c : List Int) (hc : c.length ≤ 1048576) (p s n : Int) (h0 : 0 ≤ p) (h1 : p ≤ 1048576) (hn : 0 < n) (hn2 : n ≤ 256) : ∃ v p' s', spec_l1Below.f c p s n = some (v, p', s') ∧ 0 ≤ v ∧ v < n ∧ 0 ≤ p' ∧ p' ≤ 1048576 := by
 obtain ⟨v, p', s', e, g0, g1, g2, g3⟩ := byte_ev c hc p s h0 h1
 unfold spec_l1Below.f
 rw [if_neg (by omega), if_pos hn2, e, Option.bind_some]
 dsimp only
 rw [if_neg (by omega)]
 exact ⟨_, _, _, rfl, Int.tmod_nonneg n g0, Int.tmod_lt_of_pos v hn, g2, g3⟩
theorem new_ev (c : List Int) (hc : c.length ≤ 1048576) : ∃ s, Ev (fun k => spec_l1New.f k c) (c, 0, s) := by
 have key : ∀ (d i : Nat) (s : Int), c.length - i = d → ∃ s', Ev (fun k => spec_l1New.l0 k c s i) (c, 0, s') := by
  intro d
  induction d with
  | zero =>
   intro i s hd
   exact ⟨s, Ev.step (fun k => spec_l1New.l0.eq_2 c s i k) (ev_neg (by omega) (ev_now rfl))⟩
  | succ d ih =>
   intro i s hd
   by_cases g : (i : Int) < 4000
   · obtain ⟨s', h⟩ := ih (i + 1) (Go.bits .and .i64 (wrap64 ((wrap64 ((wrap64 (s * 131)) + (wrap64 (rd c (i : Int))))) + 7)) 1073741823) (by omega)
     refine ⟨s', Ev.step (fun k => spec_l1New.l0.eq_2 c s i k) (ev_pos (by omega) (ev_pos g (ev_pos (by omega) ?_)))⟩
     rw [wrap_succ (by omega)]
     exact h
   · exact ⟨s, Ev.step (fun k => spec_l1New.l0.eq_2 c s i k) (ev_pos (by omega) (ev_neg g (ev_now rfl)))⟩
 obtain ⟨s, h⟩ := key c.length 0 _ rfl
 exact ⟨s, Ev.congr (fun k => spec_l1New.f.eq_1 k c) h⟩
/-! ### the quotient, bit by bit and by words -/
/-- What MulDiv is to answer. -/
def mdq (a b c : Int) : Int := if a * b / c > 4611686018427387904 then 0 else a * b / c
theorem mdq_zero {a b c T Q : Int} (hc : 0 < c) (hT : T ≤ a * b) (hQ : Q * c ≤ T) (h : Q > 4611686018427387904) : mdq a b c = 0 := by
 unfold mdq
 have : Q ≤ a * b / c := (Int.le_ediv_iff_mul_le hc).2 (Int.le_trans hQ hT)
 rw [if_pos (by omega)]
theorem mdq_is {a b c q r : Int} (hc : 0 < c) (h : q * c + r = a * b) (h0 : 0 ≤ r) (h1 : r < c) (hq : q ≤ 4611686018427387904) : mdq a b c = q := by
 have e : a * b / c = q := by
  rw [← h, Int.add_comm, Int.add_mul_ediv_right _ _ (by omega), Int.ediv_eq_zero_of_lt h0 h1]; omega
 unfold mdq
 rw [e, if_neg (by omega)]
theorem and_one (x : Int) (h0 : 0 ≤ x) (h1 : x ≤ 9223372036854775807) : Go.bits .and .i64 x 1 = x % 2 := by
 have := bits_mask .i64 63 (by decide) (fun n a b => by rw [IntKind.wrap_i64]; omega) 1 (by decide) x h0 (by omega)
 simpa using this
theorem shr_i64 (x : Int) (n : Nat) (hn : n ≤ 64) : shr .i64 x n = x / 2 ^ n := by
 unfold shr
 rw [show IntKind.i64.bits = 64 from rfl, Int.toNat_natCast, Nat.min_eq_left hn]
theorem two_step {a : Int} {n : Nat} (ha : 0 ≤ a) : a / 2 ^ n = 2 * (a / 2 ^ (n + 1)) + a / 2 ^ n % 2 := by
 have : a / 2 ^ (n + 1) = a / 2 ^ n / 2 := by rw [Int.ediv_ediv_of_nonneg (Int.le_of_lt (Int.pow_pos (by decide))), ← Int.pow_succ]
 rw [this]; omega
theorem top_le {a : Int} {n : Nat} (ha : 0 ≤ a) : a / 2 ^ n ≤ a := Int.ediv_le_self _ ha
theorem md_spec_loop (a b c : Int) (ha : 0 ≤ a) (ha1 : a ≤ 9223372036854775807) (hb : 0 ≤ b) (hb1 : b ≤ 9223372036854775807) (hc : 1 ≤ c) (hc1 : c ≤ 4611686018427387904) (n : Nat) :
 n ≤ 63 → ∀ q r : Int, 0 ≤ r → r < c → 0 ≤ q → q ≤ 4611686018427387904 → q * c + r = (a / 2 ^ n) * b → Ev (fun k => spec_MulDiv.l0 k a c q r (b / c) (b % c) ((n : Int) - 1)) (mdq a b c) := by
 have hbc := Int.mul_ediv_add_emod b c
 have hm0 : 0 ≤ b % c := Int.emod_nonneg _ (by omega)
 have hm1 : b % c < c := Int.emod_lt_of_pos _ (by omega)
 have hd0 : 0 ≤ b / c := Int.ediv_nonneg hb (by omega)
 have hd1 : b / c ≤ b := Int.ediv_le_self _ hb
 induction n with
 | zero =>
  intro _ q r h0 h1 h2 h3 h
  refine Ev.step (fun k => spec_MulDiv.l0.eq_2 a c q r (b / c) (b % c) _ k) (ev_neg (by omega) (ev_now ?_))
  exact (mdq_is (by omega) (by simpa using h) h0 h1 h3).symm
 | succ n ih =>
  intro hn q r h0 h1 h2 h3 h
  have ih := ih (by omega)
  have hstep := two_step (n := n) ha
  have htop : a / 2 ^ n ≤ a := top_le ha
  have htop0 : 0 ≤ a / 2 ^ n := Int.ediv_nonneg ha (Int.le_of_lt (Int.pow_pos (by decide)))
  have htopb : (a / 2 ^ n) * b ≤ a * b := Int.mul_le_mul_of_nonneg_right htop hb
  generalize hA : a / 2 ^ (n + 1) = A at *
  generalize hA' : a / 2 ^ n = A' at *
  have hbit : A' % 2 = 0 ∨ A' % 2 = 1 := by omega
  have hAb : A' * b = 2 * (A * b) + (A' % 2) * b := by
   conv => lhs; rw [hstep]
   rw [Int.add_mul, Int.mul_assoc]
  have hAb0 : 2 * (A * b) ≤ A' * b := by
   rw [hAb]
   rcases hbit with e | e <;> rw [e] <;> omega
  rw [show ((n + 1 : Nat) : Int) - 1 = n by omega]
  refine Ev.step (fun k => spec_MulDiv.l0.eq_2 a c q r (b / c) (b % c) n k) (ev_pos (by omega) (ev_ite (fun hq => ?_) (fun hq => ?_)))
  · refine ev_now (mdq_zero (T := 2 * (A * b)) (Q := 2 * q) (by omega) (by omega) ?_ (by omega)).symm
    rw [Int.mul_assoc, ← h]; omega
  -- behind the doubling
  have three : ∀ q1 r1 : Int, 0 ≤ r1 → r1 < c → 0 ≤ q1 → q1 ≤ 4611686018427387905 → q1 * c + r1 = 2 * (A * b) → Ev (fun k => spec_MulDiv.j3 k a c q1 r1 (b / c) (b % c) n) (mdq a b c) := by
   intro q1 r1 g0 g1 g2 g3 g
   refine Ev.step (fun k => spec_MulDiv.j3.eq_2 a c q1 r1 (b / c) (b % c) n k) (ev_pos (by omega) ?_)
   rw [shr_i64 a n (by omega), hA', and_one A' htop0 (by omega)]
   have back : wrap64 ((n : Int) - 1) = (n : Int) - 1 := wrap_in (by omega) (by omega)
   refine ev_ite (fun e => ?_) (fun e => ?_)
   · rw [e] at hAb
     rw [wrap_in (by omega) (by omega)]
     have hsum : (q1 + b / c) * c + (r1 + b % c) = A' * b := by
      rw [Int.add_mul, hAb, Int.one_mul, ← g]
      have : b / c * c = c * (b / c) := Int.mul_comm _ _
      omega
     refine ev_ite (fun e2 => ?_) (fun e2 => ?_)
     · refine ev_now (mdq_zero (T := A' * b) (Q := q1 + b / c) (by omega) htopb ?_ (by omega)).symm
       omega
     rw [wrap_in (i := r1 + b % c) (by omega) (by omega), wrap_in (i := q1 + b / c) (by omega) (by omega)]
     refine ev_ite (fun e3 => ?_) (fun e3 => ?_)
     · refine Ev.step (fun k => spec_MulDiv.j4.eq_2 a c _ _ (b / c) (b % c) n true k) (ev_pos rfl ?_)
       rw [wrap_in (by omega) (by omega), wrap_in (i := r1 + b % c - c) (by omega) (by omega), back]
       have hs2 : (q1 + b / c + 1) * c + (r1 + b % c - c) = A' * b := by rw [Int.add_mul, Int.one_mul, ← hsum]; omega
       refine ev_ite (fun e4 => ?_) (fun e4 => ?_)
       · refine ev_now (mdq_zero (T := A' * b) (Q := q1 + b / c + 1) (by omega) htopb ?_ (by omega)).symm
         omega
       · exact ih _ _ (by omega) (by omega) (by omega) (by omega) hs2
     · refine Ev.step (fun k => spec_MulDiv.j4.eq_2 a c _ _ (b / c) (b % c) n _ k) (ev_neg (by simp; omega) ?_)
       rw [back]
       refine ev_neg (by omega) ?_
       exact ih _ _ (by omega) (by omega) (by omega) (by omega) hsum
   · have e0 : A' % 2 = 0 := by omega
     rw [e0] at hAb
     rw [back]
     refine ev_ite (fun e2 => ?_) (fun e2 => ?_)
     · refine ev_now (mdq_zero (T := A' * b) (Q := q1) (by omega) htopb ?_ (by omega)).symm
       omega
     · exact ih _ _ g0 g1 g2 (by omega) (by omega)
  rw [wrap_in (i := 2 * r) (by omega) (by omega), wrap_in (i := 2 * q) (by omega) (by omega)]
  refine ev_ite (fun e => ?_) (fun e => ?_)
  · refine Ev.step (fun k => spec_MulDiv.j2.eq_2 a c _ _ (b / c) (b % c) n true k) (ev_pos rfl ?_)
    rw [wrap_in (by omega) (by omega), wrap_in (i := 2 * r - c) (by omega) (by omega)]
    refine three _ _ (by omega) (by omega) (by omega) (by omega) ?_
    rw [Int.add_mul, Int.mul_assoc, ← h]; omega
  · refine Ev.step (fun k => spec_MulDiv.j2.eq_2 a c _ _ (b / c) (b % c) n _ k) (ev_neg (by simp; omega) ?_)
    refine three _ _ (by omega) (by omega) (by omega) (by omega) ?_
    rw [Int.mul_assoc, ← h]; omega
/-- The guard of both. -/
def mdAll (a b c : Int) : Int := if a < 0 ∨ b < 0 ∨ c < 1 ∨ c > 4611686018427387904 then 0 else mdq a b c
theorem md_spec (a b c : Int) (ha1 : a ≤ 9223372036854775807) (hb1 : b ≤ 9223372036854775807) : Ev (fun k => spec_MulDiv.f k a b c) (mdAll a b c) := by
 have yes : (a < 0 ∨ b < 0 ∨ c < 1 ∨ c > 4611686018427387904) → Ev (fun k => spec_MulDiv.j0 k a b c true) (mdAll a b c) := fun h =>
  Ev.step (fun k => spec_MulDiv.j0.eq_2 a b c true k) (ev_pos rfl (ev_now (by unfold mdAll; rw [if_pos h])))
 refine Ev.congr (fun k => spec_MulDiv.f.eq_1 k a b c) (ev_ite (fun h => yes (by omega)) (fun h1 => ev_ite (fun h => yes (by omega)) (fun h2 => ev_ite (fun h => yes (by omega)) (fun h3 => ?_))))
 by_cases h4 : c > 4611686018427387904
 · rw [decide_eq_true h4]; exact yes (by omega)
 rw [decide_eq_false h4]
 refine Ev.step (fun k => spec_MulDiv.j0.eq_2 a b c false k) (ev_neg (by simp) (ev_neg (by omega) ?_))
 have e : mdAll a b c = mdq a b c := by unfold mdAll; rw [if_neg (by omega)]
 rw [e, Int.tdiv_eq_ediv_of_nonneg (by omega), Int.tmod_eq_emod_of_nonneg (by omega)]
 have hd0 : 0 ≤ b / c := Int.ediv_nonneg (by omega) (by omega)
 have hd1 : b / c ≤ b := Int.ediv_le_self _ (by omega)
 rw [wrap_in (i := b / c) (by omega) (by omega)]
 refine md_spec_loop a b c (by omega) ha1 (by omega) hb1 (by omega) (by omega) 63 (by omega) 0 0 (by omega) (by omega) (by omega) (by omega) ?_
 have : a / 2 ^ 63 = 0 := Int.ediv_eq_zero_of_lt (by omega) (by omega)
 rw [this]; simp
theorem w64 {x : Int} (h0 : 0 ≤ x) (h1 : x < 18446744073709551616) : IntKind.u64.wrap x = x := by rw [IntKind.wrap_u64]; omega
/-- One digit of the quotient: from a guess that is not too small down to the digit itself. V = v1 * 2^32 + v0, the three digits above it U = u32 * 2^32 + u1. -/
theorem digit {ρ : Type} {L : Nat → Int → Int → Option ρ} {J : Nat → Int → Int → Bool → Option ρ} {K : Nat → Int → Option ρ} {v1 v0 u32 u1 V U : Int} {R : ρ}
 (hL : ∀ k q r, L (k + 1) q r = if q ≥ 4294967296 then J k q r true else J k q r (decide ((IntKind.u64.wrap (q * v0)) > (IntKind.u64.wrap ((IntKind.u64.wrap (4294967296 * r)) + u1)))))
 (hJ : ∀ k q r b, J (k + 1) q r b = if b = true then (if (IntKind.u64.wrap (r + v1)) ≥ 4294967296 then K k (IntKind.u64.wrap (q - 1)) else L k (IntKind.u64.wrap (q - 1)) (IntKind.u64.wrap (r + v1))) else K k q)
 (hv1 : 2147483648 ≤ v1) (hv1' : v1 < 4294967296) (hv0 : 0 ≤ v0) (hv0' : v0 < 4294967296) (hu1 : 0 ≤ u1) (hu1' : u1 < 4294967296) (hV : V = v1 * 4294967296 + v0) (hU : U = u32 * 4294967296 + u1) (hu : 0 ≤ u32) (huV : u32 < V)
 (hK : Ev (fun k => K k (U / V)) R) (d : Nat) : ∀ q r : Int, q - U / V = d → q < 18446744073709551616 → q * v1 + r = u32 → 0 ≤ r → r < 4294967296 → Ev (fun k => L k q r) R := by
 have hVp : 0 < V := by omega
 have hq0 : 0 ≤ U / V := Int.ediv_nonneg (by omega) (by omega)
 have hqs : U / V < 4294967296 := (Int.ediv_lt_iff_lt_mul hVp).2 (by omega)
 induction d with
 | zero =>
  intro q r hd hq hr h0 h1
  have hqV : q * V ≤ U := by
   have : q ≤ U / V := by omega
   exact (Int.le_ediv_iff_mul_le hVp).1 this
  have hp : 0 ≤ q * v0 := Int.mul_nonneg (by omega) hv0
  have hp2 : q * v0 ≤ 4294967295 * 4294967295 := Int.mul_le_mul (by omega) (by omega) hv0 (by omega)
  have e : q * V = (q * v1) * 4294967296 + q * v0 := by rw [hV, Int.mul_add, Int.mul_assoc]
  refine Ev.step (hL · q r) (ev_neg (by omega) ?_)
  refine Ev.step (hJ · q r _) (ev_neg ?_ ?_)
  · rw [w64 hp (by omega), w64 (x := 4294967296 * r) (by omega) (by omega), w64 (by omega) (by omega)]
    simp; omega
  · rw [show q = U / V by omega]; exact hK
 | succ d ih =>
  intro q r hd hq hr h0 h1
  have hqV : U < q * V := by
   have : U / V < q := by omega
   exact (Int.ediv_lt_iff_lt_mul hVp).1 this
  have e : q * V = (q * v1) * 4294967296 + q * v0 := by rw [hV, Int.mul_add, Int.mul_assoc]
  have go : Ev (fun k => J k q r true) R := by
   refine Ev.step (hJ · q r true) (ev_pos rfl ?_)
   rw [w64 (x := r + v1) (by omega) (by omega), w64 (x := q - 1) (by omega) (by omega)]
   have e1 : (q - 1) * v1 + (r + v1) = u32 := by rw [Int.sub_mul, Int.one_mul]; omega
   refine ev_ite (fun c => ?_) (fun c => ih (q - 1) (r + v1) (by omega) (by omega) e1 (by omega) (by omega))
   have hle : (q - 1) * V ≤ U := by
    have hlt : q - 1 < 4294967296 := by
     rcases Int.lt_or_le (q - 1) 4294967296 with h | h
     · exact h
     · have : 4294967296 * v1 ≤ (q - 1) * v1 := Int.mul_le_mul_of_nonneg_right h (by omega)
       omega
    have : (q - 1) * v0 ≤ 4294967295 * 4294967295 := Int.mul_le_mul (by omega) (by omega) hv0 (by omega)
    have e2 : (q - 1) * V = ((q - 1) * v1) * 4294967296 + (q - 1) * v0 := by rw [hV, Int.mul_add, Int.mul_assoc]
    omega
   have : q - 1 ≤ U / V := (Int.le_ediv_iff_mul_le hVp).2 hle
   rw [show q - 1 = U / V by omega]; exact hK
  refine Ev.step (hL · q r) (ev_ite (fun _ => go) (fun c => ?_))
  have hp : 0 ≤ q * v0 := Int.mul_nonneg (by omega) hv0
  have hp2 : q * v0 ≤ 4294967295 * 4294967295 := Int.mul_le_mul (by omega) (by omega) hv0 (by omega)
  rw [w64 hp (by omega), w64 (x := 4294967296 * r) (by omega) (by omega), w64 (x := 4294967296 * r + u1) (by omega) (by omega)]
  rw [decide_eq_true (by omega)]; exact go
/-- The first guess is not too small. -/
theorem guess {v1 v0 u32 u1 V U : Int} (hv1 : 0 < v1) (hv0 : 0 ≤ v0) (hu1' : u1 < 4294967296) (hV : V = v1 * 4294967296 + v0) (hU : U = u32 * 4294967296 + u1) (hu : 0 ≤ u32) (hu1 : 0 ≤ u1) : U / V ≤ u32 / v1 := by
 have hVp : 0 < V := by omega
 have hq0 : 0 ≤ U / V := Int.ediv_nonneg (by omega) (by omega)
 refine (Int.le_ediv_iff_mul_le hv1).2 ?_
 have h1 : U / V * V ≤ U := Int.ediv_mul_le _ (by omega)
 generalize U / V = Q at *
 have e : Q * V = (Q * v1) * 4294967296 + Q * v0 := by rw [hV, Int.mul_add, Int.mul_assoc]
 have : 0 ≤ Q * v0 := Int.mul_nonneg hq0 hv0
 omega
theorem bitLen_bounds (n : Nat) : ∀ x : Nat, x ≤ n → 0 < x → x < 2 ^ 64 → 2 ^ (Lib.bitLen x - 1) ≤ x ∧ x < 2 ^ Lib.bitLen x ∧ 1 ≤ Lib.bitLen x := by
 induction n with
 | zero => intro x h1 h2; omega
 | succ n ih =>
  intro x h1 h2 h3
  have e := Lib.bitLen_half x (by omega) h3
  by_cases hx : x = 1
  · subst hx; decide
  obtain ⟨a, b, c⟩ := ih (x / 2) (by omega) (by omega) (by omega)
  rw [e]
  obtain ⟨m, hm⟩ : ∃ m, Lib.bitLen (x / 2) = m + 1 := ⟨Lib.bitLen (x / 2) - 1, by omega⟩
  rw [hm] at a b ⊢
  refine ⟨?_, ?_, by omega⟩
  · rw [show 1 + (m + 1) - 1 = m + 1 by omega, Nat.pow_succ]
    rw [show m + 1 - 1 = m by omega] at a
    omega
  · rw [show 1 + (m + 1) = (m + 1) + 1 by omega, Nat.pow_succ]; omega
theorem shift_of (y : Int) (h0 : 0 < y) (h1 : y ≤ 4611686018427387904) : ∃ s : Nat, 1 ≤ s ∧ s ≤ 63 ∧ (64 - (Lib.bitLen y.toNat : Int)) = s ∧ 9223372036854775808 ≤ y * 2 ^ s ∧ y * 2 ^ s < 18446744073709551616 := by
 obtain ⟨x, rfl⟩ := Int.eq_ofNat_of_zero_le (Int.le_of_lt h0)
 obtain ⟨a, b, c⟩ := bitLen_bounds x x (Nat.le_refl _) (by omega) (by omega)
 have hle : Lib.bitLen x ≤ 63 := Lib.bitLen_le x 63 (by omega) (by omega)
 rw [Int.toNat_natCast]
 have e : (2 : Nat) ^ (Lib.bitLen x - 1) * 2 ^ (64 - Lib.bitLen x) = 9223372036854775808 := by
  rw [← Nat.pow_add, show Lib.bitLen x - 1 + (64 - Lib.bitLen x) = 63 by omega]
 have e2 : (2 : Nat) ^ Lib.bitLen x * 2 ^ (64 - Lib.bitLen x) = 18446744073709551616 := by
  rw [← Nat.pow_add, show Lib.bitLen x + (64 - Lib.bitLen x) = 64 by omega]
 have p : 0 < (2 : Nat) ^ (64 - Lib.bitLen x) := Nat.two_pow_pos _
 have a2 := Nat.mul_le_mul_right (2 ^ (64 - Lib.bitLen x)) a
 have b2 := Nat.mul_lt_mul_of_pos_right b p
 refine ⟨64 - Lib.bitLen x, by omega, by omega, by omega, ?_, ?_⟩
 · have : ((x * 2 ^ (64 - Lib.bitLen x) : Nat) : Int) = (x : Int) * 2 ^ (64 - Lib.bitLen x) := by simp
   rw [← this]; omega
 · have : ((x * 2 ^ (64 - Lib.bitLen x) : Nat) : Int) = (x : Int) * 2 ^ (64 - Lib.bitLen x) := by simp
   rw [← this]; omega
theorem shl_u64 (x : Int) (n : Nat) (hn : n ≤ 64) : shl .u64 x n = (x * 2 ^ n) % 18446744073709551616 := by
 unfold shl
 rw [show IntKind.u64.bits = 64 from rfl, Int.toNat_natCast, Nat.min_eq_left hn, IntKind.wrap_u64]
theorem shr_u64 (x : Int) (n : Nat) (hn : n ≤ 64) : shr .u64 x n = x / 2 ^ n := by
 unfold shr
 rw [show IntKind.u64.bits = 64 from rfl, Int.toNat_natCast, Nat.min_eq_left hn]
theorem div64 (hi lo y : Int) (hy : 0 < y) (hy1 : y ≤ 4611686018427387904) (h0 : 0 ≤ hi) (h1 : hi < y) (l0 : 0 ≤ lo) (l1 : lo < 18446744073709551616) :
 ∃ rem, Ev (fun k => bits_Div64.f k hi lo y) ((hi * 18446744073709551616 + lo) / y, rem) := by
 by_cases hz : hi = 0
 · subst hz
   have a : 0 ≤ lo / y := Int.ediv_nonneg l0 (by omega)
   have b : lo / y ≤ lo := Int.ediv_le_self _ l0
   refine ⟨_, Ev.congr (fun k => bits_Div64.f.eq_1 k 0 lo y) (ev_neg (by omega) (ev_neg (by omega) (ev_pos rfl (ev_now (Prod.ext ?_ rfl)))))⟩
   show IntKind.u64.wrap (Int.tdiv lo y) = _
   rw [Int.tdiv_eq_ediv_of_nonneg l0, w64 a (by omega)]; simp
 obtain ⟨s, s1, s2, hs, v0, v1⟩ := shift_of y hy hy1
 have P : (0 : Int) < 2 ^ s := Int.pow_pos (by decide)
 have P2 : (0 : Int) < 2 ^ (64 - s) := Int.pow_pos (by decide)
 have PP : (2 : Int) ^ s * 2 ^ (64 - s) = 18446744073709551616 := by
  rw [← Int.pow_add, show s + (64 - s) = 64 by omega]; rfl
 obtain ⟨V, hV⟩ : ∃ V, V = y * 2 ^ s := ⟨_, rfl⟩
 obtain ⟨A, hA⟩ : ∃ A, A = hi * 2 ^ s := ⟨_, rfl⟩
 obtain ⟨C, hC⟩ : ∃ C, C = lo / 2 ^ (64 - s) := ⟨_, rfl⟩
 obtain ⟨D, hD⟩ : ∃ D, D = (lo * 2 ^ s) % 18446744073709551616 := ⟨_, rfl⟩
 have hA0 : 0 ≤ A := by rw [hA]; exact Int.mul_nonneg h0 (by omega)
 have hAV : A + 2 ^ s ≤ V := by
  rw [hA, hV]
  have := Int.mul_le_mul_of_nonneg_right (show hi + 1 ≤ y by omega) (Int.le_of_lt P)
  rw [Int.add_mul, Int.one_mul] at this
  exact this
 have hC0 : 0 ≤ C := by rw [hC]; exact Int.ediv_nonneg l0 (Int.le_of_lt P2)
 have hC1 : C < 2 ^ s := by rw [hC]; exact (Int.ediv_lt_iff_lt_mul P2).2 (by rw [PP]; exact l1)
 have hlo : lo * 2 ^ s = C * 18446744073709551616 + D := by
  have e1 : lo * 2 ^ s / 18446744073709551616 = C := by
   rw [← PP, Int.mul_comm (2 ^ s) (2 ^ (64 - s)), Int.mul_ediv_mul_of_pos_left _ _ P, hC]
  have := Int.mul_ediv_add_emod (lo * 2 ^ s) 18446744073709551616
  rw [e1, ← hD] at this
  omega
 have hD0 : 0 ≤ D ∧ D < 18446744073709551616 := by rw [hD]; omega
 have hN : (hi * 18446744073709551616 + lo) * 2 ^ s = (A + C) * 18446744073709551616 + D := by
  rw [Int.add_mul, hlo, hA, Int.mul_right_comm]; omega
 rw [← hV] at v0 v1
 have hu : A + C < V := by omega
 -- the two digits
 obtain ⟨q1, hq1⟩ : ∃ q, q = ((A + C) * 4294967296 + D / 4294967296) / V := ⟨_, rfl⟩
 obtain ⟨r1, hr1⟩ : ∃ r, r = ((A + C) * 4294967296 + D / 4294967296) % V := ⟨_, rfl⟩
 have d1 := Int.mul_ediv_add_emod ((A + C) * 4294967296 + D / 4294967296) V
 rw [← hq1, ← hr1] at d1
 have r10 : 0 ≤ r1 := by rw [hr1]; exact Int.emod_nonneg _ (by omega)
 have r11 : r1 < V := by rw [hr1]; exact Int.emod_lt_of_pos _ (by omega)
 obtain ⟨q0, hq0⟩ : ∃ q, q = (r1 * 4294967296 + D % 4294967296) / V := ⟨_, rfl⟩
 obtain ⟨r0, hr0⟩ : ∃ r, r = (r1 * 4294967296 + D % 4294967296) % V := ⟨_, rfl⟩
 have d0 := Int.mul_ediv_add_emod (r1 * 4294967296 + D % 4294967296) V
 rw [← hq0, ← hr0] at d0
 have r00 : 0 ≤ r0 := by rw [hr0]; exact Int.emod_nonneg _ (by omega)
 have r01 : r0 < V := by rw [hr0]; exact Int.emod_lt_of_pos _ (by omega)
 have q10 : 0 ≤ q1 := by rw [hq1]; exact Int.ediv_nonneg (by omega) (by omega)
 have q11 : q1 < 4294967296 := by rw [hq1]; exact (Int.ediv_lt_iff_lt_mul (by omega)).2 (by omega)
 have q00 : 0 ≤ q0 := by rw [hq0]; exact Int.ediv_nonneg (by omega) (by omega)
 have q01 : q0 < 4294967296 := by rw [hq0]; exact (Int.ediv_lt_iff_lt_mul (by omega)).2 (by omega)
 have hQ : (hi * 18446744073709551616 + lo) / y = q1 * 4294967296 + q0 := by
  have e : (hi * 18446744073709551616 + lo) / y = ((A + C) * 18446744073709551616 + D) / V := by
   rw [← hN, hV, Int.mul_ediv_mul_of_pos_left _ _ P]
  have e2 : (A + C) * 18446744073709551616 + D = r0 + (q1 * 4294967296 + q0) * V := by
   have e3 : (q1 * 4294967296 + q0) * V = V * q1 * 4294967296 + V * q0 := by rw [Int.add_mul, Int.mul_right_comm, Int.mul_comm q1 V, Int.mul_comm q0 V]
   omega
  rw [e, e2, Int.add_mul_ediv_right _ _ (by omega), Int.ediv_eq_zero_of_lt r00 r01]; omega
 have hvB : V / 4294967296 * 4294967296 + V % 4294967296 = V := by omega
 have hor : Go.bits .or .u64 A C = A + C := bits_join .u64 64 (by decide) (fun n a b => w64 a b) s A C hA0 (by rw [hA]; exact Int.mul_emod_left _ _) (by omega) hC0 hC1 (by omega)
 have hsw : IntKind.u64.wrap (s : Int) = s := w64 (by omega) (by omega)
 have hsw2 : IntKind.u64.wrap (64 - (s : Int)) = ((64 - s : Nat) : Int) := by rw [w64 (by omega) (by omega)]; omega
 refine ⟨r0 / 2 ^ s, Ev.congr (fun k => bits_Div64.f.eq_1 k hi lo y) (ev_neg (by omega) (ev_neg (by omega) (ev_neg hz (ev_bc (a := (s : Int)) ?_ ?_))))⟩
 · unfold bits_LeadingZeros64.f
   rw [if_pos (by omega), hs]
 rw [hsw, hsw2]
 refine ev_pos (by omega) (ev_pos (by omega) ?_)
 rw [shl_u64 y s (by omega), shl_u64 hi s (by omega), shr_u64 lo (64 - s) (by omega), shl_u64 lo s (by omega), ← hV, ← hA, ← hC, ← hD, Int.emod_eq_of_lt (a := V) (by omega) (by omega), Int.emod_eq_of_lt (a := A) (by omega) (by omega), hor,
  and_low32 V (by omega) (by omega), and_low32 D (by omega) (by omega), Int.tdiv_eq_ediv_of_nonneg (by omega)]
 refine ev_neg (by omega) ?_
 have g1 : 0 ≤ (A + C) / (V / 4294967296) := Int.ediv_nonneg (by omega) (by omega)
 have g2 : (A + C) / (V / 4294967296) ≤ A + C := Int.ediv_le_self _ (by omega)
 have g3 := Int.mul_ediv_add_emod (A + C) (V / 4294967296)
 have g4 : 0 ≤ (A + C) % (V / 4294967296) := Int.emod_nonneg _ (by omega)
 have g5 : (A + C) % (V / 4294967296) < V / 4294967296 := Int.emod_lt_of_pos _ (by omega)
 rw [Int.mul_comm] at g3
 have g6 : 0 ≤ (A + C) / (V / 4294967296) * (V / 4294967296) := Int.mul_nonneg g1 (by omega)
 rw [w64 g1 (by omega), w64 (x := (A + C) / (V / 4294967296) * (V / 4294967296)) (by omega) (by omega), w64 (x := A + C - (A + C) / (V / 4294967296) * (V / 4294967296)) (by omega) (by omega)]
 rw [hQ]
 obtain ⟨n1, hn1⟩ := Int.eq_ofNat_of_zero_le (show 0 ≤ (A + C) / (V / 4294967296) - ((A + C) * 4294967296 + D / 4294967296) / V by
  have := guess (v1 := V / 4294967296) (v0 := V % 4294967296) (u32 := A + C) (u1 := D / 4294967296) (by omega) (by omega) (by omega) hvB.symm rfl (by omega) (by omega)
  omega)
 refine digit (L := fun k q r => bits_Div64.l0 k V s (V / 4294967296) (V % 4294967296) (A + C) (D / 4294967296) (D % 4294967296) q r)
  (J := fun k q r b => bits_Div64.j1 k V s (V / 4294967296) (V % 4294967296) (A + C) (D / 4294967296) (D % 4294967296) q r b)
  (K := fun k q => bits_Div64.j2 k V s (V / 4294967296) (V % 4294967296) (A + C) (D / 4294967296) (D % 4294967296) q)
  (fun k q r => bits_Div64.l0.eq_2 V s _ _ _ _ _ q r k) (fun k q r b => bits_Div64.j1.eq_2 V s _ _ _ _ _ q r b k) (V := V) (by omega) (by omega) (by omega) (by omega) (by omega) (by omega) hvB.symm rfl (by omega) hu ?_ n1 _ _ hn1 (by omega) (by omega) (by omega) (by omega)
 rw [← hq1]
 refine Ev.step (fun k => bits_Div64.j2.eq_2 V s _ _ _ _ _ q1 k) (ev_neg (by omega) ?_)
 have hE : IntKind.u64.wrap ((IntKind.u64.wrap ((IntKind.u64.wrap ((A + C) * 4294967296)) + D / 4294967296)) - (IntKind.u64.wrap (q1 * V))) = r1 := by
  have : q1 * V = V * q1 := Int.mul_comm _ _
  simp only [IntKind.wrap_u64]
  generalize q1 * V = t at *
  omega
 rw [hE, Int.tdiv_eq_ediv_of_nonneg r10]
 have k1 : 0 ≤ r1 / (V / 4294967296) := Int.ediv_nonneg (by omega) (by omega)
 have k2 : r1 / (V / 4294967296) ≤ r1 := Int.ediv_le_self _ (by omega)
 have k3 := Int.mul_ediv_add_emod r1 (V / 4294967296)
 have k4 : 0 ≤ r1 % (V / 4294967296) := Int.emod_nonneg _ (by omega)
 have k5 : r1 % (V / 4294967296) < V / 4294967296 := Int.emod_lt_of_pos _ (by omega)
 rw [Int.mul_comm] at k3
 have k6 : 0 ≤ r1 / (V / 4294967296) * (V / 4294967296) := Int.mul_nonneg k1 (by omega)
 rw [w64 k1 (by omega), w64 (x := r1 / (V / 4294967296) * (V / 4294967296)) (by omega) (by omega), w64 (x := r1 - r1 / (V / 4294967296) * (V / 4294967296)) (by omega) (by omega)]
 obtain ⟨n0, hn0⟩ := Int.eq_ofNat_of_zero_le (show 0 ≤ r1 / (V / 4294967296) - (r1 * 4294967296 + D % 4294967296) / V by
  have := guess (v1 := V / 4294967296) (v0 := V % 4294967296) (u32 := r1) (u1 := D % 4294967296) (by omega) (by omega) (by omega) hvB.symm rfl (by omega) (by omega)
  omega)
 refine digit (L := fun k q r => bits_Div64.l1 k V s (V / 4294967296) (V % 4294967296) (D % 4294967296) q1 r r1 q)
  (J := fun k q r b => bits_Div64.j4 k V s (V / 4294967296) (V % 4294967296) (D % 4294967296) q1 r r1 q b)
  (K := fun k q => if 0 ≤ (s : Int) then (some (IntKind.u64.wrap ((IntKind.u64.wrap (q1 * 4294967296)) + q), shr .u64 (IntKind.u64.wrap ((IntKind.u64.wrap ((IntKind.u64.wrap (r1 * 4294967296)) + D % 4294967296)) - (IntKind.u64.wrap (q * V)))) s)) else none)
  (fun k q r => bits_Div64.l1.eq_2 V s _ _ _ q1 r r1 q k) (fun k q r b => bits_Div64.j4.eq_2 V s _ _ _ q1 r r1 q b k) (V := V) (by omega) (by omega) (by omega) (by omega) (by omega) (by omega) hvB.symm rfl (by omega) r11 ?_ n0 _ _ hn0 (by omega) (by omega) (by omega) (by omega)
 rw [← hq0]
 refine ev_pos (by omega) (ev_now ?_)
 have hE2 : IntKind.u64.wrap ((IntKind.u64.wrap ((IntKind.u64.wrap (r1 * 4294967296)) + D % 4294967296)) - (IntKind.u64.wrap (q0 * V))) = r0 := by
  have : q0 * V = V * q0 := Int.mul_comm _ _
  simp only [IntKind.wrap_u64]
  generalize q0 * V = t at *
  omega
 rw [hE2, shr_u64 r0 s (by omega), w64 (x := q1 * 4294967296) (by omega) (by omega), w64 (by omega) (by omega)]
theorem md_impl (a b c : Int) (ha1 : a ≤ 9223372036854775807) (hb1 : b ≤ 9223372036854775807) : Ev (fun k => impl_MulDiv.f k a b c) (mdAll a b c) := by
 have yes : (a < 0 ∨ b < 0 ∨ c < 1 ∨ c > 4611686018427387904) → Ev (fun k => impl_MulDiv.j0 k a b c true) (mdAll a b c) := fun h =>
  Ev.step (fun k => impl_MulDiv.j0.eq_2 a b c true k) (ev_pos rfl (ev_now (by unfold mdAll; rw [if_pos h])))
 refine Ev.congr (fun k => impl_MulDiv.f.eq_1 k a b c) (ev_ite (fun h => yes (by omega)) (fun h1 => ev_ite (fun h => yes (by omega)) (fun h2 => ev_ite (fun h => yes (by omega)) (fun h3 => ?_))))
 by_cases h4 : c > 4611686018427387904
 · rw [decide_eq_true h4]; exact yes (by omega)
 rw [decide_eq_false h4]
 have e : mdAll a b c = mdq a b c := by unfold mdAll; rw [if_neg (by omega)]
 rw [e]
 have hab : 0 ≤ a * b := Int.mul_nonneg (by omega) (by omega)
 have hab2 : a * b ≤ 9223372036854775807 * 9223372036854775807 := Int.mul_le_mul ha1 hb1 (by omega) (by omega)
 refine Ev.step (fun k => impl_MulDiv.j0.eq_2 a b c false k) (ev_neg (by simp) ?_)
 rw [w64 (x := a) (by omega) (by omega), w64 (x := b) (by omega) (by omega), w64 (x := c) (by omega) (by omega)]
 refine ev_bc (a := (a * b / 18446744073709551616, a * b % 18446744073709551616)) (by unfold bits_Mul64.f; rw [if_pos (by omega)]) ?_
 have hsum : a * b / 18446744073709551616 * 18446744073709551616 + a * b % 18446744073709551616 = a * b := by omega
 refine ev_ite (fun h => ev_now ?_) (fun h => ?_)
 · exact (mdq_zero (T := a * b) (Q := 18446744073709551616) (by omega) (Int.le_refl _) (by have h : c ≤ a * b / 18446744073709551616 := h; omega) (by omega)).symm
 obtain ⟨rem, hr⟩ := div64 (a * b / 18446744073709551616) (a * b % 18446744073709551616) c (by omega) (by omega) (by omega) (by omega) (by omega) (by omega)
 rw [hsum] at hr
 refine Ev.bind hr (ev_ite (fun h => ev_now ?_) (fun h => ev_now ?_))
 · unfold mdq; rw [if_pos h]
 · have : 0 ≤ a * b / c := Int.ediv_nonneg hab (by omega)
   show wrap64 (a * b / c) = _
   unfold mdq
   rw [if_neg h, wrap_in (by omega) (by simp at h; omega)]
/-! ### shares -/
def sm : List Int → Int
 | [] => 0
 | x :: t => x + sm t
def okW (ws : List Int) : Prop := ws.length ≤ 400 ∧ ∀ x ∈ ws, 0 ≤ x ∧ x ≤ 100000000000
theorem sm_bound : ∀ ws : List Int, (∀ x ∈ ws, 0 ≤ x ∧ x ≤ 100000000000) → 0 ≤ sm ws ∧ sm ws ≤ 100000000000 * (ws.length : Int)
 | [], _ => by simp [sm]
 | x :: t, h => by
  have h1 := h x (by simp)
  have h2 := sm_bound t (fun y hy => h y (by simp [hy]))
  simp only [sm, List.length_cons]
  omega
theorem sm_zero : ∀ ws : List Int, (∀ x ∈ ws, 0 ≤ x ∧ x ≤ 100000000000) → sm ws = 0 → ∀ x ∈ ws, x = 0
 | [], _, _ => by simp
 | x :: t, h, hs => by
  have h1 := h x (by simp)
  have h2 := sm_bound t (fun y hy => h y (by simp [hy]))
  simp only [sm] at hs
  intro y hy
  rcases List.mem_cons.1 hy with rfl | hy
  · omega
  · exact sm_zero t (fun y hy => h y (by simp [hy])) (by omega) y hy
theorem sm_drop (ws : List Int) (i : Nat) (h : i < ws.length) : sm (ws.drop i) = ws[i] + sm (ws.drop (i + 1)) := by
 rw [List.drop_eq_getElem_cons h]; rfl
/-- The shares, from a place on: t the total, n all weights together. -/
def spr (t n : Int) (even : Bool) : List Int → Int → List Int
 | [], _ => []
 | x :: xs, v => wrap64 (mdAll t (if even = true then v + 1 else v + x) n - mdAll t v n) :: spr t n even xs (if even = true then v + 1 else v + x)
def spread (t : Int) (ws : List Int) : List Int := if sm ws = 0 then spr t ws.length true ws 0 else spr t (sm ws) false ws 0
theorem spr_length (t n : Int) (even : Bool) : ∀ (ws : List Int) (v : Int), (spr t n even ws v).length = ws.length
 | [], _ => rfl
 | _ :: xs, _ => by simp [spr, spr_length t n even xs]
theorem spread_length (t : Int) (ws : List Int) : (spread t ws).length = ws.length := by
 unfold spread; split <;> exact spr_length _ _ _ _ _
theorem spr_drop (t n : Int) (even : Bool) (ws : List Int) (i : Nat) (h : i < ws.length) (v : Int) (acc : List Int) :
 acc ++ spr t n even (ws.drop i) v = (acc ++ [wrap64 (mdAll t (if even = true then v + 1 else v + ws[i]) n - mdAll t v n)]) ++ spr t n even (ws.drop (i + 1)) (if even = true then v + 1 else v + ws[i]) := by
 rw [List.drop_eq_getElem_cons h, List.append_assoc]; rfl
theorem spread_spec (t : Int) (ws : List Int) (ht : t ≤ 9223372036854775807) (hw : okW ws) : Ev (fun k => spec_l16Spread.f k t ws) (spread t ws) := by
 have hb := sm_bound ws hw.2
 have hl := hw.1
 refine Ev.congr (fun k => spec_l16Spread.f.eq_1 k t ws) ?_
 refine ev_loop (g := fun k s i => spec_l16Spread.l0 k t ws [] s i) ws.length (fun _ _ => spread t ws) (fun i s => s + sm (ws.drop i) = sm ws ∧ 0 ≤ s) ?_ ?_ 0 (Nat.zero_le _) 0 ⟨by simp, by omega⟩
 · rintro s ⟨h1, h2⟩
   rw [List.drop_of_length_le (Nat.le_refl _)] at h1
   obtain rfl : s = sm ws := by simpa [sm] using h1
   have fin : ∀ (n : Int) (even : Bool), n ≤ 9223372036854775807 → (even = true ↔ sm ws = 0) → spread t ws = spr t n even ws 0 → Ev (fun k => spec_l16Spread.j1 k t ws [] n even) (spread t ws) := by
    intro n even _ he hs
    rw [hs]
    refine Ev.step (fun k => spec_l16Spread.j1.eq_2 t ws [] n even k) ?_
    refine ev_loop (σ := List Int × Int) (g := fun k s i => spec_l16Spread.l1 k t ws s.1 n even s.2 i) ws.length (fun i s => s.1 ++ spr t n even (ws.drop i) s.2) (fun i s => s.1.length = i ∧ 0 ≤ s.2 ∧ (even = true → s.2 = i) ∧ (even = false → s.2 + sm (ws.drop i) = sm ws)) ?_ ?_ 0 (Nat.zero_le _) ([], 0) ⟨rfl, by simp, fun _ => rfl, fun _ => by simp⟩
    · rintro ⟨acc, v⟩ _
      refine Ev.step (fun k => spec_l16Spread.l1.eq_2 t ws acc n even v _ k) (ev_neg (by omega) (ev_now ?_))
      rw [List.drop_of_length_le (Nat.le_refl _)]; simp [spr]
    · rintro i ⟨acc, v⟩ hi ⟨g1, g2, g3, g4⟩ ih
      have g1 : acc.length = i := g1
      have g2 : 0 ≤ v := g2
      have g3 : even = true → v = i := g3
      have g4 : even = false → v + sm (ws.drop i) = sm ws := g4
      have hx := hw.2 ws[i] (List.getElem_mem hi)
      refine Ev.step (fun k => spec_l16Spread.l1.eq_2 t ws acc n even v i k) (ev_pos (by omega) (ev_pos (by omega) ?_))
      show Ev _ (acc ++ spr t n even (ws.drop i) v)
      rw [rd_nat ws i hi, wrap_succ (i := i) (by omega), spr_drop t n even ws i hi v acc]
      cases even with
      | true =>
       have h0 : ws[i] = 0 := sm_zero ws hw.2 (he.1 rfl) _ (List.getElem_mem hi)
       have hv := g3 rfl
       refine ev_pos rfl ?_
       rw [h0, Int.add_zero, wrap_in (i := v) (by omega) (by omega), wrap_in (i := v + 1) (by omega) (by omega)]
       simp only [if_true]
       refine Ev.bind (md_spec t _ n ht (by omega)) (Ev.bind (md_spec t _ n ht (by omega)) (ev_pos (by omega) ?_))
       exact ih (acc ++ [wrap64 (mdAll t (v + 1) n - mdAll t v n)], v + 1) ⟨by simp [g1], by show 0 ≤ v + 1; omega, fun _ => by show v + 1 = _; omega, fun h => by cases h⟩
      | false =>
       have hv := g4 rfl
       rw [sm_drop ws i hi] at hv
       have hd := sm_bound (ws.drop (i + 1)) (fun x hx => hw.2 x (List.mem_of_mem_drop hx))
       refine ev_neg (by simp) ?_
       rw [wrap_in (i := v + ws[i]) (by omega) (by omega)]
       simp only [Bool.false_eq_true, if_false]
       refine Ev.bind (md_spec t _ n ht (by omega)) (Ev.bind (md_spec t _ n ht (by omega)) (ev_pos (by omega) ?_))
       exact ih (acc ++ [wrap64 (mdAll t (v + ws[i]) n - mdAll t v n)], v + ws[i]) ⟨by simp [g1], by show 0 ≤ v + ws[i]; omega, fun h => (by cases h), fun _ => by show v + ws[i] + _ = _; omega⟩
   refine Ev.step (fun k => spec_l16Spread.l0.eq_2 t ws [] (sm ws) _ k) (ev_neg (by omega) (ev_ite (fun h => ?_) (fun h => ?_)))
   · rw [beq_iff_eq.mpr h]
     exact fin _ true (by omega) (by simp [h]) (by unfold spread; rw [if_pos h])
   · rw [beq_eq_false_iff_ne.mpr h]
     exact fin _ false (by omega) (by simp [h]) (by unfold spread; rw [if_neg h])
 · rintro i s hi ⟨h1, h2⟩ ih
   have hx := hw.2 ws[i] (List.getElem_mem hi)
   rw [sm_drop ws i hi] at h1
   have hd := sm_bound (ws.drop (i + 1)) (fun x hx => hw.2 x (List.mem_of_mem_drop hx))
   refine Ev.step (fun k => spec_l16Spread.l0.eq_2 t ws [] s i k) (ev_pos (by omega) (ev_pos (by omega) ?_))
   rw [rd_nat ws i hi, wrap_succ (i := i) (by omega), wrap_in (i := s + ws[i]) (by omega) (by omega)]
   exact ih _ ⟨by omega, by omega⟩
theorem spread_impl (t : Int) (ws : List Int) (ht : t ≤ 9223372036854775807) (hw : okW ws) : Ev (fun k => impl_spread.f k t ws) (spread t ws) := by
 have hb := sm_bound ws hw.2
 have hl := hw.1
 refine Ev.congr (fun k => impl_spread.f.eq_1 k t ws) ?_
 refine ev_loop (g := fun k s i => impl_spread.l0 k t ws s ws ws.length i) ws.length (fun _ _ => spread t ws) (fun i s => s + sm (ws.drop i) = sm ws ∧ 0 ≤ s) ?_ ?_ 0 (Nat.zero_le _) 0 ⟨by simp, by omega⟩
 · rintro s ⟨h1, h2⟩
   rw [List.drop_of_length_le (Nat.le_refl _)] at h1
   obtain rfl : s = sm ws := by simpa [sm] using h1
   refine Ev.step (fun k => impl_spread.l0.eq_2 t ws (sm ws) ws ws.length _ k) (ev_neg (by omega) ?_)
   by_cases hz : sm ws = 0
   · have hs : spread t ws = spr t ws.length true ws 0 := by unfold spread; rw [if_pos hz]
     rw [hs, hz]
     refine ev_loop (σ := List Int × Int) (g := fun k s i => impl_spread.l1 k t ws 0 s.1 s.2 ws ws.length i) ws.length (fun i s => s.1 ++ spr t ws.length true (ws.drop i) i) (fun i s => s.1.length = i ∧ s.2 = 0) ?_ ?_ 0 (Nat.zero_le _) ([], 0) ⟨rfl, rfl⟩
     · rintro ⟨acc, v⟩ _
       refine Ev.step (fun k => impl_spread.l1.eq_2 t ws 0 acc v ws ws.length _ k) (ev_neg (by omega) (ev_now ?_))
       rw [List.drop_of_length_le (Nat.le_refl _)]; simp [spr]
     · rintro i ⟨acc, v⟩ hi ⟨g1, g2⟩ ih
       have g1 : acc.length = i := g1
       obtain rfl : v = 0 := g2
       have h0 : ws[i] = 0 := sm_zero ws hw.2 hz _ (List.getElem_mem hi)
       refine Ev.step (fun k => impl_spread.l1.eq_2 t ws 0 acc 0 ws ws.length i k) (ev_pos (by omega) (ev_pos (by omega) (ev_pos (by omega) (ev_pos rfl ?_))))
       show Ev _ (acc ++ spr t ws.length true (ws.drop i) i)
       rw [rd_nat ws i hi, h0, wrap_succ (i := i) (by omega), spr_drop t ws.length true ws i hi i acc]
       simp only [if_true]
       refine Ev.step (fun k => impl_spread.j2.eq_2 t ws 0 acc 0 0 i _ ws ws.length i k) (ev_pos rfl ?_)
       refine Ev.bind (md_impl t _ _ ht (by omega)) (Ev.bind (md_impl t _ _ ht (by omega)) (ev_pos (by omega) ?_))
       rw [wrap_succ (i := i) (by omega)]
       exact ih (acc ++ [wrap64 (mdAll t ((i + 1 : Nat) : Int) ws.length - mdAll t i ws.length)], wrap64 (0 + 0)) ⟨by simp [g1], by show wrap64 (0 + 0) = 0; decide +kernel⟩
   · have hs : spread t ws = spr t (sm ws) false ws 0 := by unfold spread; rw [if_neg hz]
     rw [hs]
     refine ev_loop (σ := List Int × Int) (g := fun k s i => impl_spread.l1 k t ws (sm ws) s.1 s.2 ws ws.length i) ws.length (fun i s => s.1 ++ spr t (sm ws) false (ws.drop i) s.2) (fun i s => s.1.length = i ∧ 0 ≤ s.2 ∧ s.2 + sm (ws.drop i) = sm ws) ?_ ?_ 0 (Nat.zero_le _) ([], 0) ⟨rfl, by simp, by simp⟩
     · rintro ⟨acc, v⟩ _
       refine Ev.step (fun k => impl_spread.l1.eq_2 t ws (sm ws) acc v ws ws.length _ k) (ev_neg (by omega) (ev_now ?_))
       rw [List.drop_of_length_le (Nat.le_refl _)]; simp [spr]
     · rintro i ⟨acc, v⟩ hi ⟨g1, g2, g4⟩ ih
       have g1 : acc.length = i := g1
       have g2 : 0 ≤ v := g2
       have hv : v + sm (ws.drop i) = sm ws := g4
       have hx := hw.2 ws[i] (List.getElem_mem hi)
       rw [sm_drop ws i hi] at hv
       have hd := sm_bound (ws.drop (i + 1)) (fun x hx => hw.2 x (List.mem_of_mem_drop hx))
       refine Ev.step (fun k => impl_spread.l1.eq_2 t ws (sm ws) acc v ws ws.length i k) (ev_pos (by omega) (ev_pos (by omega) (ev_pos (by omega) (ev_neg hz ?_))))
       show Ev _ (acc ++ spr t (sm ws) false (ws.drop i) v)
       rw [rd_nat ws i hi, spr_drop t (sm ws) false ws i hi v acc, wrap_in (i := v + ws[i]) (by omega) (by omega)]
       simp only [Bool.false_eq_true, if_false]
       refine Ev.step (fun k => impl_spread.j2.eq_2 t ws (sm ws) acc v ws[i] v _ ws ws.length i k) (ev_neg hz ?_)
       refine Ev.bind (md_impl t _ _ ht (by omega)) (Ev.bind (md_impl t _ _ ht (by omega)) (ev_pos (by omega) ?_))
       rw [wrap_succ (i := i) (by omega), wrap_in (i := v + ws[i]) (by omega) (by omega)]
       exact ih (acc ++ [wrap64 (mdAll t (v + ws[i]) (sm ws) - mdAll t v (sm ws))], v + ws[i]) ⟨by simp [g1], by show 0 ≤ v + ws[i]; omega, by show v + ws[i] + _ = _; omega⟩
 · rintro i s hi ⟨h1, h2⟩ ih
   have hx := hw.2 ws[i] (List.getElem_mem hi)
   rw [sm_drop ws i hi] at h1
   have hd := sm_bound (ws.drop (i + 1)) (fun x hx => hw.2 x (List.mem_of_mem_drop hx))
   refine Ev.step (fun k => impl_spread.l0.eq_2 t ws s ws ws.length i k) (ev_pos (by omega) (ev_pos (by omega) (ev_pos (by omega) ?_)))
   rw [rd_nat ws i hi, wrap_succ (i := i) (by omega), wrap_in (i := s + ws[i]) (by omega) (by omega)]
   exact ih _ ⟨by omega, by omega⟩
theorem l12_in (a lo hi : Int) : spec_l12In.f a lo hi = some (decide (lo ≤ a ∧ a ≤ hi)) := by
 unfold spec_l12In.f
 split <;> simp <;> omega
def okx (x : Int) : Bool := decide (0 ≤ x ∧ x ≤ 100000000000)
def spreadAll (t : Int) (ws : List Int) : List Int := if ws.length ≤ 400 ∧ okx t = true ∧ ws.all okx = true then spread t ws else []
theorem okW_of {ws : List Int} (h : ws.length ≤ 400) (h2 : ws.all okx = true) : okW ws := ⟨h, fun x hx => by
 have := List.all_eq_true.1 h2 x hx
 simpa [okx] using this⟩
theorem all_drop (p : Int → Bool) (ws : List Int) (i : Nat) (h : i < ws.length) : (ws.drop i).all p = (p ws[i] && (ws.drop (i + 1)).all p) := by
 rw [List.drop_eq_getElem_cons h, List.all_cons]
theorem spreadAll_spec (t : Int) (ws : List Int) : Ev (fun k => spec_Spread.f k t ws) (spreadAll t ws) := by
 have no : ¬ (ws.length ≤ 400 ∧ okx t = true) → Ev (fun k => spec_Spread.j0 k t ws true) (spreadAll t ws) := fun h =>
  Ev.step (fun k => spec_Spread.j0.eq_2 t ws true k) (ev_pos rfl (ev_now (by unfold spreadAll; rw [if_neg (fun z => h ⟨z.1, z.2.1⟩)])))
 refine Ev.congr (fun k => spec_Spread.f.eq_1 k t ws) (ev_ite (fun h => no (by omega)) (fun h => ?_))
 have hl : ws.length ≤ 400 := by omega
 refine ev_bc (l12_in t _ _) ?_
 show Ev (fun k => spec_Spread.j0 k t ws (!okx t)) _
 by_cases ht : okx t = true
 · rw [ht]
   have ht' : 0 ≤ t ∧ t ≤ 100000000000 := by simpa [okx] using ht
   refine Ev.step (fun k => spec_Spread.j0.eq_2 t ws _ k) (ev_neg (by simp) ?_)
   by_cases c : ws.all okx = true
   · have e : spreadAll t ws = spread t ws := by unfold spreadAll; rw [if_pos ⟨hl, ht, c⟩]
     rw [e]
     have hw := okW_of hl c
     refine ev_count (g := fun k i => spec_Spread.l0 k t ws i) ws.length (fun _ => spread t ws) ?_ ?_ 0 (Nat.zero_le _)
     · exact Ev.step (fun k => spec_Spread.l0.eq_2 t ws _ k) (ev_neg (by omega) (Ev.bind (spread_spec t ws (by omega) hw) (ev_now rfl)))
     · intro i hi ih
       refine Ev.step (fun k => spec_Spread.l0.eq_2 t ws i k) (ev_pos (by omega) (ev_pos (by omega) ?_))
       rw [rd_nat ws i hi, wrap_succ (by omega)]
       refine ev_bc (l12_in _ _ _) (ev_pos ?_ ih)
       exact List.all_eq_true.1 c _ (List.getElem_mem hi)
   · have e : spreadAll t ws = [] := by unfold spreadAll; rw [if_neg (fun z => c z.2.2)]
     rw [e]
     refine ev_loop (σ := Unit) (g := fun k _ i => spec_Spread.l0 k t ws i) ws.length (fun _ _ => []) (fun i _ => (ws.drop i).all okx = false) ?_ ?_ 0 (Nat.zero_le _) () (by simpa using c)
     · intro _ h
       rw [List.drop_of_length_le (Nat.le_refl _)] at h; cases h
     · intro i _ hi hs ih
       refine Ev.step (fun k => spec_Spread.l0.eq_2 t ws i k) (ev_pos (by omega) (ev_pos (by omega) ?_))
       rw [rd_nat ws i hi, wrap_succ (by omega)]
       rw [all_drop okx ws i hi] at hs
       refine ev_bc (l12_in _ _ _) (ev_ite (fun h => ih () ?_) (fun _ => ev_now rfl))
       have h : okx ws[i] = true := h
       rw [h] at hs; exact hs
 · rw [Bool.eq_false_iff.mpr ht]; exact no (fun z => ht z.2)
theorem spreadAll_impl (t : Int) (ws : List Int) : Ev (fun k => impl_Spread.f k t ws) (spreadAll t ws) := by
 have no : ¬ (ws.length ≤ 400 ∧ okx t = true) → Ev (fun k => impl_Spread.j0 k t ws true) (spreadAll t ws) := fun h =>
  Ev.step (fun k => impl_Spread.j0.eq_2 t ws true k) (ev_pos rfl (ev_now (by unfold spreadAll; rw [if_neg (fun z => h ⟨z.1, z.2.1⟩)])))
 refine Ev.congr (fun k => impl_Spread.f.eq_1 k t ws) (ev_ite (fun h => no (by omega)) (fun h => ev_ite (fun h2 => no (by simp [okx]; omega)) (fun h2 => ?_)))
 have hl : ws.length ≤ 400 := by omega
 by_cases h3 : t > 100000000000
 · rw [decide_eq_true h3]; exact no (by simp [okx]; omega)
 rw [decide_eq_false h3]
 have ht : okx t = true := by simp [okx]; omega
 refine Ev.step (fun k => impl_Spread.j0.eq_2 t ws _ k) (ev_neg (by simp) ?_)
 by_cases c : ws.all okx = true
 · have e : spreadAll t ws = spread t ws := by unfold spreadAll; rw [if_pos ⟨hl, ht, c⟩]
   rw [e]
   have hw := okW_of hl c
   refine ev_count (g := fun k i => impl_Spread.l0 k t ws ws ws.length i) ws.length (fun _ => spread t ws) ?_ ?_ 0 (Nat.zero_le _)
   · exact Ev.step (fun k => impl_Spread.l0.eq_2 t ws ws ws.length _ k) (ev_neg (by omega) (Ev.bind (spread_impl t ws (by omega) hw) (ev_now rfl)))
   · intro i hi ih
     refine Ev.step (fun k => impl_Spread.l0.eq_2 t ws ws ws.length i k) (ev_pos (by omega) (ev_pos (by omega) (ev_pos (by omega) ?_)))
     have hx := hw.2 ws[i] (List.getElem_mem hi)
     rw [rd_nat ws i hi, wrap_succ (by omega)]
     exact ev_neg (by omega) (ev_neg (by omega) ih)
 · have e : spreadAll t ws = [] := by unfold spreadAll; rw [if_neg (fun z => c z.2.2)]
   rw [e]
   refine ev_loop (σ := Unit) (g := fun k _ i => impl_Spread.l0 k t ws ws ws.length i) ws.length (fun _ _ => []) (fun i _ => (ws.drop i).all okx = false) ?_ ?_ 0 (Nat.zero_le _) () (by simpa using c)
   · intro _ h
     rw [List.drop_of_length_le (Nat.le_refl _)] at h; cases h
   · intro i _ hi hs ih
     refine Ev.step (fun k => impl_Spread.l0.eq_2 t ws ws ws.length i k) (ev_pos (by omega) (ev_pos (by omega) (ev_pos (by omega) ?_)))
     rw [rd_nat ws i hi, wrap_succ (by omega)]
     rw [all_drop okx ws i hi] at hs
     refine ev_ite (fun _ => ev_now rfl) (fun h1 => ev_ite (fun _ => ev_now rfl) (fun h2 => ih () ?_))
     have h : okx ws[i] = true := by simp [okx]; omega
     rw [h] at hs; exact hs
/-! ### the rounds of both sides -/
theorem mdAll_bound {t b n : Int} (ht : 0 ≤ t) (ht1 : t ≤ 4611686018427387904) (hb : 0 ≤ b) (hn : b ≤ n) (hn0 : 1 ≤ n) (hn1 : n ≤ 4611686018427387904) : mdAll t b n = t * b / n ∧ 0 ≤ t * b / n ∧ t * b / n ≤ t := by
 have h1 : 0 ≤ t * b / n := Int.ediv_nonneg (Int.mul_nonneg ht hb) (by omega)
 have h2 : t * b / n ≤ t := Int.ediv_le_of_le_mul (by omega) (Int.mul_le_mul_of_nonneg_left hn ht)
 refine ⟨?_, h1, h2⟩
 unfold mdAll mdq
 rw [if_neg (by omega), if_neg (by omega)]
theorem mdAll_mono {t a b n : Int} (ht : 0 ≤ t) (hab : a ≤ b) (hn0 : 1 ≤ n) : t * a / n ≤ t * b / n := Int.ediv_le_ediv (by omega) (Int.mul_le_mul_of_nonneg_left hab ht)
theorem spr_bound (t n : Int) (even : Bool) (ht : 0 ≤ t) (ht1 : t ≤ 4611686018427387904) (hn0 : 1 ≤ n) (hn1 : n ≤ 4611686018427387904) : ∀ (ws : List Int) (v : Int), (∀ x ∈ ws, 0 ≤ x ∧ x ≤ 100000000000) → 0 ≤ v → (if even = true then v + ws.length else v + sm ws) ≤ n → ∀ y ∈ spr t n even ws v, 0 ≤ y ∧ y ≤ t
 | [], _, _, _, _ => fun y hy => (by cases hy)
 | x :: r, v, hw, hv, hs => by
  have hx := hw x (by simp)
  have hb := sm_bound r (fun y hy => hw y (by simp [hy]))
  obtain ⟨v', hv'⟩ : ∃ v', v' = (if even = true then v + 1 else v + x) := ⟨_, rfl⟩
  have h1 : v ≤ v' := by rw [hv']; split <;> omega
  have h2 : (if even = true then v' + r.length else v' + sm r) ≤ n := by
   rw [hv']
   cases even with
   | true => rw [if_pos rfl] at hs ⊢; rw [if_pos rfl]; rw [List.length_cons] at hs; push_cast at hs; omega
   | false => rw [if_neg (by decide)] at hs ⊢; rw [if_neg (by decide)]; simp only [sm] at hs; omega
  have h3 : v' ≤ n := by
   cases even with
   | true => rw [if_pos rfl] at h2; omega
   | false => rw [if_neg (by decide)] at h2; omega
  intro y hy
  unfold spr at hy
  rw [← hv'] at hy
  rcases List.mem_cons.1 hy with rfl | hy
  · have m1 := mdAll_bound ht ht1 (show 0 ≤ v' by omega) h3 hn0 hn1
    have m2 := mdAll_bound ht ht1 hv (show v ≤ n by omega) hn0 hn1
    have m3 := mdAll_mono ht h1 hn0
    rw [m1.1, m2.1, wrap_in (by omega) (by omega)]
    omega
  · exact spr_bound t n even ht ht1 hn0 hn1 r v' (fun y hy => hw y (by simp [hy])) (by omega) h2 y hy
theorem spread_bound {t : Int} {ws : List Int} (ht : 0 ≤ t) (ht1 : t ≤ 4611686018427387904) (hw : okW ws) : ∀ y ∈ spread t ws, 0 ≤ y ∧ y ≤ t := by
 have hb := sm_bound ws hw.2
 have hl := hw.1
 intro y hy
 unfold spread at hy
 by_cases hz : ws = []
 · subst hz
   simp [sm, spr] at hy
 · have hlp : 0 < ws.length := List.length_pos_iff.2 hz
   by_cases h : sm ws = 0
   · rw [if_pos h] at hy
     exact spr_bound t _ true ht ht1 (by omega) (by omega) ws 0 hw.2 (by omega) (by rw [if_pos rfl]; omega) y hy
   · rw [if_neg h] at hy
     exact spr_bound t _ false ht ht1 (by omega) (by omega) ws 0 hw.2 (by omega) (by rw [if_neg (by decide)]; omega) y hy
theorem ev_all {α β : Type} {f : Nat → α → Option β} {g : α → β} : ∀ xs : List α, (∀ x ∈ xs, Ev (fun k => f k x) (g x)) → ∃ K, ∀ k, K ≤ k → ∀ x ∈ xs, f k x = some (g x)
 | [], _ => ⟨0, fun _ _ x hx => (by cases hx)⟩
 | x :: r, h => by
  obtain ⟨K1, h1⟩ := h x (by simp)
  obtain ⟨K2, h2⟩ := ev_all r (fun y hy => h y (by simp [hy]))
  refine ⟨max K1 K2, fun k hk y hy => ?_⟩
  rcases List.mem_cons.1 hy with rfl | hy
  · exact h1 k (by omega)
  · exact h2 k (by omega) y hy
def okI (i : S66) : Prop := (0 ≤ i.f0 ∧ i.f0 ≤ 100000000) ∧ (0 ≤ i.f3 ∧ i.f3 ≤ 100000000) ∧ (-1 ≤ i.f4 ∧ i.f4 ≤ 100000000)
def okX (x : Fx) : Prop := okI x.i ∧ (0 ≤ x.f ∧ x.f ≤ 1000000) ∧ (0 ≤ x.t ∧ x.t ≤ 200000000)
theorem fit_bound {i : S66} {v : Int} (hi : okI i) (h0 : 0 ≤ v) (h1 : v ≤ 200000000) : 0 ≤ fitI i v ∧ fitI i v ≤ 200000000 := by
 obtain ⟨_, h3, h4⟩ := hi
 unfold fitI mx mn
 repeat' split
 all_goals omega
def wP (gr : Bool) (x : Fx) : Int := if gr = true then x.f else mdAll x.i.f0 x.f 1000
theorem wP_bound {gr : Bool} {x : Fx} (h : okX x) : 0 ≤ wP gr x ∧ wP gr x ≤ 100000000000 := by
 obtain ⟨⟨h0, _, _⟩, h1, _⟩ := h
 unfold wP
 split
 · omega
 · have e1 : 0 ≤ x.i.f0 * x.f := Int.mul_nonneg h0.1 h1.1
   have e2 : x.i.f0 * x.f ≤ 100000000 * 1000000 := Int.mul_le_mul h0.2 h1.2 h1.1 (by decide)
   have e3 : 0 ≤ x.i.f0 * x.f / 1000 := Int.ediv_nonneg e1 (by decide)
   have e4 : x.i.f0 * x.f / 1000 ≤ 100000000000 := Int.ediv_le_of_le_mul (by decide) (by omega)
   unfold mdAll mdq
   rw [if_neg (by omega), if_neg (by omega)]
   omega
def shP (gr : Bool) (r : Int) (os : List Fx) : List Int := if goF gr r = true then spread (absI r) (os.map (wP gr)) else List.replicate os.length 0
def roundP (gr : Bool) (first room : Int) (xs : List Fx) : List Fx := roundX gr xs (shP gr (restX first room xs) (opX xs))
theorem opX_len (xs : List Fx) : (opX xs).length ≤ xs.length := List.length_filter_le _ _
theorem okW_wP {gr : Bool} {xs : List Fx} (hx : ∀ x ∈ xs, okX x) (hl : xs.length ≤ 400) : okW ((opX xs).map (wP gr)) := by
 refine ⟨by rw [List.length_map]; exact Nat.le_trans (opX_len xs) hl, fun w hw => ?_⟩
 obtain ⟨x, h, rfl⟩ := List.mem_map.1 hw
 exact wP_bound (hx x (opX_mem h))
/-! the numbers stay small -/
theorem left_bound : ∀ (xs : List Fx) (a : Int), (∀ x ∈ xs, okX x) → xs.length ≤ 400 → -100000000000 ≤ a - 200000000 * xs.length → a ≤ 100000000 → a - 200000000 * xs.length ≤ leftF xs a ∧ leftF xs a ≤ a
 | [], a, _, _, _, _ => by simp [leftF]
 | x :: r, a, hx, hl, h0, h1 => by
  have h := hx x (by simp)
  obtain ⟨⟨h2, _, _⟩, _, h3⟩ := h
  rw [List.length_cons] at hl h0 ⊢
  push_cast at h0 ⊢
  obtain ⟨d, hd⟩ : ∃ d, d = (if x.fx = true then x.t else x.i.f0) := ⟨_, rfl⟩
  have hdb : 0 ≤ d ∧ d ≤ 200000000 := by rw [hd]; split <;> omega
  have e : leftF (x :: r) a = leftF r (a - d) := by
   unfold leftF
   rw [List.foldl_cons, ← hd, wrap_in (by omega) (by omega)]
  rw [e]
  have ih := left_bound r (a - d) (fun y hy => hx y (by simp [hy])) (by omega) (by omega) (by omega)
  omega
theorem fac_bound : ∀ (xs : List Fx) (a : Int), (∀ x ∈ xs, okX x) → 0 ≤ a → xs.length ≤ 400 → a + 1000000 * xs.length ≤ 1000000000 → a ≤ xs.foldl (fun r x => wrap64 (r + x.f)) a ∧ xs.foldl (fun r x => wrap64 (r + x.f)) a ≤ 1000000000
 | [], a, _, _, _, h => by simp at h ⊢; omega
 | x :: r, a, hx, h0, hl, h1 => by
  obtain ⟨_, h3, _⟩ := hx x (by simp)
  rw [List.length_cons] at hl h1
  push_cast at h1
  rw [List.foldl_cons, wrap_in (by omega) (by omega)]
  have ih := fac_bound r (a + x.f) (fun y hy => hx y (by simp [hy])) (by omega) (by omega) (by omega)
  omega
theorem abs_eq {v : Int} (h0 : -1000000000000 ≤ v) (h1 : v ≤ 1000000000000) : absI v = (v.natAbs : Int) := by
 unfold absI
 split
 · rw [wrap_in (by omega) (by omega)]; omega
 · omega
theorem rest_bound {first room : Int} {xs : List Fx} (hx : ∀ x ∈ xs, okX x) (hl : xs.length ≤ 400) (hr : 0 ≤ room ∧ room ≤ 100000000) (hf : -100000000000 ≤ first ∧ first ≤ 100000000) : -100000000000 ≤ restX first room xs ∧ restX first room xs ≤ 100000000 := by
 have h1 := left_bound xs room hx hl (by omega) hr.2
 have hol := opX_len xs
 have h2 := fac_bound (opX xs) 0 (fun x h => hx x (opX_mem h)) (by omega) (by omega) (by omega)
 unfold restX restF
 obtain ⟨fc, hfc⟩ : ∃ fc, fc = facX (opX xs) := ⟨_, rfl⟩
 have h3 : 0 ≤ fc ∧ fc ≤ 1000000000 := by rw [hfc]; exact h2
 rw [← hfc]
 split
 · rename_i hc
   simp only [Bool.and_eq_true, decide_eq_true_eq] at hc
   have hfb : fc ≤ 999 := by omega
   have e1 : -100000000000 * 999 ≤ first * fc := by
    have := Int.mul_le_mul_of_nonneg_right hf.1 h3.1
    have h4 : (100000000000 : Int) * fc ≤ 100000000000 * 999 := Int.mul_le_mul_of_nonneg_left hfb (by decide)
    rw [Int.neg_mul] at this
    omega
   have e2 : first * fc ≤ 100000000 * 999 := by
    have := Int.mul_le_mul_of_nonneg_right hf.2 h3.1
    have h4 : (100000000 : Int) * fc ≤ 100000000 * 999 := Int.mul_le_mul_of_nonneg_left hfb (by decide)
    omega
   unfold partF
   rw [show wrap64 (first * fc) = first * fc from wrap_in (by omega) (by omega)]
   have e3 : -100000000000 ≤ Int.tdiv (first * fc) 1000 ∧ Int.tdiv (first * fc) 1000 ≤ 100000000 := by
    rw [Int.tdiv_eq_ediv, show Int.sign 1000 = 1 from rfl]
    split <;> omega
   rw [wrap_in (by omega) (by omega)]
   exact e3
 · omega
theorem s2_bound {gr : Bool} {x : Fx} {r sh : Int} (hx : okX x) (hr : -100000000000 ≤ r ∧ r ≤ 100000000) (hs : 0 ≤ sh) (hs1 : goF gr r = true → sh ≤ absI r) (hs0 : goF gr r = false → sh = 0) : 0 ≤ (s2 gr x sh).s ∧ (s2 gr x sh).s ≤ 200000000 := by
 obtain ⟨⟨h0, _, _⟩, _, _⟩ := hx
 rw [abs_eq (by omega) (by omega)] at hs1
 unfold s2
 dsimp only
 cases gr with
 | true =>
  rw [if_pos rfl]
  have hb : sh ≤ 100000000 := by
   cases hg : goF true r with
   | true =>
    have := hs1 hg
    unfold goF at hg
    rw [if_pos rfl] at hg
    have := of_decide_eq_true hg
    omega
   | false => rw [hs0 hg]; decide
  rw [wrap_in (by omega) (by omega)]
  omega
 | false =>
  rw [if_neg (by decide)]
  have hb : sh ≤ 100000000000 := by
   cases hg : goF false r with
   | true => have := hs1 hg; omega
   | false => rw [hs0 hg]; decide
  rw [wrap_in (by omega) (by omega)]
  unfold mx
  split <;> omega
theorem shP_len (gr : Bool) (r : Int) (os : List Fx) : (shP gr r os).length = os.length := by
 unfold shP
 split
 · rw [spread_length, List.length_map]
 · rw [List.length_replicate]
theorem shP_bound {gr : Bool} {r : Int} {os : List Fx} (hw : okW (os.map (wP gr))) (hr : -100000000000 ≤ r ∧ r ≤ 100000000) : ∀ y ∈ shP gr r os, 0 ≤ y ∧ (goF gr r = true → y ≤ absI r) ∧ (goF gr r = false → y = 0) := by
 intro y hy
 unfold shP at hy
 cases hg : goF gr r with
 | true =>
  rw [hg, if_pos rfl] at hy
  have hab := abs_eq (v := r) (by omega) (by omega)
  have h := spread_bound (t := absI r) (by omega) (by omega) hw y hy
  exact ⟨h.1, fun _ => h.2, fun h => (by cases h)⟩
 | false =>
  rw [hg, if_neg (by decide)] at hy
  have := List.eq_of_mem_replicate hy
  exact ⟨by omega, fun h => (by cases h), fun _ => this⟩
/-! a round of the program, and what it leaves -/
theorem impl_round {gr : Bool} {first room : Int} {xs : List Fx} (hx : ∀ x ∈ xs, okX x) (hl : xs.length ≤ 400) (hr : -100000000000 ≤ restX first room xs ∧ restX first room xs ≤ 100000000) : Ev (fun k => roundO k gr first room xs) (roundP gr first room xs) := by
 obtain ⟨K1, h1⟩ := ev_all (f := fun k (x : Fx) => impl_MulDiv.f k x.i.f0 x.f 1000) (g := fun x => mdAll x.i.f0 x.f 1000) xs (fun x h => md_impl _ _ _ (by have := (hx x h).1.1; omega) (by have := (hx x h).2.1; omega))
 have hab := abs_eq (v := restX first room xs) (by omega) (by omega)
 obtain ⟨K2, h2⟩ := spread_impl (absI (restX first room xs)) ((opX xs).map (wP gr)) (by omega) (okW_wP hx hl)
 refine ⟨max K1 K2, fun k hk => ?_⟩
 have h3 := h1 k (by omega)
 have h4 := h2 k (by omega)
 have hm : mOkB k gr xs = true := by
  unfold mOkB
  rw [Bool.or_eq_true, List.all_eq_true]
  exact .inr fun x h => by rw [h3 x h]; rfl
 have hw : (opX xs).map (mW k gr) = (opX xs).map (wP gr) := List.map_congr_left fun x h => by
  unfold mW wP
  rw [h3 x (opX_mem h)]
  rfl
 show roundO k gr first room xs = _
 unfold roundO roundP shP
 rw [if_pos hm, hw]
 by_cases hg : goF gr (restX first room xs) = true
 · rw [if_pos hg, if_pos hg]
   have h4 : impl_spread.f k (absI (restX first room xs)) ((opX xs).map (wP gr)) = some (spread (absI (restX first room xs)) ((opX xs).map (wP gr))) := h4
   rw [h4]
   dsimp only
   rw [if_pos (by rw [spread_length, List.length_map])]
 · rw [if_neg hg, if_neg hg]
/-! ### the reference's state as a list of items -/
def toS (ys : List Fx) (gr : Bool) (room first : Int) : Sx := ⟨ys.map (·.i), ys.map (·.t), ys.map (·.fx), ys.map (·.f), gr, room, first⟩
def frO : Nat → List Fx → List Nat
 | _, [] => []
 | o, y :: r => if y.fx = true then frO (o + 1) r else o :: frO (o + 1) r
theorem range_filter (fixed : List Bool) : ∀ (ys : List Fx) (o : Nat), (∀ j, j < ys.length → fixed.getD (o + j) false = (ys.getD j zFx).fx) → (List.range' o ys.length).filter (fun i => !(fixed.getD i false)) = frO o ys
 | [], _, _ => rfl
 | y :: r, o, h => by
  have h0 := h 0 (by simp)
  have ih := range_filter fixed r (o + 1) (fun j hj => by have := h (j + 1) (by simp; omega); rw [show o + (j + 1) = o + 1 + j by omega] at this; exact this)
  rw [List.length_cons, List.range'_succ, List.filter_cons]
  rw [Nat.add_zero] at h0
  rw [h0]
  unfold frO
  show (if (!y.fx) = true then _ else _) = _
  cases y.fx
  · rw [if_pos (show (!false) = true from rfl), if_neg (show ¬ (false = true) by decide), ih]
  · rw [if_neg (show ¬ ((!true) = true) by decide), if_pos rfl, ih]
theorem map_getD {α β : Type} (f : α → β) (l : List α) (i : Nat) (d : α) (e : β) (h : i < l.length) : (l.map f).getD i e = f (l.getD i d) := by
 rw [List.getD_eq_getElem?_getD, List.getElem?_map, List.getD_eq_getElem?_getD, List.getElem?_eq_getElem h]
 rfl
theorem fr_toS (ys : List Fx) (gr : Bool) (room first : Int) : frN (toS ys gr room first).fixed (toS ys gr room first).items.length = frO 0 ys := by
 unfold frN
 show (List.range (ys.map (·.i)).length).filter (fun i => !((ys.map (·.fx)).getD i false)) = _
 rw [List.length_map, List.range_eq_range']
 exact range_filter _ ys 0 (fun j hj => by rw [Nat.zero_add]; exact map_getD _ ys j zFx false hj)
theorem frO_map {β : Type} (g : Nat → β) (f : Fx → β) : ∀ (ys : List Fx) (o : Nat), (∀ j, j < ys.length → g (o + j) = f (ys.getD j zFx)) → (frO o ys).map g = (opX ys).map f
 | [], _, _ => rfl
 | y :: r, o, h => by
  have h0 := h 0 (by simp)
  rw [Nat.add_zero] at h0
  have ih := frO_map g f r (o + 1) (fun j hj => by have := h (j + 1) (by simp; omega); rw [show o + (j + 1) = o + 1 + j by omega] at this; exact this)
  unfold frO opX
  rw [List.filter_cons]
  cases hf : y.fx with
  | true => rw [if_pos rfl, if_neg (by decide), ih]; rfl
  | false =>
   rw [if_neg (by decide), if_pos (by rfl), List.map_cons, List.map_cons, ih, h0]
   rfl
theorem frO_len (ys : List Fx) (o : Nat) : (frO o ys).length = (opX ys).length := by
 have := congrArg List.length (frO_map (fun _ => ()) (fun _ => ()) ys o (fun _ _ => rfl))
 rwa [List.length_map, List.length_map] at this
theorem fac_toS (ys : List Fx) (gr : Bool) (room first : Int) : facS (toS ys gr room first) (frO 0 ys) = facX (opX ys) := by
 unfold facS facX
 have h := frO_map (fun i => (ys.map (·.f)).getD i 0) (fun x => x.f) ys 0 (fun j hj => by rw [Nat.zero_add]; exact map_getD _ ys j zFx 0 hj)
 have e1 : (frO 0 ys).foldl (fun a i => wrap64 (a + (toS ys gr room first).factor.getD i 0)) 0 = ((frO 0 ys).map (fun i => (ys.map (·.f)).getD i 0)).foldl (fun a v => wrap64 (a + v)) 0 := by rw [List.foldl_map]; rfl
 rw [e1, h, List.foldl_map]
theorem left_toS (ys : List Fx) (gr : Bool) (room first : Int) : leftN (toS ys gr room first) (toS ys gr room first).items.length = leftF ys room := by
 unfold leftN leftF leftStep
 show (List.range (ys.map (·.i)).length).foldl _ room = _
 rw [List.length_map]
 have key : ∀ (zs : List Fx) (o : Nat) (a : Int), (∀ j, j < zs.length → ys.getD (o + j) zFx = zs.getD j zFx ∧ o + j < ys.length) → (List.range' o zs.length).foldl (fun r i => wrap64 (r - (if (ys.map (·.fx)).getD i false = true then (ys.map (·.t)).getD i 0 else ((ys.map (·.i)).getD i z66).f0))) a = zs.foldl (fun r x => wrap64 (r - (if x.fx = true then x.t else x.i.f0))) a := by
  intro zs
  induction zs with
  | nil => intro o a _; rfl
  | cons z r ih =>
   intro o a h
   have h0 := h 0 (by simp)
   rw [Nat.add_zero] at h0
   have h1 : ys.getD o zFx = z := h0.1
   rw [List.length_cons, List.range'_succ, List.foldl_cons, List.foldl_cons, map_getD (·.fx) ys o zFx false h0.2, map_getD (·.t) ys o zFx 0 h0.2, map_getD (·.i) ys o zFx z66 h0.2, h1]
   exact ih (o + 1) _ (fun j hj => by have := h (j + 1) (by simp; omega); rw [show o + (j + 1) = o + 1 + j by omega] at this; exact this)
 rw [List.range_eq_range']
 exact key ys 0 room (fun j hj => by rw [Nat.zero_add]; exact ⟨rfl, hj⟩)
/-! ### both rounds as one merge -/
def mergeG (Hn : Fx → Int → Fx) : List Fx → List Int → List Fx
 | [], _ => []
 | y :: r, [] => y :: mergeG Hn r []
 | y :: r, v :: m => if y.fx = true then y :: mergeG Hn r (v :: m) else Hn y v :: mergeG Hn r m
theorem opX_cons_fx {y : Fx} {r : List Fx} (h : y.fx = true) : opX (y :: r) = opX r := by unfold opX; rw [List.filter_cons, h]; rfl
theorem opX_cons_op {y : Fx} {r : List Fx} (h : y.fx = false) : opX (y :: r) = y :: opX r := by unfold opX; rw [List.filter_cons, h]; rfl
theorem mergeG_fx {Hn : Fx → Int → Fx} {y : Fx} {r : List Fx} {vs : List Int} (h : y.fx = true) : mergeG Hn (y :: r) vs = y :: mergeG Hn r vs := by
 cases vs with
 | nil => rw [mergeG]
 | cons v m => rw [mergeG, if_pos h]
theorem mergeG_op {Hn : Fx → Int → Fx} {y : Fx} {r : List Fx} {v : Int} {m : List Int} (h : y.fx = false) : mergeG Hn (y :: r) (v :: m) = Hn y v :: mergeG Hn r m := by rw [mergeG, if_neg (by rw [h]; decide)]
theorem mergeF_fx {y : Fx} {r zs : List Fx} (h : y.fx = true) : mergeF (y :: r) zs = y :: mergeF r zs := by
 rw [mergeF.eq_def]
 dsimp only
 rw [if_pos h]
theorem mergeF_op {y z : Fx} {r m : List Fx} (h : y.fx = false) : mergeF (y :: r) (z :: m) = z :: mergeF r m := by
 rw [mergeF.eq_def]
 dsimp only
 rw [if_neg (by rw [h]; decide)]
theorem merge_zip (Hn : Fx → Int → Fx) : ∀ (ys : List Fx) (vs : List Int), vs.length = (opX ys).length → mergeF ys (((opX ys).zip vs).map (fun p => Hn p.1 p.2)) = mergeG Hn ys vs
 | [], _, _ => rfl
 | y :: r, vs, h => by
  cases hf : y.fx with
  | true =>
   rw [opX_cons_fx hf] at h ⊢
   rw [mergeG_fx hf, mergeF_fx hf, merge_zip Hn r vs h]
  | false =>
   rw [opX_cons_op hf] at h ⊢
   cases vs with
   | nil => simp at h
   | cons v m =>
    rw [mergeG_op hf, List.zip_cons_cons, List.map_cons, mergeF_op hf, merge_zip Hn r m (by simpa using h)]
theorem fold_merge {β : Type} (f : Fx → β) (Hn : Fx → Int → Fx) (st : List β → Nat × Int → List β) (all : List Fx) (hst : ∀ (pre : List β) y rest v, all.getD pre.length zFx = y → pre.length < all.length → y.fx = false → st (pre ++ f y :: rest) (pre.length, v) = pre ++ f (Hn y v) :: rest) : ∀ (ys : List Fx) (vs : List Int) (pre : List β), vs.length = (opX ys).length → (∀ j, j < ys.length → all.getD (pre.length + j) zFx = ys.getD j zFx ∧ pre.length + j < all.length) → ((frO pre.length ys).zip vs).foldl st (pre ++ ys.map f) = pre ++ (mergeG Hn ys vs).map f
 | [], _, pre, _, _ => by simp [frO, mergeG]
 | y :: r, vs, pre, h, ha => by
  have h0 := ha 0 (by simp)
  rw [Nat.add_zero] at h0
  have step := fold_merge f Hn st all hst r
  have hnext : ∀ x : β, ∀ j, j < r.length → all.getD ((pre ++ [x]).length + j) zFx = r.getD j zFx ∧ (pre ++ [x]).length + j < all.length := by
   intro x j hj
   have := ha (j + 1) (by simp; omega)
   rw [List.length_append, List.length_singleton, show pre.length + 1 + j = pre.length + (j + 1) by omega]
   exact this
  unfold frO
  cases hf : y.fx with
  | true =>
   rw [opX_cons_fx hf] at h
   rw [if_pos rfl, mergeG_fx hf]
   have := step vs (pre ++ [f y]) h (hnext _)
   rw [List.length_append, List.length_singleton, List.append_assoc, List.append_assoc] at this
   exact this
  | false =>
   rw [opX_cons_op hf] at h
   rw [if_neg (by decide)]
   cases vs with
   | nil => simp at h
   | cons v m =>
    rw [mergeG_op hf, List.zip_cons_cons, List.foldl_cons, List.map_cons, hst pre y (r.map f) v h0.1 h0.2 hf]
    have := step m (pre ++ [f (Hn y v)]) (by simpa using h) (hnext _)
    rw [List.length_append, List.length_singleton, List.append_assoc, List.append_assoc] at this
    exact this
theorem frO_zip {β : Type} (g : Nat × Int → β) (G : Fx → Int → β) : ∀ (ys : List Fx) (o : Nat) (vs : List Int), (∀ j v, j < ys.length → g (o + j, v) = G (ys.getD j zFx) v) → ((frO o ys).zip vs).map g = ((opX ys).zip vs).map (fun p => G p.1 p.2)
 | [], _, _, _ => by simp [frO, opX]
 | y :: r, o, vs, h => by
  have hn : ∀ j v, j < r.length → g (o + 1 + j, v) = G (r.getD j zFx) v := fun j v hj => by
   have := h (j + 1) v (by simp; omega)
   rw [show o + (j + 1) = o + 1 + j by omega] at this
   exact this
  unfold frO
  cases hf : y.fx with
  | true => rw [if_pos rfl, opX_cons_fx hf]; exact frO_zip g G r (o + 1) vs hn
  | false =>
   rw [if_neg (by decide), opX_cons_op hf]
   cases vs with
   | nil => simp
   | cons v m =>
    rw [List.zip_cons_cons, List.zip_cons_cons, List.map_cons, List.map_cons, frO_zip g G r (o + 1) m hn]
    have := h 0 v (by simp)
    rw [Nat.add_zero] at this
    rw [this]
    rfl
/-- What the reference makes of an open item. -/
def qn (gr : Bool) (r : Int) (y : Fx) (sh : Int) : Int := nS gr r y.i.f0 sh
def qd (gr : Bool) (r : Int) (y : Fx) (sh : Int) : Int := wrap64 (fitI y.i (qn gr r y sh) - qn gr r y sh)
def qH (gr : Bool) (r tot : Int) (y : Fx) (sh : Int) : Fx := ⟨y.i, fitI y.i (qn gr r y sh), y.f, hitS tot (qd gr r y sh), y.s⟩
def sumW (ds : List Int) : Int := ds.foldl (fun v d => wrap64 (v + d)) 0
def roundQ (gr : Bool) (r : Int) (ys : List Fx) (shs : List Int) : List Fx := mergeG (qH gr r (sumW (((opX ys).zip shs).map (fun p => qd gr r p.1 p.2)))) ys shs
theorem round_toS (ys : List Fx) (gr : Bool) (room first : Int) (shs : List Int) (hl : shs.length = (opX ys).length) : roundSX (toS ys gr room first) shs = toS (roundQ gr (rstS (toS ys gr room first)) ys shs) gr room first := by
 unfold roundSX
 dsimp only
 rw [fr_toS]
 obtain ⟨r, hr⟩ : ∃ r, r = rstS (toS ys gr room first) := ⟨_, rfl⟩
 rw [← hr]
 have hpF : ∀ j v, j < ys.length → pF (toS ys gr room first) r (j, v) = fitI (ys.getD j zFx).i (qn gr r (ys.getD j zFx) v) := by
  intro j v hj
  unfold pF qn
  show fitI ((ys.map (·.i)).getD j z66) (nS gr r ((ys.map (·.i)).getD j z66).f0 v) = _
  rw [map_getD (·.i) ys j zFx z66 hj]
 have hpD : ∀ j v, j < ys.length → pD (toS ys gr room first) r (j, v) = qd gr r (ys.getD j zFx) v := by
  intro j v hj
  have h1 := hpF j v hj
  unfold pD qd
  rw [h1]
  unfold qn
  show wrap64 (_ - nS gr r ((ys.map (·.i)).getD j z66).f0 v) = _
  rw [map_getD (·.i) ys j zFx z66 hj]
 have htot : totS (toS ys gr room first) r ((frO 0 ys).zip shs) = sumW (((opX ys).zip shs).map (fun p => qd gr r p.1 p.2)) := by
  rw [← frO_zip (fun p => pD (toS ys gr room first) r p) (qd gr r) ys 0 shs (fun j v hj => by rw [Nat.zero_add]; exact hpD j v hj)]
  unfold totS sumW
  rw [List.foldl_map]
 have hall : ∀ j, j < ys.length → ys.getD (([] : List Int).length + j) zFx = ys.getD j zFx ∧ ([] : List Int).length + j < ys.length := fun j hj => by simp; exact hj
 have hallb : ∀ j, j < ys.length → ys.getD (([] : List Bool).length + j) zFx = ys.getD j zFx ∧ ([] : List Bool).length + j < ys.length := fun j hj => by simp; exact hj
 rw [htot]
 obtain ⟨tot, ht⟩ : ∃ t, t = sumW (((opX ys).zip shs).map (fun p => qd gr r p.1 p.2)) := ⟨_, rfl⟩
 unfold roundQ
 rw [← ht]
 have hsz : szS (toS ys gr room first) r ((frO 0 ys).zip shs) = (mergeG (qH gr r tot) ys shs).map (·.t) := by
  have := fold_merge (fun x => x.t) (qH gr r tot) (fun l p => l.set p.1 (pF (toS ys gr room first) r p)) ys (fun pre y rest v hy hlt hf => by
   rw [List.set_append_right _ _ (Nat.le_refl _), Nat.sub_self, List.set_cons_zero, hpF _ v hlt, hy]
   rfl) ys shs [] hl hall
  exact this
 have hfx : fxS (toS ys gr room first) r tot ((frO 0 ys).zip shs) = (mergeG (qH gr r tot) ys shs).map (·.fx) := by
  have := fold_merge (fun x => x.fx) (qH gr r tot) (fun l p => if hitS tot (pD (toS ys gr room first) r p) = true then l.set p.1 true else l) ys (fun pre y rest v hy hlt hf => by
   rw [hpD _ v hlt, hy]
   show _ = pre ++ hitS tot (qd gr r y v) :: rest
   cases hh : hitS tot (qd gr r y v) with
   | true => rw [if_pos rfl, List.set_append_right _ _ (Nat.le_refl _), Nat.sub_self, List.set_cons_zero]
   | false => rw [if_neg (by decide), hf]) ys shs [] hl hallb
  exact this
 have hmi : ∀ (zs : List Fx) (vs : List Int), (mergeG (qH gr r tot) zs vs).map (·.i) = zs.map (·.i) ∧ (mergeG (qH gr r tot) zs vs).map (·.f) = zs.map (·.f) := by
  intro zs
  induction zs with
  | nil => intro vs; exact ⟨rfl, rfl⟩
  | cons z t ih =>
   intro vs
   cases hf : z.fx with
   | true => rw [mergeG_fx hf, List.map_cons, List.map_cons, List.map_cons, List.map_cons, (ih vs).1, (ih vs).2]; exact ⟨rfl, rfl⟩
   | false =>
    cases vs with
    | nil =>
     rw [mergeG, List.map_cons, List.map_cons, List.map_cons, List.map_cons, (ih []).1, (ih []).2]
     exact ⟨rfl, rfl⟩
    | cons v m => rw [mergeG_op hf, List.map_cons, List.map_cons, List.map_cons, List.map_cons, (ih m).1, (ih m).2]; exact ⟨rfl, rfl⟩
 rw [hsz, hfx]
 unfold toS
 rw [(hmi ys shs).1, (hmi ys shs).2]
/-- A round of the reference. -/
theorem spec_round {gr : Bool} {first room : Int} {ys : List Fx} (hx : ∀ x ∈ ys, okX x) (hl : ys.length ≤ 400) (hr : -100000000000 ≤ restX first room ys ∧ restX first room ys ≤ 100000000) : ∃ K, ∀ k, K ≤ k → mOkS k (toS ys gr room first) = true ∧ roundSO k (toS ys gr room first) = some (toS (roundQ gr (restX first room ys) ys (spread (absI (restX first room ys)) ((opX ys).map (wP gr)))) gr room first) := by
 obtain ⟨K1, h1⟩ := ev_all (f := fun k (x : Fx) => spec_MulDiv.f k x.i.f0 x.f 1000) (g := fun x => mdAll x.i.f0 x.f 1000) ys (fun x h => md_spec _ _ _ (by have := (hx x h).1.1; omega) (by have := (hx x h).2.1; omega))
 have hab := abs_eq (v := restX first room ys) (by omega) (by omega)
 obtain ⟨K2, h2⟩ := spread_spec (absI (restX first room ys)) ((opX ys).map (wP gr)) (by omega) (okW_wP hx hl)
 have hrst : rstS (toS ys gr room first) = restX first room ys := by
  unfold rstS restX
  rw [fr_toS, fac_toS, left_toS]
  rfl
 refine ⟨max K1 K2, fun k hk => ?_⟩
 have h3 := h1 k (by omega)
 have h4 : spec_l16Spread.f k (absI (restX first room ys)) ((opX ys).map (wP gr)) = some (spread (absI (restX first room ys)) ((opX ys).map (wP gr))) := h2 k (by omega)
 have hat : ∀ j, j < ys.length → (spec_MulDiv.f k ((toS ys gr room first).items.getD j z66).f0 ((toS ys gr room first).factor.getD j 0) 1000) = some (mdAll (ys.getD j zFx).i.f0 (ys.getD j zFx).f 1000) := by
  intro j hj
  show spec_MulDiv.f k ((ys.map (·.i)).getD j z66).f0 ((ys.map (·.f)).getD j 0) 1000 = _
  rw [map_getD (·.i) ys j zFx z66 hj, map_getD (·.f) ys j zFx 0 hj]
  exact h3 _ (by rw [List.getD_eq_getElem?_getD, List.getElem?_eq_getElem hj]; exact List.getElem_mem _)
 have hm : mOkS k (toS ys gr room first) = true := by
  unfold mOkS
  rw [Bool.or_eq_true, List.all_eq_true]
  refine .inr fun j hj => ?_
  have hj2 : j < ys.length := by have := List.mem_range.1 hj; unfold toS at this; rwa [List.length_map] at this
  rw [hat j hj2]
  rfl
 have hw : (frO 0 ys).map (wtS k (toS ys gr room first)) = (opX ys).map (wP gr) := frO_map _ _ ys 0 (fun j hj => by
  rw [Nat.zero_add]
  unfold wtS wP
  rw [hat j hj]
  show (if gr = true then (ys.map (·.f)).getD j 0 else _) = _
  rw [map_getD (·.f) ys j zFx 0 hj]
  rfl)
 refine ⟨hm, ?_⟩
 unfold roundSO
 rw [if_pos hm, fr_toS, hrst, hw, h4]
 dsimp only
 rw [if_pos (by rw [spread_length, List.length_map, frO_len]), round_toS _ _ _ _ _ (by rw [spread_length, List.length_map]), hrst]
/-! ### the two in step -/
structure RelX (x y : Fx) : Prop where
 i : x.i = y.i
 f : x.f = y.f
 fx : x.fx = y.fx
 t : x.fx = true → x.t = y.t
def RelL : List Fx → List Fx → Prop
 | [], [] => True
 | x :: r, y :: t => RelX x y ∧ RelL r t
 | _, _ => False
def RelI (P : Int → Int → Prop) : List Int → List Int → Prop
 | [], [] => True
 | a :: r, b :: t => P a b ∧ RelI P r t
 | _, _ => False
theorem RelL.refl : ∀ xs, RelL xs xs
 | [] => trivial
 | _ :: r => ⟨⟨rfl, rfl, rfl, fun _ => rfl⟩, RelL.refl r⟩
theorem RelL.len : ∀ {xs ys : List Fx}, RelL xs ys → xs.length = ys.length
 | [], [], _ => rfl
 | _ :: _, _ :: _, h => by rw [List.length_cons, List.length_cons, RelL.len h.2]
 | [], _ :: _, h => h.elim
 | _ :: _, [], h => h.elim
theorem RelL.op : ∀ {xs ys : List Fx}, RelL xs ys → RelL (opX xs) (opX ys)
 | [], [], _ => trivial
 | x :: r, y :: t, h => by
  cases hf : x.fx with
  | true => rw [opX_cons_fx hf, opX_cons_fx (h.1.fx ▸ hf)]; exact RelL.op h.2
  | false => rw [opX_cons_op hf, opX_cons_op (h.1.fx ▸ hf)]; exact ⟨h.1, RelL.op h.2⟩
 | [], _ :: _, h => h.elim
 | _ :: _, [], h => h.elim
theorem RelL.map {β : Type} (g : Fx → β) (hg : ∀ x y, RelX x y → g x = g y) : ∀ {xs ys : List Fx}, RelL xs ys → xs.map g = ys.map g
 | [], [], _ => rfl
 | x :: r, y :: t, h => by rw [List.map_cons, List.map_cons, hg x y h.1, RelL.map g hg h.2]
 | [], _ :: _, h => h.elim
 | _ :: _, [], h => h.elim
theorem RelL.left : ∀ {xs ys : List Fx}, RelL xs ys → ∀ a, leftF xs a = leftF ys a
 | [], [], _, _ => rfl
 | x :: r, y :: t, h, a => by
  have e : (if x.fx = true then x.t else x.i.f0) = (if y.fx = true then y.t else y.i.f0) := by
   cases hf : x.fx with
   | true => rw [if_pos rfl, if_pos (h.1.fx ▸ hf), h.1.t hf]
   | false => rw [if_neg (by decide), if_neg (by rw [← h.1.fx, hf]; decide), h.1.i]
  have ih := RelL.left h.2 (wrap64 (a - (if y.fx = true then y.t else y.i.f0)))
  show leftF r (wrap64 (a - (if x.fx = true then x.t else x.i.f0))) = leftF t (wrap64 (a - (if y.fx = true then y.t else y.i.f0)))
  rw [e]
  exact ih
 | [], _ :: _, h, _ => h.elim
 | _ :: _, [], h, _ => h.elim
theorem RelL.fac {xs ys : List Fx} (h : RelL xs ys) : facX xs = facX ys := by
 have := congrArg (fun l : List Int => l.foldl (fun a v => wrap64 (a + v)) 0) (h.map (fun x => x.f) (fun _ _ h => h.f))
 rw [List.foldl_map, List.foldl_map] at this
 exact this
theorem RelL.rest {xs ys : List Fx} (h : RelL xs ys) (first room : Int) : restX first room xs = restX first room ys := by
 unfold restX
 rw [h.op.fac, h.left]
def PV (gr : Bool) (r v v' : Int) : Prop := 0 ≤ v ∧ (goF gr r = true → v = v' ∧ v ≤ absI r) ∧ (goF gr r = false → v = 0)
theorem sh_rel {gr : Bool} {r : Int} {os : List Fx} (hw : okW (os.map (wP gr))) (hr : -100000000000 ≤ r ∧ r ≤ 100000000) : RelI (PV gr r) (shP gr r os) (spread (absI r) (os.map (wP gr))) := by
 have hb := shP_bound hw hr
 have hl := shP_len gr r os
 have hl2 : (spread (absI r) (os.map (wP gr))).length = os.length := by rw [spread_length, List.length_map]
 have heq : goF gr r = true → shP gr r os = spread (absI r) (os.map (wP gr)) := fun h => by unfold shP; rw [if_pos h]
 obtain ⟨vs, hv⟩ : ∃ vs, vs = shP gr r os := ⟨_, rfl⟩
 obtain ⟨us, hu⟩ : ∃ us, us = spread (absI r) (os.map (wP gr)) := ⟨_, rfl⟩
 rw [← hv] at hb hl
 rw [← hu] at hl2
 rw [← hv, ← hu] at heq
 rw [← hv, ← hu]
 clear hv hu hw
 have : vs.length = us.length := by omega
 clear hl hl2
 induction vs generalizing us with
 | nil => cases us with | nil => trivial | cons => simp at this
 | cons v t ih =>
  cases us with
  | nil => simp at this
  | cons u s =>
   have h := hb v (by simp)
   exact ⟨⟨h.1, fun hg => ⟨by have := heq hg; injection this, h.2.1 hg⟩, h.2.2⟩, ih (fun y hy => hb y (by simp [hy])) s (fun hg => by have := heq hg; injection this) (by simpa using this)⟩
theorem s2_qn {gr : Bool} {r v v' : Int} {x y : Fx} (hx : okX x) (h : RelX x y) (hv : PV gr r v v') : (s2 gr x v).s = qn gr r y v' := by
 obtain ⟨⟨h0, _, _⟩, _, _⟩ := hx
 unfold s2 qn nS
 rw [← h.i]
 dsimp only
 cases hg : goF gr r with
 | true =>
  obtain ⟨e, _⟩ := hv.2.1 hg
  subst e
  unfold goF at hg
  cases gr with
  | true => rw [if_pos rfl] at hg ⊢; rw [hg, if_pos (show (true && true) = true from rfl)]
  | false =>
   rw [if_neg (by decide)] at hg ⊢
   rw [hg, if_neg (by simp), if_pos (by rfl)]
   unfold mx
   split <;> split <;> omega
 | false =>
  have e := hv.2.2 hg
  subst e
  unfold goF at hg
  cases gr with
  | true =>
   rw [if_pos rfl] at hg ⊢
   rw [hg, if_neg (by simp), if_neg (by simp), wrap_in (by omega) (by omega)]
   omega
  | false =>
   rw [if_neg (by decide)] at hg ⊢
   rw [hg, if_neg (by simp), if_neg (by simp), wrap_in (by omega) (by omega)]
   unfold mx
   split <;> omega
def iH (gr : Bool) (tot : Int) (x : Fx) (v : Int) : Fx := s3 tot (s2 gr x v)
def idf (gr : Bool) (x : Fx) (v : Int) : Int := wrap64 (fitI x.i (s2 gr x v).s - (s2 gr x v).s)
theorem roundP_eq (gr : Bool) (first room : Int) (xs : List Fx) : roundP gr first room xs = mergeG (iH gr (sumW (((opX xs).zip (shP gr (restX first room xs) (opX xs))).map (fun p => idf gr p.1 p.2)))) xs (shP gr (restX first room xs) (opX xs)) := by
 unfold roundP roundX
 rw [← merge_zip _ xs _ (shP_len _ _ _)]
 unfold ysX
 rw [List.map_map]
 have e : totF (((opX xs).zip (shP gr (restX first room xs) (opX xs))).map (fun p => s2 gr p.1 p.2)) = sumW (((opX xs).zip (shP gr (restX first room xs) (opX xs))).map (fun p => idf gr p.1 p.2)) := by
  unfold totF sumW
  rw [List.foldl_map, List.foldl_map]
  rfl
 rw [e]
 rfl
theorem ds_eq {gr : Bool} {r : Int} : ∀ {os ps : List Fx} {vs us : List Int}, RelL os ps → RelI (PV gr r) vs us → (∀ x ∈ os, okX x) → (os.zip vs).map (fun p => idf gr p.1 p.2) = (ps.zip us).map (fun p => qd gr r p.1 p.2)
 | [], [], _, _, _, _, _ => rfl
 | x :: t, y :: q, [], [], _, _, _ => rfl
 | x :: t, y :: q, v :: vs, u :: us, h, hv, hx => by
  rw [List.zip_cons_cons, List.zip_cons_cons, List.map_cons, List.map_cons, ds_eq h.2 hv.2 (fun z hz => hx z (by simp [hz]))]
  congr 1
  show idf gr x v = qd gr r y u
  unfold idf qd
  rw [s2_qn (hx x (by simp)) h.1 hv.1, h.1.i]
 | _ :: _, _ :: _, [], _ :: _, _, hv, _ => hv.elim
 | _ :: _, _ :: _, _ :: _, [], _, hv, _ => hv.elim
 | [], _ :: _, _, _, h, _, _ => h.elim
 | _ :: _, [], _, _, h, _, _ => h.elim
theorem s_bound {gr : Bool} {r v v' : Int} {x : Fx} (hx : okX x) (hr : -100000000000 ≤ r ∧ r ≤ 100000000) (hv : PV gr r v v') : 0 ≤ (s2 gr x v).s ∧ (s2 gr x v).s ≤ 200000000 :=
 s2_bound hx hr hv.1 (fun h => (hv.2.1 h).2) hv.2.2
theorem d_val {gr : Bool} {r v v' : Int} {x : Fx} (hx : okX x) (hr : -100000000000 ≤ r ∧ r ≤ 100000000) (hv : PV gr r v v') : idf gr x v = fitI x.i (s2 gr x v).s - (s2 gr x v).s ∧ -200000000 ≤ idf gr x v ∧ idf gr x v ≤ 200000000 := by
 have hs := s_bound hx hr hv
 have hf := fit_bound hx.1 hs.1 hs.2
 have e : idf gr x v = fitI x.i (s2 gr x v).s - (s2 gr x v).s := by
  unfold idf
  rw [wrap_in (by omega) (by omega)]
 rw [e]
 exact ⟨rfl, by omega, by omega⟩
theorem hit_eq {gr : Bool} {r v v' tot : Int} {x y : Fx} (hx : okX x) (hr : -100000000000 ≤ r ∧ r ≤ 100000000) (h : RelX x y) (hv : PV gr r v v') : hitF tot (s2 gr x v) = hitS tot (qd gr r y v') := by
 have hd := d_val hx hr hv
 have e : qd gr r y v' = idf gr x v := by unfold qd idf; rw [s2_qn hx h hv, h.i]
 rw [e, hd.1]
 unfold hitF hitS
 have hi : (s2 gr x v).i = x.i := rfl
 rw [hi]
 congr 1
 · congr 2
   rw [decide_eq_decide]; omega
 · congr 1
   rw [decide_eq_decide]; omega
theorem merge_rel {gr : Bool} {r tot : Int} (hr : -100000000000 ≤ r ∧ r ≤ 100000000) : ∀ {xs ys : List Fx} {vs us : List Int}, RelL xs ys → RelI (PV gr r) vs us → (∀ x ∈ xs, okX x) → (∀ y ∈ ys, okX y) → vs.length = (opX xs).length →
 RelL (mergeG (iH gr tot) xs vs) (mergeG (qH gr r tot) ys us) ∧ (∀ x ∈ mergeG (iH gr tot) xs vs, okX x) ∧ (∀ y ∈ mergeG (qH gr r tot) ys us, okX y) ∧ (mergeG (iH gr tot) xs vs).length = xs.length
 | [], [], _, _, _, _, _, _, _ => ⟨trivial, fun _ h => (by cases h), fun _ h => (by cases h), rfl⟩
 | x :: t, y :: q, vs, us, h, hv, hx, hy, hl => by
  have hx1 := hx x (by simp)
  have hy1 := hy y (by simp)
  have hx2 : ∀ z ∈ t, okX z := fun z hz => hx z (by simp [hz])
  have hy2 : ∀ z ∈ q, okX z := fun z hz => hy z (by simp [hz])
  cases hf : x.fx with
  | true =>
   rw [opX_cons_fx hf] at hl
   have hf' : y.fx = true := h.1.fx ▸ hf
   obtain ⟨a1, a2, a3, a4⟩ := merge_rel hr (tot := tot) h.2 hv hx2 hy2 hl
   rw [mergeG_fx hf, mergeG_fx hf']
   exact ⟨⟨h.1, a1⟩, fun z hz => by rcases List.mem_cons.1 hz with rfl | hz; exact hx1; exact a2 z hz, fun z hz => by rcases List.mem_cons.1 hz with rfl | hz; exact hy1; exact a3 z hz, by rw [List.length_cons, List.length_cons, a4]⟩
  | false =>
   rw [opX_cons_op hf] at hl
   have hf' : y.fx = false := h.1.fx ▸ hf
   cases vs with
   | nil => simp at hl
   | cons v vs =>
    cases us with
    | nil => exact hv.elim
    | cons u us =>
     obtain ⟨a1, a2, a3, a4⟩ := merge_rel hr (tot := tot) h.2 hv.2 hx2 hy2 (by simpa using hl)
     rw [mergeG_op hf, mergeG_op hf']
     have hs := s_bound hx1 hr hv.1
     have hfb := fit_bound hx1.1 hs.1 hs.2
     have hq := s2_qn hx1 h.1 hv.1
     have hh := hit_eq (tot := tot) hx1 hr h.1 hv.1
     have hix : okX (iH gr tot x v) := by
      unfold iH s3
      split
      · exact ⟨hx1.1, hx1.2.1, hfb⟩
      · exact hx1
     have hqy : okX (qH gr r tot y u) := by
      refine ⟨hy1.1, hy1.2.1, ?_⟩
      show 0 ≤ fitI y.i (qn gr r y u) ∧ fitI y.i (qn gr r y u) ≤ 200000000
      rw [← hq, ← h.1.i]
      exact hfb
     have hrel : RelX (iH gr tot x v) (qH gr r tot y u) := by
      unfold iH s3
      cases hc : hitF tot (s2 gr x v) with
      | true =>
       rw [if_pos rfl]
       refine ⟨h.1.i, h.1.f, ?_, fun _ => ?_⟩
       · show true = hitS tot (qd gr r y u)
         rw [← hh, hc]
       · show fitI x.i (s2 gr x v).s = fitI y.i (qn gr r y u)
         rw [hq, h.1.i]
      | false =>
       rw [if_neg (by decide)]
       refine ⟨h.1.i, h.1.f, ?_, fun h2 => ?_⟩
       · show x.fx = hitS tot (qd gr r y u)
         rw [← hh, hc, hf]
       · have : x.fx = true := h2
         rw [hf] at this
         cases this
     exact ⟨⟨hrel, a1⟩, fun z hz => by rcases List.mem_cons.1 hz with rfl | hz; exact hix; exact a2 z hz, fun z hz => by rcases List.mem_cons.1 hz with rfl | hz; exact hqy; exact a3 z hz, by rw [List.length_cons, List.length_cons, a4]⟩
 | [], _ :: _, _, _, h, _, _, _, _ => h.elim
 | _ :: _, [], _, _, h, _, _, _, _ => h.elim
theorem count_merge (Hn : Fx → Int → Fx) : ∀ (xs : List Fx) (vs : List Int), vs.length = (opX xs).length → (opX (mergeG Hn xs vs)).length = (((opX xs).zip vs).filter (fun p => !(Hn p.1 p.2).fx)).length
 | [], _, _ => by simp [mergeG, opX]
 | x :: r, vs, h => by
  cases hf : x.fx with
  | true => rw [opX_cons_fx hf] at h ⊢; rw [mergeG_fx hf, opX_cons_fx hf, count_merge Hn r vs h]
  | false =>
   rw [opX_cons_op hf] at h ⊢
   cases vs with
   | nil => simp at h
   | cons v m =>
    have ih := count_merge Hn r m (by simpa using h)
    rw [mergeG_op hf, List.zip_cons_cons, List.filter_cons]
    cases hc : (Hn x v).fx with
    | true => rw [opX_cons_fx hc, if_neg (by simp [hc]), ih]
    | false => rw [opX_cons_op hc, if_pos (by simp [hc]), List.length_cons, List.length_cons, ih]
theorem sumW_sm : ∀ (ds : List Int) (a : Int), (∀ d ∈ ds, -200000000 ≤ d ∧ d ≤ 200000000) → -1000000000000 ≤ a - 200000000 * ds.length → a + 200000000 * ds.length ≤ 1000000000000 → ds.foldl (fun v d => wrap64 (v + d)) a = a + sm ds
 | [], a, _, _, _ => by simp [sm]
 | d :: t, a, h, h0, h1 => by
  have hd := h d (by simp)
  rw [List.length_cons] at h0 h1
  push_cast at h0 h1
  rw [List.foldl_cons, wrap_in (by omega) (by omega), sumW_sm t (a + d) (fun e he => h e (by simp [he])) (by omega) (by omega)]
  simp only [sm]
  omega
theorem sm_le0 : ∀ ds : List Int, (∀ d ∈ ds, d ≤ 0) → sm ds ≤ 0
 | [], _ => by simp [sm]
 | d :: t, h => by
  have h1 := h d (by simp)
  have h2 := sm_le0 t (fun e he => h e (by simp [he]))
  simp only [sm]
  omega
theorem sm_ge0 : ∀ ds : List Int, (∀ d ∈ ds, 0 ≤ d) → 0 ≤ sm ds
 | [], _ => by simp [sm]
 | d :: t, h => by
  have h1 := h d (by simp)
  have h2 := sm_ge0 t (fun e he => h e (by simp [he]))
  simp only [sm]
  omega
theorem relI_zip {P : Int → Int → Prop} : ∀ {os : List Fx} {vs us : List Int}, RelI P vs us → ∀ p ∈ os.zip vs, p.1 ∈ os ∧ ∃ u, P p.2 u
 | [], _, _, _, p, hp => by simp at hp
 | x :: t, [], _, _, p, hp => by simp at hp
 | x :: t, v :: vs, [], h, _, _ => h.elim
 | x :: t, v :: vs, u :: us, h, p, hp => by
  rw [List.zip_cons_cons] at hp
  rcases List.mem_cons.1 hp with rfl | hp
  · exact ⟨by simp, u, h.1⟩
  · obtain ⟨h1, h2⟩ := relI_zip h.2 p hp
    exact ⟨by simp [h1], h2⟩
/-- Each round fixes an item at least. -/
theorem round_less {gr : Bool} {r : Int} {xs : List Fx} {vs us : List Int} (hr : -100000000000 ≤ r ∧ r ≤ 100000000) (hx : ∀ x ∈ xs, okX x) (hl : xs.length ≤ 400) (hv : RelI (PV gr r) vs us) (hvl : vs.length = (opX xs).length) (hne : 0 < (opX xs).length) :
 (opX (mergeG (iH gr (sumW (((opX xs).zip vs).map (fun p => idf gr p.1 p.2)))) xs vs)).length < (opX xs).length := by
 rw [count_merge _ xs vs hvl]
 have hz : ((opX xs).zip vs).length = (opX xs).length := by rw [List.length_zip, hvl, Nat.min_self]
 rw [← hz]
 rw [List.length_filter_lt_length_iff_exists]
 have hall : ∀ p ∈ (opX xs).zip vs, idf gr p.1 p.2 = fitI p.1.i (s2 gr p.1 p.2).s - (s2 gr p.1 p.2).s ∧ -200000000 ≤ idf gr p.1 p.2 ∧ idf gr p.1 p.2 ≤ 200000000 := by
  intro p hp
  obtain ⟨h1, u, h2⟩ := relI_zip hv p hp
  exact d_val (hx _ (opX_mem h1)) hr h2
 have hol := opX_len xs
 obtain ⟨tot, ht⟩ : ∃ t, t = sumW (((opX xs).zip vs).map (fun p => idf gr p.1 p.2)) := ⟨_, rfl⟩
 have hsm : tot = sm (((opX xs).zip vs).map (fun p => idf gr p.1 p.2)) := by
  rw [ht]
  unfold sumW
  rw [sumW_sm _ 0 (fun d hd => by obtain ⟨p, hp, rfl⟩ := List.mem_map.1 hd; exact (hall p hp).2) (by rw [List.length_map]; omega) (by rw [List.length_map]; omega)]
  omega
 rw [← ht]
 have hit : ∀ p ∈ (opX xs).zip vs, hitF tot (s2 gr p.1 p.2) = true → ∃ x ∈ (opX xs).zip vs, ¬ ((!(iH gr tot x.1 x.2).fx) = true) := by
  intro p hp hh
  refine ⟨p, hp, ?_⟩
  unfold iH s3
  rw [if_pos hh]
  simp
 by_cases h0 : tot = 0
 · obtain ⟨p, hp⟩ := List.exists_mem_of_length_pos (by omega : 0 < ((opX xs).zip vs).length)
   exact hit p hp (by unfold hitF; rw [decide_eq_true h0]; rfl)
 · by_cases h1 : tot > 0
   · by_cases hex : ∃ p ∈ (opX xs).zip vs, idf gr p.1 p.2 > 0
     · obtain ⟨p, hp, hd⟩ := hex
       refine hit p hp ?_
       have he := (hall p hp).1
       unfold hitF
       have hi : (s2 gr p.1 p.2).i = p.1.i := rfl
       rw [hi, decide_eq_true h1, decide_eq_true (show fitI p.1.i (s2 gr p.1 p.2).s > (s2 gr p.1 p.2).s by omega)]
       simp
     · have := sm_le0 (((opX xs).zip vs).map (fun p => idf gr p.1 p.2)) (fun d hd => by
        obtain ⟨p, hp, rfl⟩ := List.mem_map.1 hd
        exact Int.not_lt.1 (fun h => hex ⟨p, hp, h⟩))
       omega
   · by_cases hex : ∃ p ∈ (opX xs).zip vs, idf gr p.1 p.2 < 0
     · obtain ⟨p, hp, hd⟩ := hex
       refine hit p hp ?_
       have he := (hall p hp).1
       unfold hitF
       have hi : (s2 gr p.1 p.2).i = p.1.i := rfl
       rw [hi, decide_eq_true (show tot < 0 by omega), decide_eq_true (show fitI p.1.i (s2 gr p.1 p.2).s < (s2 gr p.1 p.2).s by omega)]
       simp
     · have := sm_ge0 (((opX xs).zip vs).map (fun p => idf gr p.1 p.2)) (fun d hd => by
        obtain ⟨p, hp, rfl⟩ := List.mem_map.1 hd
        exact Int.not_lt.1 (fun h => hex ⟨p, hp, h⟩))
       omega
theorem mergeG_none (Hn : Fx → Int → Fx) : ∀ (xs : List Fx) (vs : List Int), (opX xs).length = 0 → mergeG Hn xs vs = xs
 | [], _, _ => rfl
 | x :: r, vs, h => by
  cases hf : x.fx with
  | true => rw [opX_cons_fx hf] at h; rw [mergeG_fx hf, mergeG_none Hn r vs h]
  | false => rw [opX_cons_op hf] at h; simp at h
theorem RelL.ts : ∀ {xs ys : List Fx}, RelL xs ys → (opX xs).length = 0 → xs.map (·.t) = ys.map (·.t)
 | [], [], _, _ => rfl
 | x :: r, y :: t, h, hz => by
  cases hf : x.fx with
  | true => rw [opX_cons_fx hf] at hz; rw [List.map_cons, List.map_cons, h.1.t hf, RelL.ts h.2 hz]
  | false => rw [opX_cons_op hf] at hz; simp at hz
 | [], _ :: _, h, _ => h.elim
 | _ :: _, [], h, _ => h.elim
/-! ### FlexShares of both sides -/
theorem nonneg_in (a : Int) : impl_nonNegative.f a = some (decide (0 ≤ a ∧ a ≤ 100000000)) := by
 unfold impl_nonNegative.f
 split <;> simp <;> omega
theorem begL_ok {items : List S66} {room : Int} (h : ∀ i ∈ items, okI i) : ∀ x ∈ begL items room, okX x := by
 intro x hx
 unfold begL at hx
 obtain ⟨y, hy, rfl⟩ := List.mem_map.1 hx
 obtain ⟨i, hi, rfl⟩ := List.mem_map.1 hy
 have h1 := h i hi
 have hf := fit_bound h1 h1.1.1 (by have := h1.1.2; omega)
 refine ⟨h1, ?_, hf⟩
 show 0 ≤ clampI _ ∧ clampI _ ≤ 1000000
 unfold clampI mx mn
 repeat' split
 all_goals omega
theorem begL_items (items : List S66) (room : Int) : (begL items room).map (·.i) = items := by
 unfold begL
 rw [List.map_map, List.map_map]
 exact List.map_id' items
def okb (i : S66) : Bool := decide (0 ≤ i.f0 ∧ i.f0 ≤ 100000000) && (decide (0 ≤ i.f3 ∧ i.f3 ≤ 100000000) && decide (-1 ≤ i.f4 ∧ i.f4 ≤ 100000000))
theorem okb_okI {i : S66} (h : okb i = true) : okI i := by
 unfold okb at h
 simp only [Bool.and_eq_true, decide_eq_true_eq] at h
 exact ⟨h.1, h.2.1, h.2.2⟩
theorem at_66 (xs : List S66) (i : Nat) (h : i < xs.length) : rd_T66 xs (i : Int) = xs[i] := getD_nat _ xs i h
theorem okb_step (xs : List S66) (i : Nat) (h : i < xs.length) : (xs.drop i).all okb = (okb xs[i] && (xs.drop (i + 1)).all okb) := by
 rw [List.drop_eq_getElem_cons h, List.all_cons]
def flexOk (items : List S66) (room : Int) : Bool := decide (items.length ≤ 400) && (decide (0 ≤ room ∧ room ≤ 100000000) && items.all okb)
theorem items_ok (xs : List S66) (room : Int) : Ev (fun k => spec_l16ItemsOk.f k xs room) (flexOk xs room) := by
 unfold flexOk
 refine Ev.congr (fun k => spec_l16ItemsOk.f.eq_1 k xs room) (ev_ite (fun h => ?_) (fun h => ?_))
 · rw [decide_eq_false (by omega), Bool.false_and]
   exact Ev.step (fun k => spec_l16ItemsOk.j0.eq_2 xs true k) (ev_pos rfl (ev_now rfl))
 · rw [decide_eq_true (by omega), Bool.true_and]
   refine ev_bc (l12_in _ _ _) (Ev.step (fun k => spec_l16ItemsOk.j0.eq_2 xs _ k) ?_)
   cases hr : decide (0 ≤ room ∧ room ≤ 100000000) with
   | false => exact ev_pos rfl (ev_now rfl)
   | true =>
    refine ev_neg (by decide) ?_
    rw [Bool.true_and]
    refine ev_count (g := fun k i => spec_l16ItemsOk.l0 k xs i) xs.length (fun i => (xs.drop i).all okb) (Ev.step (fun k => spec_l16ItemsOk.l0.eq_2 xs _ k) (ev_neg (by omega) (ev_now (by rw [List.drop_of_length_le (Nat.le_refl _)]; rfl)))) ?_ 0 (Nat.zero_le _)
    intro i hi ih
    refine Ev.step (fun k => spec_l16ItemsOk.l0.eq_2 xs i k) (ev_pos (by omega) (ev_pos (by omega) ?_))
    rw [okb_step xs i hi, at_66 xs i hi, wrap_succ (by omega)]
    unfold okb
    refine ev_bc (l12_in _ _ _) (ev_ite (fun e => ?_) (fun e => ev_now (by rw [Bool.eq_false_iff.mpr e]; rfl)))
    refine ev_bc (l12_in _ _ _) (ev_ite (fun e2 => ?_) (fun e2 => ev_now (by rw [Bool.eq_false_iff.mpr e2, e]; rfl)))
    refine ev_bc (l12_in _ _ _) (ev_ite (fun e3 => ?_) (fun e3 => ev_now (by rw [Bool.eq_false_iff.mpr e3, e, e2]; rfl)))
    rw [e, e2, e3]
    exact ih
theorem impl_flex_ev (xs : List S66) (room : Int) (r : List Int) (h0 : flexOk xs room = false → r = []) (h1 : flexOk xs room = true → Ev (fun k => impl_flexShares.f k xs room) r) : Ev (fun k => impl_FlexShares.f k xs room) r := by
 unfold flexOk at h0 h1
 refine Ev.congr (fun k => impl_FlexShares.f.eq_1 k xs room) (ev_ite (fun h => ?_) (fun h => ?_))
 · rw [decide_eq_false (show ¬ xs.length ≤ 400 by omega), Bool.false_and] at h0
   rw [h0 rfl]
   exact Ev.step (fun k => impl_FlexShares.j0.eq_2 xs room true k) (ev_pos rfl (ev_now rfl))
 · rw [decide_eq_true (show xs.length ≤ 400 by omega), Bool.true_and] at h0 h1
   refine ev_bc (nonneg_in _) (Ev.step (fun k => impl_FlexShares.j0.eq_2 xs room _ k) ?_)
   cases hr : decide (0 ≤ room ∧ room ≤ 100000000) with
   | false =>
    rw [hr, Bool.false_and] at h0
    rw [h0 rfl]
    exact ev_pos rfl (ev_now rfl)
   | true =>
    rw [hr, Bool.true_and] at h0 h1
    refine ev_neg (by decide) ?_
    have key : ∀ i, i ≤ xs.length → ((xs.drop i).all okb = false → r = []) → ((xs.drop i).all okb = true → Ev (fun k => impl_flexShares.f k xs room) r) → Ev (fun k => impl_FlexShares.l0 k xs room xs xs.length i) r := by
     have : ∀ d i, xs.length - i = d → i ≤ xs.length → ((xs.drop i).all okb = false → r = []) → ((xs.drop i).all okb = true → Ev (fun k => impl_flexShares.f k xs room) r) → Ev (fun k => impl_FlexShares.l0 k xs room xs xs.length i) r := by
      intro d
      induction d with
      | zero =>
       intro i hd hi _ h1
       refine Ev.step (fun k => impl_FlexShares.l0.eq_2 xs room xs xs.length i k) (ev_neg (by omega) ?_)
       exact Ev.bind (h1 (by rw [List.drop_of_length_le (by omega)]; rfl)) (ev_now rfl)
      | succ d ih =>
       intro i hd hi h0 h1
       have hlt : i < xs.length := by omega
       rw [okb_step xs i hlt] at h0 h1
       refine Ev.step (fun k => impl_FlexShares.l0.eq_2 xs room xs xs.length i k) (ev_pos (by omega) (ev_pos (by omega) (ev_pos (by omega) ?_)))
       rw [at_66 xs i hlt, wrap_succ (by omega)]
       unfold okb at h0 h1
       refine ev_bc (nonneg_in _) (ev_ite (fun e => ?_) (fun e => ev_now (by rw [Bool.eq_false_iff.mpr e] at h0; exact (h0 rfl).symm)))
       rw [e, Bool.true_and] at h0 h1
       refine ev_bc (nonneg_in _) (ev_ite (fun e2 => ?_) (fun e2 => ev_now (by rw [Bool.eq_false_iff.mpr e2] at h0; exact (h0 rfl).symm)))
       rw [e2, Bool.true_and] at h0 h1
       refine ev_ite (fun e3 => ?_) (fun e3 => ?_)
       · rw [decide_eq_true (by omega), Bool.true_and] at h0 h1
         exact ih (i + 1) (by omega) (by omega) h0 h1
       · refine ev_bc (nonneg_in _) (ev_ite (fun e4 => ?_) (fun e4 => ev_now ?_))
         · have := of_decide_eq_true e4
           rw [decide_eq_true (by omega), Bool.true_and] at h0 h1
           exact ih (i + 1) (by omega) (by omega) h0 h1
         · have := of_decide_eq_false (Bool.eq_false_iff.mpr e4)
           rw [decide_eq_false (by omega), Bool.false_and] at h0
           exact (h0 rfl).symm
     exact fun i => this (xs.length - i) i rfl
    exact key 0 (Nat.zero_le _) h0 h1
/-! ### what the sizes are together -/
def iterP (gr : Bool) (first room : Int) : Nat → List Fx → List Fx
 | 0, xs => xs
 | m + 1, xs => if (opX xs).length = 0 then xs else iterP gr first room m (roundP gr first room xs)
theorem iterP_none {gr : Bool} {first room : Int} {xs : List Fx} (h : (opX xs).length = 0) : ∀ m, iterP gr first room m xs = xs
 | 0 => rfl
 | m + 1 => by rw [iterP, if_pos h]
theorem run_iter {gr : Bool} {room first : Int} (hr : 0 ≤ room ∧ room ≤ 100000000) (hf : -100000000000 ≤ first ∧ first ≤ 100000000) : ∀ (m : Nat) (xs ys : List Fx), (opX xs).length ≤ m → RelL xs ys → (∀ x ∈ xs, okX x) → (∀ y ∈ ys, okX y) → xs.length ≤ 400 →
 (iterP gr first room m xs).length = xs.length ∧ (opX (iterP gr first room m xs)).length = 0 ∧ (∀ d, Ev (fun k => flexO k gr first room (k - d) xs) ((iterP gr first room m xs).map (·.t))) ∧ (∀ d, Ev (fun k => flexSO k (k - d) (toS ys gr room first)) ((iterP gr first room m xs).map (·.t))) := by
 have zero : ∀ (m : Nat) (xs ys : List Fx), RelL xs ys → (∀ x ∈ xs, okX x) → (∀ y ∈ ys, okX y) → xs.length ≤ 400 → (opX xs).length = 0 →
  (iterP gr first room m xs).length = xs.length ∧ (opX (iterP gr first room m xs)).length = 0 ∧ (∀ d, Ev (fun k => flexO k gr first room (k - d) xs) ((iterP gr first room m xs).map (·.t))) ∧ (∀ d, Ev (fun k => flexSO k (k - d) (toS ys gr room first)) ((iterP gr first room m xs).map (·.t))) := by
  intro m xs ys h hx hy hl hz
  rw [iterP_none hz m]
  refine ⟨rfl, hz, ?_⟩
  have hyl := h.len
  have hrb := rest_bound hx hl hr hf
  have hrb2 := rest_bound hy (by omega) hr hf
  have hzy : (opX ys).length = 0 := by rw [← h.op.len]; exact hz
  refine ⟨fun d => ?_, fun d => ?_⟩
  · obtain ⟨K, hK⟩ := impl_round (gr := gr) hx hl hrb
    refine ⟨max K (d + 1), fun k hk => ?_⟩
    show flexO k gr first room (k - d) xs = _
    have h1 : roundO k gr first room xs = some (roundP gr first room xs) := hK k (by omega)
    rw [show k - d = (k - (d + 1)) + 1 by omega, flexO, h1]
    dsimp only
    rw [if_pos hz, roundP_eq, mergeG_none _ xs _ hz]
  · obtain ⟨K, hK⟩ := spec_round (gr := gr) (first := first) (room := room) hy (by omega) hrb2
    refine ⟨max K (d + 1), fun k hk => ?_⟩
    show flexSO k (k - d) (toS ys gr room first) = _
    have h1 := hK k (by omega)
    rw [show k - d = (k - (d + 1)) + 1 by omega, flexSO, if_pos h1.1, fr_toS, if_pos (List.length_eq_zero_iff.1 (by rw [frO_len]; exact hzy))]
    rw [h.ts hz]
    rfl
 intro m
 induction m with
 | zero =>
  intro xs ys hm h hx hy hl
  exact zero 0 xs ys h hx hy hl (by omega)
 | succ m ih =>
  intro xs ys hm h hx hy hl
  by_cases hz : (opX xs).length = 0
  · exact zero (m + 1) xs ys h hx hy hl hz
  · have hyl := h.len
    have hrb := rest_bound hx hl hr hf
    have hrest := h.rest first room
    have hrb2 : -100000000000 ≤ restX first room ys ∧ restX first room ys ≤ 100000000 := by rw [← hrest]; exact hrb
    have hwp : (opX ys).map (wP gr) = (opX xs).map (wP gr) := (h.op.map (wP gr) (fun x y h => by unfold wP; rw [h.i, h.f])).symm
    have hrel := sh_rel (gr := gr) (okW_wP (gr := gr) hx hl) hrb
    have hvl := shP_len gr (restX first room xs) (opX xs)
    have hds := ds_eq h.op hrel (fun x hx' => hx x (opX_mem hx'))
    obtain ⟨a1, a2, a3, a4⟩ := merge_rel (tot := sumW (((opX xs).zip (shP gr (restX first room xs) (opX xs))).map (fun p => idf gr p.1 p.2))) hrb h hrel hx hy hvl
    have hless := round_less hrb hx hl hrel hvl (by omega)
    rw [← roundP_eq] at a1 a2 a4 hless
    have hq : roundQ gr (restX first room ys) ys (spread (absI (restX first room ys)) ((opX ys).map (wP gr))) = mergeG (qH gr (restX first room xs) (sumW (((opX xs).zip (shP gr (restX first room xs) (opX xs))).map (fun p => idf gr p.1 p.2)))) ys (spread (absI (restX first room xs)) ((opX xs).map (wP gr))) := by
     unfold roundQ
     rw [hwp, ← hrest, hds]
    rw [← hq] at a1 a3
    obtain ⟨r1, r0, r2, r3⟩ := ih _ _ (by omega) a1 a2 a3 (by omega)
    rw [iterP, if_neg hz]
    refine ⟨by omega, r0, fun d => ?_, fun d => ?_⟩
    · obtain ⟨K, hK⟩ := impl_round (gr := gr) hx hl hrb
      obtain ⟨K2, hK2⟩ := r2 (d + 1)
      refine ⟨max (max K K2) (d + 1), fun k hk => ?_⟩
      show flexO k gr first room (k - d) xs = _
      have h1 : roundO k gr first room xs = some (roundP gr first room xs) := hK k (by omega)
      rw [show k - d = (k - (d + 1)) + 1 by omega, flexO, h1]
      dsimp only
      rw [if_neg hz]
      exact hK2 k (by omega)
    · obtain ⟨K, hK⟩ := spec_round (gr := gr) (first := first) (room := room) hy (by omega) hrb2
      obtain ⟨K2, hK2⟩ := r3 (d + 1)
      refine ⟨max (max K K2) (d + 1), fun k hk => ?_⟩
      show flexSO k (k - d) (toS ys gr room first) = _
      have h1 := hK k (by omega)
      rw [show k - d = (k - (d + 1)) + 1 by omega, flexSO, if_pos h1.1, fr_toS, if_neg (fun he => hz (by rw [h.op.len, ← frO_len ys 0, he]; rfl)), h1.2]
      exact hK2 k (by omega)
/-! sums -/
theorem sm_append : ∀ a b : List Int, sm (a ++ b) = sm a + sm b
 | [], b => by simp [sm]
 | x :: t, b => by have := sm_append t b; simp only [List.cons_append, sm]; omega
theorem sm_add {α : Type} (f g : α → Int) : ∀ l : List α, sm (l.map (fun x => f x + g x)) = sm (l.map f) + sm (l.map g)
 | [] => rfl
 | x :: t => by have := sm_add f g t; simp only [List.map_cons, sm]; omega
theorem sm_sub {α : Type} (f g : α → Int) : ∀ l : List α, sm (l.map (fun x => f x - g x)) = sm (l.map f) - sm (l.map g)
 | [] => rfl
 | x :: t => by have := sm_sub f g t; simp only [List.map_cons, sm]; omega
theorem sm_le {α : Type} (f g : α → Int) : ∀ l : List α, (∀ x ∈ l, f x ≤ g x) → sm (l.map f) ≤ sm (l.map g)
 | [], _ => by simp [sm]
 | x :: t, h => by have h1 := h x (by simp); have := sm_le f g t (fun y hy => h y (by simp [hy])); simp only [List.map_cons, sm]; omega
theorem sm_congr {α : Type} (f g : α → Int) (l : List α) (h : ∀ x ∈ l, f x = g x) : sm (l.map f) = sm (l.map g) := by rw [List.map_congr_left h]
theorem zip_fst {α β γ : Type} (f : α → γ) : ∀ (a : List α) (b : List β), b.length = a.length → (a.zip b).map (fun p => f p.1) = a.map f
 | [], [], _ => rfl
 | x :: t, y :: s, h => by rw [List.zip_cons_cons, List.map_cons, List.map_cons, zip_fst f t s (by simpa using h)]
 | [], _ :: _, h => by simp at h
 | _ :: _, [], h => by simp at h
theorem zip_snd {α β γ : Type} (f : β → γ) : ∀ (a : List α) (b : List β), b.length = a.length → (a.zip b).map (fun p => f p.2) = b.map f
 | [], [], _ => rfl
 | x :: t, y :: s, h => by rw [List.zip_cons_cons, List.map_cons, List.map_cons, zip_snd f t s (by simpa using h)]
 | [], _ :: _, h => by simp at h
 | _ :: _, [], h => by simp at h
theorem spr_sum (t n : Int) (even : Bool) (ht : 0 ≤ t) (ht1 : t ≤ 4611686018427387904) (hn0 : 1 ≤ n) (hn1 : n ≤ 4611686018427387904) : ∀ (ws : List Int) (v : Int), (∀ x ∈ ws, 0 ≤ x ∧ x ≤ 100000000000) → 0 ≤ v → (if even = true then v + ws.length else v + sm ws) ≤ n → sm (spr t n even ws v) = t * (if even = true then v + ws.length else v + sm ws) / n - t * v / n
 | [], v, _, _, _ => by
  simp only [spr, sm, List.length_nil]
  split <;> simp
 | x :: r, v, hw, hv, hs => by
  have hx := hw x (by simp)
  have hb := sm_bound r (fun y hy => hw y (by simp [hy]))
  obtain ⟨v', hv'⟩ : ∃ v', v' = (if even = true then v + 1 else v + x) := ⟨_, rfl⟩
  have h1 : v ≤ v' := by rw [hv']; split <;> omega
  have he : (if even = true then v' + r.length else v' + sm r) = (if even = true then v + (x :: r).length else v + sm (x :: r)) := by
   rw [hv']
   cases even with
   | true => rw [if_pos rfl, if_pos rfl, if_pos rfl, List.length_cons]; push_cast; omega
   | false => rw [if_neg (by decide), if_neg (by decide), if_neg (by decide)]; simp only [sm]; omega
  have h2 : (if even = true then v' + r.length else v' + sm r) ≤ n := by rw [he]; exact hs
  have h3 : v' ≤ n := by
   cases even with
   | true => rw [if_pos rfl] at h2; omega
   | false => rw [if_neg (by decide)] at h2; omega
  have ih := spr_sum t n even ht ht1 hn0 hn1 r v' (fun y hy => hw y (by simp [hy])) (by omega) h2
  rw [he] at ih
  have m1 := mdAll_bound ht ht1 (show 0 ≤ v' by omega) h3 hn0 hn1
  have m2 := mdAll_bound ht ht1 hv (show v ≤ n by omega) hn0 hn1
  have m3 := mdAll_mono (t := t) ht h1 hn0
  unfold spr
  rw [← hv']
  simp only [sm] at ih ⊢
  rw [m1.1, m2.1, wrap_in (by omega) (by omega), ih]
  omega
theorem spread_sum {t : Int} {ws : List Int} (ht : 0 ≤ t) (ht1 : t ≤ 4611686018427387904) (hw : okW ws) (hne : ws ≠ []) : sm (spread t ws) = t := by
 have hb := sm_bound ws hw.2
 have hl := hw.1
 have hlp : 0 < ws.length := List.length_pos_iff.2 hne
 unfold spread
 by_cases h : sm ws = 0
 · rw [if_pos h, spr_sum t _ true ht ht1 (by omega) (by omega) ws 0 hw.2 (by omega) (by rw [if_pos rfl]; omega), if_pos rfl, Int.zero_add, Int.mul_zero, Int.zero_ediv, Int.mul_ediv_cancel _ (by omega)]
   omega
 · rw [if_neg h, spr_sum t _ false ht ht1 (by omega) (by omega) ws 0 hw.2 (by omega) (by rw [if_neg (by decide)]; omega), if_neg (by decide), Int.zero_add, Int.mul_zero, Int.zero_ediv, Int.mul_ediv_cancel _ (by omega)]
   omega
/-! what is taken, what is left -/
def fitB (x : Fx) : Int := fitI x.i x.i.f0
def t1e (x : Fx) : Int := if x.fx = true then x.t else fitB x
def t1 (xs : List Fx) : Int := sm (xs.map t1e)
def sfix (xs : List Fx) : Int := sm (xs.map (fun x => if x.fx = true then x.t else 0))
theorem left_eq : ∀ (xs : List Fx) (a : Int), (∀ x ∈ xs, okX x) → xs.length ≤ 400 → -100000000000 ≤ a - 200000000 * xs.length → a ≤ 100000000 → leftF xs a = a - sfix xs - sm ((opX xs).map (fun x => x.i.f0))
 | [], a, _, _, _, _ => by simp [leftF, sfix, sm, opX]
 | x :: r, a, hx, hl, h0, h1 => by
  obtain ⟨⟨h2, _, _⟩, _, h3⟩ := hx x (by simp)
  rw [List.length_cons] at hl h0
  push_cast at h0
  obtain ⟨d, hd⟩ : ∃ d, d = (if x.fx = true then x.t else x.i.f0) := ⟨_, rfl⟩
  have hdb : 0 ≤ d ∧ d ≤ 200000000 := by rw [hd]; split <;> omega
  have e : leftF (x :: r) a = leftF r (a - d) := by
   unfold leftF
   rw [List.foldl_cons, ← hd, wrap_in (by omega) (by omega)]
  rw [e, left_eq r (a - d) (fun y hy => hx y (by simp [hy])) (by omega) (by omega) (by omega)]
  unfold sfix
  simp only [List.map_cons, sm]
  cases hf : x.fx with
  | true => rw [opX_cons_fx hf]; rw [hf, if_pos rfl] at hd; rw [if_pos rfl]; omega
  | false => rw [opX_cons_op hf]; rw [hf, if_neg (by decide)] at hd; rw [if_neg (by decide)]; simp only [List.map_cons, sm]; omega
theorem t1_eq : ∀ xs : List Fx, t1 xs = sfix xs + sm ((opX xs).map fitB)
 | [] => rfl
 | x :: r => by
  have ih := t1_eq r
  unfold t1 sfix t1e at ih ⊢
  simp only [List.map_cons, sm]
  cases hf : x.fx with
  | true => rw [opX_cons_fx hf, if_pos rfl, if_pos rfl]; omega
  | false => rw [opX_cons_op hf, if_neg (by decide), if_neg (by decide)]; simp only [List.map_cons, sm]; omega
theorem t1_merge (Hn : Fx → Int → Fx) : ∀ (xs : List Fx) (vs : List Int), vs.length = (opX xs).length → t1 (mergeG Hn xs vs) = sfix xs + sm (((opX xs).zip vs).map (fun p => t1e (Hn p.1 p.2)))
 | [], _, _ => by simp [mergeG, t1, sfix, sm, opX]
 | x :: r, vs, h => by
  cases hf : x.fx with
  | true =>
   rw [opX_cons_fx hf] at h ⊢
   have ih := t1_merge Hn r vs h
   rw [mergeG_fx hf]
   unfold t1 sfix at ih ⊢
   simp only [List.map_cons, sm]
   rw [ih, hf, if_pos rfl]
   unfold t1e
   rw [hf, if_pos rfl]
   omega
  | false =>
   rw [opX_cons_op hf] at h ⊢
   cases vs with
   | nil => simp at h
   | cons v m =>
    have ih := t1_merge Hn r m (by simpa using h)
    rw [mergeG_op hf, List.zip_cons_cons]
    unfold t1 sfix at ih ⊢
    simp only [List.map_cons, sm]
    rw [ih, hf, if_neg (by decide)]
    omega
theorem fit_mono {i : S66} {a b : Int} (h : a ≤ b) : fitI i a ≤ fitI i b := by
 unfold fitI mx mn
 repeat' split
 all_goals omega
theorem fit_up {i : S66} {a b : Int} (h : a ≤ b) (h2 : fitI i b > b) : fitI i b = fitI i a := by
 unfold fitI mx mn at h2 ⊢
 repeat' split at h2
 all_goals (repeat' split)
 all_goals omega
/-- An item that takes what is left. -/
def takes (x : Fx) : Prop := x.fx = false ∧ x.i.f4 < 0 ∧ 1000 ≤ x.f ∧ x.i.f3 ≤ x.i.f0
theorem fac_ge : ∀ (xs : List Fx) (a : Int), (∀ x ∈ xs, okX x) → 0 ≤ a → xs.length ≤ 400 → a + 1000000 * xs.length ≤ 1000000000 → (∃ x ∈ xs, 1000 ≤ x.f) → 1000 ≤ xs.foldl (fun r x => wrap64 (r + x.f)) a
 | [], a, _, _, _, _, h => by obtain ⟨x, hx, _⟩ := h; cases hx
 | x :: r, a, hx, h0, hl, h1, he => by
  obtain ⟨_, h3, _⟩ := hx x (by simp)
  rw [List.length_cons] at hl h1
  push_cast at h1
  rw [List.foldl_cons, wrap_in (by omega) (by omega)]
  have hb := fac_bound r (a + x.f) (fun y hy => hx y (by simp [hy])) (by omega) (by omega) (by omega)
  obtain ⟨y, hy, hf⟩ := he
  rcases List.mem_cons.1 hy with rfl | hy
  · omega
  · exact fac_ge r (a + x.f) (fun y hy => hx y (by simp [hy])) (by omega) (by omega) (by omega) ⟨y, hy, hf⟩
theorem mem_mergeG {Hn : Fx → Int → Fx} : ∀ (xs : List Fx) (vs : List Int), vs.length = (opX xs).length → (∀ x ∈ xs, x.fx = true → x ∈ mergeG Hn xs vs) ∧ (∀ p ∈ (opX xs).zip vs, Hn p.1 p.2 ∈ mergeG Hn xs vs) ∧ (∀ z ∈ mergeG Hn xs vs, (z ∈ xs ∧ z.fx = true) ∨ ∃ p ∈ (opX xs).zip vs, z = Hn p.1 p.2)
 | [], _, _ => by simp [mergeG, opX]
 | x :: r, vs, h => by
  cases hf : x.fx with
  | true =>
   rw [opX_cons_fx hf] at h ⊢
   obtain ⟨a, b, c⟩ := mem_mergeG (Hn := Hn) r vs h
   rw [mergeG_fx hf]
   refine ⟨fun y hy hfy => ?_, fun p hp => List.mem_cons_of_mem _ (b p hp), fun z hz => ?_⟩
   · rcases List.mem_cons.1 hy with rfl | hy
     · simp
     · exact List.mem_cons_of_mem _ (a y hy hfy)
   · rcases List.mem_cons.1 hz with rfl | hz
     · exact .inl ⟨by simp, hf⟩
     · rcases c z hz with ⟨h1, h2⟩ | h1
       · exact .inl ⟨List.mem_cons_of_mem _ h1, h2⟩
       · exact .inr h1
  | false =>
   rw [opX_cons_op hf] at h ⊢
   cases vs with
   | nil => simp at h
   | cons v m =>
    obtain ⟨a, b, c⟩ := mem_mergeG (Hn := Hn) r m (by simpa using h)
    rw [mergeG_op hf, List.zip_cons_cons]
    refine ⟨fun y hy hfy => ?_, fun p hp => ?_, fun z hz => ?_⟩
    · rcases List.mem_cons.1 hy with rfl | hy
      · rw [hf] at hfy; cases hfy
      · exact List.mem_cons_of_mem _ (a y hy hfy)
    · rcases List.mem_cons.1 hp with rfl | hp
      · simp
      · exact List.mem_cons_of_mem _ (b p hp)
    · rcases List.mem_cons.1 hz with rfl | hz
      · exact .inr ⟨(x, v), by simp, rfl⟩
      · rcases c z hz with ⟨h1, h2⟩ | ⟨p, hp, e⟩
        · exact .inl ⟨List.mem_cons_of_mem _ h1, h2⟩
        · exact .inr ⟨p, List.mem_cons_of_mem _ hp, e⟩
theorem zip_left {α β : Type} {x : α} : ∀ {a : List α} {b : List β}, b.length = a.length → x ∈ a → ∃ v, (x, v) ∈ a.zip b
 | y :: t, z :: s, h, hx => by
  rcases List.mem_cons.1 hx with rfl | hx
  · exact ⟨z, by simp⟩
  · obtain ⟨v, hv⟩ := zip_left (by simpa using h) hx
    exact ⟨v, by rw [List.zip_cons_cons]; exact List.mem_cons_of_mem _ hv⟩
 | [], _, _, hx => by cases hx
 | _ :: _, [], h, _ => by simp at h
/-- Where an item takes what is left, the sizes are the room together. -/
theorem fills {first room : Int} (hr : 0 ≤ room ∧ room ≤ 100000000) (hf : -100000000000 ≤ first ∧ first ≤ 100000000) : ∀ (m : Nat) (xs : List Fx), (opX xs).length ≤ m → (∀ x ∈ xs, okX x) → xs.length ≤ 400 → (∀ x ∈ xs, x.fx = false → x.i.f0 ≤ fitB x) → t1 xs ≤ room → (∃ x ∈ xs, takes x) → sm ((iterP true first room m xs).map (·.t)) = room := by
 intro m
 induction m with
 | zero =>
  intro xs hm hx hl ho ht hj
  obtain ⟨x, hxm, hfx, _⟩ := hj
  have : x ∈ opX xs := List.mem_filter.2 ⟨hxm, by rw [hfx]; rfl⟩
  have := List.length_pos_of_mem this
  omega
 | succ m ih =>
  intro xs hm hx hl ho ht hj
  obtain ⟨j, hjm, hjf, hj4, hjw, hj3⟩ := hj
  have hjo : j ∈ opX xs := List.mem_filter.2 ⟨hjm, by rw [hjf]; rfl⟩
  have hz : ¬ (opX xs).length = 0 := by have := List.length_pos_of_mem hjo; omega
  rw [iterP, if_neg hz]
  have hrb := rest_bound hx hl hr hf
  have hol := opX_len xs
  have hoX : ∀ x ∈ opX xs, okX x := fun x h => hx x (opX_mem h)
  have hfac := fac_ge (opX xs) 0 hoX (by omega) (by omega) (by omega) ⟨j, hjo, hjw⟩
  have hle := left_eq xs room hx hl (by omega) hr.2
  have hrest : restX first room xs = leftF xs room := by
   unfold restX restF
   rw [if_neg]
   have : ¬ facX (opX xs) < 1000 := by unfold facX; omega
   rw [decide_eq_false this]
   simp
  have hrel := sh_rel (gr := true) (okW_wP (gr := true) hx hl) hrb
  have hvl := shP_len true (restX first room xs) (opX xs)
  have hless := round_less hrb hx hl hrel hvl (by omega)
  obtain ⟨a1, a2, a3, a4⟩ := merge_rel (tot := sumW (((opX xs).zip (shP true (restX first room xs) (opX xs))).map (fun p => idf true p.1 p.2))) hrb (RelL.refl xs) hrel hx hx hvl
  have hpair : ∀ p ∈ (opX xs).zip (shP true (restX first room xs) (opX xs)), p.1 ∈ opX xs ∧ ∃ u, PV true (restX first room xs) p.2 u := fun p hp => relI_zip hrel p hp
  obtain ⟨r, hr0⟩ : ∃ r, r = restX first room xs := ⟨_, rfl⟩
  rw [← hr0] at hrb hrest hrel hvl hless a2 a4 hpair
  have hre : roundP true first room xs = mergeG (iH true (sumW (((opX xs).zip (shP true r (opX xs))).map (fun p => idf true p.1 p.2)))) xs (shP true r (opX xs)) := by rw [hr0]; exact roundP_eq true first room xs
  have hsum : 0 ≤ r → sm (shP true r (opX xs)) = r := by
   intro h0
   unfold shP
   have hab := abs_eq (v := r) (by omega) (by omega)
   by_cases hg : r > 0
   · rw [if_pos (by unfold goF; rw [if_pos rfl, decide_eq_true hg]), spread_sum (by omega) (by omega) (okW_wP hx hl) (fun e => hz (by have := congrArg List.length e; rw [List.length_map] at this; exact this))]
     omega
   · rw [if_neg (by unfold goF; rw [if_pos rfl, decide_eq_false hg]; decide)]
     have : ∀ n : Nat, sm (List.replicate n 0) = 0 := fun n => by
      induction n with
      | zero => rfl
      | succ n ih => rw [List.replicate_succ]; simp only [sm]; omega
     rw [this]
     omega
  obtain ⟨vs, hvs⟩ : ∃ vs, vs = shP true r (opX xs) := ⟨_, rfl⟩
  rw [← hvs] at hrel hvl hless a2 a4 hpair hre hsum
  obtain ⟨tot, htt⟩ : ∃ t, t = sumW (((opX xs).zip vs).map (fun p => idf true p.1 p.2)) := ⟨_, rfl⟩
  rw [← htt] at hless a2 a4 hre
  rw [hre]
  have ht1 := t1_eq xs
  have hge : 0 ≤ r := by
   have h1 := sm_le (fun x : Fx => x.i.f0) fitB (opX xs) (fun x hxm => ho x (opX_mem hxm) (by have := (List.mem_filter.1 hxm).2; simpa using this))
   omega
  have hsum := hsum hge
  -- each open item's size
  have hs : ∀ p ∈ (opX xs).zip vs, (s2 true p.1 p.2).s = p.1.i.f0 + p.2 ∧ 0 ≤ p.2 ∧ idf true p.1 p.2 = fitI p.1.i (s2 true p.1 p.2).s - (s2 true p.1 p.2).s ∧ -200000000 ≤ idf true p.1 p.2 ∧ idf true p.1 p.2 ≤ 200000000 ∧ p.1.fx = false := by
   intro p hp
   obtain ⟨h1, u, h2⟩ := hpair p hp
   have hok := hoX _ h1
   have hd := d_val hok hrb h2
   have hsb := s_bound hok hrb h2
   have e : (s2 true p.1 p.2).s = wrap64 (p.1.i.f0 + p.2) := rfl
   have hb0 := hok.1.1
   refine ⟨?_, h2.1, hd.1, hd.2.1, hd.2.2, by have := (List.mem_filter.1 h1).2; simpa using this⟩
   rw [e]
   have hp2 : p.2 ≤ 100000000000 := by
    have hab := abs_eq (v := r) (by omega) (by omega)
    cases hg : goF true r with
    | true => have := (h2.2.1 hg).2; omega
    | false => rw [h2.2.2 hg]; decide
   have := h2.1
   rw [wrap_in (by omega) (by omega)]
  have htot : tot = sm (((opX xs).zip vs).map (fun p => fitI p.1.i (s2 true p.1 p.2).s)) - sm (((opX xs).zip vs).map (fun p => (s2 true p.1 p.2).s)) := by
   rw [← sm_sub, ← sm_congr (fun p => idf true p.1 p.2) _ _ (fun p hp => (hs p hp).2.2.1), htt]
   unfold sumW
   rw [sumW_sm _ 0 (fun d hd => by obtain ⟨p, hp, rfl⟩ := List.mem_map.1 hd; exact ⟨(hs p hp).2.2.2.1, (hs p hp).2.2.2.2.1⟩) (by rw [List.length_map, List.length_zip]; omega) (by rw [List.length_map, List.length_zip]; omega)]
   omega
  have hsS : sm (((opX xs).zip vs).map (fun p => (s2 true p.1 p.2).s)) = sm ((opX xs).map (fun x => x.i.f0)) + r := by
   rw [sm_congr _ (fun p => p.1.i.f0 + p.2) _ (fun p hp => (hs p hp).1), sm_add (fun p : Fx × Int => p.1.i.f0) (fun p : Fx × Int => p.2), zip_fst (fun x : Fx => x.i.f0) _ _ hvl, zip_snd (fun v : Int => v) _ _ hvl, List.map_id', hsum]
  have htm := t1_merge (iH true tot) xs vs hvl
  have hval : ∀ p ∈ (opX xs).zip vs, iH true tot p.1 p.2 = if hitF tot (s2 true p.1 p.2) = true then ⟨p.1.i, fitI p.1.i (s2 true p.1 p.2).s, p.1.f, true, (s2 true p.1 p.2).s⟩ else s2 true p.1 p.2 := fun p hp => rfl
  have hfx2 : ∀ p ∈ (opX xs).zip vs, (s2 true p.1 p.2).fx = false := fun p hp => (hs p hp).2.2.2.2.2
  by_cases h0 : tot = 0
  · -- all are fixed
    have hall : ∀ p ∈ (opX xs).zip vs, iH true tot p.1 p.2 = ⟨p.1.i, fitI p.1.i (s2 true p.1 p.2).s, p.1.f, true, (s2 true p.1 p.2).s⟩ := fun p hp => by
     rw [hval p hp, if_pos (by unfold hitF; rw [decide_eq_true h0]; rfl)]
    have hnone : (opX (mergeG (iH true tot) xs vs)).length = 0 := by
     rw [count_merge _ xs vs hvl, List.length_eq_zero_iff, List.filter_eq_nil_iff]
     intro p hp
     rw [hall p hp]
     simp
    rw [iterP_none hnone]
    have e : sm ((mergeG (iH true tot) xs vs).map (·.t)) = t1 (mergeG (iH true tot) xs vs) := by
     unfold t1
     refine sm_congr _ _ _ (fun z hzm => ?_)
     unfold t1e
     cases hfz : z.fx with
     | true => rw [if_pos rfl]
     | false =>
      have : z ∈ opX (mergeG (iH true tot) xs vs) := List.mem_filter.2 ⟨hzm, by rw [hfz]; rfl⟩
      have := List.length_pos_of_mem this
      omega
    rw [e, htm, sm_congr _ (fun p => fitI p.1.i (s2 true p.1 p.2).s) _ (fun p hp => by rw [hall p hp]; rfl)]
    omega
  · have hjv := zip_left hvl hjo
    obtain ⟨v, hjz⟩ := hjv
    have hjs := hs _ hjz
    dsimp only at hjs
    have hjfit : fitI j.i (s2 true j v).s = (s2 true j v).s := by
     have := hjs.1
     have := hjs.2.1
     unfold fitI mx
     rw [if_neg (by omega), if_neg (by omega)]
    have hjnot : hitF tot (s2 true j v) = false := by
     unfold hitF
     have hi : (s2 true j v).i = j.i := rfl
     rw [hi, hjfit, decide_eq_false h0, decide_eq_false (show ¬ (s2 true j v).s > (s2 true j v).s by omega)]
     simp
    have hmem := mem_mergeG (Hn := iH true tot) xs vs hvl
    have htakes : ∃ x ∈ mergeG (iH true tot) xs vs, takes x := by
     refine ⟨_, hmem.2.1 _ hjz, ?_⟩
     rw [hval _ hjz]
     dsimp only
     rw [hjnot, if_neg (by decide)]
     exact ⟨hjf, hj4, hjw, hj3⟩
    have hopen : ∀ z ∈ mergeG (iH true tot) xs vs, z.fx = false → z.i.f0 ≤ fitB z := by
     intro z hzm hfz
     rcases hmem.2.2 z hzm with ⟨_, h2⟩ | ⟨p, hp, e⟩
     · rw [hfz] at h2; cases h2
     · rw [hval p hp] at e
       by_cases hh : hitF tot (s2 true p.1 p.2) = true
       · rw [if_pos hh] at e; rw [e] at hfz; cases hfz
       · rw [if_neg hh] at e
         rw [e]
         exact ho p.1 (opX_mem (hpair p hp).1) (hs p hp).2.2.2.2.2
    refine ih _ (by omega) a2 (by omega) hopen ?_ htakes
    rw [htm]
    by_cases h1 : tot > 0
    · have : sm (((opX xs).zip vs).map (fun p => t1e (iH true tot p.1 p.2))) = sm ((opX xs).map fitB) := by
       rw [← zip_fst fitB (opX xs) vs hvl]
       refine sm_congr _ _ _ (fun p hp => ?_)
       rw [hval p hp]
       have hsp := hs p hp
       by_cases hh : hitF tot (s2 true p.1 p.2) = true
       · rw [if_pos hh]
         unfold t1e
         rw [if_pos rfl]
         unfold hitF at hh
         have hi : (s2 true p.1 p.2).i = p.1.i := rfl
         rw [hi, decide_eq_false h0, decide_eq_true h1, decide_eq_false (show ¬ tot < 0 by omega)] at hh
         simp only [Bool.true_and, Bool.false_and, Bool.or_false, Bool.false_or, decide_eq_true_eq] at hh
         exact fit_up (by omega) hh
       · rw [if_neg hh]
         unfold t1e
         rw [hfx2 p hp, if_neg (by decide)]
         rfl
      omega
    · have : sm (((opX xs).zip vs).map (fun p => t1e (iH true tot p.1 p.2))) ≤ sm (((opX xs).zip vs).map (fun p => fitI p.1.i (s2 true p.1 p.2).s)) := by
       refine sm_le _ _ _ (fun p hp => ?_)
       rw [hval p hp]
       have hsp := hs p hp
       by_cases hh : hitF tot (s2 true p.1 p.2) = true
       · rw [if_pos hh]
         unfold t1e
         rw [if_pos rfl]
         exact Int.le_refl _
       · rw [if_neg hh]
         unfold t1e
         rw [hfx2 p hp, if_neg (by decide)]
         exact fit_mono (i := p.1.i) (a := p.1.i.f0) (by omega)
      omega
/-! ### what is drawn -/
theorem below_big (c : List Int) (hc : c.length ≤ 1048576) (p s n : Int) (h0 : 0 ≤ p) (h1 : p ≤ 1048576) (hn : 0 < n) (hn2 : n ≤ 1000000) : ∃ v p' s', spec_l1Below.f c p s n = some (v, p', s') ∧ 0 ≤ v ∧ v < n ∧ 0 ≤ p' ∧ p' ≤ 1048576 := by
 by_cases h : n ≤ 256
 · exact below_ev c hc p s n h0 h1 hn h
 · obtain ⟨x, p1, s1, e1, a1, b1, c1, d1⟩ := byte_ev c hc p s h0 h1
   obtain ⟨y, p2, s2, e2, a2, b2, c2, d2⟩ := byte_ev c hc p1 s1 c1 d1
   obtain ⟨z, p3, s3, e3, a3, b3, c3, d3⟩ := byte_ev c hc p2 s2 c2 d2
   unfold spec_l1Below.f
   rw [if_neg (by omega), if_neg h, e1, Option.bind_some]
   dsimp only
   rw [e2, Option.bind_some]
   dsimp only
   rw [e3, Option.bind_some]
   dsimp only
   rw [if_neg (by omega)]
   refine ⟨_, _, _, rfl, Int.tmod_nonneg n ?_, Int.tmod_lt_of_pos _ hn, c3, d3⟩
   rw [wrap_in (i := x * 65536) (by omega) (by omega), wrap_in (i := y * 256) (by omega) (by omega), wrap_in (i := x * 65536 + y * 256) (by omega) (by omega), wrap_in (by omega) (by omega)]
   omega
theorem spread_fill (c : List Int) (hc : c.length ≤ 1048576) (t : Int) : ∀ (n : Nat) (xs : List Int) (p s : Int), 401 - xs.length = n → xs.length ≤ 401 → 0 ≤ p → p ≤ 1048576 → ∃ ys, Ev (fun k => spec_DrawSpread.l1 k xs t c p s) (t, ys) := by
 intro n
 induction n with
 | zero =>
  intro xs p s hd hl h0 h1
  obtain ⟨v, p', s', e, g0, g1, g2, g3⟩ := below_ev c hc p s 2 h0 h1 (by omega) (by omega)
  exact ⟨xs, Ev.step (fun k => spec_DrawSpread.l1.eq_2 xs t c p s k) (ev_bc e (ev_neg (by rw [wrap_in (by omega) (by omega)]; omega) (ev_now rfl)))⟩
 | succ n ih =>
  intro xs p s hd hl h0 h1
  obtain ⟨v, p', s', e, g0, g1, g2, g3⟩ := below_ev c hc p s 2 h0 h1 (by omega) (by omega)
  by_cases g : (xs.length : Int) < wrap64 (400 + v)
  · obtain ⟨ys, k⟩ := ih (xs ++ [1]) p' s' (by rw [List.length_append]; simp only [List.length_cons, List.length_nil]; omega) (by rw [List.length_append]; simp only [List.length_cons, List.length_nil]; omega) g2 g3
    exact ⟨ys, Ev.step (fun k => spec_DrawSpread.l1.eq_2 xs t c p s k) (ev_bc e (ev_pos g (ev_pos (by omega) k)))⟩
  · exact ⟨xs, Ev.step (fun k => spec_DrawSpread.l1.eq_2 xs t c p s k) (ev_bc e (ev_neg g (ev_now rfl)))⟩
theorem spread_loop (c : List Int) (hc : c.length ≤ 1048576) : ∀ (n : Nat) (xs : List Int) (p s : Int), xs.length + n ≤ 12 → 0 ≤ p → p ≤ 1048576 → ∃ t ys, Ev (fun k => spec_DrawSpread.l0 k xs n c p s) (t, ys) := by
 intro n
 induction n with
 | zero =>
  intro xs p s hl h0 h1
  obtain ⟨v, p', s', e, g0, g1, g2, g3⟩ := below_ev c hc p s 9 h0 h1 (by omega) (by omega)
  obtain ⟨u, p2, s2, e2, q0, q1, q2, q3⟩ := below_ev c hc p' s' 40 g2 g3 (by omega) (by omega)
  by_cases c0 : u = 0
  · obtain ⟨x, p3, s3, e3, x0, x1, x2, x3⟩ := below_ev c hc p2 s2 2 q2 q3 (by omega) (by omega)
    exact ⟨_, _, Ev.step (fun k => spec_DrawSpread.l0.eq_2 xs _ c p s k) (ev_neg (by omega) (ev_bs (ev_bc e (ev_pos g0 (ev_pos (by simp only [List.length_cons, List.length_nil]; omega) (ev_bc e2 (ev_pos c0 (ev_bs (ev_bc e3 (ev_pos x0 (ev_pos (by simp only [List.length_cons, List.length_nil]; omega) (ev_pos (by omega) (ev_now rfl)))))))))))))⟩
  · by_cases c1 : u = 1
    · obtain ⟨ys, k⟩ := spread_fill c hc (rd [0, 1, 10, 100, 12345, 100000000000, 100000000001, (-1), 7] v) _ xs p2 s2 rfl (by omega) q2 q3
      exact ⟨_, ys, Ev.step (fun k => spec_DrawSpread.l0.eq_2 xs _ c p s k) (ev_neg (by omega) (ev_bs (ev_bc e (ev_pos g0 (ev_pos (by simp only [List.length_cons, List.length_nil]; omega) (ev_bc e2 (ev_neg c0 (ev_pos c1 k))))))))⟩
    · exact ⟨_, _, Ev.step (fun k => spec_DrawSpread.l0.eq_2 xs _ c p s k) (ev_neg (by omega) (ev_bs (ev_bc e (ev_pos g0 (ev_pos (by simp only [List.length_cons, List.length_nil]; omega) (ev_bc e2 (ev_neg c0 (ev_neg c1 (ev_now rfl)))))))))⟩
 | succ n ih =>
  intro xs p s hl h0 h1
  obtain ⟨v, p', s', e, g0, g1, g2, g3⟩ := below_ev c hc p s 8 h0 h1 (by omega) (by omega)
  obtain ⟨t, ys, k⟩ := ih (xs ++ [rd [0, 1, 2, 3, 7, 1000, 100000000000, 12345] v]) p' s' (by rw [List.length_append]; simp only [List.length_cons, List.length_nil]; omega) g2 g3
  have hn : wrap64 (((n + 1 : Nat) : Int) - 1) = (n : Int) := by rw [wrap_in (by omega) (by omega)]; omega
  refine ⟨t, ys, Ev.step (fun k => spec_DrawSpread.l0.eq_2 xs _ c p s k) (ev_pos (by omega) (ev_bs (ev_bc e (ev_pos g0 (ev_pos (by simp only [List.length_cons, List.length_nil]; omega) (ev_pos (by omega) ?_))))))⟩
  rw [hn]; exact k
theorem spread_draw (c : List Int) (hc : c.length ≤ 1048576) : ∃ t ys, Ev (fun k => spec_DrawSpread.f k c) (t, ys) := by
 obtain ⟨s0, k0⟩ := new_ev c hc
 obtain ⟨n, p1, s1, e1, n0, _, a1, b1⟩ := below_ev c hc 0 s0 12 (by omega) (by omega) (by omega) (by omega)
 obtain ⟨m, rfl⟩ := Int.eq_ofNat_of_zero_le n0
 obtain ⟨t, ys, k⟩ := spread_loop c hc m [] p1 s1 (by simp only [List.length_nil]; omega) a1 b1
 exact ⟨t, ys, Ev.congr (fun k => spec_DrawSpread.f.eq_1 k c) (Ev.bind k0 (ev_bc e1 k))⟩
theorem itemM_ev (c : List Int) (hc : c.length ≤ 1048576) (p s n e : Int) (h0 : 0 ≤ p) (h1 : p ≤ 1048576) (hn : 0 < n) (hn2 : n ≤ 1000000) : ∃ v p' s', itemM c p s n e = some (v, p', s') ∧ 0 ≤ p' ∧ p' ≤ 1048576 := by
 obtain ⟨d, p1, s1, e1, _, _, a1, b1⟩ := below_big c hc p s 3 h0 h1 (by omega) (by omega)
 unfold itemM
 rw [e1, Option.bind_some]
 dsimp only
 by_cases hd : d = 0
 · rw [if_pos hd]
   obtain ⟨v, p2, s2, e2, _, _, a2, b2⟩ := below_big c hc p1 s1 n a1 b1 hn hn2
   exact ⟨v, p2, s2, e2, a2, b2⟩
 · rw [if_neg hd]
   exact ⟨_, _, _, rfl, a1, b1⟩
theorem item_ev (c : List Int) (hc : c.length ≤ 1048576) (p s : Int) (h0 : 0 ≤ p) (h1 : p ≤ 1048576) : ∃ a b d e f p' s', spec_l16Item.f c p s = some (a, b, d, e, f, p', s') ∧ 0 ≤ p' ∧ p' ≤ 1048576 := by
 obtain ⟨x1, p1, s1, e1, _, _, a1, b1⟩ := below_big c hc p s 400 h0 h1 (by omega) (by omega)
 obtain ⟨x2, p2, s2, e2, l2, m2, a2, b2⟩ := below_big c hc p1 s1 6 a1 b1 (by omega) (by omega)
 obtain ⟨x3, p3, s3, e3, l3, m3, a3, b3⟩ := below_big c hc p2 s2 5 a2 b2 (by omega) (by omega)
 obtain ⟨x4, p4, s4, e4, a4, b4⟩ := itemM_ev c hc p3 s3 300 0 a3 b3 (by omega) (by omega)
 obtain ⟨x5, p5, s5, e5, a5, b5⟩ := itemM_ev c hc p4 s4 400 (-1) a4 b4 (by omega) (by omega)
 unfold spec_l16Item.f
 rw [e1, Option.bind_some]
 dsimp only
 rw [e2, Option.bind_some]
 dsimp only
 rw [e3, Option.bind_some]
 dsimp only
 rw [if_pos ⟨⟨l2, m2⟩, l3, m3⟩, e4, Option.bind_some]
 dsimp only
 rw [e5, Option.bind_some]
 exact ⟨_, _, _, _, _, _, _, rfl, a5, b5⟩
theorem items_fill (c : List Int) (hc : c.length ≤ 1048576) (t : Int) : ∀ (n : Nat) (xs : List S66) (p s : Int), 401 - xs.length = n → xs.length ≤ 401 → 0 < xs.length → 0 ≤ p → p ≤ 1048576 → ∃ ys : List S66, Ev (fun k => spec_DrawFlexShares.l1 k xs t c p s) (ys, t) := by
 intro n
 induction n with
 | zero =>
  intro xs p s hd hl hp h0 h1
  obtain ⟨v, p', s', e, g0, g1, g2, g3⟩ := below_ev c hc p s 2 h0 h1 (by omega) (by omega)
  exact ⟨xs, Ev.step (fun k => spec_DrawFlexShares.l1.eq_2 xs t c p s k) (ev_bc e (ev_neg (by rw [wrap_in (by omega) (by omega)]; omega) (ev_now rfl)))⟩
 | succ n ih =>
  intro xs p s hd hl hp h0 h1
  obtain ⟨v, p', s', e, g0, g1, g2, g3⟩ := below_ev c hc p s 2 h0 h1 (by omega) (by omega)
  by_cases g : (xs.length : Int) < wrap64 (400 + v)
  · obtain ⟨ys, k⟩ := ih (xs ++ [(⟨(rd_T66 xs 0).f0, (rd_T66 xs 0).f1, (rd_T66 xs 0).f2, (rd_T66 xs 0).f3, (rd_T66 xs 0).f4⟩ : S66)]) p' s' (by rw [List.length_append]; simp only [List.length_cons, List.length_nil]; omega) (by rw [List.length_append]; simp only [List.length_cons, List.length_nil]; omega) (by rw [List.length_append]; simp only [List.length_cons, List.length_nil]; omega) g2 g3
    exact ⟨ys, Ev.step (fun k => spec_DrawFlexShares.l1.eq_2 xs t c p s k) (ev_bc e (ev_pos g (ev_pos (by omega) (ev_pos (by omega) k))))⟩
  · exact ⟨xs, Ev.step (fun k => spec_DrawFlexShares.l1.eq_2 xs t c p s k) (ev_bc e (ev_neg g (ev_now rfl)))⟩
theorem items_end (c : List Int) (hc : c.length ≤ 1048576) (xs : List S66) (n : Int) (hn : ¬ n > 0) (p s : Int) (hl : xs.length ≤ 9) (h0 : 0 ≤ p) (h1 : p ≤ 1048576) : ∃ (ys : List S66) (t : Int), Ev (fun k => spec_DrawFlexShares.l0 k xs n c p s) (ys, t) := by
 obtain ⟨v, p1, s1, e1, _, _, a1, b1⟩ := below_big c hc p s 2000 h0 h1 (by omega) (by omega)
 by_cases hp : 0 < xs.length
 · obtain ⟨at_, p2, s2, e2, l2, m2, a2, b2⟩ := below_ev c hc p1 s1 (xs.length : Int) a1 b1 (by omega) (by omega)
   obtain ⟨u, p3, s3, e3, _, _, a3, b3⟩ := below_ev c hc p2 s2 40 a2 b2 (by omega) (by omega)
   obtain ⟨x3, q3, t3, f3, y3, z3, _, _⟩ := below_ev c hc p3 s3 3 a3 b3 (by omega) (by omega)
   obtain ⟨x2, q2, t2, f2, y2, z2, _, _⟩ := below_ev c hc p3 s3 2 a3 b3 (by omega) (by omega)
   by_cases c0 : u = 0
   · exact ⟨_, _, Ev.step (fun k => spec_DrawFlexShares.l0.eq_2 xs n c p s k) (ev_neg hn (ev_bc e1 (ev_pos (by omega) (ev_bc e2 (ev_bc e3 (ev_pos c0 (ev_bs (ev_bc f3 (ev_pos y3 (ev_pos (by simp only [List.length_cons, List.length_nil]; omega) (ev_pos l2 (ev_pos m2 (ev_now rfl)))))))))))))⟩
   · by_cases c1 : u = 1
     · exact ⟨_, _, Ev.step (fun k => spec_DrawFlexShares.l0.eq_2 xs n c p s k) (ev_neg hn (ev_bc e1 (ev_pos (by omega) (ev_bc e2 (ev_bc e3 (ev_neg c0 (ev_pos c1 (ev_bs (ev_bc f3 (ev_pos y3 (ev_pos (by simp only [List.length_cons, List.length_nil]; omega) (ev_pos l2 (ev_pos m2 (ev_now rfl))))))))))))))⟩
     · by_cases c2 : u = 2
       · exact ⟨_, _, Ev.step (fun k => spec_DrawFlexShares.l0.eq_2 xs n c p s k) (ev_neg hn (ev_bc e1 (ev_pos (by omega) (ev_bc e2 (ev_bc e3 (ev_neg c0 (ev_neg c1 (ev_pos c2 (ev_bs (ev_bc f2 (ev_pos y2 (ev_pos (by simp only [List.length_cons, List.length_nil]; omega) (ev_pos l2 (ev_pos m2 (ev_now rfl)))))))))))))))⟩
       · by_cases c3 : u = 3
         · exact ⟨_, _, Ev.step (fun k => spec_DrawFlexShares.l0.eq_2 xs n c p s k) (ev_neg hn (ev_bc e1 (ev_pos (by omega) (ev_bc e2 (ev_bc e3 (ev_neg c0 (ev_neg c1 (ev_neg c2 (ev_pos c3 (ev_bs (ev_bc f2 (ev_pos y2 (ev_pos (by simp only [List.length_cons, List.length_nil]; omega) (ev_pos l2 (ev_pos m2 (ev_now rfl))))))))))))))))⟩
         · by_cases c4 : u = 4
           · exact ⟨_, _, Ev.step (fun k => spec_DrawFlexShares.l0.eq_2 xs n c p s k) (ev_neg hn (ev_bc e1 (ev_pos (by omega) (ev_bc e2 (ev_bc e3 (ev_neg c0 (ev_neg c1 (ev_neg c2 (ev_neg c3 (ev_pos c4 (ev_bs (ev_bc f3 (ev_pos y3 (ev_pos (by simp only [List.length_cons, List.length_nil]; omega) (ev_now rfl)))))))))))))))⟩
           · by_cases c5 : u = 5
             · obtain ⟨ys, k⟩ := items_fill c hc v _ xs p3 s3 rfl (by omega) hp a3 b3
               exact ⟨ys, v, Ev.step (fun k => spec_DrawFlexShares.l0.eq_2 xs n c p s k) (ev_neg hn (ev_bc e1 (ev_pos (by omega) (ev_bc e2 (ev_bc e3 (ev_neg c0 (ev_neg c1 (ev_neg c2 (ev_neg c3 (ev_neg c4 (ev_pos c5 k)))))))))))⟩
             · exact ⟨_, _, Ev.step (fun k => spec_DrawFlexShares.l0.eq_2 xs n c p s k) (ev_neg hn (ev_bc e1 (ev_pos (by omega) (ev_bc e2 (ev_bc e3 (ev_neg c0 (ev_neg c1 (ev_neg c2 (ev_neg c3 (ev_neg c4 (ev_neg c5 (ev_now rfl))))))))))))⟩
 · exact ⟨_, _, Ev.step (fun k => spec_DrawFlexShares.l0.eq_2 xs n c p s k) (ev_neg hn (ev_bc e1 (ev_neg (by omega) (ev_now rfl))))⟩
theorem items_loop (c : List Int) (hc : c.length ≤ 1048576) : ∀ (n : Nat) (xs : List S66) (p s : Int), xs.length + n ≤ 9 → 0 ≤ p → p ≤ 1048576 → ∃ (ys : List S66) (t : Int), Ev (fun k => spec_DrawFlexShares.l0 k xs n c p s) (ys, t) := by
 intro n
 induction n with
 | zero =>
  intro xs p s hl h0 h1
  exact items_end c hc xs _ (by omega) p s (by omega) h0 h1
 | succ n ih =>
  intro xs p s hl h0 h1
  obtain ⟨a, b, d, e, f, p1, s1, e1, a1, b1⟩ := item_ev c hc p s h0 h1
  obtain ⟨ys, t, k⟩ := ih (xs ++ [(⟨a, b, d, e, f⟩ : S66)]) p1 s1 (by rw [List.length_append]; simp only [List.length_cons, List.length_nil]; omega) a1 b1
  have hn : wrap64 (((n + 1 : Nat) : Int) - 1) = (n : Int) := by rw [wrap_in (by omega) (by omega)]; omega
  refine ⟨ys, t, Ev.step (fun k => spec_DrawFlexShares.l0.eq_2 xs _ c p s k) (ev_pos (by omega) (ev_bc e1 (ev_pos (by omega) ?_)))⟩
  rw [hn]; exact k
theorem items_draw (c : List Int) (hc : c.length ≤ 1048576) : ∃ (ys : List S66) (t : Int), Ev (fun k => spec_DrawFlexShares.f k c) (ys, t) := by
 obtain ⟨s0, k0⟩ := new_ev c hc
 obtain ⟨n, p1, s1, e1, n0, _, a1, b1⟩ := below_ev c hc 0 s0 9 (by omega) (by omega) (by omega) (by omega)
 obtain ⟨m, rfl⟩ := Int.eq_ofNat_of_zero_le n0
 obtain ⟨ys, t, k⟩ := items_loop c hc m [] p1 s1 (by simp only [List.length_nil]; omega) a1 b1
 exact ⟨ys, t, Ev.congr (fun k => spec_DrawFlexShares.f.eq_1 k c) (Ev.bind k0 (ev_bc e1 k))⟩
/-! ### the sizes of both sides, and what the law asks of them -/
theorem same_ev (xs : List Int) (hn : xs.length ≤ 140737488351232) : Ev (fun k => laws_sameInts.f k xs xs) true := by
 refine Ev.congr (fun k => laws_sameInts.f.eq_1 k xs xs) (ev_pos rfl ?_)
 refine ev_count (g := fun k i => laws_sameInts.l0 k xs xs i) xs.length (fun _ => true) (Ev.step (fun k => laws_sameInts.l0.eq_2 xs xs _ k) (ev_neg (by omega) (ev_now rfl))) ?_ 0 (Nat.zero_le _)
 intro i h ih
 refine Ev.step (fun k => laws_sameInts.l0.eq_2 xs xs i k) (ev_pos (by omega) (ev_pos (by omega) (ev_pos (by omega) (ev_pos rfl ?_))))
 rw [wrap_succ (by omega)]
 exact ih
theorem fit_in {gr : Bool} {first room : Int} : ∀ (m : Nat) (xs : List Fx), (∀ x ∈ xs, ∃ v, x.t = fitI x.i v) → (∀ x ∈ iterP gr first room m xs, ∃ v, x.t = fitI x.i v) ∧ (iterP gr first room m xs).map (·.i) = xs.map (·.i)
 | 0, xs, h => ⟨h, rfl⟩
 | m + 1, xs, h => by
  unfold iterP
  by_cases hz : (opX xs).length = 0
  · rw [if_pos hz]; exact ⟨h, rfl⟩
  · rw [if_neg hz, roundP_eq]
    have hvl := shP_len gr (restX first room xs) (opX xs)
    obtain ⟨vs, hvs⟩ : ∃ vs, vs = shP gr (restX first room xs) (opX xs) := ⟨_, rfl⟩
    rw [← hvs] at hvl ⊢
    obtain ⟨tot, htt⟩ : ∃ t, t = sumW (((opX xs).zip vs).map (fun p => idf gr p.1 p.2)) := ⟨_, rfl⟩
    rw [← htt]
    have key : ∀ (zs : List Fx) (us : List Int), (∀ x ∈ zs, ∃ v, x.t = fitI x.i v) → us.length = (opX zs).length → (∀ x ∈ mergeG (iH gr tot) zs us, ∃ v, x.t = fitI x.i v) ∧ (mergeG (iH gr tot) zs us).map (·.i) = zs.map (·.i) := by
     intro zs
     induction zs with
     | nil => intro us _ _; exact ⟨fun x hx => (by simp [mergeG] at hx), rfl⟩
     | cons z t ih =>
      intro us hz2 hl
      cases hf : z.fx with
      | true =>
       rw [opX_cons_fx hf] at hl
       obtain ⟨a1, a2⟩ := ih us (fun x hx => hz2 x (by simp [hx])) hl
       rw [mergeG_fx hf]
       refine ⟨fun x hx => ?_, by rw [List.map_cons, List.map_cons, a2]⟩
       rcases List.mem_cons.1 hx with rfl | hx
       · exact hz2 _ (by simp)
       · exact a1 x hx
      | false =>
       rw [opX_cons_op hf] at hl
       cases us with
       | nil => simp at hl
       | cons u us =>
        obtain ⟨a1, a2⟩ := ih us (fun x hx => hz2 x (by simp [hx])) (by simpa using hl)
        rw [mergeG_op hf]
        have hi : (iH gr tot z u).i = z.i := by unfold iH s3; split <;> rfl
        refine ⟨fun x hx => ?_, by rw [List.map_cons, List.map_cons, a2, hi]⟩
        rcases List.mem_cons.1 hx with rfl | hx
        · unfold iH s3
          split
          · exact ⟨_, rfl⟩
          · exact hz2 z (by simp)
        · exact a1 x hx
    obtain ⟨k1, k2⟩ := key xs vs h hvl
    obtain ⟨r1, r2⟩ := fit_in (gr := gr) (first := first) (room := room) m _ k1
    exact ⟨r1, r2.trans k2⟩
theorem sumT_eq : ∀ (items : List S66) (a : Int), (∀ i ∈ items, okI i) → items.length ≤ 400 → 0 ≤ a → a + 200000000 * items.length ≤ 1000000000000 → sumT (items.map beg1) a = a + sm (items.map (fun i => fitI i i.f0))
 | [], a, _, _, _, _ => by simp [sumT, sm]
 | i :: t, a, h, hl, h0, h1 => by
  have hi := h i (by simp)
  have hf := fit_bound hi hi.1.1 (by have := hi.1.2; omega)
  rw [List.length_cons] at hl h1
  push_cast at h1
  have e : sumT ((i :: t).map beg1) a = sumT (t.map beg1) (a + fitI i i.f0) := by
   unfold sumT
   rw [List.map_cons, List.foldl_cons]
   show List.foldl _ (wrap64 (a + fitI i i.f0)) _ = _
   rw [wrap_in (by omega) (by omega)]
  rw [e, sumT_eq t _ (fun j hj => h j (by simp [hj])) (by omega) (by omega) (by omega)]
  simp only [List.map_cons, sm]
  omega
/-- What is asked of the sizes. -/
def fills_ (i : S66) : Prop := i.f4 < 0 ∧ i.f1 ≥ 1000 ∧ i.f0 ≥ i.f3
theorem sizes (items : List S66) (room : Int) : ∃ r : List Int, r.length ≤ 400 ∧ Ev (fun k => impl_FlexShares.f k items room) r ∧ Ev (fun k => spec_FlexShares.f k items room) r ∧
 (r = [] ∨ (r.length = items.length ∧ (∀ i ∈ items, okI i) ∧ (∀ n (h : n < r.length) (h2 : n < items.length), ∃ v, r[n] = fitI items[n] v ∧ 0 ≤ r[n] ∧ r[n] ≤ 200000000) ∧ ((∃ i ∈ items, fills_ i) → sm (items.map (fun i => fitI i i.f0)) < room → sm r = room))) := by
 cases hok : flexOk items room with
 | false =>
  refine ⟨[], by simp, impl_flex_ev items room [] (fun _ => rfl) (fun h => by rw [hok] at h; cases h), ?_, .inl rfl⟩
  refine Ev.congr (fun k => spec_FlexShares.f.eq_1 k items room) (Ev.bind (items_ok items room) ?_)
  rw [hok]
  exact ev_neg (by decide) (ev_now rfl)
 | true =>
  have h := hok
  unfold flexOk at h
  simp only [Bool.and_eq_true, decide_eq_true_eq, List.all_eq_true] at h
  obtain ⟨hl, hr, hall⟩ := h
  have hI : ∀ i ∈ items, okI i := fun i hi => okb_okI (hall i hi)
  have hx := begL_ok (room := room) hI
  have hlen := begL_len items room
  have hlb := left_bound (begL items room) room hx (by omega) (by omega) hr.2
  have hsT := sumT_eq items 0 hI hl (by omega) (by omega)
  obtain ⟨gr, hgr⟩ : ∃ g, g = decide (sumT (items.map beg1) 0 < room) := ⟨_, rfl⟩
  obtain ⟨q1, q0, q2, q3⟩ := run_iter (gr := gr) (room := room) (first := leftF (begL items room) room) hr (by omega) (opX (begL items room)).length (begL items room) (begL items room) (Nat.le_refl _) (RelL.refl _) hx hx (by omega)
  obtain ⟨zs, hzs⟩ : ∃ zs, zs = iterP gr (leftF (begL items room) room) room (opX (begL items room)).length (begL items room) := ⟨_, rfl⟩
  have hbt : ∀ x ∈ begL items room, ∃ v, x.t = fitI x.i v := by
   intro x hxm
   unfold begL at hxm
   obtain ⟨y, hy, rfl⟩ := List.mem_map.1 hxm
   obtain ⟨i, hi, rfl⟩ := List.mem_map.1 hy
   exact ⟨i.f0, rfl⟩
  obtain ⟨f1, f2⟩ := fit_in (gr := gr) (first := leftF (begL items room) room) (room := room) (opX (begL items room)).length (begL items room) hbt
  rw [← hzs] at q0 q1 q2 q3 f1 f2
  rw [begL_items] at f2
  have hzt : ∀ x ∈ zs, 0 ≤ x.t ∧ x.t ≤ 200000000 := by
   have key : ∀ (m : Nat) (xs : List Fx), (∀ x ∈ xs, okX x) → xs.length ≤ 400 → ∀ x ∈ iterP gr (leftF (begL items room) room) room m xs, okX x := by
    intro m
    induction m with
    | zero => intro xs h _; exact h
    | succ m ih =>
     intro xs h hl2
     unfold iterP
     by_cases hz : (opX xs).length = 0
     · rw [if_pos hz]; exact h
     · rw [if_neg hz]
       have hrb := rest_bound (first := leftF (begL items room) room) h hl2 hr (by omega)
       obtain ⟨_, a2, _, a4⟩ := merge_rel (tot := sumW (((opX xs).zip (shP gr (restX (leftF (begL items room) room) room xs) (opX xs))).map (fun p => idf gr p.1 p.2))) hrb (RelL.refl xs) (sh_rel (gr := gr) (okW_wP (gr := gr) h hl2) hrb) h h (shP_len gr _ _)
       rw [← roundP_eq] at a2 a4
       exact ih _ a2 (by omega)
   intro x hxm
   rw [hzs] at hxm
   exact (key _ _ hx (by omega) x hxm).2.2
  refine ⟨zs.map (·.t), by rw [List.length_map]; omega, impl_flex_ev items room _ (fun h => by rw [hok] at h; cases h) (fun _ => ?_), ?_, .inr ⟨by rw [List.length_map]; omega, hI, ?_, ?_⟩⟩
  · refine Ev.congr (fun k => impl_flexShares.f.eq_1 k items room) (ev_pos (by omega) ?_)
    rw [← hgr]
    exact q2 0
  · refine Ev.congr (fun k => spec_FlexShares.f.eq_1 k items room) (Ev.bind (items_ok items room) ?_)
    rw [hok]
    refine ev_pos rfl (Ev.bind ?_ (ev_now rfl))
    refine Ev.congr (fun k => spec_l16Flex.f.eq_1 k items room) (ev_pos (by omega) ?_)
    have e0 : begS items room = toS (begL items room) gr room 0 := by unfold begS toS; rw [begL_items, hgr]
    have e : begSS items room = toS (begL items room) gr room (leftF (begL items room) room) := by
     unfold begSS
     rw [e0]
     have h2 := left_toS (begL items room) gr room 0
     rw [show (toS (begL items room) gr room 0).items.length = items.length by unfold toS; rw [begL_items]] at h2
     rw [h2]
     unfold toS
     rw [begL_items, hgr]
    rw [e]
    exact q3 0
  · intro n hn hn2
    rw [List.length_map] at hn
    rw [List.getElem_map]
    obtain ⟨v, hv⟩ := f1 zs[n] (List.getElem_mem hn)
    have hb := hzt zs[n] (List.getElem_mem hn)
    have hi : zs[n].i = items[n] := by
     have := congrArg (fun l : List S66 => l[n]?) f2
     simp only [List.getElem?_map, List.getElem?_eq_getElem hn, List.getElem?_eq_getElem hn2, Option.map_some, Option.some.injEq] at this
     exact this
    exact ⟨v, by rw [hv, hi], hb⟩
  · rintro ⟨i, him, hi4, hi1, hi0⟩ hlt
    have hg : gr = true := by rw [hgr, decide_eq_true]; omega
    subst hg
    rw [hzs]
    refine fills hr (by omega) _ _ (Nat.le_refl _) hx (by omega) ?_ ?_ ?_
    · intro x hxm hfx
      unfold begL at hxm
      obtain ⟨y, hy, rfl⟩ := List.mem_map.1 hxm
      obtain ⟨j, hj, rfl⟩ := List.mem_map.1 hy
      rw [← hgr] at hfx
      have hfx2 : ((decide (clampI (if true = true then j.f1 else j.f2) = 0) || (true && decide (j.f0 > fitI j j.f0))) || (!true && decide (j.f0 < fitI j j.f0))) = false := hfx
      simp only [Bool.or_eq_false_iff, Bool.and_eq_false_iff, decide_eq_false_iff_not] at hfx2
      show j.f0 ≤ fitI j j.f0
      have := hfx2.1.2
      rcases this with h | h
      · cases h
      · omega
    · have e : t1 (begL items room) = sm (items.map (fun i => fitI i i.f0)) := by
       unfold t1 begL
       rw [List.map_map, List.map_map]
       refine sm_congr _ _ _ (fun j hj => ?_)
       show t1e (beg2 _ (beg1 j)) = _
       unfold t1e
       split
       · rfl
       · rfl
      omega
    · refine ⟨beg2 (decide (sumT (items.map beg1) 0 < room)) (beg1 i), ?_, ?_⟩
      · unfold begL
        exact List.mem_map.2 ⟨_, List.mem_map.2 ⟨i, him, rfl⟩, rfl⟩
      · rw [← hgr]
        have hok1 := hI i him
        have hcl : clampI i.f1 ≥ 1000 := by unfold clampI mx mn; repeat' split; all_goals omega
        have hfit : fitI i i.f0 = i.f0 := by unfold fitI mx; rw [if_neg (by omega), if_neg (by omega)]
        refine ⟨?_, hi4, ?_, hi0⟩
        · show ((decide (clampI (if true = true then i.f1 else i.f2) = 0) || (true && decide (i.f0 > fitI i i.f0))) || (!true && decide (i.f0 < fitI i i.f0))) = false
          rw [if_pos rfl, hfit, decide_eq_false (show ¬ clampI i.f1 = 0 by omega), decide_eq_false (show ¬ i.f0 > i.f0 by omega)]
          rfl
        · show 1000 ≤ clampI (if true = true then i.f1 else i.f2)
          rw [if_pos rfl]
          exact hcl
theorem sm_take (xs : List Int) (i : Nat) (h : i < xs.length) : sm (xs.take (i + 1)) = sm (xs.take i) + xs[i] := by
 rw [List.take_succ_eq_append_getElem h, sm_append]
 simp [sm]
theorem sm_take_bound {xs : List Int} {B : Int} (hB : 0 ≤ B) (hb : ∀ y ∈ xs, 0 ≤ y ∧ y ≤ B) : ∀ i, i ≤ xs.length → 0 ≤ sm (xs.take i) ∧ sm (xs.take i) ≤ B * i
 | 0, _ => by simp [sm]
 | i + 1, h => by
  have ih := sm_take_bound hB hb i (by omega)
  have h1 := hb xs[i] (List.getElem_mem (by omega))
  rw [sm_take xs i (by omega)]
  push_cast
  rw [Int.mul_add]
  omega
theorem shares_ev (c : List Int) (t : Int) (xs : List Int) (hl : xs.length ≤ 400) (hb : ∀ y ∈ xs, 0 ≤ y ∧ y ≤ 100000000000) (hs : 0 < xs.length → sm xs = t) (hd : Ev (fun k => laws_FnShares.j1 k c false) true) : Ev (fun k => laws_FnShares.l0 k c t xs 0 0) true := by
 refine ev_loop (g := fun k a i => laws_FnShares.l0 k c t xs a i) xs.length (fun _ _ => true) (fun i a => a = sm (xs.take i)) ?_ ?_ 0 (Nat.zero_le _) 0 rfl
 · intro a ha
   rw [List.take_length] at ha
   refine Ev.step (fun k => laws_FnShares.l0.eq_2 c t xs a _ k) (ev_neg (by omega) (ev_ite (fun h => ?_) (fun _ => hd)))
   have e : (a != t) = false := by rw [ha, hs (by omega)]; exact bne_self_eq_false t
   rw [e]
   exact hd
 · intro i a hi ha ih
   have h1 := hb xs[i] (List.getElem_mem hi)
   have h2 := sm_take_bound (B := 100000000000) (by omega) hb i (by omega)
   refine Ev.step (fun k => laws_FnShares.l0.eq_2 c t xs a i k) (ev_pos (by omega) (ev_pos (by omega) ?_))
   rw [rd_nat xs i hi, wrap_succ (by omega)]
   refine ev_neg (by omega) (ih _ ?_)
   rw [sm_take xs i hi, ha, wrap_in (by omega) (by omega)]
def fillsB (i : S66) : Bool := decide (i.f4 < 0) && (decide (i.f1 ≥ 1000) && decide (i.f0 ≥ i.f3))
theorem sizes_ev (items : List S66) (room : Int) (r : List Int) (hl : r.length ≤ 400) (hn : r.length = items.length) (hI : ∀ i ∈ items, okI i) (hr : ∀ n (h : n < r.length) (h2 : n < items.length), ∃ v, r[n] = fitI items[n] v ∧ 0 ≤ r[n] ∧ r[n] ≤ 200000000) (hf : (∃ i ∈ items, fills_ i) → sm (items.map (fun i => fitI i i.f0)) < room → sm r = room) : Ev (fun k => laws_FnShares.l1 k 0 items room r 0 false 0) true := by
 have hrb : ∀ y ∈ r, 0 ≤ y ∧ y ≤ 200000000 := by
  intro y hy
  obtain ⟨n, hn2, rfl⟩ := List.mem_iff_getElem.1 hy
  obtain ⟨_, _, h⟩ := hr n hn2 (by omega)
  exact h
 have hib : ∀ y ∈ items.map (fun i => fitI i i.f0), 0 ≤ y ∧ y ≤ 200000000 := by
  intro y hy
  obtain ⟨i, hi, rfl⟩ := List.mem_map.1 hy
  exact fit_bound (hI i hi) (hI i hi).1.1 (by have := (hI i hi).1.2; omega)
 refine ev_loop (σ := Int × Int × Bool) (g := fun k s i => laws_FnShares.l1 k s.1 items room r s.2.1 s.2.2 i) r.length (fun _ _ => true) (fun i s => s.1 = sm (r.take i) ∧ s.2.1 = sm ((items.map (fun i => fitI i i.f0)).take i) ∧ s.2.2 = (items.take i).any fillsB) ?_ ?_ 0 (Nat.zero_le _) (0, 0, false) ⟨rfl, rfl, rfl⟩
 · rintro ⟨a, b, f⟩ ⟨h1, h2, h3⟩
   have h1 : a = sm (r.take r.length) := h1
   have h2 : b = sm ((items.map (fun i => fitI i i.f0)).take r.length) := h2
   have h3 : f = (items.take r.length).any fillsB := h3
   rw [List.take_length] at h1
   rw [hn, List.take_of_length_le (by rw [List.length_map]; exact Nat.le_refl _)] at h2
   rw [hn, List.take_length] at h3
   refine Ev.step (fun k => laws_FnShares.l1.eq_2 a items room r b f _ k) (ev_neg (by omega) (ev_ite (fun hft => ev_ite (fun _ => ev_now rfl) (fun hlt => ev_now ?_)) (fun _ => ev_now rfl)))
   have hft : f = true := hft
   rw [h3, List.any_eq_true] at hft
   obtain ⟨i, hi, hfi⟩ := hft
   unfold fillsB at hfi
   simp only [Bool.and_eq_true, decide_eq_true_eq] at hfi
   rw [h1, hf ⟨i, hi, hfi.1, hfi.2.1, hfi.2.2⟩ (by omega)]
   exact beq_self_eq_true room
 · rintro i ⟨a, b, f⟩ hi ⟨h1, h2, h3⟩ ih
   have h1 : a = sm (r.take i) := h1
   have h2 : b = sm ((items.map (fun i => fitI i i.f0)).take i) := h2
   have h3 : f = (items.take i).any fillsB := h3
   have hi2 : i < items.length := by omega
   obtain ⟨v, hv, hv0, hv1⟩ := hr i hi hi2
   have hok := hI items[i] (List.getElem_mem hi2)
   have hfb := hib (fitI items[i] items[i].f0) (List.mem_map.2 ⟨_, List.getElem_mem hi2, rfl⟩)
   have hab := sm_take_bound (B := 200000000) (by omega) hrb i (by omega)
   have hbb := sm_take_bound (B := 200000000) (by omega) hib i (by rw [List.length_map]; omega)
   have ha2 := sm_take r i hi
   have hb2 := sm_take (items.map (fun i => fitI i i.f0)) i (by rw [List.length_map]; exact hi2)
   rw [List.getElem_map] at hb2
   have hf2 : (items.take (i + 1)).any fillsB = (f || fillsB items[i]) := by
    rw [List.take_succ_eq_append_getElem hi2, List.any_append, ← h3]
    simp
   obtain ⟨it, hit⟩ : ∃ x, x = items[i] := ⟨_, rfl⟩
   rw [← hit] at hv hok hfb hb2 hf2
   have next : ∀ (nn : Int) (f' : Bool), nn = fitI it it.f0 → f' = (f || fillsB it) → Ev (fun k => laws_FnShares.l1 k (wrap64 (a + r[i])) items room r (wrap64 (b + nn)) f' ((i + 1 : Nat) : Int)) true := by
    intro nn f' e1 e2
    refine ih (wrap64 (a + r[i]), wrap64 (b + nn), f') ⟨?_, ?_, ?_⟩
    · show wrap64 (a + r[i]) = _
      rw [ha2, h1, wrap_in (by omega) (by omega)]
    · show wrap64 (b + nn) = _
      rw [hb2, h2, e1, wrap_in (by omega) (by omega)]
    · show f' = _
      rw [hf2, e2]
   have tail : ∀ nn, nn = fitI it it.f0 → Ev (fun k => if f = true then laws_FnShares.l1 k (wrap64 (a + r[i])) items room r (wrap64 (b + nn)) true ((i + 1 : Nat) : Int) else (if it.f4 < 0 then (if it.f1 ≥ 1000 then laws_FnShares.l1 k (wrap64 (a + r[i])) items room r (wrap64 (b + nn)) (decide (it.f0 ≥ it.f3)) ((i + 1 : Nat) : Int) else laws_FnShares.l1 k (wrap64 (a + r[i])) items room r (wrap64 (b + nn)) false ((i + 1 : Nat) : Int)) else laws_FnShares.l1 k (wrap64 (a + r[i])) items room r (wrap64 (b + nn)) false ((i + 1 : Nat) : Int))) true := by
    intro nn e
    refine ev_ite (fun h => next nn true e (by rw [h]; rfl)) (fun h => ?_)
    have hff : f = false := by simpa using h
    refine ev_ite (fun h4 => ev_ite (fun h5 => next nn _ e ?_) (fun h5 => next nn false e ?_)) (fun h4 => next nn false e ?_)
    · rw [hff]; unfold fillsB; rw [decide_eq_true h4, decide_eq_true h5]; rfl
    · rw [hff]; unfold fillsB; rw [decide_eq_false h5]; simp
    · rw [hff]; unfold fillsB; rw [decide_eq_false h4]; rfl
   have hfit : fitI it it.f0 = if it.f4 ≥ 0 ∧ it.f0 > it.f4 then (if it.f4 < it.f3 then it.f3 else it.f4) else (if it.f0 < it.f3 then it.f3 else it.f0) := by
    unfold fitI mx mn
    repeat' split
    all_goals omega
   have four : ∀ x139, x139 = decide (it.f4 ≥ 0 ∧ it.f0 > it.f4) → Ev (fun k => laws_FnShares.j4 k a items room r b f i it.f0 x139 it.f0 it.f1 it.f2 it.f3 it.f4) true := by
    intro x139 e
    refine Ev.step (fun k => laws_FnShares.j4.eq_2 a items room r b f i it.f0 x139 it.f0 it.f1 it.f2 it.f3 it.f4 k) ?_
    rw [rd_nat r i hi, wrap_succ (by omega)]
    refine ev_ite (fun h => ?_) (fun h => ?_)
    · have h : x139 = true := h
      rw [e, decide_eq_true_eq] at h
      refine ev_ite (fun h6 => ev_pos (by omega) (ev_pos (by omega) (tail _ (by rw [hfit, if_pos h, if_pos h6])))) (fun h6 => ev_pos (by omega) (ev_pos (by omega) (tail _ (by rw [hfit, if_pos h, if_neg h6]))))
    · have h : ¬ x139 = true := h
      rw [e, decide_eq_true_eq] at h
      refine ev_ite (fun h6 => ev_pos (by omega) (ev_pos (by omega) (tail _ (by rw [hfit, if_neg h, if_pos h6])))) (fun h6 => ev_pos (by omega) (ev_pos (by omega) (tail _ (by rw [hfit, if_neg h, if_neg h6]))))
   have three : Ev (fun k => laws_FnShares.j3 k a items room r b f i false it.f0 it.f1 it.f2 it.f3 it.f4) true := by
    refine Ev.step (fun k => laws_FnShares.j3.eq_2 a items room r b f i false it.f0 it.f1 it.f2 it.f3 it.f4 k) (ev_neg (by decide) (ev_ite (fun h => four _ ?_) (fun h => four _ ?_)))
    · rw [decide_eq_decide]; omega
    · symm; rw [decide_eq_false_iff_not]; omega
   refine Ev.step (fun k => laws_FnShares.l1.eq_2 a items room r b f i k) (ev_pos (by omega) (ev_pos (by omega) (ev_pos (by omega) ?_)))
   rw [rd_nat r i hi, at_66 items i hi2, ← hit]
   have hlow : it.f3 ≤ fitI it v := by unfold fitI mx; repeat' split; all_goals omega
   refine ev_neg (by omega) (ev_ite (fun h => ?_) (fun _ => three))
   have hup : fitI it v ≤ it.f4 := by
    have := hok.2.1.1
    unfold fitI mx mn
    repeat' split
    all_goals omega
   rw [decide_eq_false (show ¬ r[i] > it.f4 by omega)]
   exact three
theorem FnShares : laws_FnShares.Pure := by
 intro c hl _ hb
 refine Ev.rounds (r := true) ?_
 refine Ev.congr (fun k => laws_FnShares.f.eq_1 k c) (ev_bc rfl (ev_ite (fun _ => ev_now rfl) (fun h0 => ?_)))
 have hc : c.length ≤ 1048576 := by
  rw [decide_eq_true_eq] at h0; omega
 obtain ⟨n, hn⟩ : ∃ n : Int, n = (c.length : Int) := ⟨_, rfl⟩
 have hn0 : 0 ≤ n ∧ n ≤ 1048576 := by omega
 rw [← hn]
 have e1 : wrap64 (n * 977) = n * 977 := wrap_in (by omega) (by omega)
 have e2 : wrap64 (n * 131) = n * 131 := wrap_in (by omega) (by omega)
 have e3 : 0 ≤ Int.tmod (n * 131) 4099 ∧ Int.tmod (n * 131) 4099 < 4099 := ⟨Int.tmod_nonneg _ (by omega), Int.tmod_lt_of_pos _ (by omega)⟩
 rw [e1, e2]
 obtain ⟨B, hB⟩ : ∃ B, B = 1 + Int.tmod (n * 131) 4099 := ⟨_, rfl⟩
 have e4 : wrap64 (1 + Int.tmod (n * 131) 4099) = B := by rw [hB]; exact wrap_in (by omega) (by omega)
 rw [e4]
 obtain ⟨A, hA⟩ : ∃ A, A = n * 977 := ⟨_, rfl⟩
 rw [← hA]
 obtain ⟨C, hC⟩ : ∃ C, C = 1 + n % 89 := ⟨_, rfl⟩
 rw [← hC]
 have hAb : 0 ≤ A ∧ A ≤ 1100000000 := by omega
 have hBb : 1 ≤ B ∧ B ≤ 4099 := by omega
 have hCb : 1 ≤ C ∧ C ≤ 89 := by omega
 have m0 : 0 ≤ A * B := Int.mul_nonneg hAb.1 (by omega)
 have m1 : A * B ≤ 1100000000 * 4099 := Int.mul_le_mul hAb.2 hBb.2 (by omega) (by decide)
 have m2 : 0 ≤ A * B / C := Int.ediv_nonneg m0 (by omega)
 have m3 : A * B / C ≤ A * B := Int.ediv_le_self _ m0
 have hmd : mdAll A B C = A * B / C := by
  unfold mdAll mdq
  rw [if_neg (by omega), if_neg (by omega)]
 refine Ev.bind (md_impl A B C (by omega) (by omega)) (ev_neg (by omega) (ev_pos ?_ ?_))
 · rw [hmd, wrap_in (i := A * B) (by omega) (by omega), Int.tdiv_eq_ediv_of_nonneg m0, wrap_in (by omega) (by omega)]
 obtain ⟨t, ws, k1⟩ := spread_draw c hc
 have hlen : (spreadAll t ws).length ≤ 400 := by
  unfold spreadAll
  split
  · rename_i h; rw [spread_length]; exact h.1
  · simp
 refine Ev.bind k1 (Ev.bind (spreadAll_impl t ws) (Ev.bind (spreadAll_spec t ws) (Ev.bind (same_ev _ (by omega)) (ev_pos rfl ?_))))
 have hprop : (∀ y ∈ spreadAll t ws, 0 ≤ y ∧ y ≤ 100000000000) ∧ (0 < (spreadAll t ws).length → sm (spreadAll t ws) = t) := by
  unfold spreadAll
  split
  · rename_i h
    have ht : 0 ≤ t ∧ t ≤ 100000000000 := by simpa [okx] using h.2.1
    have hw := okW_of h.1 h.2.2
    refine ⟨fun y hy => ?_, fun hp => spread_sum ht.1 (by omega) hw (fun e => ?_)⟩
    · have := spread_bound ht.1 (by omega) hw y hy
      omega
    · rw [e] at hp
      rw [spread_length] at hp
      simp at hp
  · exact ⟨fun y hy => (by cases hy), fun h => (by simp at h)⟩
 refine shares_ev c t _ hlen hprop.1 hprop.2 (Ev.step (fun k => laws_FnShares.j1.eq_2 c false k) (ev_neg (by decide) ?_))
 obtain ⟨items, room, k2⟩ := items_draw c hc
 obtain ⟨r, l1, k3, k4, hr⟩ := sizes items room
 refine Ev.bind k2 (Ev.bind k3 (Ev.bind k4 (Ev.bind (same_ev r (by omega)) (ev_pos rfl ?_))))
 rcases hr with hr | ⟨h1, h2, h3, h4⟩
 · subst hr
   exact Ev.step (fun k => laws_FnShares.l1.eq_2 0 items room [] 0 false 0 k) (ev_neg (by simp) (ev_neg (by decide) (ev_now rfl)))
 · exact sizes_ev items room r l1 h1 h2 h3 h4
end Go.Proofs.Ytpknhndanbgkmaa.Fact
