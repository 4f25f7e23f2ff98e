/- FnExactFeedMore: the two FeedMore answer alike, whatever the feed and the bytes. -/
import Derived.Test.YtmffcjjodkggcaaMFnExactFeedMorex12
import Derived.Laws.BitsLemmas
import Derived.Lib.Bytes
namespace Go.Proofs.Ytmffcjjodkggcaa.Fact
open Go.RowKit Go.Proofs.Ytmffcjjodkggcaa.MFnExactFeedMore Go.Proofs.YtmffcjjodkggcaaW.PrintWords Go.Proofs.YtmffcjjodkggcaaW.PrintLast
set_option linter.unusedVariables false
set_option linter.unusedSimpArgs false
/-! ### what comes from some round on -/
theorem ev_pos {α : Type} {c : Prop} [Decidable c] {f g : Nat → Option α} {r : α} (h : c) (k : Ev f r) : Ev (fun n => if c then f n else g n) r := by
  simpa only [if_pos h] using k
theorem ev_neg {α : Type} {c : Prop} [Decidable c] {f g : Nat → Option α} {r : α} (h : ¬ c) (k : Ev g r) : Ev (fun n => if c then f n else g n) r := by
  simpa only [if_neg h] using k
theorem ev_now {α : Type} {q r : α} (h : q = r) : Ev (fun _ => some q) r := by rw [h]; exact Ev.now r
theorem ev_bs {α β : Type} {a : α} {f : Nat → α → Option β} {r : β} (k : Ev (fun n => f n a) r) : Ev (fun n => (some a).bind (f n)) r := by
  simpa only [Option.bind_some] using k
theorem ev_bc {α β : Type} {o : Option α} {a : α} {f : Nat → α → Option β} {r : β} (h : o = some a) (k : Ev (fun n => f n a) r) : Ev (fun n => o.bind (f n)) r := by
  rw [h]; exact ev_bs k
theorem wrap_in {i : Int} (h0 : -9223372036854775808 ≤ i) (h1 : i ≤ 9223372036854775807) : wrap64 i = i := by
  unfold wrap64
  omega
theorem i64_bounds {x : Int} (h : (Lit.int .i64 x).wf = true) : -9223372036854775808 ≤ x ∧ x ≤ 9223372036854775807 := by
  simp [Lit.wf, IntKind.min, IntKind.max, IntKind.signed, IntKind.bits] at h
  omega
theorem ev_ite {α : Type} {c : Prop} [Decidable c] {f g : Nat → Option α} {r : α} (h1 : c → Ev f r) (h2 : ¬ c → Ev g r) : Ev (fun n => if c then f n else g n) r := by
  by_cases h : c
  · exact ev_pos h (h1 h)
  · exact ev_neg h (h2 h)
theorem ev_to {α : Type} {f : Nat → Option α} {q r : α} (h : q = r) (k : Ev f q) : Ev f r := h ▸ k
theorem wrap_succ {i : Nat} (h : i < 9223372036854775807) : wrap64 ((i : Int) + 1) = ((i + 1 : Nat) : Int) := by
  rw [wrap_in (by omega) (by omega)]; rfl
theorem getD_nat {α : Type} (d : α) (xs : List α) (i : Nat) (h : i < xs.length) : xs.getD (i : Int).toNat d = xs[i] := by
  simp [List.getElem?_eq_getElem h]
/-- A loop that counts from i up to n, its state s. -/
theorem ev_loop {σ ρ : Type} {g : Nat → σ → Int → Option ρ} (n : Nat) (R : Nat → σ → ρ) (Inv : Nat → σ → Prop)
    (hend : ∀ s, Inv n s → Ev (fun k => g k s n) (R n s))
    (hstep : ∀ i s, i < n → Inv i s → (∀ s', Inv (i + 1) s' → Ev (fun k => g k s' ((i + 1 : Nat) : Int)) (R (i + 1) s')) → Ev (fun k => g k s i) (R i s)) :
    ∀ i, i ≤ n → ∀ s, Inv i s → Ev (fun k => g k s i) (R i s) := by
  have key : ∀ d i, n - i = d → i ≤ n → ∀ s, Inv i s → Ev (fun k => g k s i) (R i s) := by
    intro d
    induction d with
    | zero =>
      intro i hd hi s hs
      obtain rfl : i = n := by omega
      exact hend s hs
    | succ d ih =>
      intro i hd hi s hs
      exact hstep i s (by omega) hs (ih (i + 1) (by omega) (by omega))
  exact fun i hi s hs => key (n - i) i rfl hi s hs
/-- The same, without a state. -/
theorem ev_count {ρ : Type} {g : Nat → Int → Option ρ} (n : Nat) (R : Nat → ρ) (hend : Ev (fun k => g k n) (R n))
    (hstep : ∀ i, i < n → Ev (fun k => g k ((i + 1 : Nat) : Int)) (R (i + 1)) → Ev (fun k => g k i) (R i)) : ∀ i, i ≤ n → Ev (fun k => g k i) (R i) := by
  intro i hi
  exact ev_loop (σ := Unit) (g := fun k _ i => g k i) n (fun i _ => R i) (fun _ _ => True) (fun _ _ => hend) (fun i _ h _ ih => hstep i h (ih () trivial)) i hi () trivial
/-- A loop that writes F of each element into a list of the same length. -/
theorem ev_copy {α β : Type} {g : Nat → List β → Int → Option (List β)} (F : α → β) (xs : List α)
    (hend : ∀ ys : List β, ys.length = xs.length → Ev (fun k => g k ys xs.length) ys)
    (hstep : ∀ (ys : List β) (i : Nat) (h : i < xs.length), ys.length = xs.length → Ev (fun k => g k (ys.set i (F xs[i])) ((i + 1 : Nat) : Int)) (xs.map F) → Ev (fun k => g k ys i) (xs.map F))
    (ys : List β) (hl : ys.length = xs.length) : Ev (fun k => g k ys 0) (xs.map F) := by
  refine ev_loop (g := g) xs.length (fun _ _ => xs.map F) (fun i ys => ys.length = xs.length ∧ ys.take i = (xs.map F).take i) ?_ ?_ 0 (Nat.zero_le _) ys ⟨hl, rfl⟩
  · intro ys hs
    have e : ys = xs.map F := by
      have := hs.2
      rwa [List.take_of_length_le (by omega), List.take_of_length_le (by simp)] at this
    rw [← e]; exact hend ys hs.1
  · intro i ys hi hs ih
    refine hstep ys i hi hs.1 (ih _ ⟨by rw [List.length_set]; exact hs.1, ?_⟩)
    rw [List.take_succ_eq_append_getElem (by rw [List.length_set]; omega), List.take_succ_eq_append_getElem (by rw [List.length_map]; omega), List.take_set, hs.2, List.getElem_set_self, List.getElem_map]
    rw [List.set_eq_of_length_le (by simp; omega)]
theorem ite_eq {α : Type} {c : Prop} [Decidable c] {x y z : α} (h1 : c → x = z) (h2 : ¬ c → y = z) : (if c then x else y) = z := by
  by_cases h : c
  · rw [if_pos h]; exact h1 h
  · rw [if_neg h]; exact h2 h
theorem iteP {α : Type} {P : α → Prop} {c : Prop} [Decidable c] {x y : α} (h1 : c → P x) (h2 : ¬ c → P y) : P (if c then x else y) := by
  by_cases h : c
  · rw [if_pos h]; exact h1 h
  · rw [if_neg h]; exact h2 h
/-! ### the reference's reading of one sequence -/
def seqF : List Int → Nat × Bool
  | [] => (0, false)
  | b :: r => if (needsF b).1 = 0 then (0, false) else ((stretchF (b :: r)).1, (stretchF (b :: r)).2.1)
theorem wrap_n1 (n : Nat) (h : n ≤ 1099511627776) : wrap64 ((n : Int) + 1) = ((n + 1 : Nat) : Int) := by unfold wrap64; omega
theorem wrap_nn (n m : Nat) (h : n ≤ 1099511627776) (h2 : m ≤ 1099511627776) : wrap64 ((n : Int) + (m : Int)) = ((n + m : Nat) : Int) := by unfold wrap64; omega
theorem seq_l0 (l : List Int) (hl : l.length ≤ 1099511627776) (at_ : Nat) (ha : at_ < l.length) (need : Int) (h4 : need ≤ 4) : ∀ (q k n kk : Nat) (lo hi : Int), (kk : Int) + q = need → q < k → 1 ≤ n → n ≤ kk + 1 → spec_l1Seq.l0 k l at_ need lo hi n kk = some (((tlF q n lo hi (l.drop (at_ + n))).1 : Int), (tlF q n lo hi (l.drop (at_ + n))).2.1) := by
  intro q
  induction q with
  | zero =>
    intro k n kk lo hi hw hk h1 hn
    obtain ⟨k, rfl⟩ : ∃ m, k = m + 1 := ⟨k - 1, by omega⟩
    rw [spec_l1Seq.l0, if_neg (by omega)]; first | done | rfl
  | succ q ih =>
    intro k n kk lo hi hw hk h1 hn
    obtain ⟨k, rfl⟩ : ∃ m, k = m + 1 := ⟨k - 1, by omega⟩
    have b1 : n ≤ 1099511627776 := by omega
    have b2 : kk ≤ 1099511627776 := by omega
    have ew := wrap_nn at_ n (by omega) b1
    have hw1 := wrap_n1 n b1
    have hw2 := wrap_n1 kk b2
    have j1 : ((kk + 1 : Nat) : Int) + q = need := by omega
    have j2 : q < k := by omega
    have j3 : n + 1 ≤ kk + 1 + 1 := by omega
    have j4 : (kk : Int) < need := by omega
    rw [spec_l1Seq.l0, if_pos j4, ew]
    clear hw hk hn j4 b1 b2 ew
    by_cases e : l.length ≤ at_ + n
    · have hd : l.drop (at_ + n) = [] := List.drop_of_length_le e
      rw [if_pos (by omega), hd, tlF]
    · have hlt : at_ + n < l.length := by omega
      rw [if_neg (by omega), if_pos (by omega), if_pos (by omega), rd_n1 l (at_ + n) hlt, List.drop_eq_getElem_cons hlt, tlF]
      by_cases c : l[at_ + n] < lo
      · rw [if_pos c, if_pos (.inl c)]
      · by_cases d : l[at_ + n] > hi
        · rw [if_neg c, if_pos d, if_pos (.inr d)]
        · rw [if_neg c, if_neg d, if_neg (by omega)]
          rw [hw1, hw2]
          have := ih k (n + 1) (kk + 1) 128 191 j1 j2 (Nat.le_add_left 1 n) j3
          rw [show at_ + (n + 1) = at_ + n + 1 from rfl] at this
          exact this
set_option maxHeartbeats 4000000 in
theorem seq_spec (l : List Int) (hl : l.length ≤ 1099511627776) (at_ : Nat) (ha : at_ < l.length) : spec_l1Seq.f 12 l at_ = some (((seqF (l.drop at_)).1 : Int), (seqF (l.drop at_)).2) := by
  have hd := List.drop_eq_getElem_cons ha
  have key : ∀ (k : Nat) (need : Int) (lo hi : Int), 1 ≤ need → need ≤ 3 → 4 ≤ k → needsF l[at_] = (need + 1, lo, hi) → spec_l1Seq.l0 k l at_ need lo hi 1 0 = some (((seqF (l.drop at_)).1 : Int), (seqF (l.drop at_)).2) := by
    intro k need lo hi h1 h3 hk hn
    have := seq_l0 l hl at_ ha need (by omega) need.toNat k 1 0 lo hi (by omega) (by omega) (Nat.le_refl _) (Nat.le_refl _)
    rw [hd, seqF, stretchF, hn]
    dsimp only
    rw [if_neg (by omega), if_neg (by omega)]
    have e : (need + 1).toNat - 1 = need.toNat := by omega
    rw [e]
    exact this
  rw [spec_l1Seq.f, if_pos (by omega), if_pos (by omega), rd_n1 l at_ ha]
  have hs : ∀ b : Int, b = l[at_] → l[at_] = b := fun _ h => h.symm
  obtain ⟨b, hb⟩ : ∃ b, b = l[at_] := ⟨_, rfl⟩
  rw [← hb] at key ⊢
  have kk := hb
  simp only [spec_l1Seq.j0, spec_l1Seq.j1, spec_l1Seq.j2, spec_l1Seq.j3, decide_eq_true_eq, Bool.false_eq_true, if_false]
  by_cases c1 : b < 128
  · rw [if_pos c1, hd, ← hb, seqF, stretchF]
    have hn : needsF b = (1, 0, 0) := by unfold needsF; rw [if_pos c1]
    rw [hn]
    first | done | rfl
  by_cases c2 : 194 ≤ b ∧ b ≤ 223
  · rw [if_neg c1, if_pos (by omega), if_pos (by omega)]
    exact key _ 1 128 191 (by omega) (by omega) (by omega) (by unfold needsF; rw [if_neg c1, if_pos c2]; rfl)
  by_cases c3 : b = 224
  · subst c3
    rw [if_neg c1, if_pos (by omega), if_neg (by omega), if_pos (by omega), if_pos (by omega), if_pos rfl, if_neg (by omega)]
    exact key _ 2 160 191 (by omega) (by omega) (by omega) (by decide)
  by_cases c4 : b = 237
  · subst c4
    rw [if_neg c1, if_pos (by omega), if_neg (by omega), if_pos (by omega), if_pos (by omega), if_neg (by omega), if_pos rfl]
    exact key _ 2 128 159 (by omega) (by omega) (by omega) (by decide)
  by_cases c5 : 225 ≤ b ∧ b ≤ 239
  · rw [if_neg c1, if_pos (by omega), if_neg (by omega), if_pos (by omega), if_pos (by omega), if_neg c3, if_neg c4]
    exact key _ 2 128 191 (by omega) (by omega) (by omega) (by unfold needsF; rw [if_neg c1, if_neg c2, if_neg c3, if_neg c4, if_pos c5]; rfl)
  by_cases c6 : b = 240
  · subst c6
    rw [if_neg c1, if_pos (by omega), if_neg (by omega), if_pos (by omega), if_neg (by omega), if_pos (by omega), if_pos (by omega), if_pos rfl, if_neg (by omega)]
    exact key _ 3 144 191 (by omega) (by omega) (by omega) (by decide)
  by_cases c7 : b = 244
  · subst c7
    rw [if_neg c1, if_pos (by omega), if_neg (by omega), if_pos (by omega), if_neg (by omega), if_pos (by omega), if_pos (by omega), if_neg (by omega), if_pos rfl]
    exact key _ 3 128 143 (by omega) (by omega) (by omega) (by decide)
  by_cases c8 : 241 ≤ b ∧ b ≤ 243
  · rw [if_neg c1, if_pos (by omega), if_neg (by omega), if_pos (by omega), if_neg (by omega), if_pos (by omega), if_pos (by omega), if_neg c6, if_neg c7]
    exact key _ 3 128 191 (by omega) (by omega) (by omega) (by unfold needsF; rw [if_neg c1, if_neg c2, if_neg c3, if_neg c4, if_neg c5, if_neg c6, if_neg c7, if_pos c8]; rfl)
  · have hn : needsF b = (0, 0, 0) := by unfold needsF; rw [if_neg c1, if_neg c2, if_neg c3, if_neg c4, if_neg c5, if_neg c6, if_neg c7, if_neg c8]
    rw [hd, ← hb, seqF, hn, if_neg c1]
    by_cases d : b ≥ 194
    · have : b ≥ 245 := by omega
      rw [if_pos d, if_neg (by omega), if_pos (by omega), if_neg (by omega), if_pos (by omega), if_neg (by omega)]
      first | done | rfl
    · rw [if_neg d, if_neg (by omega), if_neg (by omega)]
      first | done | rfl
theorem seq_st (l : List Int) (h : l ≠ []) : ((seqF l).2 = (stretchF l).2.1) ∧ ((seqF l).1 = (stretchF l).1 ∨ ((seqF l).1 = 0 ∧ (seqF l).2 = false ∧ (stretchF l).1 = 1)) := by
  cases l with
  | nil => exact absurd rfl h
  | cons b r =>
    rw [seqF]
    by_cases c : (needsF b).1 = 0
    · rw [if_pos c]
      have e : stretchF (b :: r) = (1, false, false) := by rw [stretchF, if_pos c]
      rw [e]
      exact ⟨rfl, .inr ⟨rfl, rfl, rfl⟩⟩
    · rw [if_neg c]
      exact ⟨rfl, .inl rfl⟩
/-! ### code points written as bytes -/
theorem j1_some (k : Nat) (x : List Int) (c : Int) (h0 : 0 ≤ c) (h1 : c ≤ 1114111) (hs : c < 55296 ∨ 57343 < c) (hl : x.length + 4 < 140737488355328) : spec_l1Put.j1 (k + 1) x c = some (x ++ Lib.encodeRuneZ c) := by
  have d1 : Int.tdiv c 64 = c / 64 := Int.tdiv_eq_ediv_of_nonneg h0
  have d2 : Int.tdiv c 4096 = c / 4096 := Int.tdiv_eq_ediv_of_nonneg h0
  have d3 : Int.tdiv c 262144 = c / 262144 := Int.tdiv_eq_ediv_of_nonneg h0
  have m1 : Int.tmod c 64 = c % 64 := Int.tmod_eq_emod_of_nonneg h0
  have w1 : wrap64 (c / 64) = c / 64 := wrap_in (by omega) (by omega)
  have w2 : wrap64 (c / 4096) = c / 4096 := wrap_in (by omega) (by omega)
  have w3 : wrap64 (c / 262144) = c / 262144 := wrap_in (by omega) (by omega)
  have m2 : Int.tmod (c / 64) 64 = c / 64 % 64 := Int.tmod_eq_emod_of_nonneg (by omega)
  have m3 : Int.tmod (c / 4096) 64 = c / 4096 % 64 := Int.tmod_eq_emod_of_nonneg (by omega)
  have n1 : wrap64 (128 + c % 64) % 256 = 128 + c % 64 := by rw [wrap_in (by omega) (by omega)]; omega
  have n2 : wrap64 (128 + c / 64 % 64) % 256 = 128 + c / 64 % 64 := by rw [wrap_in (by omega) (by omega)]; omega
  have n3 : wrap64 (128 + c / 4096 % 64) % 256 = 128 + c / 4096 % 64 := by rw [wrap_in (by omega) (by omega)]; omega
  rw [spec_l1Put.j1, d1, d2, d3, m1, w1, w2, w3, m2, m3, n1, n2, n3]
  by_cases a : c < 128
  · rw [if_pos a, if_pos (by omega), Lib.encodeRuneZ_one h0 (by omega), show c % 256 = c by omega]
  · rw [if_neg a]
    by_cases b : c < 2048
    · rw [if_pos b, Option.bind_some, if_pos (by simp only [List.length_cons, List.length_nil]; omega), Lib.encodeRuneZ_two (by omega) (by omega), show wrap64 (192 + c / 64) % 256 = 192 + c / 64 by rw [wrap_in (by omega) (by omega)]; omega]
    · rw [if_neg b]
      by_cases d : c < 65536
      · rw [if_pos d, Option.bind_some, if_pos (by simp only [List.length_cons, List.length_nil]; omega), Lib.encodeRuneZ_three (by omega), show wrap64 (224 + c / 4096) % 256 = 224 + c / 4096 by rw [wrap_in (by omega) (by omega)]; omega]
      · rw [if_neg d, Option.bind_some, if_pos (by simp only [List.length_cons, List.length_nil]; omega), Lib.encodeRuneZ_four (by omega) (by omega), show wrap64 (240 + c / 262144) % 256 = 240 + c / 262144 by rw [wrap_in (by omega) (by omega)]; omega]
theorem put_some (k : Nat) (x : List Int) (c : Int) (hl : x.length + 4 < 140737488355328) : spec_l1Put.f (k + 2) x c = some (x ++ encZ c) := by
  have bad : spec_l1Put.j0 (k + 2) x c true = some (x ++ [239, 191, 189]) := by
    rw [spec_l1Put.j0, if_pos rfl, j1_some k x 65533 (by omega) (by omega) (by omega) hl]
    rfl
  rw [spec_l1Put.f, encZ, encB]
  by_cases a : c < 0
  · rw [if_pos a, bad, if_pos (by simp [a])]
  · rw [if_neg a]
    by_cases b : c > 1114111
    · rw [if_pos b, bad, if_pos (by simp [b])]
    · rw [if_neg b]
      by_cases d : c ≥ 55296
      · rw [if_pos d]
        by_cases e : c ≤ 57343
        · rw [decide_eq_true e, bad, if_pos (by simp [d])]
        · rw [decide_eq_false e, spec_l1Put.j0, if_neg (by decide), j1_some k x c (by omega) (by omega) (by omega) hl, if_neg (by simp; omega)]
      · rw [if_neg d, spec_l1Put.j0, if_neg (by decide), j1_some k x c (by omega) (by omega) (by omega) hl, if_neg (by simp; omega)]
/-! ### the copies and comparisons of rows of bytes -/
theorem toByteS_loop (xs : List Int) (hn : xs.length ≤ 140737488351232) (d : Nat) : ∀ (ys : List Int) (i : Nat), xs.length - i = d → i ≤ xs.length → ys.length = xs.length → ys.take i = xs.take i → Ev (fun k => laws_toByteS.l0 k xs ys i) xs := by
  induction d with
  | zero =>
    intro ys i hd hi hl ht
    refine Ev.step (fun k => laws_toByteS.l0.eq_2 xs ys i k) (ev_neg (by omega) (ev_now ?_))
    rw [List.take_of_length_le (by omega), List.take_of_length_le (by omega)] at ht
    exact ht
  | succ d ih =>
    intro ys i hd hi hl ht
    refine Ev.step (fun k => laws_toByteS.l0.eq_2 xs ys i k) (ev_pos (by omega) (ev_pos (by omega) (ev_pos (by omega) ?_)))
    rw [wrap_in (by omega) (by omega), Int.toNat_natCast, rd_n1 xs i (by omega)]
    refine ih (ys.set i xs[i]) (i + 1) (by omega) (by omega) (by rw [List.length_set]; exact hl) ?_
    rw [List.take_succ_eq_append_getElem (by rw [List.length_set]; omega), List.take_succ_eq_append_getElem (by omega), List.take_set, ht, List.getElem_set_self]
    rw [List.set_eq_of_length_le (by simp; omega)]
theorem toByteS_ev (xs : List Int) (hn : xs.length ≤ 1048576) : Ev (fun k => laws_toByteS.f k xs) xs := by
  refine Ev.congr (fun k => by unfold laws_toByteS.f; rfl) (ev_pos (by omega) (ev_pos (by omega) ?_))
  exact toByteS_loop xs (by omega) xs.length _ 0 (by omega) (by omega) (by simp) (by simp)
theorem eqByteS_loop (xs : List Int) (hn : xs.length ≤ 140737488351232) (d : Nat) : ∀ i : Nat, xs.length - i = d → i ≤ xs.length → Ev (fun k => laws_eqByteS.l0 k xs xs i) true := by
  induction d with
  | zero =>
    intro i hd hi
    exact Ev.step (fun k => laws_eqByteS.l0.eq_2 xs xs i k) (ev_neg (by omega) (ev_now rfl))
  | succ d ih =>
    intro i hd hi
    refine Ev.step (fun k => laws_eqByteS.l0.eq_2 xs xs i k) (ev_pos (by omega) (ev_pos (by omega) (ev_pos (by omega) (ev_pos rfl ?_))))
    rw [wrap_in (by omega) (by omega)]
    exact ih (i + 1) (by omega) (by omega)
theorem eqByteS_ev (xs : List Int) (hn : xs.length ≤ 140737488351232) : Ev (fun k => laws_eqByteS.f k xs xs) true :=
  Ev.congr (fun k => by unfold laws_eqByteS.f; rfl) (ev_pos rfl (eqByteS_loop xs hn xs.length 0 (by omega) (by omega)))
/-! ### the marks, of bytes -/
def mkb (a : Int) (n : Nat) : List Int := (List.range n).map (fun i : Nat => (a + (i : Int)) % 256)
theorem mkb_length (a : Int) (n : Nat) : (mkb a n).length = n := by simp [mkb]
theorem mkb_get (a : Int) (n i : Nat) (h : i < n) : (mkb a n)[i]'(by rw [mkb_length]; exact h) = (a + (i : Int)) % 256 := by simp [mkb]
theorem markb_ev (xs : List Int) (hn : xs.length ≤ 1099511627776) (a0 : Int) (h0 : 0 ≤ a0) (h1 : a0 ≤ 1099511627776) : Ev (fun k => laws_markByteS.f k xs a0) (a0 + (xs.length : Int), mkb a0 xs.length) := by
  refine Ev.congr (fun k => laws_markByteS.f.eq_1 k xs a0) ?_
  refine ev_loop (σ := List Int × Int) (g := fun k s i => laws_markByteS.l0 k s.1 s.2 i) xs.length (fun _ _ => (a0 + (xs.length : Int), mkb a0 xs.length)) (fun i s => s.1.length = xs.length ∧ s.1.take i = (mkb a0 xs.length).take i ∧ s.2 = a0 + (i : Int)) ?_ ?_ 0 (Nat.zero_le _) (xs, a0) ⟨rfl, rfl, by simp⟩
  · rintro ⟨ys, a⟩ ⟨h1, h2, h3⟩
    have h1 : ys.length = xs.length := h1
    have h2 : ys.take xs.length = (mkb a0 xs.length).take xs.length := h2
    have h3 : a = a0 + (xs.length : Int) := h3
    refine Ev.step (fun k => laws_markByteS.l0.eq_2 ys a _ k) (ev_neg (by omega) (ev_now ?_))
    rw [List.take_of_length_le (by omega), List.take_of_length_le (by rw [mkb_length]; omega)] at h2
    rw [h2, h3]
  · rintro i ⟨ys, a⟩ hi ⟨h1, h2, h3⟩ ih
    have h1 : ys.length = xs.length := h1
    have h2 : ys.take i = (mkb a0 xs.length).take i := h2
    have h3 : a = a0 + (i : Int) := h3
    refine Ev.step (fun k => laws_markByteS.l0.eq_2 ys a i k) (ev_pos (by omega) (ev_pos (by omega) ?_))
    rw [wrap_succ (i := i) (by omega), Int.toNat_natCast]
    refine ih (ys.set i (a % 256), wrap64 (a + 1)) ⟨by simp [h1], ?_, ?_⟩
    · show (ys.set i (a % 256)).take (i + 1) = _
      rw [List.take_succ_eq_append_getElem (by rw [List.length_set]; omega), List.take_succ_eq_append_getElem (by rw [mkb_length]; omega), List.take_set, h2, List.getElem_set_self, mkb_get _ _ _ hi, h3]
      rw [List.set_eq_of_length_le (by simp; omega)]
    · show wrap64 (a + 1) = _
      rw [h3, wrap_in (by omega) (by omega)]; omega
theorem heldb_ev (n : Nat) (hn : n ≤ 1099511627776) (a0 : Int) (h0 : 0 ≤ a0) (h1 : a0 ≤ 1099511627776) : Ev (fun k => laws_heldByteS.f k (mkb a0 n) a0) (a0 + (n : Int)) := by
  refine Ev.congr (fun k => laws_heldByteS.f.eq_1 k (mkb a0 n) a0) ?_
  refine ev_loop (g := fun k a i => laws_heldByteS.l0 k (mkb a0 n) a i) n (fun _ _ => a0 + (n : Int)) (fun i a => a = a0 + (i : Int)) ?_ ?_ 0 (Nat.zero_le _) a0 (by simp)
  · intro a h
    exact Ev.step (fun k => laws_heldByteS.l0.eq_2 (mkb a0 n) a _ k) (ev_neg (by rw [mkb_length]; omega) (ev_now h))
  · intro i a hi h ih
    refine Ev.step (fun k => laws_heldByteS.l0.eq_2 (mkb a0 n) a i k) (ev_pos (by rw [mkb_length]; omega) (ev_pos (by omega) (ev_pos ?_ ?_)))
    · rw [rd_n1 (mkb a0 n) i (by rw [mkb_length]; exact hi), mkb_get a0 n i hi, h]
    · rw [wrap_succ (i := i) (by omega)]
      exact ih _ (by rw [h, wrap_in (by omega) (by omega)]; omega)
/-! ### bytes read by each coding: the reference's loops -/
theorem rdU_more (k : Nat) : ∀ (l : List Int), l.length ≤ k → rdU k l = rdU l.length l := by
  have key : ∀ (k : Nat) (l : List Int) (j : Nat), l.length ≤ k → l.length ≤ j → rdU k l = rdU j l := by
    intro k
    induction k with
    | zero => intro l j h _; obtain rfl : l = [] := List.eq_nil_of_length_eq_zero (by omega); rw [rdU_nil, rdU_nil]
    | succ k ih =>
      intro l j h hj
      by_cases e : l = []
      · subst e; rw [rdU_nil, rdU_nil]
      · have hp : 0 < l.length := List.length_pos_iff.mpr e
        obtain ⟨j, rfl⟩ : ∃ m, j = m + 1 := ⟨j - 1, by omega⟩
        have hb := stretch_bd l e
        rw [rdU_cons k l e, rdU_cons j l e, ih _ j (by rw [List.length_drop]; omega) (by rw [List.length_drop]; omega)]
  exact fun l h => key k l l.length h (Nat.le_refl _)
theorem put_ev (x : List Int) (c : Int) (hl : x.length + 4 < 140737488355328) : Ev (fun k => spec_l1Put.f k x c) (x ++ encZ c) := ⟨2, fun k hk => by
  obtain ⟨k, rfl⟩ : ∃ m, k = m + 2 := ⟨k - 2, by omega⟩
  exact put_some k x c hl⟩
theorem encZ_bad : encZ 65533 = [239, 191, 189] := by decide
theorem seq_ev (l : List Int) (hl : l.length ≤ 1099511627776) (at_ : Nat) (ha : at_ < l.length) : Ev (fun k => spec_l1Seq.f k l at_) (((seqF (l.drop at_)).1 : Int), (seqF (l.drop at_)).2) :=
  ⟨12, fun k hk => at_rounds (fun k => spec_l1Seq.mono l at_ k) hk (seq_spec l hl at_ ha)⟩
theorem u8_loop (l : List Int) (hl : l.length ≤ 1048576) (k : Nat) : ∀ (x : List Int) (i : Nat), l.length - i ≤ k → i ≤ l.length → x.length ≤ 3 * i → Ev (fun n => spec_l1ReadUtf8.l0 n l x i) (x ++ rdU k (l.drop i)) := by
  induction k with
  | zero =>
    intro x i hk hi hx
    refine Ev.step (fun n => spec_l1ReadUtf8.l0.eq_2 l x i n) (ev_neg (by omega) (ev_now ?_))
    rw [rdU, List.append_nil]
  | succ k ih =>
    intro x i hk hi hx
    by_cases e : i = l.length
    · refine Ev.step (fun n => spec_l1ReadUtf8.l0.eq_2 l x i n) (ev_neg (by omega) (ev_now ?_))
      rw [List.drop_of_length_le (by omega), rdU_nil, List.append_nil]
    · have hlt : i < l.length := by omega
      have hlen : (l.drop i).length = l.length - i := List.length_drop
      have hne : l.drop i ≠ [] := by intro z; rw [z] at hlen; simp at hlen; omega
      have hb := stretch_bd _ hne
      have hs := seq_st _ hne
      rw [hlen] at hb
      rw [rdU_cons k _ hne]
      refine Ev.step (fun n => spec_l1ReadUtf8.l0.eq_2 l x i n) (ev_pos (by omega) (Ev.bind (seq_ev l (by omega) i hlt) ?_))
      by_cases v : (stretchF (l.drop i)).2.1 = true
      · rw [if_pos v]
        have e1 : (seqF (l.drop i)).1 = (stretchF (l.drop i)).1 := by
          rcases hs.2 with z | z
          · exact z
          · rw [hs.1, v] at z; cases z.2.1
        obtain ⟨n, hn⟩ : ∃ n, n = (stretchF (l.drop i)).1 := ⟨_, rfl⟩
        have w1 : wrap64 ((i : Int) + ((seqF (l.drop i)).1 : Int)) = ((i + n : Nat) : Int) := by rw [e1, ← hn, wrap_in (by omega) (by omega)]; omega
        rw [← hn] at hb ⊢
        have ht : (l.take ((i + n : Nat) : Int).toNat).drop (i : Int).toNat = (l.drop i).take n := by
          rw [Int.toNat_natCast, Int.toNat_natCast, List.drop_take, Nat.add_sub_cancel_left]
        have hlt2 : ((l.drop i).take n).length = n := by rw [List.length_take]; omega
        rw [w1, ht]
        refine ev_pos (by rw [hs.1]; exact v) (ev_pos (by omega) (ev_pos (by omega) (ev_pos (by omega) (ev_pos (by rw [hlt2]; omega) ?_))))
        rw [List.drop_drop, ← List.append_assoc]
        exact ih _ (i + n) (by omega) (by omega) (by rw [List.length_append, hlt2]; omega)
      · rw [if_neg v]
        have hv : ¬ ((((seqF (l.drop i)).1 : Int), (seqF (l.drop i)).2) : Int × Bool).2 = true := by rw [hs.1]; exact v
        refine ev_neg hv ?_
        by_cases z : (seqF (l.drop i)).1 = 0
        · have hn : (stretchF (l.drop i)).1 = 1 := by
            rcases hs.2 with q | q
            · omega
            · exact q.2.2
          refine ev_pos (by show ((seqF (l.drop i)).1 : Int) = 0; omega) (Ev.bind (put_ev x 65533 (by omega)) ?_)
          rw [encZ_bad, wrap_succ (by omega), hn, List.drop_drop, ← List.append_assoc]
          exact ih _ (i + 1) (by omega) (by omega) (by simp; omega)
        · have hn : (seqF (l.drop i)).1 = (stretchF (l.drop i)).1 := by
            rcases hs.2 with q | q
            · exact q
            · exact absurd q.1 z
          refine ev_neg (by show ¬ ((seqF (l.drop i)).1 : Int) = 0; omega) (Ev.bind (put_ev x 65533 (by omega)) ?_)
          have w1 : wrap64 ((i : Int) + ((seqF (l.drop i)).1 : Int)) = ((i + (stretchF (l.drop i)).1 : Nat) : Int) := by rw [hn, wrap_in (by omega) (by omega)]; omega
          rw [encZ_bad, w1, List.drop_drop, ← List.append_assoc]
          exact ih _ (i + (stretchF (l.drop i)).1) (by omega) (by omega) (by simp; omega)
theorem u8_ev (l : List Int) (hl : l.length ≤ 1048576) : Ev (fun n => spec_l1ReadUtf8.f n l) (rdU l.length l) :=
  Ev.congr (fun k => by unfold spec_l1ReadUtf8.f; rfl) (u8_loop l hl l.length [] 0 (by omega) (by omega) (Nat.le_refl _))
theorem latin_loop (l : List Int) (hl : l.length ≤ 1048576) (hr : ∀ x ∈ l, 0 ≤ x ∧ x ≤ 255) (d : Nat) : ∀ (x : List Int) (i : Nat), l.length - i = d → i ≤ l.length → x = encU (l.take i) → Ev (fun n => spec_l1Read.l0 n l x i) (encU l) := by
  induction d with
  | zero =>
    intro x i hd hi hx
    refine Ev.step (fun n => spec_l1Read.l0.eq_2 l x i n) (ev_neg (by omega) (ev_now ?_))
    rw [hx, List.take_of_length_le (by omega)]
  | succ d ih =>
    intro x i hd hi hx
    have hlt : i < l.length := by omega
    have hlen := encU_len (l.take i)
    rw [← hx, List.length_take] at hlen
    have hb := hr l[i] (List.getElem_mem hlt)
    refine Ev.step (fun n => spec_l1Read.l0.eq_2 l x i n) (ev_pos (by omega) (ev_pos (by omega) (Ev.bind (a := x ++ encZ l[i]) ?_ ?_)))
    · rw [rd_n1 l i hlt, wrap_in (by omega) (by omega)]
      exact put_ev x _ (by omega)
    · rw [wrap_succ (by omega)]
      exact ih _ (i + 1) (by omega) (by omega) (by rw [encU_succ l i hlt, hx])
/-! ### pairs of bytes -/
def num2 (g : Bool) (a b : Int) : Int := if g = true then a * 256 + b else b * 256 + a
def hi2 (n : Int) : Bool := decide (55296 ≤ n) && decide (n ≤ 56319)
def lo2 (n : Int) : Bool := decide (56320 ≤ n) && decide (n ≤ 57343)
def prs (g : Bool) : Nat → List Int → List Int
  | 0, _ => []
  | _ + 1, [] => []
  | _ + 1, [_] => [-1]
  | k + 1, a :: b :: c :: d :: r => if hi2 (num2 g a b) = true ∧ lo2 (num2 g c d) = true then (65536 + 1024 * (num2 g a b - 55296) + (num2 g c d - 56320)) :: prs g k r else num2 g a b :: prs g k (c :: d :: r)
  | k + 1, a :: b :: r => num2 g a b :: prs g k r
theorem num2_bd (g : Bool) {a b : Int} (ha : 0 ≤ a ∧ a ≤ 255) (hb : 0 ≤ b ∧ b ≤ 255) : 0 ≤ num2 g a b ∧ num2 g a b ≤ 65535 := by
  unfold num2
  split <;> omega
theorem wraps_i64 (n : Int) (h₀ : 0 ≤ n) (h₁ : n < 2 ^ 63) : IntKind.i64.wrap n = n := by rw [IntKind.wrap_i64]; omega
theorem or2 {a b : Int} (ha : 0 ≤ a ∧ a ≤ 255) (hb : 0 ≤ b ∧ b ≤ 255) : Go.bits .or .i64 (wrap64 ((wrap64 a) * 256)) (wrap64 b) = a * 256 + b := by
  rw [wrap_in (i := a) (by omega) (by omega), wrap_in (i := b) (by omega) (by omega), wrap_in (by omega) (by omega)]
  exact bits_join .i64 63 (by decide) wraps_i64 8 (a * 256) b (by omega) (by omega) (by omega) (by omega) (by omega) (by omega)
theorem num_impl (g : Bool) (a b : Int) (r : List Int) (ha : 0 ≤ a ∧ a ≤ 255) (hb : 0 ≤ b ∧ b ≤ 255) : impl_pairCoding_number.f g (a :: b :: r) = some (num2 g a b) := by
  have e0 : rd (a :: b :: r) 0 = a := rfl
  have e1 : rd (a :: b :: r) 1 = b := rfl
  rw [impl_pairCoding_number.f, e0, e1, or2 ha hb, or2 hb ha, num2]
  have c0 : (0 : Int) < ((a :: b :: r).length : Int) := by simp only [List.length_cons]; omega
  have c1 : (1 : Int) < ((a :: b :: r).length : Int) := by simp only [List.length_cons]; omega
  cases g
  · rw [if_neg (by decide), if_pos c1, if_pos c0, if_neg (by decide)]
  · rw [if_pos rfl, if_pos c0, if_pos c1, if_pos rfl]
theorem high_impl (n : Int) : impl_isHigh.f n = some (hi2 n) := by
  unfold impl_isHigh.f hi2
  by_cases c : n ≥ 55296
  · rw [if_pos c, decide_eq_true c, Bool.true_and]
  · rw [if_neg c, decide_eq_false c, Bool.false_and]
theorem low_impl (n : Int) : impl_isLow.f n = some (lo2 n) := by
  unfold impl_isLow.f lo2
  by_cases c : n ≥ 56320
  · rw [if_pos c, decide_eq_true c, Bool.true_and]
  · rw [if_neg c, decide_eq_false c, Bool.false_and]
theorem high_spec (n : Int) : spec_l1High.f n = some (hi2 n) := by
  unfold spec_l1High.f hi2
  by_cases c : n ≥ 55296
  · rw [if_pos c, decide_eq_true c, Bool.true_and]
  · rw [if_neg c, decide_eq_false c, Bool.false_and]
theorem encU_cons (c : Int) (l : List Int) : encU (c :: l) = encZ c ++ encU l := by simp [encU]
theorem encU_app (l m : List Int) : encU (l ++ m) = encU l ++ encU m := by simp [encU]
theorem enc_some (l : List Int) (h : l.length ≤ 1099511627776) : impl_Encode.f l = some (strOfNums (encU l)) := by rw [impl_Encode.f, if_pos h]
theorem prs_plain (g : Bool) (k : Nat) (a b : Int) (r : List Int) (h : ∀ c d r', r = c :: d :: r' → ¬ (hi2 (num2 g a b) = true ∧ lo2 (num2 g c d) = true)) : prs g (k + 1) (a :: b :: r) = num2 g a b :: prs g k r := by
  match r, h with
  | [], _ => rfl
  | [c], _ => rfl
  | c :: d :: r, h => rw [prs, if_neg (h c d r rfl)]
theorem app_cons (x : List Int) (v : Int) (l : List Int) : strOfNums (encU ((x ++ [v]) ++ l)) = strOfNums (encU (x ++ v :: l)) := by rw [List.append_assoc]; rfl
theorem pair_impl (g : Bool) (k : Nat) : ∀ (l x : List Int), l.length ≤ k → (∀ y ∈ l, 0 ≤ y ∧ y ≤ 255) → x.length + l.length ≤ 1048576 → Ev (fun n => impl_pairCoding_read.l0 n l x g) (strOfNums (encU (x ++ prs g (k + 1) l))) := by
  induction k with
  | zero =>
    intro l x hk hr hx
    obtain rfl : l = [] := List.eq_nil_of_length_eq_zero (by omega)
    refine Ev.step (fun n => impl_pairCoding_read.l0.eq_2 [] x g n) (ev_neg (by simp) (ev_neg (by simp) (ev_bc (enc_some x (by omega)) (ev_now ?_))))
    rw [prs, List.append_nil]
  | succ k ih =>
    intro l x hk hr hx
    match l, hk, hr, hx with
    | [], hk, hr, hx =>
      refine Ev.step (fun n => impl_pairCoding_read.l0.eq_2 [] x g n) (ev_neg (by simp) (ev_neg (by simp) (ev_bc (enc_some x (by simp at hx; omega)) (ev_now ?_))))
      rw [prs, List.append_nil]
    | [a], hk, hr, hx =>
      simp only [List.length_cons, List.length_nil] at hx
      refine Ev.step (fun n => impl_pairCoding_read.l0.eq_2 [a] x g n) (ev_neg (by simp) (ev_pos (by simp) (ev_pos (by omega) (ev_bc (enc_some (x ++ [-1]) (by simp; omega)) (ev_now ?_)))))
      rw [prs]
    | a :: b :: r, hk, hr, hx =>
      have ha := hr a (by simp)
      have hb := hr b (by simp)
      have hn := num2_bd g ha hb
      have hr2 : ∀ y ∈ r, 0 ≤ y ∧ y ≤ 255 := fun y hy => hr y (by simp [hy])
      simp only [List.length_cons] at hk hx
      have one : Ev (fun n => impl_pairCoding_read.l0 n r (x ++ [num2 g a b]) g) (strOfNums (encU ((x ++ [num2 g a b]) ++ prs g (k + 1) r))) := ih r _ (by omega) hr2 (by simp; omega)
      refine Ev.step (fun n => impl_pairCoding_read.l0.eq_2 (a :: b :: r) x g n) (ev_pos (by simp only [List.length_cons]; omega) (ev_bc (num_impl g a b r ha hb) (ev_pos (by simp only [List.length_cons]; omega) (ev_bs (ev_bc (high_impl _) ?_)))))
      show Ev (fun n => if hi2 (num2 g a b) = true then _ else _) _
      by_cases h : hi2 (num2 g a b) = true
      · refine ev_pos h ?_
        match r, hk, hr2, hx, one with
        | [], hk, hr2, hx, one =>
          refine ev_neg (by simp) (ev_pos (by omega) ?_)
          rw [prs_plain _ _ _ _ _ (by intro c d r z; cases z)]
          exact ev_to (app_cons x _ _) one
        | [c], hk, hr2, hx, one =>
          refine ev_neg (by simp) (ev_pos (by simp at hx; omega) ?_)
          rw [prs_plain _ _ _ _ _ (by intro c d r z; cases z)]
          exact ev_to (app_cons x _ _) one
        | c :: d :: r, hk, hr2, hx, one =>
          have hc := hr2 c (by simp)
          have hd := hr2 d (by simp)
          have hm := num2_bd g hc hd
          simp only [List.length_cons] at hk hx
          refine ev_pos (by show ((c :: d :: r).length : Int) > 1; simp only [List.length_cons]; omega) (ev_bc (num_impl g c d r hc hd) (ev_bc (low_impl _) ?_))
          by_cases q : lo2 (num2 g c d) = true
          · refine ev_pos q (ev_bc (num_impl g c d r hc hd) (ev_pos (by show 2 ≤ ((c :: d :: r).length : Int); simp only [List.length_cons]; omega) (ev_pos (by omega) ?_)))
            rw [prs, if_pos ⟨h, q⟩]
            refine ev_to (app_cons x _ _) ?_
            have e : wrap64 ((wrap64 (65536 + (wrap64 (1024 * (wrap64 (num2 g a b - 55296)))))) + (wrap64 (num2 g c d - 56320))) = 65536 + 1024 * (num2 g a b - 55296) + (num2 g c d - 56320) := by unfold wrap64; omega
            rw [e]
            exact ih r _ (by omega) (fun y hy => hr2 y (by simp [hy])) (by simp; omega)
          · refine ev_neg q (ev_pos (by omega) ?_)
            rw [prs, if_neg (fun z => q z.2)]
            exact ev_to (app_cons x _ _) one
      · refine ev_neg h (ev_pos (by omega) ?_)
        match r, one with
        | [], one => rw [prs_plain _ _ _ _ _ (by intro c d r z; cases z)]; exact ev_to (app_cons x _ _) one
        | [c], one => rw [prs_plain _ _ _ _ _ (by intro c d r z; cases z)]; exact ev_to (app_cons x _ _) one
        | c :: d :: r, one => rw [prs, if_neg (fun z => h z.1)]; exact ev_to (app_cons x _ _) one
theorem pair_at (l : List Int) (hr : ∀ x ∈ l, 0 ≤ x ∧ x ≤ 255) (hl : l.length ≤ 1048576) (e : Int) (i : Nat) (hi : i + 1 < l.length) : spec_l1Pair.f l i e = some (num2 (decide (e ≠ 1)) (l[i]'(by omega)) l[i + 1]) := by
  have ha := hr _ (List.getElem_mem (show i < l.length by omega))
  have hb := hr _ (List.getElem_mem hi)
  have w1 : wrap64 ((i : Int) + 1) = ((i + 1 : Nat) : Int) := wrap_succ (by omega)
  rw [spec_l1Pair.f, w1, rd_n1 l i (by omega), rd_n1 l (i + 1) hi, num2]
  by_cases c : e = 1
  · rw [if_pos c, if_pos (by omega), if_pos (by omega), if_pos (by omega), if_pos (by omega), if_neg (by simp [c])]
    congr 1; unfold wrap64; omega
  · rw [if_neg c, if_pos (by omega), if_pos (by omega), if_pos (by omega), if_pos (by omega), if_pos (by simp [c])]
    congr 1; unfold wrap64; omega
set_option maxHeartbeats 2000000 in
theorem pair_spec (l : List Int) (hl : l.length ≤ 1048576) (hr : ∀ x ∈ l, 0 ≤ x ∧ x ≤ 255) (e : Int) (k : Nat) : ∀ (x : List Int) (i : Nat), l.length - i ≤ k → i ≤ l.length → x.length ≤ 4 * i → Ev (fun n => spec_l1ReadPairs.l0 n l e x i) (x ++ encU (prs (decide (e ≠ 1)) (k + 1) (l.drop i))) := by
  have stop : ∀ (k : Nat) (x : List Int) (i : Nat), i = l.length → x.length ≤ 4 * i → Ev (fun n => spec_l1ReadPairs.l0 n l e x i) (x ++ encU (prs (decide (e ≠ 1)) (k + 1) (l.drop i))) := by
    intro k x i hi hx
    have w1 : wrap64 ((i : Int) + 1) = ((i + 1 : Nat) : Int) := wrap_succ (by omega)
    refine Ev.step (fun n => spec_l1ReadPairs.l0.eq_2 l e x i n) (ev_neg (by omega) (ev_neg (by omega) (ev_now ?_)))
    rw [List.drop_of_length_le (by omega), prs]; simp [encU]
  induction k with
  | zero =>
    intro x i hk hi hx
    exact stop 0 x i (by omega) hx
  | succ k ih =>
    intro x i hk hi hx
    by_cases e0 : i = l.length
    · exact stop (k + 1) x i e0 hx
    · have w1 : wrap64 ((i : Int) + 1) = ((i + 1 : Nat) : Int) := wrap_succ (by omega)
      have hlt : i < l.length := by omega
      by_cases e1 : i + 1 = l.length
      · refine Ev.step (fun n => spec_l1ReadPairs.l0.eq_2 l e x i n) (ev_neg (by omega) (ev_pos (by omega) (Ev.bind (put_ev x 65533 (by omega)) (ev_now ?_))))
        rw [List.drop_eq_getElem_cons hlt, List.drop_of_length_le (by omega), prs, encZ_bad]
        rfl
      · have hlt1 : i + 1 < l.length := by omega
        have w2 : wrap64 ((i : Int) + 2) = ((i + 2 : Nat) : Int) := (wrap_in (by omega) (by omega)).trans (by omega)
        have w3 : wrap64 (((i + 2 : Nat) : Int) + 1) = ((i + 3 : Nat) : Int) := wrap_succ (by omega)
        have w4 : wrap64 (((i + 2 : Nat) : Int) + 2) = ((i + 4 : Nat) : Int) := (wrap_in (by omega) (by omega)).trans (by omega)
        have hdr : l.drop i = l[i] :: l[i + 1] :: l.drop (i + 2) := by rw [List.drop_eq_getElem_cons hlt, List.drop_eq_getElem_cons hlt1]
        have ha := hr _ (List.getElem_mem hlt)
        have hb := hr _ (List.getElem_mem hlt1)
        have hn := num2_bd (decide (e ≠ 1)) ha hb
        have pa := pair_at l hr hl e i hlt1
        obtain ⟨v, hv⟩ : ∃ v, v = num2 (decide (e ≠ 1)) l[i] l[i + 1] := ⟨_, rfl⟩
        rw [← hv] at pa hn
        have hz := encZ_len v
        have HV := Aside0.mk hv
        have HD := Aside0.mk hdr
        clear hv hdr ha hb
        have one : Ev (fun n => spec_l1ReadPairs.l0 n l e (x ++ encZ v) ((i + 2 : Nat) : Int)) (x ++ encU (v :: prs (decide (e ≠ 1)) (k + 1) (l.drop (i + 2)))) := by
          rw [encU_cons, ← List.append_assoc]
          exact ih _ (i + 2) (by omega) (by omega) (by rw [List.length_append]; omega)
        have no : ∀ R, R = x ++ encU (v :: prs (decide (e ≠ 1)) (k + 1) (l.drop (i + 2))) → Ev (fun n => spec_l1ReadPairs.j1 n l e x ((i + 2 : Nat) : Int) v false) R := by
          intro R hR
          refine Ev.step (fun n => spec_l1ReadPairs.j1.eq_2 l e x ((i + 2 : Nat) : Int) v false n) (ev_neg (by decide) (Ev.bind (put_ev x v (by omega)) ?_))
          rw [hR]; exact one
        refine Ev.step (fun n => spec_l1ReadPairs.l0.eq_2 l e x i n) (ev_pos (by omega) (ev_bc pa (ev_bc (high_spec v) ?_)))
        rw [w2, w3]
        by_cases h : hi2 v = true
        · refine ev_pos h ?_
          by_cases t : i + 3 < l.length
          · rw [decide_eq_true (show ((i + 3 : Nat) : Int) < (l.length : Int) by omega)]
            have pb := pair_at l hr hl e (i + 2) t
            have hdr2 : l.drop (i + 2) = l[i + 2] :: l[i + 3] :: l.drop (i + 4) := by rw [List.drop_eq_getElem_cons (by omega : i + 2 < l.length), List.drop_eq_getElem_cons t]
            have hc := hr _ (List.getElem_mem (show i + 2 < l.length by omega))
            have hd := hr _ (List.getElem_mem t)
            have hm := num2_bd (decide (e ≠ 1)) hc hd
            obtain ⟨m, hm0⟩ : ∃ m, m = num2 (decide (e ≠ 1)) l[i + 2] l[i + 3] := ⟨_, rfl⟩
            have pb' : spec_l1Pair.f l ((i + 2 : Nat) : Int) e = some m := by rw [hm0]; exact pb
            rw [← hm0] at hm
            have HM0 := Aside0.mk hm0
            have HD2 := Aside0.mk hdr2
            clear hm0 hdr2 hc hd pb
            have j2 : Ev (fun n => spec_l1ReadPairs.j2 n l e x ((i + 2 : Nat) : Int) v m (lo2 m)) (x ++ encU (prs (decide (e ≠ 1)) (k + 1 + 1) (l.drop i))) := by
              rw [HD.out, HD2.out, prs, ← HV.out, ← HM0.out]
              by_cases q : lo2 m = true
              · rw [if_pos ⟨h, q⟩, q]
                have e5 : wrap64 ((wrap64 ((wrap64 (65536 + (wrap64 (1024 * (wrap64 (v - 55296)))))) + m)) - 56320) = 65536 + 1024 * (v - 55296) + (m - 56320) := by unfold wrap64; omega
                have hz2 := encZ_len (65536 + 1024 * (v - 55296) + (m - 56320))
                refine Ev.step (fun n => spec_l1ReadPairs.j2.eq_2 l e x ((i + 2 : Nat) : Int) v m true n) (ev_pos rfl (Ev.bind (a := x ++ encZ (65536 + 1024 * (v - 55296) + (m - 56320))) ?_ ?_))
                · rw [e5]; exact put_ev x _ (by omega)
                · rw [w4, encU_cons, ← List.append_assoc]
                  exact ih _ (i + 4) (by omega) (by omega) (by rw [List.length_append]; omega)
              · rw [if_neg (fun z => q z.2)]
                rw [Bool.eq_false_iff.mpr q, ← HD2.out]
                refine Ev.step (fun n => spec_l1ReadPairs.j2.eq_2 l e x ((i + 2 : Nat) : Int) v m false n) (ev_neg (by decide) (Ev.bind (put_ev x v (by omega)) ?_))
                exact one
            refine Ev.step (fun n => spec_l1ReadPairs.j1.eq_2 l e x ((i + 2 : Nat) : Int) v true n) (ev_pos rfl (ev_bc pb' ?_))
            by_cases q : m ≥ 56320
            · refine ev_pos q ?_
              have : lo2 m = decide (m ≤ 57343) := by rw [lo2, decide_eq_true q, Bool.true_and]
              rw [← this]; exact j2
            · refine ev_neg q ?_
              have : lo2 m = false := by rw [lo2, decide_eq_false q, Bool.false_and]
              rw [← this]; exact j2
          · rw [decide_eq_false (show ¬ ((i + 3 : Nat) : Int) < (l.length : Int) by omega)]
            refine no _ ?_
            rw [HD.out, prs_plain, ← HV.out]
            intro c d r' z
            have := congrArg List.length z
            rw [List.length_drop] at this
            simp only [List.length_cons] at this
            omega
        · refine ev_neg h (no _ ?_)
          rw [HD.out, prs_plain, ← HV.out]
          intro c d r' _ z
          exact h (by rw [HV.out]; exact z.1)
theorem prs_fuel (g : Bool) (k : Nat) : ∀ (l : List Int) (j : Nat), l.length < k → l.length < j → prs g k l = prs g j l := by
  induction k with
  | zero => intro l j h _; omega
  | succ k ih =>
    intro l j h hj
    obtain ⟨j, rfl⟩ : ∃ m, j = m + 1 := ⟨j - 1, by omega⟩
    match l, h, hj with
    | [], _, _ => rfl
    | [a], _, _ => rfl
    | [a, b], h, hj => rw [prs_plain _ _ _ _ _ (by intro c d r z; cases z), prs_plain _ _ _ _ _ (by intro c d r z; cases z), ih [] j (by simp at *; omega) (by simp at *; omega)]
    | [a, b, c], h, hj => rw [prs_plain _ _ _ _ _ (by intro c d r z; cases z), prs_plain _ _ _ _ _ (by intro c d r z; cases z), ih [c] j (by simp at *; omega) (by simp at *; omega)]
    | a :: b :: c :: d :: r, h, hj =>
      simp only [List.length_cons] at h hj
      rw [prs, prs, ih r j (by omega) (by omega), ih (c :: d :: r) j (by simp only [List.length_cons]; omega) (by simp only [List.length_cons]; omega)]
/-! ### the mark -/
def markL : Nat → List Int
  | 0 => [239, 187, 191]
  | 1 => [255, 254]
  | 2 => [254, 255]
  | _ => []
theorem markB_eq (e : Nat) : markB e = strOfNums (markL e) := by
  match e with
  | 0 => rfl
  | 1 => rfl
  | 2 => rfl
  | n + 3 => rfl
theorem markL_range (e : Nat) : ∀ x ∈ markL e, 0 ≤ x ∧ x ≤ 255 := by
  match e with
  | 0 => decide
  | 1 => decide
  | 2 => decide
  | n + 3 => intro x hx; cases hx
theorem bytes_back {l : List Int} (h : ∀ x ∈ l, 0 ≤ x ∧ x ≤ 255) : (strOfNums l).toList.map (fun b => (b.toNat : Int)) = l := by
  rw [Lib.strOfNums_toList, Lib.bytesOf, List.map_map]
  conv => rhs; rw [← List.map_id l]
  refine List.map_congr_left fun x hx => ?_
  have := h x hx
  show (((UInt8.ofNat x.toNat).toNat : Nat) : Int) = x
  rw [UInt8.toNat_ofNat']
  omega
theorem str_take (l : List Int) (n : Nat) : (strOfNums l).extract 0 n = strOfNums (l.take n) := by
  refine ByteArray.ext ?_
  rw [ByteArray.data_extract]
  apply Array.toList_inj.mp
  simp [strOfNums, List.map_take]
theorem pre_dec {l m : List Int} (hl : ∀ x ∈ l, 0 ≤ x ∧ x ≤ 255) (hm : ∀ x ∈ m, 0 ≤ x ∧ x ≤ 255) : strings_HasPrefix.f (strOfNums l) (strOfNums m) = some (decide (l.take m.length = m)) := by
  rw [strings_HasPrefix.f, stringslite_HasPrefix.f]
  have s1 := strOfNums_size l
  have s2 := strOfNums_size m
  by_cases c : ((strOfNums l).size : Int) ≥ ((strOfNums m).size : Int)
  · rw [if_pos c, if_pos (by omega), if_pos (by omega), Option.bind_some, Int.toNat_natCast, s2, str_take]
    congr 1
    by_cases q : l.take m.length = m
    · rw [q, decide_eq_true rfl]; exact beq_self_eq_true _
    · rw [decide_eq_false q]
      refine beq_eq_false_iff_ne.mpr fun z => q ?_
      have := congrArg (List.map fun b : UInt8 => (b.toNat : Int)) z
      rwa [bytes_back (fun x hx => hl x (List.mem_of_mem_take hx)), bytes_back hm] at this
  · rw [if_neg c, Option.bind_some, decide_eq_false]
    intro z
    have := congrArg List.length z
    rw [List.length_take] at this
    omega
theorem begins_loop (l m : List Int) (hl : m.length ≤ l.length) (hm : m.length ≤ 1048576) (d : Nat) : ∀ i : Nat, m.length - i = d → i ≤ m.length → Ev (fun n => spec_l1Begins.l0 n l m i) (decide ((l.drop i).take (m.length - i) = m.drop i)) := by
  induction d with
  | zero =>
    intro i hd hi
    refine Ev.step (fun n => spec_l1Begins.l0.eq_2 l m i n) (ev_neg (by omega) (ev_now ?_))
    rw [hd, List.drop_of_length_le (l := m) (by omega), List.take_zero, decide_eq_true rfl]
  | succ d ih =>
    intro i hd hi
    have h1 : i < m.length := by omega
    have h2 : i < l.length := by omega
    have e : m.length - i = (m.length - (i + 1)) + 1 := by omega
    refine Ev.step (fun n => spec_l1Begins.l0.eq_2 l m i n) (ev_pos (by omega) (ev_pos (by omega) (ev_pos (by omega) ?_)))
    rw [rd_n1 l i h2, rd_n1 m i h1, e, List.drop_eq_getElem_cons h1, List.drop_eq_getElem_cons h2, List.take_succ_cons]
    by_cases q : l[i] = m[i]
    · refine ev_pos q ?_
      rw [wrap_succ (by omega)]
      refine ev_to ?_ (ih (i + 1) (by omega) (by omega))
      rw [q]
      exact decide_eq_decide.mpr ⟨fun z => by rw [z], fun z => (List.cons.inj z).2⟩
    · refine ev_neg q (ev_now ?_)
      rw [decide_eq_false]
      intro z
      exact q (List.cons.inj z).1
theorem begins_ev (l m : List Int) (hp : m ≠ []) (hm : m.length ≤ 1048576) : Ev (fun n => spec_l1Begins.f n l m) (decide (l.take m.length = m)) := by
  have h0 : 0 < m.length := List.length_pos_iff.mpr hp
  refine Ev.congr (fun n => by unfold spec_l1Begins.f; rfl) (ev_neg (by omega) ?_)
  by_cases c : l.length < m.length
  · rw [decide_eq_true (show (l.length : Int) < (m.length : Int) by omega)]
    refine Ev.step (fun n => spec_l1Begins.j0.eq_2 l m true n) (ev_pos rfl (ev_now ?_))
    rw [decide_eq_false]
    intro z
    have := congrArg List.length z
    rw [List.length_take] at this
    omega
  · rw [decide_eq_false (show ¬ (l.length : Int) < (m.length : Int) by omega)]
    refine Ev.step (fun n => spec_l1Begins.j0.eq_2 l m false n) (ev_neg (by decide) ?_)
    have := begins_loop l m (by omega) hm m.length 0 (by omega) (by omega)
    rwa [List.drop_zero, List.drop_zero, Nat.sub_zero] at this
theorem begins_nil (l : List Int) : Ev (fun n => spec_l1Begins.f n l []) false :=
  Ev.congr (fun n => by unfold spec_l1Begins.f; rfl) (ev_pos rfl (Ev.step (fun n => spec_l1Begins.j0.eq_2 l [] true n) (ev_pos rfl (ev_now rfl))))
def pre (e : Nat) (l : List Int) : Bool := decide (l.take (markL e).length = markL e)
theorem mark_spec (e : Nat) (he : e ≤ 3) : spec_l1Mark.f (e : Int) = some (markL e) := by
  match e, he with
  | 0, _ => rfl
  | 1, _ => rfl
  | 2, _ => rfl
  | 3, _ => rfl
theorem mark_size (e : Nat) : (markB e).size = (markL e).length := by rw [markB_eq, strOfNums_size]
theorem unmarked_ev (l : List Int) (hl : l.length ≤ 1048576) (e : Nat) (he : e ≤ 3) : Ev (fun n => spec_l1Unmarked.f n l (e : Int)) (cutB e (pre e l) l) := by
  refine Ev.congr (fun n => by unfold spec_l1Unmarked.f; rfl) (ev_bc (mark_spec e he) ?_)
  by_cases h3 : e = 3
  · subst h3
    refine Ev.bind (begins_nil l) (ev_neg (by decide) (ev_now ?_))
    rw [cutB]
    split
    · rw [mark_size]; rfl
    · rfl
  · have hne : markL e ≠ [] := by
      match e, he, h3 with
      | 0, _, _ => decide
      | 1, _, _ => decide
      | 2, _, _ => decide
      | 3, _, h => exact absurd rfl h
    have hlen : (markL e).length ≤ 3 := by
      match e with
      | 0 => decide
      | 1 => decide
      | 2 => decide
      | n + 3 => exact Nat.zero_le _
    refine Ev.bind (begins_ev l (markL e) hne (by omega)) ?_
    by_cases q : l.take (markL e).length = markL e
    · have hle : (markL e).length ≤ l.length := by
        have := congrArg List.length q
        rw [List.length_take] at this
        omega
      refine ev_pos (decide_eq_true q) (ev_bc (mark_spec e he) (ev_pos (by omega) (ev_pos (by omega) (ev_now ?_))))
      rw [cutB, pre, if_pos (decide_eq_true q), mark_size, Int.toNat_natCast]
    · refine ev_neg (by simp [q]) (ev_now ?_)
      rw [cutB, pre, if_neg (by simp [q])]
/-! ### what both read -/
def readL (e : Nat) (l : List Int) : List Int := match e with
  | 0 => rdU l.length l
  | 1 => encU (prs false (l.length + 1) l)
  | 2 => encU (prs true (l.length + 1) l)
  | _ => encU l
theorem read_spec (l : List Int) (hl : l.length ≤ 1048576) (hr : ∀ x ∈ l, 0 ≤ x ∧ x ≤ 255) (e : Nat) (he : e ≤ 3) : Ev (fun n => spec_l1Read.f n l (e : Int)) (readL e l) := by
  refine Ev.congr (fun n => by unfold spec_l1Read.f; rfl) ?_
  match e, he with
  | 0, _ => exact ev_pos rfl (Ev.bind (u8_ev l hl) (ev_now rfl))
  | 1, _ =>
    refine ev_neg (by decide) (ev_neg (by decide) (Ev.bind (Ev.congr (fun n => by unfold spec_l1ReadPairs.f; rfl) (pair_spec l hl hr _ l.length [] 0 (by omega) (by omega) (Nat.zero_le _))) (ev_now ?_)))
    rw [List.drop_zero]; rfl
  | 2, _ =>
    refine ev_neg (by decide) (ev_neg (by decide) (Ev.bind (Ev.congr (fun n => by unfold spec_l1ReadPairs.f; rfl) (pair_spec l hl hr _ l.length [] 0 (by omega) (by omega) (Nat.zero_le _))) (ev_now ?_)))
    rw [List.drop_zero]; rfl
  | 3, _ => exact ev_neg (by decide) (ev_pos rfl (latin_loop l hl hr l.length [] 0 (by omega) (by omega) rfl))
theorem read_impl (l : List Int) (hl : l.length ≤ 1048576) (hr : ∀ x ∈ l, 0 ≤ x ∧ x ≤ 255) (e : Nat) (he : e ≤ 3) : Ev (fun n => readK n e l) (strOfNums (readL e l)) := by
  match e, he with
  | 0, _ => exact ev_now rfl
  | 1, _ =>
    have := pair_impl false l.length l [] (Nat.le_refl _) hr (by simpa using hl)
    exact Ev.congr (fun n => by unfold readK impl_pairCoding_read.f; rfl) this
  | 2, _ =>
    have := pair_impl true l.length l [] (Nat.le_refl _) hr (by simpa using hl)
    exact Ev.congr (fun n => by unfold readK impl_pairCoding_read.f; rfl) this
  | 3, _ => exact ev_now rfl
theorem wf_bytes {l : List Int} (h : ∀ x ∈ l, (Lit.int .u8 x).wf = true) : ∀ x ∈ l, 0 ≤ x ∧ x ≤ 255 := by
  intro x hx
  have := h x hx
  simp [Lit.wf, IntKind.min, IntKind.max, IntKind.signed, IntKind.bits] at this
  omega
theorem encOk (a : Int) : spec_l1EncOk.f a = some (decide (0 ≤ a) && decide (a ≤ 3)) := by
  unfold spec_l1EncOk.f
  by_cases c : a ≥ 0
  · rw [if_pos c, decide_eq_true c, Bool.true_and]
  · rw [if_neg c, decide_eq_false c, Bool.false_and]
theorem encOk_in {a : Int} (h : 0 ≤ a ∧ a ≤ 3) : spec_l1EncOk.f a = some true := by rw [encOk, decide_eq_true h.1, decide_eq_true h.2]; rfl
theorem encOk_out {a : Int} (h : ¬ (0 ≤ a ∧ a ≤ 3)) : spec_l1EncOk.f a = some false := by
  rw [encOk]
  by_cases c : 0 ≤ a
  · rw [decide_eq_true c, decide_eq_false (by omega)]; rfl
  · rw [decide_eq_false c]; rfl
/-! ### a feed's reading -/
def rdL (e : Nat) (b : Bool) (l : List Int) : List Int := if b = true then readL e l else readL e (cutB e (pre e l) l)
theorem rdF_ev (l : List Int) (hl : l.length ≤ 1048576) (hr : ∀ x ∈ l, 0 ≤ x ∧ x ≤ 255) (e : Nat) (he : e ≤ 3) (b : Bool) : Ev (fun n => rdF n e b l) (strOfNums (rdL e b l)) := by
  have hc : (cutB e (pre e l) l).length ≤ 1048576 := Nat.le_trans (cutB_len e (pre e l)) hl
  unfold rdL
  cases b with
  | true => exact Ev.congr (fun n => by unfold rdF; rw [if_pos rfl]) (read_impl l hl hr e he)
  | false =>
    refine Ev.congr (fun n => by unfold rdF; rw [if_neg (by decide)]) (ev_bc (a := pre e l) ?_ ?_)
    · rw [markB_eq]
      exact pre_dec hr (markL_range e)
    · exact read_impl _ hc (cutB_all e (pre e l) hr) e he
theorem szFeed_eq (a : Int) (b : Bool) (l : List Int) (hl : l.length ≤ 9223372036854775807) : laws_szFeed.f a b l 1048576 = some (if l.length ≤ 1048576 then 1048576 - (l.length : Int) else -1) := by
  have w1 : wrap64 (1048576 - (l.length : Int)) = 1048576 - (l.length : Int) := wrap_in (by omega) (by omega)
  unfold laws_szFeed.f laws_szByteS.f
  rw [w1]
  by_cases c : l.length ≤ 1048576
  · rw [if_pos c, if_neg (by omega), Option.bind_some, if_neg (by omega)]
  · rw [if_neg c, if_pos (by omega), Option.bind_some, if_pos (by omega)]
theorem toFeed_ev (a : Int) (b : Bool) (l : List Int) (hl : l.length ≤ 1048576) : Ev (fun n => laws_toFeed.f n a b l) (a, b, l) :=
  Ev.congr (fun n => by unfold laws_toFeed.f; rfl) (Ev.bind (toByteS_ev l hl) (ev_now rfl))
theorem eqFeed_ev (a : Int) (b : Bool) (l : List Int) (hl : l.length ≤ 1048576) : Ev (fun n => laws_eqFeed.f n a b l a b l) true :=
  Ev.congr (fun n => by unfold laws_eqFeed.f; rfl) (ev_pos rfl (ev_neg (by simp) (Ev.bind (eqByteS_ev l (by omega)) (ev_pos rfl (ev_now rfl)))))
theorem feedOk_eq (a : Int) (b : Bool) (l : List Int) : spec_l1FeedOk.f a b l = some (decide (0 ≤ a ∧ a ≤ 3) && decide (l.length ≤ 3)) := by
  unfold spec_l1FeedOk.f
  by_cases h : 0 ≤ a ∧ a ≤ 3
  · rw [encOk_in h, Option.bind_some, if_pos rfl, decide_eq_true h, Bool.true_and]
    congr 1
    exact decide_eq_decide.2 (by omega)
  · rw [encOk_out h, Option.bind_some, if_neg (by decide), decide_eq_false h]
    rfl
/-! ### what hangs on what comes -/
theorem tl_open : ∀ (k n : Nat) (lo hi : Int) (r : List Int), (tlF k n lo hi r).2.2 = true ↔ ((tlF k n lo hi r).2.1 = false ∧ (tlF k n lo hi r).1 = n + r.length) := by
  intro k
  induction k with
  | zero => intro n lo hi r; simp [tlF]
  | succ k ih =>
    intro n lo hi r
    cases r with
    | nil => simp [tlF]
    | cons c r =>
      rw [tlF]
      split
      · simp
      · rw [ih, List.length_cons]
        constructor
        · rintro ⟨h1, h2⟩; exact ⟨h1, by omega⟩
        · rintro ⟨h1, h2⟩; exact ⟨h1, by omega⟩
theorem seq_open (l : List Int) (h : l ≠ []) : (stretchF l).2.2 = true ↔ ((seqF l).2 = false ∧ 0 < (seqF l).1 ∧ (seqF l).1 = l.length) := by
  cases l with
  | nil => exact absurd rfl h
  | cons b r =>
    have hb := stretch_bd (b :: r) h
    by_cases c : (needsF b).1 = 0
    · have e : stretchF (b :: r) = (1, false, false) := by rw [stretchF, if_pos c]
      rw [e, seqF, if_pos c]
      simp
    · have e : stretchF (b :: r) = tlF ((needsF b).1.toNat - 1) 1 (needsF b).2.1 (needsF b).2.2 r := by rw [stretchF, if_neg c]
      have ho := tl_open ((needsF b).1.toNat - 1) 1 (needsF b).2.1 (needsF b).2.2 r
      rw [← e] at ho
      rw [seqF, if_neg c, ho, List.length_cons]
      constructor
      · rintro ⟨h1, h2⟩; exact ⟨h1, by show 0 < (stretchF (b :: r)).1; omega, by show (stretchF (b :: r)).1 = _; omega⟩
      · rintro ⟨h1, _, h2⟩
        have h2 : (stretchF (b :: r)).1 = r.length + 1 := h2
        exact ⟨h1, by omega⟩
theorem kept_loop (l : List Int) (hl : l.length ≤ 1048576) (k : Nat) : ∀ i : Nat, l.length - i ≤ k → i ≤ l.length → Ev (fun n => spec_l1Kept.l0 n l i) (keepU k (l.drop i) : Int) := by
  induction k with
  | zero =>
    intro i hk hi
    refine Ev.step (fun n => spec_l1Kept.l0.eq_2 l i n) (ev_neg (by omega) (ev_now ?_))
    rw [List.drop_of_length_le (by omega), keepU_nil]; rfl
  | succ k ih =>
    intro i hk hi
    by_cases e : i = l.length
    · refine Ev.step (fun n => spec_l1Kept.l0.eq_2 l i n) (ev_neg (by omega) (ev_now ?_))
      rw [List.drop_of_length_le (by omega), keepU_nil]; rfl
    · have hlt : i < l.length := by omega
      have hlen : (l.drop i).length = l.length - i := List.length_drop
      have hne : l.drop i ≠ [] := by intro z; rw [z] at hlen; simp at hlen; omega
      have hb := stretch_bd _ hne
      have hs := seq_st _ hne
      have ho := seq_open _ hne
      rw [hlen] at hb ho
      rw [keepU_cons k _ hne]
      refine Ev.step (fun n => spec_l1Kept.l0.eq_2 l i n) (ev_pos (by omega) (Ev.bind (seq_ev l (by omega) i hlt) ?_))
      have go : ∀ m : Nat, m = (stretchF (l.drop i)).1 → Ev (fun n => spec_l1Kept.l0 n l ((i + m : Nat) : Int)) (keepU k ((l.drop i).drop (stretchF (l.drop i)).1) : Int) := by
        intro m hm
        rw [← hm, List.drop_drop]
        exact ih (i + m) (by omega) (by omega)
      by_cases v : (seqF (l.drop i)).2 = true
      · have op : ¬ (stretchF (l.drop i)).2.2 = true := by rw [ho, v]; simp
        have e1 : (seqF (l.drop i)).1 = (stretchF (l.drop i)).1 := by
          rcases hs.2 with z | z
          · exact z
          · rw [v] at z; cases z.2.1
        rw [if_neg op]
        refine ev_pos v (Ev.step (fun n => spec_l1Kept.j1.eq_2 l i _ false n) (ev_neg (by decide) (ev_neg (show ¬ ((seqF (l.drop i)).1 : Int) = 0 by omega) ?_)))
        rw [show wrap64 ((i : Int) + (((seqF (l.drop i)).1 : Int), (seqF (l.drop i)).2).1) = ((i + (stretchF (l.drop i)).1 : Nat) : Int) by show wrap64 ((i : Int) + ((seqF (l.drop i)).1 : Int)) = _; rw [e1, wrap_in (by omega) (by omega)]; omega]
        exact go _ rfl
      · have v' : (seqF (l.drop i)).2 = false := by cases h : (seqF (l.drop i)).2 <;> simp_all
        refine ev_neg v ?_
        by_cases z : (seqF (l.drop i)).1 = 0
        · have op : ¬ (stretchF (l.drop i)).2.2 = true := by rw [ho, z]; simp
          have e1 : (stretchF (l.drop i)).1 = 1 := by
            rcases hs.2 with q | q
            · omega
            · exact q.2.2
          rw [if_neg op]
          refine ev_neg (show ¬ ((seqF (l.drop i)).1 : Int) > 0 by omega) (Ev.step (fun n => spec_l1Kept.j1.eq_2 l i _ false n) (ev_neg (by decide) (ev_pos (show ((seqF (l.drop i)).1 : Int) = 0 by omega) ?_)))
          rw [wrap_succ (by omega)]
          exact go 1 e1.symm
        · have e1 : (seqF (l.drop i)).1 = (stretchF (l.drop i)).1 := by
            rcases hs.2 with q | q
            · exact q
            · exact absurd q.1 z
          have w1 : wrap64 ((i : Int) + ((seqF (l.drop i)).1 : Int)) = ((i + (stretchF (l.drop i)).1 : Nat) : Int) := by rw [e1, wrap_in (by omega) (by omega)]; omega
          refine ev_pos (show ((seqF (l.drop i)).1 : Int) > 0 by omega) ?_
          show Ev (fun n => spec_l1Kept.j1 n l i ((seqF (l.drop i)).1 : Int) (wrap64 ((i : Int) + ((seqF (l.drop i)).1 : Int)) == (l.length : Int))) _
          rw [w1]
          by_cases op : (stretchF (l.drop i)).2.2 = true
          · have h3 := (ho.1 op).2.2
            have e2 : (((i + (stretchF (l.drop i)).1 : Nat) : Int) == (l.length : Int)) = true := beq_iff_eq.2 (by omega)
            rw [e2, if_pos op]
            exact Ev.step (fun n => spec_l1Kept.j1.eq_2 l i _ true n) (ev_pos rfl (ev_now (by omega)))
          · have e2 : (((i + (stretchF (l.drop i)).1 : Nat) : Int) == (l.length : Int)) = false := beq_eq_false_iff_ne.2 (fun z2 => op (ho.2 ⟨v', by omega, by omega⟩))
            rw [e2, if_neg op]
            refine Ev.step (fun n => spec_l1Kept.j1.eq_2 l i _ false n) (ev_neg (by decide) (ev_neg (by omega) ?_))
            rw [w1]
            exact go _ rfl
theorem num_get (g : Bool) (l : List Int) (i : Nat) (hi : i + 1 < l.length) (hr : ∀ x ∈ l, 0 ≤ x ∧ x ≤ 255) : impl_pairCoding_number.f g (l.drop i) = some (num2 g (l[i]'(by omega)) l[i + 1]) := by
  rw [List.drop_eq_getElem_cons (show i < l.length by omega), List.drop_eq_getElem_cons hi]
  exact num_impl g _ _ _ (hr _ (List.getElem_mem _)) (hr _ (List.getElem_mem _))
theorem pair_kept (l : List Int) (hl : l.length ≤ 1048576) (hr : ∀ x ∈ l, 0 ≤ x ∧ x ≤ 255) (e : Int) (he : e = 1 ∨ e = 2) : ∃ q : Nat, q ≤ l.length ∧ (∀ n, spec_l1Kept.f n l e = some (q : Int)) ∧ pairKeep (decide (e ≠ 1)) l = some q := by
  have hm : (l.length : Int) % 2 = ((l.length % 2 : Nat) : Int) := by omega
  have w1 : wrap64 ((l.length : Int) - ((l.length : Int) % 2)) = ((l.length - l.length % 2 : Nat) : Int) := by rw [wrap_in (by omega) (by omega)]; omega
  have n0 : ¬ e = 0 := by omega
  have n3 : ¬ e = 3 := by omega
  by_cases c : 2 ≤ l.length - l.length % 2
  · have w2 : wrap64 (((l.length - l.length % 2 : Nat) : Int) - 2) = ((l.length - l.length % 2 - 2 : Nat) : Int) := by rw [wrap_in (by omega) (by omega)]; omega
    obtain ⟨i, hi⟩ : ∃ i, i = l.length - l.length % 2 - 2 := ⟨_, rfl⟩
    have hi1 : i + 1 < l.length := by omega
    have hp := pair_at l hr hl e i hi1
    have hq := num_get (decide (e ≠ 1)) l i hi1 hr
    refine ⟨if hi2 (num2 (decide (e ≠ 1)) (l[i]'(by omega)) l[i + 1]) = true then l.length % 2 + 2 else l.length % 2, by split <;> omega, fun n => ?_, ?_⟩
    · unfold spec_l1Kept.f
      rw [if_neg n0, if_neg n3, w1, if_pos (by omega), w2, ← hi, hp, Option.bind_some, high_spec, Option.bind_some]
      split
      · first | rfl | exact congrArg some (by omega)
      · first | rfl | exact congrArg some (by omega)
    · unfold pairKeep impl_pairCoding_keep.f
      rw [w1, w2, if_pos (by omega), if_pos (by omega), if_pos (by omega), Int.toNat_natCast, ← hi, hq, Option.bind_some, high_impl, Option.bind_some]
      split
      · rw [Option.bind_some, if_pos (by omega)]; first | done | rfl | exact congrArg some (by omega)
      · rw [Option.bind_some, if_pos (by omega)]; first | done | rfl | exact congrArg some (by omega)
  · have w2 : wrap64 (((l.length - l.length % 2 : Nat) : Int) - 2) < 0 := by rw [wrap_in (by omega) (by omega)]; omega
    refine ⟨l.length % 2, by omega, fun n => ?_, ?_⟩
    · unfold spec_l1Kept.f
      rw [if_neg n0, if_neg n3, w1, if_neg (by omega)]
      congr 1
    · unfold pairKeep impl_pairCoding_keep.f
      rw [w1, if_neg (by omega), Option.bind_some, if_pos (by omega)]
      congr 1
theorem kept_both (l : List Int) (hl : l.length ≤ 1048576) (hr : ∀ x ∈ l, 0 ≤ x ∧ x ≤ 255) (e : Nat) (he : e ≤ 3) : ∃ q : Nat, q ≤ l.length ∧ Ev (fun n => spec_l1Kept.f n l (e : Int)) (q : Int) ∧ keepK e l = some q := by
  match e, he with
  | 0, _ =>
    refine ⟨keepU l.length l, keepU_le _ _, ?_, rfl⟩
    exact Ev.congr (fun n => by unfold spec_l1Kept.f; rfl) (ev_pos rfl (kept_loop l hl l.length 0 (by omega) (by omega)))
  | 1, _ =>
    obtain ⟨q, h1, h2, h3⟩ := pair_kept l hl hr 1 (.inl rfl)
    exact ⟨q, h1, Ev.congr h2 (ev_now rfl), h3⟩
  | 2, _ =>
    obtain ⟨q, h1, h2, h3⟩ := pair_kept l hl hr 2 (.inr rfl)
    exact ⟨q, h1, Ev.congr h2 (ev_now rfl), h3⟩
  | 3, _ => exact ⟨0, Nat.zero_le _, Ev.congr (fun n => by unfold spec_l1Kept.f; rfl) (ev_neg (by decide) (ev_pos rfl (ev_now rfl))), rfl⟩
theorem sRead_ev (l : List Int) (hl : l.length ≤ 1048576) (hr : ∀ x ∈ l, 0 ≤ x ∧ x ≤ 255) (e : Nat) (he : e ≤ 3) (b : Bool) : Ev (fun n => sReadF n (e : Int) b l) (rdL e b l) := by
  have hc : (cutB e (pre e l) l).length ≤ 1048576 := Nat.le_trans (cutB_len e (pre e l)) hl
  refine Ev.congr (fun n => by unfold sReadF; rfl) ?_
  unfold rdL
  cases b with
  | true => rw [if_pos rfl]; exact ev_pos rfl (read_spec l hl hr e he)
  | false => rw [if_neg (by decide)]; exact ev_neg (by decide) (Ev.bind (unmarked_ev l hl e he) (read_spec _ hc (cutB_all e (pre e l) hr) e he))
theorem more_both (a : Int) (b : Bool) (l0 l1 : List Int) (h0 : l0.length ≤ 1048576) (h1 : l1.length ≤ 1048576) (hr0 : ∀ x ∈ l0, 0 ≤ x ∧ x ≤ 255) (hr1 : ∀ x ∈ l1, 0 ≤ x ∧ x ≤ 255) : ∃ r, r.2.2.1.length ≤ 1048576 ∧ Ev (fun n => spec_FeedMore.f n a b l0 l1) r ∧ Ev (fun n => impl_FeedMore.f n a b l0 l1) r := by
  have ok0 : bytesOk l0 = true := List.all_eq_true.2 fun x hx => by have := hr0 x hx; simp [this]
  have ok1 : bytesOk l1 = true := List.all_eq_true.2 fun x hx => by have := hr1 x hx; simp [this]
  by_cases ha : 0 ≤ a ∧ a ≤ 3
  · obtain ⟨e, rfl⟩ : ∃ e : Nat, a = e := ⟨a.toNat, by omega⟩
    have he : e ≤ 3 := by omega
    have hor : (e : Int) = 0 ∨ (e : Int) = 1 ∨ (e : Int) = 2 ∨ (e : Int) = 3 := by omega
    by_cases c : l0.length ≤ 3
    · by_cases c1 : l1.length ≤ 60000
      · have hx : (l0 ++ l1).length ≤ 60003 := by rw [List.length_append]; omega
        have hxr : ∀ x ∈ l0 ++ l1, 0 ≤ x ∧ x ≤ 255 := fun x hx => by rcases List.mem_append.1 hx with z | z; exact hr0 x z; exact hr1 x z
        obtain ⟨q, hq, hk1, hk2⟩ := kept_both (l0 ++ l1) (by omega) hxr e he
        obtain ⟨n, hn⟩ : ∃ n, n = (l0 ++ l1).length - q := ⟨_, rfl⟩
        have w1 : wrap64 (((l0 ++ l1).length : Int) - (q : Int)) = (n : Int) := by rw [wrap_in (by omega) (by omega)]; omega
        have htl : ((l0 ++ l1).take n).length ≤ 1048576 := by rw [List.length_take]; omega
        have htr : ∀ x ∈ (l0 ++ l1).take n, 0 ≤ x ∧ x ≤ 255 := fun x hx => hxr x (List.mem_of_mem_take hx)
        refine ⟨((e : Int), b || decide (0 < n), (l0 ++ l1).drop n, strOfNums (rdL e b ((l0 ++ l1).take n))), by show ((l0 ++ l1).drop n).length ≤ _; rw [List.length_drop]; omega, ?_, ?_⟩
        · refine Ev.congr (fun n => by unfold spec_FeedMore.f; rfl) (ev_pos h0 (ev_bc (feedOk_eq e b l0) ?_))
          rw [decide_eq_true ha, decide_eq_true c]
          refine ev_pos rfl (ev_pos c1 (Ev.bind hk1 ?_))
          rw [w1, Int.toNat_natCast]
          exact ev_pos (by omega) (ev_pos (by omega) (Ev.bind (sRead_ev _ htl htr e he b) (ev_now rfl)))
        · refine Ev.congr (fun n => by unfold impl_FeedMore.f; rfl) (ev_pos ok0 (ev_pos ok1 (ev_pos hor (ev_pos c (ev_pos c1 (ev_bc (a := q) ?_ (ev_pos hq ?_)))))))
          · rw [Int.toNat_natCast]; exact hk2
          · rw [Int.toNat_natCast, ← hn]
            exact Ev.bind (rdF_ev _ htl htr e he b) (ev_now rfl)
      · refine ⟨moreZ, by decide, ?_, ?_⟩
        · refine Ev.congr (fun n => by unfold spec_FeedMore.f; rfl) (ev_pos h0 (ev_bc (feedOk_eq e b l0) ?_))
          rw [decide_eq_true ha, decide_eq_true c]
          exact ev_pos rfl (ev_neg c1 (ev_now rfl))
        · exact Ev.congr (fun n => by unfold impl_FeedMore.f; rfl) (ev_pos ok0 (ev_pos ok1 (ev_pos hor (ev_pos c (ev_neg c1 (ev_now rfl))))))
    · refine ⟨moreZ, by decide, ?_, ?_⟩
      · refine Ev.congr (fun n => by unfold spec_FeedMore.f; rfl) (ev_pos h0 (ev_bc (feedOk_eq e b l0) ?_))
        rw [decide_eq_false c, Bool.and_false]
        exact ev_neg (by decide) (ev_now rfl)
      · exact Ev.congr (fun n => by unfold impl_FeedMore.f; rfl) (ev_pos ok0 (ev_pos ok1 (ev_pos hor (ev_neg c (ev_now rfl)))))
  · refine ⟨moreZ, by decide, ?_, ?_⟩
    · refine Ev.congr (fun n => by unfold spec_FeedMore.f; rfl) (ev_pos h0 (ev_bc (feedOk_eq a b l0) ?_))
      rw [decide_eq_false ha, Bool.false_and]
      exact ev_neg (by decide) (ev_now rfl)
    · exact Ev.congr (fun n => by unfold impl_FeedMore.f; rfl) (ev_pos ok0 (ev_pos ok1 (ev_neg (by omega) (ev_now rfl))))
theorem ne_self {α : Type} [DecidableEq α] (x : List α) : (x != x) = false := by simp
theorem FnExactFeedMore : laws_FnExactFeedMore.Pure := by
  intro a b l0 l1 _ hw hm1 hs1 hw1
  have hr := wf_bytes hw.2
  have hr1 := wf_bytes hw1
  have hm : l0.length ≤ 9223372036854775807 := hw.1
  refine Ev.rounds (r := true) ?_
  refine Ev.congr (fun k => by unfold laws_FnExactFeedMore.f; rfl) (ev_ite (fun _ => Ev.now true) fun hc1 => ?_)
  have h1 : l1.length ≤ 1048576 := by omega
  by_cases hs : l0.length ≤ 1048576
  · have e1 := szFeed_eq a b l0 hm
    rw [if_pos hs] at e1
    refine ev_bc e1 (ev_neg (show ¬ (1048576 - (l0.length : Int)) < 0 by omega) ?_)
    obtain ⟨⟨ra, rb, rl, rs⟩, hrl, h2, h3⟩ := more_both a b l0 l1 hs h1 hr hr1
    have hrl : rl.length ≤ 1048576 := hrl
    have hmk : (mkb 1 rl.length).length = rl.length := mkb_length _ _
    have held : Ev (fun k => laws_heldFeed.f k ra rb (mkb 1 rl.length) 1) (1 + (rl.length : Int)) := by
      refine Ev.congr (fun k => by unfold laws_heldFeed.f; rfl) (Ev.bind (heldb_ev rl.length (by omega) 1 (by omega) (by omega)) ?_)
      exact ev_neg (show ¬ (1 + (rl.length : Int)) < 0 by omega) (ev_now rfl)
    have tail : Ev (fun k => laws_FnExactFeedMore.j1 k l1 rs (rs.toList != rs.toList) a b l0 ra rb rl ra rb rl) true := by
      rw [ne_self]
      refine Ev.step (fun k => laws_FnExactFeedMore.j1.eq_2 l1 rs false a b l0 ra rb rl ra rb rl k) (ev_neg (by decide) ?_)
      refine Ev.bind (a := (1 + (rl.length : Int), mkb 1 rl.length)) (Ev.congr (fun k => by unfold laws_markFeed.f; rfl) (Ev.bind (markb_ev rl (by omega) 1 (by omega) (by omega)) (ev_now rfl))) ?_
      refine Ev.bind held (ev_neg (show ¬ (1 + (rl.length : Int)) < 0 by omega) (ev_pos rfl ?_))
      refine Ev.bind (toFeed_ev a b l0 hs) (Ev.bind (toByteS_ev l1 h1) (Ev.bind h3 (Ev.bind (eqFeed_ev ra rb rl hrl) (ev_pos rfl ?_))))
      show Ev (fun k => laws_FnExactFeedMore.j2 k (1 + (rl.length : Int)) (rs.toList != rs.toList) ra rb (mkb 1 rl.length)) true
      rw [ne_self]
      exact Ev.step (fun k => laws_FnExactFeedMore.j2.eq_2 _ false ra rb _ k) (ev_neg (by decide) (Ev.bind held (ev_neg (show ¬ (1 + (rl.length : Int)) < 0 by omega) (ev_pos rfl (ev_now rfl)))))
    refine Ev.bind (toFeed_ev a b l0 hs) (Ev.bind (toByteS_ev l1 h1) (Ev.bind h2 (Ev.bind (toFeed_ev a b l0 hs) (Ev.bind (toByteS_ev l1 h1) (Ev.bind h3 (Ev.bind (eqFeed_ev ra rb rl hrl) (ev_pos rfl ?_)))))))
    show Ev (fun k => laws_FnExactFeedMore.j0 k l1 rs l1 rs (rs.toList != rs.toList) a b l0 ra rb rl a b l0 ra rb rl) true
    rw [ne_self]
    refine Ev.step (fun k => laws_FnExactFeedMore.j0.eq_2 l1 rs l1 rs false a b l0 ra rb rl a b l0 ra rb rl k) (ev_neg (by decide) ?_)
    refine Ev.bind (toFeed_ev a b l0 hs) (Ev.bind (eqFeed_ev a b l0 hs) (ev_pos rfl (Ev.bind (toByteS_ev l1 h1) (Ev.bind (eqByteS_ev l1 (by omega)) (ev_pos rfl ?_)))))
    refine Ev.bind (a := (1 + (l0.length : Int), mkb 1 l0.length)) (Ev.congr (fun k => by unfold laws_markFeed.f; rfl) (Ev.bind (markb_ev l0 (by omega) 1 (by omega) (by omega)) (ev_now rfl))) ?_
    refine Ev.bind (markb_ev l1 (by omega) (1 + (l0.length : Int)) (by omega) (by omega)) (ev_neg (show ¬ (1 + (l0.length : Int) + (l1.length : Int)) < 0 by omega) (Ev.bind (eqFeed_ev ra rb rl hrl) (ev_pos rfl tail)))
  · have e1 := szFeed_eq a b l0 hm
    rw [if_neg hs] at e1
    exact ev_bc e1 (ev_pos (show (-1 : Int) < 0 by omega) (ev_now rfl))
end Go.Proofs.Ytmffcjjodkggcaa.Fact
