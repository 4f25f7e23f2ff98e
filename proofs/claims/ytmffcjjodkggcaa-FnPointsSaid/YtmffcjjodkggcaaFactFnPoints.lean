/- FnPoints: drawn code points are written and read back; a drawn text's code points, written again, are the text read; line ends made one are one. -/
import Derived.Test.YtmffcjjodkggcaaMFnPointsx9
import Derived.Test.YtmffcjjodkggcaaMFnPointsx7
import Derived.Laws.BitsLemmas
import Derived.Lib.Bytes
import Derived.Lib.DecodeN
namespace Go.Proofs.Ytmffcjjodkggcaa.Fact
open Go.RowKit Go.Proofs.Ytmffcjjodkggcaa.MFnPoints Go.Proofs.YtmffcjjodkggcaaW.PrintWords Go.Proofs.YtmffcjjodkggcaaW.PrintLast
set_option linter.unusedVariables false
set_option linter.unusedSimpArgs false
/-! ### what comes from some round on -/
theorem ev_pos {α : Type} {c : Prop} [Decidable c] {f g : Nat → Option α} {r : α} (h : c) (k : Ev f r) : Ev (fun n => if c then f n else g n) r := by
  simpa only [if_pos h] using k
theorem ev_neg {α : Type} {c : Prop} [Decidable c] {f g : Nat → Option α} {r : α} (h : ¬ c) (k : Ev g r) : Ev (fun n => if c then f n else g n) r := by
  simpa only [if_neg h] using k
theorem ev_now {α : Type} {q r : α} (h : q = r) : Ev (fun _ => some q) r := by rw [h]; exact Ev.now r
theorem ev_bs {α β : Type} {a : α} {f : Nat → α → Option β} {r : β} (k : Ev (fun n => f n a) r) : Ev (fun n => (some a).bind (f n)) r := by
  simpa only [Option.bind_some] using k
theorem ev_bc {α β : Type} {o : Option α} {a : α} {f : Nat → α → Option β} {r : β} (h : o = some a) (k : Ev (fun n => f n a) r) : Ev (fun n => o.bind (f n)) r := by
  rw [h]; exact ev_bs k
theorem wrap_in {i : Int} (h0 : -9223372036854775808 ≤ i) (h1 : i ≤ 9223372036854775807) : wrap64 i = i := by
  unfold wrap64
  omega
theorem i64_bounds {x : Int} (h : (Lit.int .i64 x).wf = true) : -9223372036854775808 ≤ x ∧ x ≤ 9223372036854775807 := by
  simp [Lit.wf, IntKind.min, IntKind.max, IntKind.signed, IntKind.bits] at h
  omega
theorem ev_ite {α : Type} {c : Prop} [Decidable c] {f g : Nat → Option α} {r : α} (h1 : c → Ev f r) (h2 : ¬ c → Ev g r) : Ev (fun n => if c then f n else g n) r := by
  by_cases h : c
  · exact ev_pos h (h1 h)
  · exact ev_neg h (h2 h)
theorem ev_to {α : Type} {f : Nat → Option α} {q r : α} (h : q = r) (k : Ev f q) : Ev f r := h ▸ k
theorem wrap_succ {i : Nat} (h : i < 9223372036854775807) : wrap64 ((i : Int) + 1) = ((i + 1 : Nat) : Int) := by
  rw [wrap_in (by omega) (by omega)]; rfl
theorem getD_nat {α : Type} (d : α) (xs : List α) (i : Nat) (h : i < xs.length) : xs.getD (i : Int).toNat d = xs[i] := by
  simp [List.getElem?_eq_getElem h]
/-- A loop that counts from i up to n, its state s. -/
theorem ev_loop {σ ρ : Type} {g : Nat → σ → Int → Option ρ} (n : Nat) (R : Nat → σ → ρ) (Inv : Nat → σ → Prop)
    (hend : ∀ s, Inv n s → Ev (fun k => g k s n) (R n s))
    (hstep : ∀ i s, i < n → Inv i s → (∀ s', Inv (i + 1) s' → Ev (fun k => g k s' ((i + 1 : Nat) : Int)) (R (i + 1) s')) → Ev (fun k => g k s i) (R i s)) :
    ∀ i, i ≤ n → ∀ s, Inv i s → Ev (fun k => g k s i) (R i s) := by
  have key : ∀ d i, n - i = d → i ≤ n → ∀ s, Inv i s → Ev (fun k => g k s i) (R i s) := by
    intro d
    induction d with
    | zero =>
      intro i hd hi s hs
      obtain rfl : i = n := by omega
      exact hend s hs
    | succ d ih =>
      intro i hd hi s hs
      exact hstep i s (by omega) hs (ih (i + 1) (by omega) (by omega))
  exact fun i hi s hs => key (n - i) i rfl hi s hs
/-- The same, without a state. -/
theorem ev_count {ρ : Type} {g : Nat → Int → Option ρ} (n : Nat) (R : Nat → ρ) (hend : Ev (fun k => g k n) (R n))
    (hstep : ∀ i, i < n → Ev (fun k => g k ((i + 1 : Nat) : Int)) (R (i + 1)) → Ev (fun k => g k i) (R i)) : ∀ i, i ≤ n → Ev (fun k => g k i) (R i) := by
  intro i hi
  exact ev_loop (σ := Unit) (g := fun k _ i => g k i) n (fun i _ => R i) (fun _ _ => True) (fun _ _ => hend) (fun i _ h _ ih => hstep i h (ih () trivial)) i hi () trivial
/-- A loop that writes F of each element into a list of the same length. -/
theorem ev_copy {α β : Type} {g : Nat → List β → Int → Option (List β)} (F : α → β) (xs : List α)
    (hend : ∀ ys : List β, ys.length = xs.length → Ev (fun k => g k ys xs.length) ys)
    (hstep : ∀ (ys : List β) (i : Nat) (h : i < xs.length), ys.length = xs.length → Ev (fun k => g k (ys.set i (F xs[i])) ((i + 1 : Nat) : Int)) (xs.map F) → Ev (fun k => g k ys i) (xs.map F))
    (ys : List β) (hl : ys.length = xs.length) : Ev (fun k => g k ys 0) (xs.map F) := by
  refine ev_loop (g := g) xs.length (fun _ _ => xs.map F) (fun i ys => ys.length = xs.length ∧ ys.take i = (xs.map F).take i) ?_ ?_ 0 (Nat.zero_le _) ys ⟨hl, rfl⟩
  · intro ys hs
    have e : ys = xs.map F := by
      have := hs.2
      rwa [List.take_of_length_le (by omega), List.take_of_length_le (by simp)] at this
    rw [← e]; exact hend ys hs.1
  · intro i ys hi hs ih
    refine hstep ys i hi hs.1 (ih _ ⟨by rw [List.length_set]; exact hs.1, ?_⟩)
    rw [List.take_succ_eq_append_getElem (by rw [List.length_set]; omega), List.take_succ_eq_append_getElem (by rw [List.length_map]; omega), List.take_set, hs.2, List.getElem_set_self, List.getElem_map]
    rw [List.set_eq_of_length_le (by simp; omega)]
theorem ite_eq {α : Type} {c : Prop} [Decidable c] {x y z : α} (h1 : c → x = z) (h2 : ¬ c → y = z) : (if c then x else y) = z := by
  by_cases h : c
  · rw [if_pos h]; exact h1 h
  · rw [if_neg h]; exact h2 h
theorem iteP {α : Type} {P : α → Prop} {c : Prop} [Decidable c] {x y : α} (h1 : c → P x) (h2 : ¬ c → P y) : P (if c then x else y) := by
  by_cases h : c
  · rw [if_pos h]; exact h1 h
  · rw [if_neg h]; exact h2 h
/-! ### the reference's reading of one sequence -/
def seqF : List Int → Nat × Bool
  | [] => (0, false)
  | b :: r => if (needsF b).1 = 0 then (0, false) else ((stretchF (b :: r)).1, (stretchF (b :: r)).2.1)
theorem wrap_n1 (n : Nat) (h : n ≤ 1099511627776) : wrap64 ((n : Int) + 1) = ((n + 1 : Nat) : Int) := by unfold wrap64; omega
theorem wrap_nn (n m : Nat) (h : n ≤ 1099511627776) (h2 : m ≤ 1099511627776) : wrap64 ((n : Int) + (m : Int)) = ((n + m : Nat) : Int) := by unfold wrap64; omega
theorem seq_l0 (l : List Int) (hl : l.length ≤ 1099511627776) (at_ : Nat) (ha : at_ < l.length) (need : Int) (h4 : need ≤ 4) : ∀ (q k n kk : Nat) (lo hi : Int), (kk : Int) + q = need → q < k → 1 ≤ n → n ≤ kk + 1 → spec_l1Seq.l0 k l at_ need lo hi n kk = some (((tlF q n lo hi (l.drop (at_ + n))).1 : Int), (tlF q n lo hi (l.drop (at_ + n))).2.1) := by
  intro q
  induction q with
  | zero =>
    intro k n kk lo hi hw hk h1 hn
    obtain ⟨k, rfl⟩ : ∃ m, k = m + 1 := ⟨k - 1, by omega⟩
    rw [spec_l1Seq.l0, if_neg (by omega)]; first | done | rfl
  | succ q ih =>
    intro k n kk lo hi hw hk h1 hn
    obtain ⟨k, rfl⟩ : ∃ m, k = m + 1 := ⟨k - 1, by omega⟩
    have b1 : n ≤ 1099511627776 := by omega
    have b2 : kk ≤ 1099511627776 := by omega
    have ew := wrap_nn at_ n (by omega) b1
    have hw1 := wrap_n1 n b1
    have hw2 := wrap_n1 kk b2
    have j1 : ((kk + 1 : Nat) : Int) + q = need := by omega
    have j2 : q < k := by omega
    have j3 : n + 1 ≤ kk + 1 + 1 := by omega
    have j4 : (kk : Int) < need := by omega
    rw [spec_l1Seq.l0, if_pos j4, ew]
    clear hw hk hn j4 b1 b2 ew
    by_cases e : l.length ≤ at_ + n
    · have hd : l.drop (at_ + n) = [] := List.drop_of_length_le e
      rw [if_pos (by omega), hd, tlF]
    · have hlt : at_ + n < l.length := by omega
      rw [if_neg (by omega), if_pos (by omega), if_pos (by omega), rd_n1 l (at_ + n) hlt, List.drop_eq_getElem_cons hlt, tlF]
      by_cases c : l[at_ + n] < lo
      · rw [if_pos c, if_pos (.inl c)]
      · by_cases d : l[at_ + n] > hi
        · rw [if_neg c, if_pos d, if_pos (.inr d)]
        · rw [if_neg c, if_neg d, if_neg (by omega)]
          rw [hw1, hw2]
          have := ih k (n + 1) (kk + 1) 128 191 j1 j2 (Nat.le_add_left 1 n) j3
          rw [show at_ + (n + 1) = at_ + n + 1 from rfl] at this
          exact this
set_option maxHeartbeats 4000000 in
theorem seq_spec (l : List Int) (hl : l.length ≤ 1099511627776) (at_ : Nat) (ha : at_ < l.length) : spec_l1Seq.f 12 l at_ = some (((seqF (l.drop at_)).1 : Int), (seqF (l.drop at_)).2) := by
  have hd := List.drop_eq_getElem_cons ha
  have key : ∀ (k : Nat) (need : Int) (lo hi : Int), 1 ≤ need → need ≤ 3 → 4 ≤ k → needsF l[at_] = (need + 1, lo, hi) → spec_l1Seq.l0 k l at_ need lo hi 1 0 = some (((seqF (l.drop at_)).1 : Int), (seqF (l.drop at_)).2) := by
    intro k need lo hi h1 h3 hk hn
    have := seq_l0 l hl at_ ha need (by omega) need.toNat k 1 0 lo hi (by omega) (by omega) (Nat.le_refl _) (Nat.le_refl _)
    rw [hd, seqF, stretchF, hn]
    dsimp only
    rw [if_neg (by omega), if_neg (by omega)]
    have e : (need + 1).toNat - 1 = need.toNat := by omega
    rw [e]
    exact this
  rw [spec_l1Seq.f, if_pos (by omega), if_pos (by omega), rd_n1 l at_ ha]
  have hs : ∀ b : Int, b = l[at_] → l[at_] = b := fun _ h => h.symm
  obtain ⟨b, hb⟩ : ∃ b, b = l[at_] := ⟨_, rfl⟩
  rw [← hb] at key ⊢
  have kk := hb
  simp only [spec_l1Seq.j0, spec_l1Seq.j1, spec_l1Seq.j2, spec_l1Seq.j3, decide_eq_true_eq, Bool.false_eq_true, if_false]
  by_cases c1 : b < 128
  · rw [if_pos c1, hd, ← hb, seqF, stretchF]
    have hn : needsF b = (1, 0, 0) := by unfold needsF; rw [if_pos c1]
    rw [hn]
    first | done | rfl
  by_cases c2 : 194 ≤ b ∧ b ≤ 223
  · rw [if_neg c1, if_pos (by omega), if_pos (by omega)]
    exact key _ 1 128 191 (by omega) (by omega) (by omega) (by unfold needsF; rw [if_neg c1, if_pos c2]; rfl)
  by_cases c3 : b = 224
  · subst c3
    rw [if_neg c1, if_pos (by omega), if_neg (by omega), if_pos (by omega), if_pos (by omega), if_pos rfl, if_neg (by omega)]
    exact key _ 2 160 191 (by omega) (by omega) (by omega) (by decide)
  by_cases c4 : b = 237
  · subst c4
    rw [if_neg c1, if_pos (by omega), if_neg (by omega), if_pos (by omega), if_pos (by omega), if_neg (by omega), if_pos rfl]
    exact key _ 2 128 159 (by omega) (by omega) (by omega) (by decide)
  by_cases c5 : 225 ≤ b ∧ b ≤ 239
  · rw [if_neg c1, if_pos (by omega), if_neg (by omega), if_pos (by omega), if_pos (by omega), if_neg c3, if_neg c4]
    exact key _ 2 128 191 (by omega) (by omega) (by omega) (by unfold needsF; rw [if_neg c1, if_neg c2, if_neg c3, if_neg c4, if_pos c5]; rfl)
  by_cases c6 : b = 240
  · subst c6
    rw [if_neg c1, if_pos (by omega), if_neg (by omega), if_pos (by omega), if_neg (by omega), if_pos (by omega), if_pos (by omega), if_pos rfl, if_neg (by omega)]
    exact key _ 3 144 191 (by omega) (by omega) (by omega) (by decide)
  by_cases c7 : b = 244
  · subst c7
    rw [if_neg c1, if_pos (by omega), if_neg (by omega), if_pos (by omega), if_neg (by omega), if_pos (by omega), if_pos (by omega), if_neg (by omega), if_pos rfl]
    exact key _ 3 128 143 (by omega) (by omega) (by omega) (by decide)
  by_cases c8 : 241 ≤ b ∧ b ≤ 243
  · rw [if_neg c1, if_pos (by omega), if_neg (by omega), if_pos (by omega), if_neg (by omega), if_pos (by omega), if_pos (by omega), if_neg c6, if_neg c7]
    exact key _ 3 128 191 (by omega) (by omega) (by omega) (by unfold needsF; rw [if_neg c1, if_neg c2, if_neg c3, if_neg c4, if_neg c5, if_neg c6, if_neg c7, if_pos c8]; rfl)
  · have hn : needsF b = (0, 0, 0) := by unfold needsF; rw [if_neg c1, if_neg c2, if_neg c3, if_neg c4, if_neg c5, if_neg c6, if_neg c7, if_neg c8]
    rw [hd, ← hb, seqF, hn, if_neg c1]
    by_cases d : b ≥ 194
    · have : b ≥ 245 := by omega
      rw [if_pos d, if_neg (by omega), if_pos (by omega), if_neg (by omega), if_pos (by omega), if_neg (by omega)]
      first | done | rfl
    · rw [if_neg d, if_neg (by omega), if_neg (by omega)]
      first | done | rfl
theorem seq_st (l : List Int) (h : l ≠ []) : ((seqF l).2 = (stretchF l).2.1) ∧ ((seqF l).1 = (stretchF l).1 ∨ ((seqF l).1 = 0 ∧ (seqF l).2 = false ∧ (stretchF l).1 = 1)) := by
  cases l with
  | nil => exact absurd rfl h
  | cons b r =>
    rw [seqF]
    by_cases c : (needsF b).1 = 0
    · rw [if_pos c]
      have e : stretchF (b :: r) = (1, false, false) := by rw [stretchF, if_pos c]
      rw [e]
      exact ⟨rfl, .inr ⟨rfl, rfl, rfl⟩⟩
    · rw [if_neg c]
      exact ⟨rfl, .inl rfl⟩
/-! ### code points written as bytes -/
theorem j1_some (k : Nat) (x : List Int) (c : Int) (h0 : 0 ≤ c) (h1 : c ≤ 1114111) (hs : c < 55296 ∨ 57343 < c) (hl : x.length + 4 < 140737488355328) : spec_l1Put.j1 (k + 1) x c = some (x ++ Lib.encodeRuneZ c) := by
  have d1 : Int.tdiv c 64 = c / 64 := Int.tdiv_eq_ediv_of_nonneg h0
  have d2 : Int.tdiv c 4096 = c / 4096 := Int.tdiv_eq_ediv_of_nonneg h0
  have d3 : Int.tdiv c 262144 = c / 262144 := Int.tdiv_eq_ediv_of_nonneg h0
  have m1 : Int.tmod c 64 = c % 64 := Int.tmod_eq_emod_of_nonneg h0
  have w1 : wrap64 (c / 64) = c / 64 := wrap_in (by omega) (by omega)
  have w2 : wrap64 (c / 4096) = c / 4096 := wrap_in (by omega) (by omega)
  have w3 : wrap64 (c / 262144) = c / 262144 := wrap_in (by omega) (by omega)
  have m2 : Int.tmod (c / 64) 64 = c / 64 % 64 := Int.tmod_eq_emod_of_nonneg (by omega)
  have m3 : Int.tmod (c / 4096) 64 = c / 4096 % 64 := Int.tmod_eq_emod_of_nonneg (by omega)
  have n1 : wrap64 (128 + c % 64) % 256 = 128 + c % 64 := by rw [wrap_in (by omega) (by omega)]; omega
  have n2 : wrap64 (128 + c / 64 % 64) % 256 = 128 + c / 64 % 64 := by rw [wrap_in (by omega) (by omega)]; omega
  have n3 : wrap64 (128 + c / 4096 % 64) % 256 = 128 + c / 4096 % 64 := by rw [wrap_in (by omega) (by omega)]; omega
  rw [spec_l1Put.j1, d1, d2, d3, m1, w1, w2, w3, m2, m3, n1, n2, n3]
  by_cases a : c < 128
  · rw [if_pos a, if_pos (by omega), Lib.encodeRuneZ_one h0 (by omega), show c % 256 = c by omega]
  · rw [if_neg a]
    by_cases b : c < 2048
    · rw [if_pos b, Option.bind_some, if_pos (by simp only [List.length_cons, List.length_nil]; omega), Lib.encodeRuneZ_two (by omega) (by omega), show wrap64 (192 + c / 64) % 256 = 192 + c / 64 by rw [wrap_in (by omega) (by omega)]; omega]
    · rw [if_neg b]
      by_cases d : c < 65536
      · rw [if_pos d, Option.bind_some, if_pos (by simp only [List.length_cons, List.length_nil]; omega), Lib.encodeRuneZ_three (by omega), show wrap64 (224 + c / 4096) % 256 = 224 + c / 4096 by rw [wrap_in (by omega) (by omega)]; omega]
      · rw [if_neg d, Option.bind_some, if_pos (by simp only [List.length_cons, List.length_nil]; omega), Lib.encodeRuneZ_four (by omega) (by omega), show wrap64 (240 + c / 262144) % 256 = 240 + c / 262144 by rw [wrap_in (by omega) (by omega)]; omega]
theorem put_some (k : Nat) (x : List Int) (c : Int) (hl : x.length + 4 < 140737488355328) : spec_l1Put.f (k + 2) x c = some (x ++ encZ c) := by
  have bad : spec_l1Put.j0 (k + 2) x c true = some (x ++ [239, 191, 189]) := by
    rw [spec_l1Put.j0, if_pos rfl, j1_some k x 65533 (by omega) (by omega) (by omega) hl]
    rfl
  rw [spec_l1Put.f, encZ, encB]
  by_cases a : c < 0
  · rw [if_pos a, bad, if_pos (by simp [a])]
  · rw [if_neg a]
    by_cases b : c > 1114111
    · rw [if_pos b, bad, if_pos (by simp [b])]
    · rw [if_neg b]
      by_cases d : c ≥ 55296
      · rw [if_pos d]
        by_cases e : c ≤ 57343
        · rw [decide_eq_true e, bad, if_pos (by simp [d])]
        · rw [decide_eq_false e, spec_l1Put.j0, if_neg (by decide), j1_some k x c (by omega) (by omega) (by omega) hl, if_neg (by simp; omega)]
      · rw [if_neg d, spec_l1Put.j0, if_neg (by decide), j1_some k x c (by omega) (by omega) (by omega) hl, if_neg (by simp; omega)]
/-! ### the reference's encoder -/
theorem enc_loop (xs : List Int) (hl : xs.length ≤ 1099511627776) (d : Nat) : ∀ (x : List Int) (i : Nat), xs.length - i = d → i ≤ xs.length → x = encU (xs.take i) → Ev (fun k => spec_Encode.l0 k xs x i) (strOfNums (encU xs)) := by
  induction d with
  | zero =>
    intro x i hd hi hx
    refine Ev.step (fun k => spec_Encode.l0.eq_2 xs x i k) (ev_neg (by omega) (ev_now ?_))
    rw [hx, List.take_of_length_le (by omega)]
  | succ d ih =>
    intro x i hd hi hx
    have hlt : i < xs.length := by omega
    have hlen := encU_len (xs.take i)
    rw [← hx, List.length_take] at hlen
    refine Ev.step (fun k => spec_Encode.l0.eq_2 xs x i k) (ev_pos (by omega) (ev_pos (by omega) (Ev.bind (a := x ++ encZ xs[i]) ⟨2, fun k hk => ?_⟩ ?_)))
    · obtain ⟨k, rfl⟩ : ∃ m, k = m + 2 := ⟨k - 2, by omega⟩
      rw [rd_n1 xs i hlt]
      exact put_some k x xs[i] (by omega)
    · rw [wrap_succ (by omega)]
      exact ih _ (i + 1) (by omega) (by omega) (by rw [encU_succ xs i hlt, hx])
theorem enc_spec (xs : List Int) (hl : xs.length ≤ 1099511627776) : Ev (fun k => spec_Encode.f k xs) (strOfNums (encU xs)) :=
  Ev.congr (fun k => by unfold spec_Encode.f; rfl) (enc_loop xs hl xs.length [] 0 (by omega) (by omega) rfl)
/-! ### a text's code points: what the decoder tells of the bytes that were taken whole -/
theorem some_of_getElem? {L : List Int} {i : Nat} {x : Int} (h : L[i]? = some x) (h0 : 0 ≤ x) (h1 : x ≤ 255) : ((strOfNums L).get! i).toNat = x.toNat := by
  obtain ⟨hi, hx⟩ := List.getElem?_eq_some_iff.1 h
  have e : (strOfNums L).get! i = UInt8.ofNat x.toNat := by
    show (strOfNums L).data[i]! = _
    rw [getElem!_pos _ i (by simp [strOfNums]; exact hi)]
    simp [strOfNums, hx]
  rw [e, UInt8.toNat_ofNat']
  omega
theorem at_drop {L m : List Int} {p : Nat} (h : L.drop p = m) (j : Nat) : L[p + j]? = m[j]? := by rw [← h, List.getElem?_drop]
theorem drop_room {L m : List Int} {p : Nat} (h : L.drop p = m) : (strOfNums L).size - p = m.length := by rw [strOfNums_size, ← h, List.length_drop]
theorem dec1 {L R : List Int} {p : Nat} {b : Int} (h : L.drop p = b :: R) (h0 : 0 ≤ b) (h1 : b < 128) : Utf8.decode (strOfNums L) p = (b.toNat, 1) := by
  have e0 := some_of_getElem? (at_drop h 0) h0 (by omega)
  rw [Nat.add_zero] at e0
  rw [Lib.decode_at, e0, Lib.decodeN, if_pos (by omega)]
theorem dec2 {L R : List Int} {p : Nat} {b c : Int} (h : L.drop p = b :: c :: R) (h0 : 194 ≤ b ∧ b ≤ 223) (h1 : 128 ≤ c ∧ c ≤ 191) : Utf8.decode (strOfNums L) p = ((b % 32 * 64 + c % 64).toNat, 2) := by
  have e0 := some_of_getElem? (at_drop h 0) (by omega) (by omega)
  have e1 := some_of_getElem? (at_drop h 1) (by omega) (by omega)
  rw [Nat.add_zero] at e0
  have hs := drop_room h
  simp only [List.length_cons] at hs
  rw [Lib.decode_at, e0, e1, hs, Lib.decodeN, if_neg (by omega), if_pos ⟨by omega, by omega, by omega⟩, if_pos (by omega)]
  congr 1; omega
theorem dec3 {L R : List Int} {p : Nat} {b c d : Int} (h : L.drop p = b :: c :: d :: R) (h0 : 224 ≤ b ∧ b ≤ 239) (h1 : 128 ≤ c ∧ c ≤ 191) (h2 : 128 ≤ d ∧ d ≤ 191) (h3 : b = 224 → 160 ≤ c) (h4 : b = 237 → c ≤ 159) :
    Utf8.decode (strOfNums L) p = ((b % 16 * 4096 + c % 64 * 64 + d % 64).toNat, 3) := by
  have e0 := some_of_getElem? (at_drop h 0) (by omega) (by omega)
  have e1 := some_of_getElem? (at_drop h 1) (by omega) (by omega)
  have e2 := some_of_getElem? (at_drop h 2) (by omega) (by omega)
  rw [Nat.add_zero] at e0
  have hs := drop_room h
  simp only [List.length_cons] at hs
  rw [Lib.decode_at, e0, e1, e2, hs, Lib.decodeN, if_neg (by omega), if_neg (by omega), if_pos ⟨by omega, ⟨by omega, by omega⟩, by omega, by omega⟩, if_pos (by omega)]
  congr 1; omega
theorem dec4 {L R : List Int} {p : Nat} {b c d e : Int} (h : L.drop p = b :: c :: d :: e :: R) (h0 : 240 ≤ b ∧ b ≤ 244) (h1 : 128 ≤ c ∧ c ≤ 191) (h2 : 128 ≤ d ∧ d ≤ 191) (h5 : 128 ≤ e ∧ e ≤ 191) (h3 : b = 240 → 144 ≤ c) (h4 : b = 244 → c ≤ 143) :
    Utf8.decode (strOfNums L) p = ((b % 8 * 262144 + c % 64 * 4096 + d % 64 * 64 + e % 64).toNat, 4) := by
  have e0 := some_of_getElem? (at_drop h 0) (by omega) (by omega)
  have e1 := some_of_getElem? (at_drop h 1) (by omega) (by omega)
  have e2 := some_of_getElem? (at_drop h 2) (by omega) (by omega)
  have e3 := some_of_getElem? (at_drop h 3) (by omega) (by omega)
  rw [Nat.add_zero] at e0
  have hs := drop_room h
  simp only [List.length_cons] at hs
  rw [Lib.decode_at, e0, e1, e2, e3, hs, Lib.decodeN, if_neg (by omega), if_neg (by omega), if_neg (by omega), if_pos ⟨by omega, ⟨by omega, by omega⟩, ⟨by omega, by omega⟩, by omega, by omega⟩, if_pos (by omega)]
  congr 1; omega
/-! ### the number that the specification makes of them -/
theorem fin_of {x : Int} (h0 : 0 ≤ x) (h1 : x ≤ 255) : ∃ n : Fin 256, x = (n.val : Int) := ⟨⟨x.toNat, by omega⟩, by show x = ((x.toNat : Nat) : Int); omega⟩
theorem b31 : ∀ n : Fin 256, Go.bits .and .u8 (n.val : Int) 31 = (n.val : Int) % 32 := by decide +kernel
theorem b63 : ∀ n : Fin 256, Go.bits .and .u8 (n.val : Int) 63 = (n.val : Int) % 64 := by decide +kernel
theorem b15 : ∀ n : Fin 256, Go.bits .and .u8 (n.val : Int) 15 = (n.val : Int) % 16 := by decide +kernel
theorem b07 : ∀ n : Fin 256, Go.bits .and .u8 (n.val : Int) 7 = (n.val : Int) % 8 := by decide +kernel
theorem c31 {x : Int} (h0 : 0 ≤ x) (h1 : x ≤ 255) : Go.bits .and .u8 x 31 = x % 32 := by obtain ⟨n, rfl⟩ := fin_of h0 h1; exact b31 n
theorem c63 {x : Int} (h0 : 0 ≤ x) (h1 : x ≤ 255) : Go.bits .and .u8 x 63 = x % 64 := by obtain ⟨n, rfl⟩ := fin_of h0 h1; exact b63 n
theorem c15 {x : Int} (h0 : 0 ≤ x) (h1 : x ≤ 255) : Go.bits .and .u8 x 15 = x % 16 := by obtain ⟨n, rfl⟩ := fin_of h0 h1; exact b15 n
theorem c07 {x : Int} (h0 : 0 ≤ x) (h1 : x ≤ 255) : Go.bits .and .u8 x 7 = x % 8 := by obtain ⟨n, rfl⟩ := fin_of h0 h1; exact b07 n
theorem pt1 {b : Int} (h0 : 0 ≤ b) (h1 : b ≤ 255) : ptF [b] = b := by
  have e : spec_l1Point.f [b] = some (wrap64 b) := by
    rw [spec_l1Point.f, if_pos (by simp), if_pos (by simp)]; rfl
  rw [ptF, e]; show wrap64 b = b
  exact wrap_in (by omega) (by omega)
theorem pt2 {b c : Int} (h0 : 0 ≤ b ∧ b ≤ 255) (h1 : 0 ≤ c ∧ c ≤ 255) : ptF [b, c] = b % 32 * 64 + c % 64 := by
  have e : spec_l1Point.f [b, c] = some (wrap64 ((wrap64 ((wrap64 (Go.bits .and .u8 b 31)) * 64)) + (wrap64 (Go.bits .and .u8 c 63)))) := by
    rw [spec_l1Point.f, if_neg (by simp), if_pos (by simp), if_pos (by simp), if_pos (by simp)]; rfl
  rw [ptF, e, c31 h0.1 h0.2, c63 h1.1 h1.2, Option.getD_some]
  simp only [wrap64]; omega
theorem pt3 {b c d : Int} (h0 : 0 ≤ b ∧ b ≤ 255) (h1 : 0 ≤ c ∧ c ≤ 255) (h2 : 0 ≤ d ∧ d ≤ 255) : ptF [b, c, d] = b % 16 * 4096 + c % 64 * 64 + d % 64 := by
  have e : spec_l1Point.f [b, c, d] = some (wrap64 ((wrap64 ((wrap64 ((wrap64 (Go.bits .and .u8 b 15)) * 4096)) + (wrap64 ((wrap64 (Go.bits .and .u8 c 63)) * 64)))) + (wrap64 (Go.bits .and .u8 d 63)))) := by
    rw [spec_l1Point.f, if_neg (by simp), if_neg (by simp), if_pos (by simp), if_pos (by simp), if_pos (by simp), if_pos (by simp)]; rfl
  rw [ptF, e, c15 h0.1 h0.2, c63 h1.1 h1.2, c63 h2.1 h2.2, Option.getD_some]
  simp only [wrap64]; omega
theorem pt4 {b c d f : Int} (h0 : 0 ≤ b ∧ b ≤ 255) (h1 : 0 ≤ c ∧ c ≤ 255) (h2 : 0 ≤ d ∧ d ≤ 255) (h3 : 0 ≤ f ∧ f ≤ 255) : ptF [b, c, d, f] = b % 8 * 262144 + c % 64 * 4096 + d % 64 * 64 + f % 64 := by
  have e : spec_l1Point.f [b, c, d, f] = some (wrap64 ((wrap64 ((wrap64 ((wrap64 ((wrap64 (Go.bits .and .u8 b 7)) * 262144)) + (wrap64 ((wrap64 (Go.bits .and .u8 c 63)) * 4096)))) + (wrap64 ((wrap64 (Go.bits .and .u8 d 63)) * 64)))) + (wrap64 (Go.bits .and .u8 f 63)))) := by
    rw [spec_l1Point.f, if_neg (by simp), if_neg (by simp), if_neg (by simp), if_pos (by simp), if_pos (by simp), if_pos (by simp), if_pos (by simp)]; rfl
  rw [ptF, e, c07 h0.1 h0.2, c63 h1.1 h1.2, c63 h2.1 h2.2, c63 h3.1 h3.2, Option.getD_some]
  simp only [wrap64]; omega
/-! ### the bytes that are taken whole -/
theorem tl_ok (k n : Nat) (lo hi : Int) (r : List Int) (h : (tlF (k + 1) n lo hi r).2.1 = true) : ∃ c r', r = c :: r' ∧ lo ≤ c ∧ c ≤ hi ∧ tlF (k + 1) n lo hi r = tlF k (n + 1) 128 191 r' := by
  cases r with
  | nil => rw [tlF] at h; cases h
  | cons c r =>
    rw [tlF] at h
    by_cases e : c < lo ∨ c > hi
    · rw [if_pos e] at h; cases h
    · exact ⟨c, r, rfl, by omega, by omega, by rw [tlF, if_neg e]⟩
theorem needs_cases (b : Int) : (needsF b = (1, 0, 0) ∧ b < 128) ∨ (needsF b = (2, 128, 191) ∧ 194 ≤ b ∧ b ≤ 223) ∨ (∃ lo hi, needsF b = (3, lo, hi) ∧ 224 ≤ b ∧ b ≤ 239 ∧ 128 ≤ lo ∧ hi ≤ 191 ∧ (b = 224 → lo = 160) ∧ (b = 237 → hi = 159)) ∨
    (∃ lo hi, needsF b = (4, lo, hi) ∧ 240 ≤ b ∧ b ≤ 244 ∧ 128 ≤ lo ∧ hi ≤ 191 ∧ (b = 240 → lo = 144) ∧ (b = 244 → hi = 143)) ∨ needsF b = (0, 0, 0) := by
  unfold needsF
  repeat' split
  all_goals first
    | exact .inl ⟨rfl, by omega⟩
    | exact .inr (.inl ⟨rfl, by omega, by omega⟩)
    | exact .inr (.inr (.inl ⟨_, _, rfl, by omega, by omega, by omega, by omega, by omega, by omega⟩))
    | exact .inr (.inr (.inr (.inl ⟨_, _, rfl, by omega, by omega, by omega, by omega, by omega, by omega⟩)))
    | exact .inr (.inr (.inr (.inr rfl)))
theorem stretch_ok (b : Int) (r : List Int) (h : (stretchF (b :: r)).2.1 = true) :
    (b < 128 ∧ (stretchF (b :: r)).1 = 1) ∨
    (∃ c r', r = c :: r' ∧ (stretchF (b :: r)).1 = 2 ∧ (194 ≤ b ∧ b ≤ 223) ∧ (128 ≤ c ∧ c ≤ 191)) ∨
    (∃ c d r', r = c :: d :: r' ∧ (stretchF (b :: r)).1 = 3 ∧ (224 ≤ b ∧ b ≤ 239) ∧ (128 ≤ c ∧ c ≤ 191) ∧ (128 ≤ d ∧ d ≤ 191) ∧ (b = 224 → 160 ≤ c) ∧ (b = 237 → c ≤ 159)) ∨
    (∃ c d e r', r = c :: d :: e :: r' ∧ (stretchF (b :: r)).1 = 4 ∧ (240 ≤ b ∧ b ≤ 244) ∧ (128 ≤ c ∧ c ≤ 191) ∧ (128 ≤ d ∧ d ≤ 191) ∧ (128 ≤ e ∧ e ≤ 191) ∧ (b = 240 → 144 ≤ c) ∧ (b = 244 → c ≤ 143)) := by
  rcases needs_cases b with ⟨e, hb⟩ | ⟨e, hb⟩ | ⟨lo, hi, e, hb⟩ | ⟨lo, hi, e, hb⟩ | e
  · left
    refine ⟨hb, ?_⟩
    rw [stretchF, e, if_neg (by decide)]; rfl
  · right; left
    have es : stretchF (b :: r) = tlF 1 1 128 191 r := by rw [stretchF, e, if_neg (by decide)]; rfl
    rw [es] at h ⊢
    obtain ⟨c, r1, rfl, q1, q2, q3⟩ := tl_ok _ _ _ _ _ h
    exact ⟨c, r1, rfl, by rw [q3]; rfl, hb, q1, q2⟩
  · right; right; left
    have es : stretchF (b :: r) = tlF 2 1 lo hi r := by rw [stretchF, e, if_neg (by simp)]; rfl
    rw [es] at h ⊢
    obtain ⟨c, r1, rfl, q1, q2, q3⟩ := tl_ok _ _ _ _ _ h
    rw [q3] at h ⊢
    obtain ⟨d, r2, rfl, q4, q5, q6⟩ := tl_ok _ _ _ _ _ h
    exact ⟨c, d, r2, rfl, by rw [q6]; rfl, ⟨hb.1, hb.2.1⟩, ⟨by omega, by omega⟩, ⟨q4, q5⟩, by omega, by omega⟩
  · right; right; right
    have es : stretchF (b :: r) = tlF 3 1 lo hi r := by rw [stretchF, e, if_neg (by simp)]; rfl
    rw [es] at h ⊢
    obtain ⟨c, r1, rfl, q1, q2, q3⟩ := tl_ok _ _ _ _ _ h
    rw [q3] at h ⊢
    obtain ⟨d, r2, rfl, q4, q5, q6⟩ := tl_ok _ _ _ _ _ h
    rw [q6] at h ⊢
    obtain ⟨f, r3, rfl, q7, q8, q9⟩ := tl_ok _ _ _ _ _ h
    exact ⟨c, d, f, r3, rfl, by rw [q9]; rfl, ⟨hb.1, hb.2.1⟩, ⟨by omega, by omega⟩, ⟨q4, q5⟩, ⟨q7, q8⟩, by omega, by omega⟩
  · rw [stretchF, e, if_pos rfl] at h; cases h
theorem cp_dec (m : List Int) (hm : m ≠ []) (hr : ∀ x ∈ m, 0 ≤ x ∧ x ≤ 255) (hv : (stretchF m).2.1 = true) (L : List Int) (p : Nat) (R : List Int) (hL : L.drop p = m.take (stretchF m).1 ++ R) :
    Utf8.decode (strOfNums L) p = ((ptF (m.take (stretchF m).1)).toNat, (stretchF m).1) ∧ 0 ≤ ptF (m.take (stretchF m).1) := by
  obtain ⟨b, r, rfl⟩ := List.exists_cons_of_ne_nil hm
  have hb := hr b (by simp)
  rcases stretch_ok b r hv with ⟨q0, q1⟩ | ⟨c, r1, rfl, q1, q2, q3⟩ | ⟨c, d, r1, rfl, q1, q2, q3, q4, q5, q6⟩ | ⟨c, d, e, r1, rfl, q1, q2, q3, q4, q5, q6, q7⟩
  · rw [q1] at hL ⊢
    simp only [List.take_succ_cons, List.take_zero, List.cons_append, List.nil_append] at hL ⊢
    rw [dec1 hL hb.1 q0, pt1 hb.1 hb.2]
    exact ⟨rfl, hb.1⟩
  · rw [q1] at hL ⊢
    simp only [List.take_succ_cons, List.take_zero, List.cons_append, List.nil_append] at hL ⊢
    rw [dec2 hL q2 q3, pt2 hb ⟨by omega, by omega⟩]
    exact ⟨rfl, by omega⟩
  · rw [q1] at hL ⊢
    simp only [List.take_succ_cons, List.take_zero, List.cons_append, List.nil_append] at hL ⊢
    rw [dec3 hL q2 q3 q4 q5 q6, pt3 hb ⟨by omega, by omega⟩ ⟨by omega, by omega⟩]
    exact ⟨rfl, by omega⟩
  · rw [q1] at hL ⊢
    simp only [List.take_succ_cons, List.take_zero, List.cons_append, List.nil_append] at hL ⊢
    rw [dec4 hL q2 q3 q4 q5 q6 q7, pt4 hb ⟨by omega, by omega⟩ ⟨by omega, by omega⟩ ⟨by omega, by omega⟩]
    exact ⟨rfl, by omega⟩
theorem cp_run (k : Nat) : ∀ (l : List Int) (fuel : Nat) (L : List Int) (p : Nat), (∀ x ∈ l, 0 ≤ x ∧ x ≤ 255) → L.drop p = rdU k l → (rdU k l).length ≤ fuel → dcp (strOfNums L) fuel p = cpU k l := by
  have stop : ∀ (fuel : Nat) (L : List Int) (p : Nat), L.drop p = [] → dcp (strOfNums L) fuel p = [] := by
    intro fuel L p h
    cases fuel with
    | zero => rfl
    | succ f => rw [dcp, if_neg (by rw [strOfNums_size]; have := List.drop_eq_nil_iff.1 h; omega)]
  induction k with
  | zero => intro l fuel L p _ h _; exact stop fuel L p h
  | succ k ih =>
    intro l fuel L p hl h hf
    by_cases e : l = []
    · subst e
      rw [cpU_nil]
      exact stop fuel L p (by rw [h, rdU_nil])
    · rw [rdU_cons k l e] at h hf
      rw [cpU_cons k l e]
      have hb := stretch_bd l e
      have hl' : ∀ x ∈ l.drop (stretchF l).1, 0 ≤ x ∧ x ≤ 255 := fun x hx => hl x (List.mem_of_mem_drop hx)
      have go : ∀ (seg : List Int) (c : Int), seg ≠ [] → L.drop p = seg ++ rdU k (l.drop (stretchF l).1) → (seg ++ rdU k (l.drop (stretchF l).1)).length ≤ fuel → ((Utf8.decode (strOfNums L) p).1 : Int) = c → (Utf8.decode (strOfNums L) p).2 = seg.length → dcp (strOfNums L) fuel p = c :: cpU k (l.drop (stretchF l).1) := by
        intro seg c hs h hf h1 h2
        have hp : 0 < seg.length := List.length_pos_iff.mpr hs
        rw [List.length_append] at hf
        obtain ⟨f, rfl⟩ : ∃ f, fuel = f + 1 := ⟨fuel - 1, by omega⟩
        have hlt : p < (strOfNums L).size := by
          have := drop_room h
          rw [List.length_append] at this
          omega
        rw [dcp, if_pos hlt, h1, h2]
        congr 1
        refine ih _ f L (p + seg.length) hl' ?_ (by omega)
        rw [← List.drop_drop, h, List.drop_left]
      by_cases v : (stretchF l).2.1 = true
      · rw [if_pos v] at h hf ⊢
        obtain ⟨q1, q2⟩ := cp_dec l e hl v L p _ h
        refine go _ _ (by intro z; have := congrArg List.length z; rw [List.length_take] at this; simp only [List.length_nil] at this; omega) h hf ?_ ?_
        · rw [q1]; show (((ptF (l.take (stretchF l).1)).toNat : Nat) : Int) = _; omega
        · rw [q1, List.length_take]; show (stretchF l).1 = _; omega
      · rw [if_neg v] at h hf ⊢
        have q := dec3 (L := L) (p := p) (b := 239) (c := 191) (d := 189) (R := rdU k (l.drop (stretchF l).1)) h (by omega) (by omega) (by omega) (by omega) (by omega)
        refine go _ _ (by simp) h hf ?_ ?_
        · rw [q]; decide
        · rw [q]; rfl
theorem bytes_range (s : ByteArray) : ∀ x ∈ bytesOf s, 0 ≤ x ∧ x ≤ 255 := by
  intro x hx
  obtain ⟨b, _, rfl⟩ := List.mem_map.1 hx
  have := b.toNat_lt
  omega
theorem cp_same (s : ByteArray) : dcp (strOfNums (rdU s.size (bytesOf s))) (strOfNums (rdU s.size (bytesOf s))).size 0 = cpU s.size (bytesOf s) :=
  cp_run s.size (bytesOf s) _ _ 0 (bytes_range s) (by rw [List.drop_zero]) (by rw [strOfNums_size]; exact Nat.le_refl _)
theorem cpU_len (k : Nat) : ∀ l : List Int, (cpU k l).length ≤ k := by
  induction k with
  | zero => intro l; exact Nat.le_refl _
  | succ k ih =>
    intro l
    cases l with
    | nil => exact Nat.zero_le _
    | cons b r =>
      rw [cpU_cons k (b :: r) (by simp), List.length_cons]
      have := ih ((b :: r).drop (stretchF (b :: r)).1)
      omega
theorem rdU_more (k : Nat) : ∀ (l : List Int), l.length ≤ k → rdU k l = rdU l.length l := by
  have key : ∀ (k : Nat) (l : List Int) (j : Nat), l.length ≤ k → l.length ≤ j → rdU k l = rdU j l := by
    intro k
    induction k with
    | zero => intro l j h _; obtain rfl : l = [] := List.eq_nil_of_length_eq_zero (by omega); rw [rdU_nil, rdU_nil]
    | succ k ih =>
      intro l j h hj
      by_cases e : l = []
      · subst e; rw [rdU_nil, rdU_nil]
      · have hp : 0 < l.length := List.length_pos_iff.mpr e
        obtain ⟨j, rfl⟩ : ∃ m, j = m + 1 := ⟨j - 1, by omega⟩
        have hb := stretch_bd l e
        rw [rdU_cons k l e, rdU_cons j l e, ih _ j (by rw [List.length_drop]; omega) (by rw [List.length_drop]; omega)]
  exact fun l h => key k l l.length h (Nat.le_refl _)
theorem put_ev (x : List Int) (c : Int) (hl : x.length + 4 < 140737488355328) : Ev (fun k => spec_l1Put.f k x c) (x ++ encZ c) := ⟨2, fun k hk => by
  obtain ⟨k, rfl⟩ : ∃ m, k = m + 2 := ⟨k - 2, by omega⟩
  exact put_some k x c hl⟩
theorem encZ_bad : encZ 65533 = [239, 191, 189] := by decide
theorem encU_cons (c : Int) (l : List Int) : encU (c :: l) = encZ c ++ encU l := by simp [encU]
theorem enc_some (l : List Int) (h : l.length ≤ 1099511627776) : impl_Encode.f l = some (strOfNums (encU l)) := by rw [impl_Encode.f, if_pos h]
def markL : Nat → List Int
  | 0 => [239, 187, 191]
  | 1 => [255, 254]
  | 2 => [254, 255]
  | _ => []
theorem markB_eq (e : Nat) : markB e = strOfNums (markL e) := by
  match e with
  | 0 => rfl
  | 1 => rfl
  | 2 => rfl
  | n + 3 => rfl
theorem markL_range (e : Nat) : ∀ x ∈ markL e, 0 ≤ x ∧ x ≤ 255 := by
  match e with
  | 0 => decide
  | 1 => decide
  | 2 => decide
  | n + 3 => intro x hx; cases hx
theorem bytes_back {l : List Int} (h : ∀ x ∈ l, 0 ≤ x ∧ x ≤ 255) : (strOfNums l).toList.map (fun b => (b.toNat : Int)) = l := by
  rw [Lib.strOfNums_toList, Lib.bytesOf, List.map_map]
  conv => rhs; rw [← List.map_id l]
  refine List.map_congr_left fun x hx => ?_
  have := h x hx
  show (((UInt8.ofNat x.toNat).toNat : Nat) : Int) = x
  rw [UInt8.toNat_ofNat']
  omega
theorem str_take (l : List Int) (n : Nat) : (strOfNums l).extract 0 n = strOfNums (l.take n) := by
  refine ByteArray.ext ?_
  rw [ByteArray.data_extract]
  apply Array.toList_inj.mp
  simp [strOfNums, List.map_take]
theorem pre_dec {l m : List Int} (hl : ∀ x ∈ l, 0 ≤ x ∧ x ≤ 255) (hm : ∀ x ∈ m, 0 ≤ x ∧ x ≤ 255) : strings_HasPrefix.f (strOfNums l) (strOfNums m) = some (decide (l.take m.length = m)) := by
  rw [strings_HasPrefix.f, stringslite_HasPrefix.f]
  have s1 := strOfNums_size l
  have s2 := strOfNums_size m
  by_cases c : ((strOfNums l).size : Int) ≥ ((strOfNums m).size : Int)
  · rw [if_pos c, if_pos (by omega), if_pos (by omega), Option.bind_some, Int.toNat_natCast, s2, str_take]
    congr 1
    by_cases q : l.take m.length = m
    · rw [q, decide_eq_true rfl]; exact beq_self_eq_true _
    · rw [decide_eq_false q]
      refine beq_eq_false_iff_ne.mpr fun z => q ?_
      have := congrArg (List.map fun b : UInt8 => (b.toNat : Int)) z
      rwa [bytes_back (fun x hx => hl x (List.mem_of_mem_take hx)), bytes_back hm] at this
  · rw [if_neg c, Option.bind_some, decide_eq_false]
    intro z
    have := congrArg List.length z
    rw [List.length_take] at this
    omega
def pre (e : Nat) (l : List Int) : Bool := decide (l.take (markL e).length = markL e)
/-! ### what the drawing makes of the bytes: a byte, a number below n -/
theorem and255 (x : Int) : 0 ≤ Go.bits .and .i64 x 255 ∧ Go.bits .and .i64 x 255 ≤ 255 := by
  have h : ∀ n : Nat, n ≤ 255 → 0 ≤ IntKind.i64.wrap (n : Int) ∧ IntKind.i64.wrap (n : Int) ≤ 255 := by
    intro n hn
    rw [IntKind.wrap_i64]
    omega
  unfold Go.bits
  exact h _ (by simp only [BitVec.toNat_and]; exact Nat.le_trans Nat.and_le_right (by decide))
theorem byte_ev (c : List Int) (hc : c.length ≤ 1048576) (p s : Int) (h0 : 0 ≤ p) (h1 : p ≤ 1048576) : ∃ v p' s', spec_l1Byte.f c p s = some (v, p', s') ∧ 0 ≤ v ∧ v ≤ 255 ∧ 0 ≤ p' ∧ p' ≤ 1048576 := by
  unfold spec_l1Byte.f
  by_cases g : p < (c.length : Int)
  · rw [if_pos g, if_pos h0]
    exact ⟨_, _, _, rfl, (and255 _).1, (and255 _).2, by rw [wrap_in (by omega) (by omega)]; omega, by rw [wrap_in (by omega) (by omega)]; omega⟩
  · rw [if_neg g]
    exact ⟨_, _, _, rfl, (and255 _).1, (and255 _).2, h0, h1⟩
theorem below_ev (c : List Int) (hc : c.length ≤ 1048576) (p s n : Int) (h0 : 0 ≤ p) (h1 : p ≤ 1048576) (hn : 0 < n) (hn2 : n ≤ 256) : ∃ v p' s', spec_l1Below.f c p s n = some (v, p', s') ∧ 0 ≤ v ∧ v < n ∧ 0 ≤ p' ∧ p' ≤ 1048576 := by
  obtain ⟨v, p', s', e, g0, g1, g2, g3⟩ := byte_ev c hc p s h0 h1
  unfold spec_l1Below.f
  rw [if_neg (by omega), if_pos hn2, e, Option.bind_some]
  dsimp only
  rw [if_neg (by omega)]
  exact ⟨_, _, _, rfl, Int.tmod_nonneg n g0, Int.tmod_lt_of_pos v hn, g2, g3⟩
theorem new_ev (c : List Int) (hc : c.length ≤ 1048576) : ∃ s, Ev (fun k => spec_l1New.f k c) (c, 0, s) := by
  have key : ∀ (d i : Nat) (s : Int), c.length - i = d → ∃ s', Ev (fun k => spec_l1New.l0 k c s i) (c, 0, s') := by
    intro d
    induction d with
    | zero =>
      intro i s hd
      exact ⟨s, Ev.step (fun k => spec_l1New.l0.eq_2 c s i k) (ev_neg (by omega) (ev_now rfl))⟩
    | succ d ih =>
      intro i s hd
      by_cases g : (i : Int) < 4000
      · obtain ⟨s', h⟩ := ih (i + 1) (Go.bits .and .i64 (wrap64 ((wrap64 ((wrap64 (s * 131)) + (wrap64 (rd c (i : Int))))) + 7)) 1073741823) (by omega)
        refine ⟨s', Ev.step (fun k => spec_l1New.l0.eq_2 c s i k) (ev_pos (by omega) (ev_pos g (ev_pos (by omega) ?_)))⟩
        rw [wrap_succ (by omega)]
        exact h
      · exact ⟨s, Ev.step (fun k => spec_l1New.l0.eq_2 c s i k) (ev_pos (by omega) (ev_neg g (ev_now rfl)))⟩
  obtain ⟨s, h⟩ := key c.length 0 _ rfl
  exact ⟨s, Ev.congr (fun k => spec_l1New.f.eq_1 k c) h⟩
/-! ### code points written and read back -/
def fixC (c : Int) : Int := if encB c = true then 65533 else c
theorem encB_eq (c : Int) : encB c = decide (c < 0 ∨ 1114111 < c ∨ (55296 ≤ c ∧ c ≤ 57343)) := by
  unfold encB
  by_cases h : c < 0 ∨ 1114111 < c ∨ (55296 ≤ c ∧ c ≤ 57343)
  · rw [decide_eq_true h]; simp; omega
  · rw [decide_eq_false h]; simp; omega
theorem tl_put (k n : Nat) (lo hi c : Int) (r : List Int) (h0 : lo ≤ c) (h1 : c ≤ hi) : tlF (k + 1) n lo hi (c :: r) = tlF k (n + 1) 128 191 r := by
  rw [tlF, if_neg (by omega)]
theorem needs3 (b : Int) (h0 : 224 ≤ b) (h1 : b ≤ 239) : needsF b = (3, if b = 224 then 160 else 128, if b = 237 then 159 else 191) := by
  unfold needsF
  rw [if_neg (by omega), if_neg (by omega)]
  by_cases a : b = 224
  · rw [if_pos a, if_pos a, if_neg (by omega)]
  · rw [if_neg a, if_neg a]
    by_cases c : b = 237
    · rw [if_pos c, if_pos c]
    · rw [if_neg c, if_neg c, if_pos (by omega)]
theorem needs4 (b : Int) (h0 : 240 ≤ b) (h1 : b ≤ 244) : needsF b = (4, if b = 240 then 144 else 128, if b = 244 then 143 else 191) := by
  unfold needsF
  rw [if_neg (by omega), if_neg (by omega), if_neg (by omega), if_neg (by omega), if_neg (by omega)]
  by_cases a : b = 240
  · rw [if_pos a, if_pos a, if_neg (by omega)]
  · rw [if_neg a, if_neg a]
    by_cases c : b = 244
    · rw [if_pos c, if_pos c]
    · rw [if_neg c, if_neg c, if_pos (by omega)]
theorem needs2 (b : Int) (h0 : 194 ≤ b) (h1 : b ≤ 223) : needsF b = (2, 128, 191) := by
  unfold needsF
  rw [if_neg (by omega), if_pos (by omega)]
theorem seqZ (c : Int) (h0 : 0 ≤ c) (h1 : c ≤ 1114111) (hs : c < 55296 ∨ 57343 < c) (R : List Int) :
    (stretchF (Lib.encodeRuneZ c ++ R)).1 = (Lib.encodeRuneZ c).length ∧ (stretchF (Lib.encodeRuneZ c ++ R)).2.1 = true ∧ ptF (Lib.encodeRuneZ c) = c ∧ Lib.encodeRuneZ c ≠ [] := by
  by_cases a : c ≤ 127
  · have e : Lib.encodeRuneZ c = [c] := Lib.encodeRuneZ_one h0 a
    have n : needsF c = (1, 0, 0) := by unfold needsF; rw [if_pos (by omega)]
    have s : stretchF (c :: R) = (1, true, false) := by rw [stretchF, n, if_neg (by decide)]; rfl
    rw [e]
    exact ⟨by show (stretchF (c :: R)).1 = 1; rw [s], by show (stretchF (c :: R)).2.1 = true; rw [s], pt1 h0 (by omega), by simp⟩
  · by_cases b : c ≤ 2047
    · have e : Lib.encodeRuneZ c = [192 + c / 64, 128 + c % 64] := Lib.encodeRuneZ_two (by omega) b
      have n := needs2 (192 + c / 64) (by omega) (by omega)
      have s : stretchF ((192 + c / 64) :: (128 + c % 64) :: R) = (2, true, false) := by
        rw [stretchF, n, if_neg (by decide)]
        show tlF 1 1 128 191 _ = _
        rw [tl_put _ _ _ _ _ _ (by omega) (by omega)]; rfl
      rw [e]
      exact ⟨by show (stretchF ((192 + c / 64) :: (128 + c % 64) :: R)).1 = 2; rw [s], by show (stretchF ((192 + c / 64) :: (128 + c % 64) :: R)).2.1 = true; rw [s], by rw [pt2 ⟨by omega, by omega⟩ ⟨by omega, by omega⟩]; omega, by simp⟩
    · by_cases d : c ≤ 65535
      · have e : Lib.encodeRuneZ c = [224 + c / 4096, 128 + c / 64 % 64, 128 + c % 64] := Lib.encodeRuneZ_three (by omega)
        have n := needs3 (224 + c / 4096) (by omega) (by omega)
        have s : stretchF ((224 + c / 4096) :: (128 + c / 64 % 64) :: (128 + c % 64) :: R) = (3, true, false) := by
          rw [stretchF, n, if_neg (show ¬ (3 : Int) = 0 by decide)]
          show tlF 2 1 _ _ _ = _
          rw [tl_put _ _ _ _ _ _ (by show (if 224 + c / 4096 = 224 then (160 : Int) else 128) ≤ _; split <;> omega) (by show _ ≤ (if 224 + c / 4096 = 237 then (159 : Int) else 191); split <;> omega), tl_put _ _ _ _ _ _ (by omega) (by omega)]; rfl
        rw [e]
        exact ⟨by show (stretchF ((224 + c / 4096) :: (128 + c / 64 % 64) :: (128 + c % 64) :: R)).1 = 3; rw [s], by show (stretchF ((224 + c / 4096) :: (128 + c / 64 % 64) :: (128 + c % 64) :: R)).2.1 = true; rw [s], by rw [pt3 ⟨by omega, by omega⟩ ⟨by omega, by omega⟩ ⟨by omega, by omega⟩]; omega, by simp⟩
      · have e : Lib.encodeRuneZ c = [240 + c / 262144, 128 + c / 4096 % 64, 128 + c / 64 % 64, 128 + c % 64] := Lib.encodeRuneZ_four (by omega) h1
        have n := needs4 (240 + c / 262144) (by omega) (by omega)
        have s : stretchF ((240 + c / 262144) :: (128 + c / 4096 % 64) :: (128 + c / 64 % 64) :: (128 + c % 64) :: R) = (4, true, false) := by
          rw [stretchF, n, if_neg (show ¬ (4 : Int) = 0 by decide)]
          show tlF 3 1 _ _ _ = _
          rw [tl_put _ _ _ _ _ _ (by show (if 240 + c / 262144 = 240 then (144 : Int) else 128) ≤ _; split <;> omega) (by show _ ≤ (if 240 + c / 262144 = 244 then (143 : Int) else 191); split <;> omega), tl_put _ _ _ _ _ _ (by omega) (by omega), tl_put _ _ _ _ _ _ (by omega) (by omega)]; rfl
        rw [e]
        exact ⟨by show (stretchF ((240 + c / 262144) :: (128 + c / 4096 % 64) :: (128 + c / 64 % 64) :: (128 + c % 64) :: R)).1 = 4; rw [s], by show (stretchF ((240 + c / 262144) :: (128 + c / 4096 % 64) :: (128 + c / 64 % 64) :: (128 + c % 64) :: R)).2.1 = true; rw [s], by rw [pt4 ⟨by omega, by omega⟩ ⟨by omega, by omega⟩ ⟨by omega, by omega⟩ ⟨by omega, by omega⟩]; omega, by simp⟩
theorem encZ_fix (c : Int) : ∃ d, 0 ≤ d ∧ d ≤ 1114111 ∧ (d < 55296 ∨ 57343 < d) ∧ encZ c = Lib.encodeRuneZ d ∧ fixC c = d := by
  have hb := encB_eq c
  unfold encZ fixC
  by_cases h : encB c = true
  · rw [if_pos h, if_pos h]
    exact ⟨65533, by omega, by omega, by omega, rfl, rfl⟩
  · rw [if_neg h, if_neg h]
    rw [hb, decide_eq_true_eq] at h
    exact ⟨c, by omega, by omega, by omega, rfl, rfl⟩
theorem enc_cp (k : Nat) : ∀ l : List Int, l.length ≤ k → cpU k (encU l) = l.map fixC := by
  induction k with
  | zero => intro l h; obtain rfl : l = [] := List.eq_nil_of_length_eq_zero (by omega); rfl
  | succ k ih =>
    intro l h
    cases l with
    | nil => rfl
    | cons c r =>
      obtain ⟨d, d0, d1, d2, e1, e2⟩ := encZ_fix c
      obtain ⟨q1, q2, q3, q4⟩ := seqZ d d0 d1 d2 (encU r)
      have ne : encU (c :: r) ≠ [] := by rw [encU_cons, e1]; simp [q4]
      rw [cpU_cons k _ ne, encU_cons, e1, if_pos q2, q1, List.take_left, List.drop_left, q3, ih r (by simpa using h), List.map_cons, e2]
theorem cp_enc (k : Nat) : ∀ l : List Int, (∀ x ∈ l, 0 ≤ x ∧ x ≤ 255) → encU (cpU k l) = rdU k l := by
  induction k with
  | zero => intro l _; rfl
  | succ k ih =>
    intro l hr
    by_cases e : l = []
    · subst e; rw [rdU_nil]; rfl
    · rw [cpU_cons k l e, rdU_cons k l e, encU_cons, ih _ (fun x hx => hr x (List.mem_of_mem_drop hx))]
      congr 1
      by_cases v : (stretchF l).2.1 = true
      · rw [if_pos v, if_pos v]
        obtain ⟨b, r, rfl⟩ := List.exists_cons_of_ne_nil e
        have hb := hr b (by simp)
        have enc : ∀ x : Int, 0 ≤ x → x ≤ 1114111 → (x < 55296 ∨ 57343 < x) → encZ x = Lib.encodeRuneZ x := by
          intro x x0 x1 x2
          unfold encZ
          rw [if_neg (by rw [encB_eq, decide_eq_true_eq]; omega)]
        rcases stretch_ok b r v with ⟨q0, q1⟩ | ⟨c, r1, rfl, q1, q2, q3⟩ | ⟨c, d, r1, rfl, q1, q2, q3, q4, q5, q6⟩ | ⟨c, d, f, r1, rfl, q1, q2, q3, q4, q5, q6, q7⟩
        · rw [q1]
          show encZ (ptF [b]) = [b]
          rw [pt1 hb.1 hb.2, enc b hb.1 (by omega) (by omega), Lib.encodeRuneZ_one hb.1 (by omega)]
        · rw [q1]
          show encZ (ptF [b, c]) = [b, c]
          rw [pt2 hb ⟨by omega, by omega⟩, enc _ (by omega) (by omega) (by omega), Lib.encodeRuneZ_two (by omega) (by omega), show 192 + (b % 32 * 64 + c % 64) / 64 = b by omega, show 128 + (b % 32 * 64 + c % 64) % 64 = c by omega]
        · rw [q1]
          show encZ (ptF [b, c, d]) = [b, c, d]
          rw [pt3 hb ⟨by omega, by omega⟩ ⟨by omega, by omega⟩]
          obtain ⟨v, hv⟩ : ∃ v, v = b % 16 * 4096 + c % 64 * 64 + d % 64 := ⟨_, rfl⟩
          rw [← hv, enc v (by omega) (by omega) (by omega), Lib.encodeRuneZ_three (by omega), show 224 + v / 4096 = b by omega, show 128 + v / 64 % 64 = c by omega, show 128 + v % 64 = d by omega]
        · rw [q1]
          show encZ (ptF [b, c, d, f]) = [b, c, d, f]
          rw [pt4 hb ⟨by omega, by omega⟩ ⟨by omega, by omega⟩ ⟨by omega, by omega⟩]
          obtain ⟨v, hv⟩ : ∃ v, v = b % 8 * 262144 + c % 64 * 4096 + d % 64 * 64 + f % 64 := ⟨_, rfl⟩
          rw [← hv, enc v (by omega) (by omega) (by omega), Lib.encodeRuneZ_four (by omega) (by omega), show 240 + v / 262144 = b by omega, show 128 + v / 4096 % 64 = c by omega, show 128 + v / 64 % 64 = d by omega, show 128 + v % 64 = f by omega]
      · rw [if_neg v, if_neg v]
        exact encZ_bad
theorem encU_range (l : List Int) : ∀ x ∈ encU l, 0 ≤ x ∧ x ≤ 255 := by
  intro x hx
  unfold encU at hx
  obtain ⟨c, _, hc⟩ := List.mem_flatMap.1 hx
  obtain ⟨d, d0, d1, d2, e1, _⟩ := encZ_fix c
  rw [e1] at hc
  unfold Lib.encodeRuneZ at hc
  split at hc
  · simp at hc; omega
  · split at hc
    · simp at hc; omega
    · split at hc
      · simp at hc; omega
      · split at hc
        · simp at hc; omega
        · simp at hc; omega
theorem encU_len (l : List Int) : l.length ≤ (encU l).length := by
  induction l with
  | nil => exact Nat.le_refl _
  | cons c r ih =>
    obtain ⟨d, d0, d1, d2, e1, _⟩ := encZ_fix c
    obtain ⟨_, _, _, q4⟩ := seqZ d d0 d1 d2 []
    have := List.length_pos_iff.mpr q4
    rw [encU_cons, List.length_append, List.length_cons, e1]
    omega
theorem encU_len4 (l : List Int) : (encU l).length ≤ 4 * l.length := by
  induction l with
  | nil => exact Nat.le_refl _
  | cons c r ih =>
    obtain ⟨d, d0, d1, d2, e1, _⟩ := encZ_fix c
    have h4 : (Lib.encodeRuneZ d).length ≤ 4 := by
      unfold Lib.encodeRuneZ
      repeat' split
      all_goals simp
    rw [encU_cons, List.length_append, List.length_cons, e1]
    omega
theorem bytesOf_str {l : List Int} (h : ∀ x ∈ l, 0 ≤ x ∧ x ≤ 255) : bytesOf (strOfNums l) = l := by
  unfold bytesOf
  apply List.ext_getElem
  · rw [List.length_map, data_length, strOfNums_size]
  · intro i h1 h2
    have hx := h (l[i]) (List.getElem_mem _)
    simp [strOfNums]
    omega
/-! ### line ends made one -/
def nlF : List Int → List Int
  | [] => []
  | b :: r => (if b = 13 then (if r.head? = some 10 then [] else [10]) else if b = 0 then [239, 191, 189] else [b]) ++ nlF r
theorem nl_clean : ∀ l : List Int, ∀ x ∈ nlF l, x ≠ 13 ∧ x ≠ 0 := by
  intro l
  induction l with
  | nil => intro x hx; cases hx
  | cons b r ih =>
    intro x hx
    rw [nlF] at hx
    rcases List.mem_append.1 hx with h | h
    · split at h
      · split at h
        · cases h
        · simp at h; omega
      · split at h
        · simp at h; omega
        · simp at h; omega
    · exact ih x h
theorem nl_range : ∀ l : List Int, (∀ x ∈ l, 0 ≤ x ∧ x ≤ 255) → ∀ x ∈ nlF l, 0 ≤ x ∧ x ≤ 255 := by
  intro l
  induction l with
  | nil => intro _ x hx; cases hx
  | cons b r ih =>
    intro hr x hx
    have hb := hr b (by simp)
    rw [nlF] at hx
    rcases List.mem_append.1 hx with h | h
    · split at h
      · split at h
        · cases h
        · simp at h; omega
      · split at h
        · simp at h; omega
        · simp at h; omega
    · exact ih (fun y hy => hr y (List.mem_cons_of_mem _ hy)) x h
theorem nl_len : ∀ l : List Int, (nlF l).length ≤ 3 * l.length := by
  intro l
  induction l with
  | nil => exact Nat.le_refl _
  | cons b r ih =>
    rw [nlF, List.length_append, List.length_cons]
    have : (if b = 13 then (if r.head? = some 10 then ([] : List Int) else [10]) else if b = 0 then [239, 191, 189] else [b]).length ≤ 3 := by
      repeat' split
      all_goals simp
    omega
theorem nl_same : ∀ l : List Int, (∀ x ∈ l, x ≠ 13 ∧ x ≠ 0) → nlF l = l := by
  intro l
  induction l with
  | nil => intro _; rfl
  | cons b r ih =>
    intro h
    have hb := h b (by simp)
    rw [nlF, if_neg hb.1, if_neg hb.2, ih (fun x hx => h x (List.mem_cons_of_mem _ hx))]
    rfl
theorem bt_get (s : ByteArray) (i : Nat) (h : i < (bytesOf s).length) : bt s (i : Int) = (bytesOf s)[i] := by
  rw [← rd_bytesOf, rd_n1 _ i h]
theorem nl_spec (s : ByteArray) (hs : s.size ≤ 1048576) (d : Nat) : ∀ (i : Nat) (x : List Int), s.size - i = d → i ≤ s.size → x.length ≤ 3 * i → Ev (fun k => spec_Newlines.l0 k s x i) (strOfNums (x ++ nlF ((bytesOf s).drop i))) := by
  have hl := bytesOf_length s
  induction d with
  | zero =>
    intro i x hd hi hx
    refine Ev.step (fun k => spec_Newlines.l0.eq_2 s x i k) (ev_neg (by omega) (ev_now ?_))
    rw [List.drop_of_length_le (by omega), nlF, List.append_nil]
  | succ d ih =>
    intro i x hd hi hx
    have hlt : i < (bytesOf s).length := by omega
    have hw : wrap64 ((i : Int) + 1) = ((i + 1 : Nat) : Int) := wrap_succ (by omega)
    refine Ev.step (fun k => spec_Newlines.l0.eq_2 s x i k) (ev_pos (by omega) (ev_pos (by omega) ?_))
    rw [hw, bt_get s i hlt, List.drop_eq_getElem_cons hlt, nlF]
    by_cases a : (bytesOf s)[i] = 13
    · refine ev_pos a ?_
      rw [if_pos a]
      by_cases e : i + 1 = s.size
      · refine ev_pos (by omega) (ev_pos (by omega) ?_)
        rw [List.drop_of_length_le (by omega)]
        have := ih (i + 1) (x ++ [10]) (by omega) (by omega) (by simp; omega)
        rw [List.drop_of_length_le (by omega)] at this
        simpa [nlF] using this
      · have hlt2 : i + 1 < (bytesOf s).length := by omega
        refine ev_neg (by omega) (ev_pos (by omega) (ev_pos (by omega) ?_))
        rw [bt_get s (i + 1) hlt2]
        have hh : ((bytesOf s).drop (i + 1)).head? = some (bytesOf s)[i + 1] := by rw [List.drop_eq_getElem_cons hlt2]; rfl
        by_cases b : (bytesOf s)[i + 1] = 10
        · refine ev_pos b ?_
          rw [hh, b, if_pos rfl, List.nil_append]
          exact ih (i + 1) x (by omega) (by omega) (by omega)
        · refine ev_neg b (ev_pos (by omega) ?_)
          rw [hh, if_neg (by simpa using b), ← List.append_assoc]
          exact ih (i + 1) (x ++ [10]) (by omega) (by omega) (by simp; omega)
    · refine ev_neg a ?_
      rw [if_neg a]
      by_cases b : (bytesOf s)[i] = 0
      · rw [if_pos b]
        refine ev_pos b (Ev.bind (put_ev x 65533 (by omega)) ?_)
        rw [encZ_bad, ← List.append_assoc]
        exact ih (i + 1) _ (by omega) (by omega) (by simp; omega)
      · rw [if_neg b]
        refine ev_neg b (ev_pos (by omega) ?_)
        rw [← List.append_assoc]
        exact ih (i + 1) _ (by omega) (by omega) (by simp; omega)
theorem nl_impl (s : ByteArray) (hs : s.size ≤ 1048576) (d : Nat) : ∀ (i : Nat) (x : List Int), s.size - i ≤ d → i ≤ s.size → x.length ≤ 3 * i → Ev (fun k => impl_Newlines.l0 k s x i) (strOfNums (x ++ nlF ((bytesOf s).drop i))) := by
  have hl := bytesOf_length s
  have stop : ∀ (i : Nat) (x : List Int), i = s.size → Ev (fun k => impl_Newlines.l0 k s x i) (strOfNums (x ++ nlF ((bytesOf s).drop i))) := by
    intro i x hi
    refine Ev.step (fun k => impl_Newlines.l0.eq_2 s x i k) (ev_neg (by omega) (ev_now ?_))
    rw [List.drop_of_length_le (by omega), nlF, List.append_nil]
  induction d with
  | zero => intro i x hd hi hx; exact stop i x (by omega)
  | succ d ih =>
    intro i x hd hi hx
    by_cases e0 : i = s.size
    · exact stop i x e0
    have hlt : i < (bytesOf s).length := by omega
    have hw : wrap64 ((i : Int) + 1) = ((i + 1 : Nat) : Int) := wrap_succ (by omega)
    refine Ev.step (fun k => impl_Newlines.l0.eq_2 s x i k) (ev_pos (by omega) (ev_pos (by omega) ?_))
    rw [hw, bt_get s i hlt, List.drop_eq_getElem_cons hlt, nlF]
    by_cases a : (bytesOf s)[i] = 13
    · refine ev_pos a ?_
      rw [if_pos a]
      by_cases e : i + 1 = s.size
      · refine ev_neg (by omega) (ev_pos (by omega) ?_)
        rw [List.drop_of_length_le (by omega)]
        have := ih (i + 1) (x ++ [10]) (by omega) (by omega) (by simp; omega)
        rw [List.drop_of_length_le (by omega)] at this
        simpa [nlF] using this
      · have hlt2 : i + 1 < (bytesOf s).length := by omega
        refine ev_pos (by omega) (ev_pos (by omega) ?_)
        rw [bt_get s (i + 1) hlt2]
        have hh : ((bytesOf s).drop (i + 1)).head? = some (bytesOf s)[i + 1] := by rw [List.drop_eq_getElem_cons hlt2]; rfl
        by_cases b : (bytesOf s)[i + 1] = 10
        · refine ev_pos b (ev_pos (by omega) ?_)
          rw [hh, b, if_pos rfl, List.nil_append, show wrap64 (((i + 1 : Nat) : Int) + 1) = ((i + 2 : Nat) : Int) from wrap_succ (by omega), List.drop_eq_getElem_cons hlt2, nlF, b, if_neg (by decide), if_neg (by decide), ← List.append_assoc]
          exact ih (i + 2) (x ++ [10]) (by omega) (by omega) (by simp; omega)
        · refine ev_neg b (ev_pos (by omega) ?_)
          rw [hh, if_neg (by simpa using b), ← List.append_assoc]
          exact ih (i + 1) (x ++ [10]) (by omega) (by omega) (by simp; omega)
    · refine ev_neg a ?_
      rw [if_neg a]
      by_cases b : (bytesOf s)[i] = 0
      · rw [if_pos b]
        refine ev_pos b (ev_pos (by omega) ?_)
        rw [show bytesOf (⟨#[239, 191, 189]⟩ : ByteArray) = [239, 191, 189] from rfl, ← List.append_assoc]
        exact ih (i + 1) _ (by omega) (by omega) (by simp; omega)
      · rw [if_neg b]
        refine ev_neg b (ev_pos (by omega) ?_)
        rw [← List.append_assoc]
        exact ih (i + 1) _ (by omega) (by omega) (by simp; omega)
theorem nl_spec_ev (s : ByteArray) (hs : s.size ≤ 1048576) : Ev (fun k => spec_Newlines.f k s) (strOfNums (nlF (bytesOf s))) :=
  Ev.congr (fun k => by unfold spec_Newlines.f; rfl) (nl_spec s hs s.size 0 [] (by omega) (by omega) (Nat.le_refl _))
theorem nl_impl_ev (s : ByteArray) (hs : s.size ≤ 1048576) : Ev (fun k => impl_Newlines.f k s) (strOfNums (nlF (bytesOf s))) :=
  Ev.congr (fun k => by unfold impl_Newlines.f; rfl) (nl_impl s hs s.size 0 [] (by omega) (by omega) (Nat.le_refl _))
/-! ### what the law draws -/
theorem below3_ev (c : List Int) (hc : c.length ≤ 1048576) (p s n : Int) (h0 : 0 ≤ p) (h1 : p ≤ 1048576) (hn : 256 < n) : ∃ v p' s', spec_l1Below.f c p s n = some (v, p', s') ∧ 0 ≤ p' ∧ p' ≤ 1048576 := by
  obtain ⟨v1, p1, s1, e1, _, _, g0, g1⟩ := byte_ev c hc p s h0 h1
  obtain ⟨v2, p2, s2, e2, _, _, g2, g3⟩ := byte_ev c hc p1 s1 g0 g1
  obtain ⟨v3, p3, s3, e3, _, _, g4, g5⟩ := byte_ev c hc p2 s2 g2 g3
  unfold spec_l1Below.f
  rw [if_neg (by omega), if_neg (by omega), e1, Option.bind_some]
  dsimp only
  rw [e2, Option.bind_some]
  dsimp only
  rw [e3, Option.bind_some]
  dsimp only
  rw [if_neg (by omega)]
  exact ⟨_, _, _, rfl, g4, g5⟩
theorem size_ev (c : List Int) (hc : c.length ≤ 1048576) (m : Nat) (hm : 3 ≤ m) : ∃ n : Nat, n ≤ m ∧ spec_l1Size.f c (m : Int) = some (n : Int) := by
  have w1 : wrap64 ((c.length : Int) / 20) = (c.length : Int) / 20 := wrap_in (by omega) (by omega)
  have w2 : wrap64 (3 + (c.length : Int) / 20) = 3 + (c.length : Int) / 20 := wrap_in (by omega) (by omega)
  unfold spec_l1Size.f
  rw [w1, w2]
  by_cases a : 3 + (c.length : Int) / 20 > (m : Int)
  · rw [if_pos a]; exact ⟨m, Nat.le_refl _, rfl⟩
  · rw [if_neg a]; exact ⟨(3 + (c.length : Int) / 20).toNat, by omega, congrArg some (by omega)⟩
theorem rd_in (l : List Int) (v : Int) (h0 : 0 ≤ v) (h1 : v < (l.length : Int)) : rd l v ∈ l := by
  obtain ⟨i, rfl⟩ : ∃ i : Nat, v = i := ⟨v.toNat, by omega⟩
  rw [rd_n1 l i (by omega)]
  exact List.getElem_mem _
theorem drawEncode_loop (c : List Int) (hc : c.length ≤ 1048576) (n : Nat) (hn : n ≤ 60) (d : Nat) : ∀ (i : Nat) (x : List Int) (p s : Int), n - i = d → i ≤ n → x.length = i → 0 ≤ p → p ≤ 1048576 → ∃ r : List Int, r.length ≤ 60 ∧ Ev (fun k => spec_DrawEncode.l0 k x n i c p s) r := by
  induction d with
  | zero =>
    intro i x p s hd hi hx h0 h1
    exact ⟨x, by omega, Ev.step (fun k => spec_DrawEncode.l0.eq_2 x n i c p s k) (ev_neg (by omega) (ev_now rfl))⟩
  | succ d ih =>
    intro i x p s hd hi hx h0 h1
    obtain ⟨v1, p1, s1, e1, _, _, g0, g1⟩ := below_ev c hc p s 128 h0 h1 (by omega) (by omega)
    obtain ⟨v2, p2, s2, e2, g2, g3⟩ := below3_ev c hc p1 s1 1114112 g0 g1 (by omega)
    obtain ⟨v3, p3, s3, e3, q0, q1, g4, g5⟩ := below_ev c hc p2 s2 12 g2 g3 (by omega) (by omega)
    obtain ⟨r, hr, he⟩ := ih (i + 1) (x ++ [rd [v1, v2, 55296, 57343, 1114111, 1114112, (-1), 127, 128, 2047, 2048, 65535] v3]) p3 s3 (by omega) (by omega) (by simp; omega) g4 g5
    refine ⟨r, hr, Ev.step (fun k => spec_DrawEncode.l0.eq_2 x n i c p s k) (ev_pos (by omega) (ev_bc e1 (ev_bc e2 (ev_bs (ev_bc e3 (ev_pos q0 (ev_pos (by simpa using q1) (ev_pos (by omega) ?_))))))))⟩
    rw [wrap_succ (by omega)]
    exact he
theorem drawEncode_ev (c : List Int) (hc : c.length ≤ 1048576) : ∃ r : List Int, r.length ≤ 60 ∧ Ev (fun k => spec_DrawEncode.f k c) r := by
  obtain ⟨s, hs⟩ := new_ev c hc
  obtain ⟨n, hn, en⟩ := size_ev c hc 60 (by omega)
  obtain ⟨r, hr, he⟩ := drawEncode_loop c hc n hn n 0 [] 0 s (by omega) (by omega) rfl (by omega) (by omega)
  exact ⟨r, hr, Ev.congr (fun k => by unfold spec_DrawEncode.f; rfl) (Ev.bind hs (ev_bc en he))⟩
theorem drawNewlines_loop (c : List Int) (hc : c.length ≤ 1048576) (n : Nat) (hn : n ≤ 80) (d : Nat) : ∀ (i : Nat) (x : List Int) (p s : Int), n - i = d → i ≤ n → x.length = i → 0 ≤ p → p ≤ 1048576 → ∃ r : ByteArray, r.size ≤ 80 ∧ Ev (fun k => spec_DrawNewlines.l0 k x n i c p s) r := by
  induction d with
  | zero =>
    intro i x p s hd hi hx h0 h1
    exact ⟨strOfNums x, by rw [strOfNums_size]; omega, Ev.step (fun k => spec_DrawNewlines.l0.eq_2 x n i c p s k) (ev_neg (by omega) (ev_now rfl))⟩
  | succ d ih =>
    intro i x p s hd hi hx h0 h1
    obtain ⟨v3, p3, s3, e3, q0, q1, g4, g5⟩ := below_ev c hc p s 6 h0 h1 (by omega) (by omega)
    obtain ⟨r, hr, he⟩ := ih (i + 1) (x ++ [rd [13, 10, 0, 97, 13, 32] v3]) p3 s3 (by omega) (by omega) (by simp; omega) g4 g5
    refine ⟨r, hr, Ev.step (fun k => spec_DrawNewlines.l0.eq_2 x n i c p s k) (ev_pos (by omega) (ev_bs (ev_bc e3 (ev_pos q0 (ev_pos (by simpa using q1) (ev_pos (by omega) ?_))))))⟩
    rw [wrap_succ (by omega)]
    exact he
theorem drawNewlines_ev (c : List Int) (hc : c.length ≤ 1048576) : ∃ r : ByteArray, r.size ≤ 80 ∧ Ev (fun k => spec_DrawNewlines.f k c) r := by
  obtain ⟨s, hs⟩ := new_ev c hc
  obtain ⟨n, hn, en⟩ := size_ev c hc 80 (by omega)
  obtain ⟨r, hr, he⟩ := drawNewlines_loop c hc n hn n 0 [] 0 s (by omega) (by omega) rfl (by omega) (by omega)
  exact ⟨r, hr, Ev.congr (fun k => by unfold spec_DrawNewlines.f; rfl) (Ev.bind hs (ev_bc en he))⟩
def bytesIn (l : List Int) : Prop := ∀ x ∈ l, 0 ≤ x ∧ x ≤ 255
theorem bytesIn_app {l m : List Int} (h : bytesIn l) (k : bytesIn m) : bytesIn (l ++ m) := fun x hx => by
  rcases List.mem_append.1 hx with z | z
  · exact h x z
  · exact k x z
def pickL : List ByteArray := [(⟨#[97]⟩ : ByteArray), (⟨#[99, 104, 97, 114, 115, 101, 116, 61]⟩ : ByteArray), (⟨#[67, 104, 97, 114, 83, 101, 116, 61, 39, 117, 116, 102, 56, 39]⟩ : ByteArray), (⟨#[99, 104, 97, 114, 115, 101, 116, 61, 34, 108, 97, 116, 105, 110, 49]⟩ : ByteArray), (⟨#[99, 104, 97, 114, 115, 101, 116, 61, 120]⟩ : ByteArray), (⟨#[99, 104, 97, 114, 115, 101, 116, 61, 73, 83, 79, 45, 56, 56, 53, 57, 45, 49]⟩ : ByteArray), (⟨#[32]⟩ : ByteArray), (⟨#[60, 112, 62]⟩ : ByteArray)]
theorem pickL_size : ∀ s ∈ pickL, s.size ≤ 18 := by decide
theorem pick_ev (c : List Int) (hc : c.length ≤ 1048576) (p s : Int) (h0 : 0 ≤ p) (h1 : p ≤ 1048576) : ∃ v p' s', spec_l1Pick.f c p s pickL = some (v, p', s') ∧ v.size ≤ 18 ∧ 0 ≤ p' ∧ p' ≤ 1048576 := by
  obtain ⟨v3, p3, s3, e3, q0, q1, g4, g5⟩ := below_ev c hc p s 8 h0 h1 (by omega) (by omega)
  unfold spec_l1Pick.f
  rw [show ((pickL.length : Nat) : Int) = 8 from rfl, e3, Option.bind_some]
  dsimp only
  rw [if_pos q0, if_pos q1]
  obtain ⟨i, rfl⟩ : ∃ i : Nat, v3 = i := ⟨v3.toNat, by omega⟩
  have hi : i < pickL.length := by show i < 8; omega
  refine ⟨_, _, _, rfl, ?_, g4, g5⟩
  unfold rdOf
  rw [Int.toNat_natCast, List.getD_eq_getElem?_getD, List.getElem?_eq_getElem hi]
  exact pickL_size _ (List.getElem_mem hi)
theorem put_in (x : List Int) (c : Int) (h : bytesIn x) : bytesIn (x ++ encZ c) := bytesIn_app h fun y hy => encU_range [c] y (by rw [encU_cons]; exact List.mem_append_left _ hy)
theorem encZ_len (c : Int) : (encZ c).length ≤ 4 := by
  have h := encU_len4 [c]
  rw [encU_cons, List.length_append, show encU [] = [] from rfl] at h
  simpa using h
theorem drawBytes_loop (c : List Int) (hc : c.length ≤ 1048576) (n : Nat) (hn : n ≤ 80) (d : Nat) : ∀ (i : Nat) (x : List Int) (p s : Int), n - i = d → i ≤ n → x.length ≤ 18 * i → bytesIn x → 0 ≤ p → p ≤ 1048576 → ∃ (r : List Int) (p' s' : Int), r.length ≤ 1440 ∧ bytesIn r ∧ Ev (fun k => spec_l1DrawBytes.l0 k n x i c p s) (r, p', s') := by
  induction d with
  | zero =>
    intro i x p s hd hi hx hb h0 h1
    exact ⟨x, p, s, by omega, hb, Ev.step (fun k => spec_l1DrawBytes.l0.eq_2 n x i c p s k) (ev_neg (by omega) (ev_now rfl))⟩
  | succ d ih =>
    intro i x p s hd hi hx hb h0 h1
    have hw : wrap64 ((i : Int) + 1) = ((i + 1 : Nat) : Int) := wrap_succ (by omega)
    obtain ⟨v, p1, s1, e1, v0, v1, g0, g1⟩ := below_ev c hc p s 9 h0 h1 (by omega) (by omega)
    have start : ∀ {r : List Int} {p' s' : Int} {f : Nat → Option (List Int × Int × Int)}, Ev f (r, p', s') → (∀ k, spec_l1DrawBytes.l0 (k + 1) n x i c p s = f k) → Ev (fun k => spec_l1DrawBytes.l0 k n x i c p s) (r, p', s') := fun h1 h2 => Ev.step h2 h1
    have fin1 : ∀ (b : Int) (p' s' : Int), 0 ≤ b ∧ b ≤ 255 → 0 ≤ p' → p' ≤ 1048576 → ∃ (r : List Int) (p2 s2 : Int), r.length ≤ 1440 ∧ bytesIn r ∧ Ev (fun k => spec_l1DrawBytes.l0 k n (x ++ [b]) (wrap64 ((i : Int) + 1)) c p' s') (r, p2, s2) := by
      intro b p' s' hb2 h2 h3
      rw [hw]
      exact ih (i + 1) (x ++ [b]) p' s' (by omega) (by omega) (by simp; omega) (bytesIn_app hb (by intro y hy; simp at hy; omega)) h2 h3
    by_cases c0 : v = 0
    · obtain ⟨b, p2, s2, e2, b0, b1, g2, g3⟩ := byte_ev c hc p1 s1 g0 g1
      obtain ⟨r, p', s', hr, hri, he⟩ := fin1 (b % 256) p2 s2 (by omega) g2 g3
      exact ⟨r, p', s', hr, hri, Ev.step (fun k => spec_l1DrawBytes.l0.eq_2 n x i c p s k) (ev_pos (by omega) (ev_bc e1 (ev_pos c0 (ev_bc e2 (ev_pos (by omega) he)))))⟩
    by_cases c1 : v = 1
    · obtain ⟨b, p2, s2, e2, b0, b1, g2, g3⟩ := below_ev c hc p1 s1 9 g0 g1 (by omega) (by omega)
      obtain ⟨cp, hcp⟩ : ∃ cp, cp = rd [8364, 1114111, 55295, 57344, 2047, 2048, 65535, 65536, 12354] b := ⟨_, rfl⟩
      obtain ⟨r, p', s', hr, hri, he⟩ := ih (i + 1) (x ++ encZ cp) p2 s2 (by omega) (by omega) (by have := encZ_len cp; rw [List.length_append]; omega) (put_in x cp hb) g2 g3
      refine ⟨r, p', s', hr, hri, Ev.step (fun k => spec_l1DrawBytes.l0.eq_2 n x i c p s k) (ev_pos (by omega) (ev_bc e1 (ev_neg c0 (ev_pos c1 (ev_bs (ev_bc e2 (ev_pos b0 (ev_pos (by simpa using b1) (Ev.bind (a := x ++ encZ cp) ?_ ?_)))))))))⟩
      · rw [hcp]; exact put_ev x _ (by omega)
      · rw [hw]; exact he
    by_cases c2 : v = 2
    · obtain ⟨b, p2, s2, e2, b0, b1, g2, g3⟩ := below_ev c hc p1 s1 7 g0 g1 (by omega) (by omega)
      have hm := rd_in [224, 240, 244, 237, 194, 255, 254] b b0 (by simpa using b1)
      obtain ⟨r, p', s', hr, hri, he⟩ := fin1 (rd [224, 240, 244, 237, 194, 255, 254] b) p2 s2 (by simp at hm; omega) g2 g3
      exact ⟨r, p', s', hr, hri, Ev.step (fun k => spec_l1DrawBytes.l0.eq_2 n x i c p s k) (ev_pos (by omega) (ev_bc e1 (ev_neg c0 (ev_neg c1 (ev_pos c2 (ev_bs (ev_bc e2 (ev_pos b0 (ev_pos (by simpa using b1) (ev_pos (by omega) he))))))))))⟩
    by_cases c3 : v = 3
    · obtain ⟨b, p2, s2, e2, b0, b1, g2, g3⟩ := below_ev c hc p1 s1 5 g0 g1 (by omega) (by omega)
      have hm := rd_in [128, 191, 159, 160, 144] b b0 (by simpa using b1)
      obtain ⟨r, p', s', hr, hri, he⟩ := fin1 (rd [128, 191, 159, 160, 144] b) p2 s2 (by simp at hm; omega) g2 g3
      exact ⟨r, p', s', hr, hri, Ev.step (fun k => spec_l1DrawBytes.l0.eq_2 n x i c p s k) (ev_pos (by omega) (ev_bc e1 (ev_neg c0 (ev_neg c1 (ev_neg c2 (ev_pos c3 (ev_bs (ev_bc e2 (ev_pos b0 (ev_pos (by simpa using b1) (ev_pos (by omega) he)))))))))))⟩
    by_cases c4 : v = 4
    · obtain ⟨b, p2, s2, e2, b0, b1, g2, g3⟩ := below_ev c hc p1 s1 8 g0 g1 (by omega) (by omega)
      obtain ⟨r, p', s', hr, hri, he⟩ := fin1 ((wrap64 (216 + b)) % 256) p2 s2 (by omega) g2 g3
      exact ⟨r, p', s', hr, hri, Ev.step (fun k => spec_l1DrawBytes.l0.eq_2 n x i c p s k) (ev_pos (by omega) (ev_bc e1 (ev_neg c0 (ev_neg c1 (ev_neg c2 (ev_neg c3 (ev_pos c4 (ev_bc e2 (ev_pos (by omega) he)))))))))⟩
    by_cases c5 : v = 5
    · obtain ⟨b, p2, s2, e2, b0, b1, g2, g3⟩ := below_ev c hc p1 s1 4 g0 g1 (by omega) (by omega)
      have hm := rd_in [10, 13, 0, 97] b b0 (by simpa using b1)
      obtain ⟨r, p', s', hr, hri, he⟩ := ih (i + 1) (x ++ [13, rd [10, 13, 0, 97] b]) p2 s2 (by omega) (by omega) (by simp; omega) (bytesIn_app hb (by intro y hy; simp at hy hm; omega)) g2 g3
      refine ⟨r, p', s', hr, hri, Ev.step (fun k => spec_l1DrawBytes.l0.eq_2 n x i c p s k) (ev_pos (by omega) (ev_bc e1 (ev_neg c0 (ev_neg c1 (ev_neg c2 (ev_neg c3 (ev_neg c4 (ev_pos c5 (ev_bs (ev_bc e2 (ev_pos b0 (ev_pos (by simpa using b1) (ev_bs (ev_pos (by simp; omega) ?_))))))))))))))⟩
      rw [hw]; exact he
    · obtain ⟨b, p2, s2, e2, b0, g2, g3⟩ := pick_ev c hc p1 s1 g0 g1
      obtain ⟨r, p', s', hr, hri, he⟩ := ih (i + 1) (x ++ bytesOf b) p2 s2 (by omega) (by omega) (by rw [List.length_append, bytesOf_length]; omega) (bytesIn_app hb (bytes_range b)) g2 g3
      refine ⟨r, p', s', hr, hri, Ev.step (fun k => spec_l1DrawBytes.l0.eq_2 n x i c p s k) (ev_pos (by omega) (ev_bc e1 (ev_neg c0 (ev_neg c1 (ev_neg c2 (ev_neg c3 (ev_neg c4 (ev_neg c5 (ev_bc e2 (ev_pos (by show x.length + b.size < _; omega) ?_))))))))))⟩
      rw [hw]; exact he
theorem drawPoints_ev (c : List Int) (hc : c.length ≤ 1048576) : ∃ r : List Int, r.length ≤ 1440 ∧ bytesIn r ∧ Ev (fun k => spec_DrawCodePoints.f k c) (strOfNums r) := by
  obtain ⟨s, hs⟩ := new_ev c hc
  obtain ⟨n, hn, en⟩ := size_ev c hc 80 (by omega)
  obtain ⟨r, p', s', hr, hri, he⟩ := drawBytes_loop c hc n hn n 0 [] 0 s (by omega) (by omega) (Nat.le_refl _) (by intro x hx; cases hx) (by omega) (by omega)
  refine ⟨r, hr, hri, Ev.congr (fun k => by unfold spec_DrawCodePoints.f; rfl) (Ev.bind hs (ev_bc en (Ev.bind (a := (r, p', s')) (f := fun _ bt => some (strOfNums bt.1)) ?_ (ev_now rfl))))⟩
  exact Ev.congr (fun k => by unfold spec_l1DrawBytes.f; rfl) he
/-! ### the law -/
theorem cp_impl (l : List Int) (h : bytesIn l) (hl : l.length ≤ 1048576) : impl_CodePoints.f (strOfNums l) = some (cpU l.length l) := by
  rw [impl_CodePoints.f, if_pos (by rw [strOfNums_size]; omega), cp_same, strOfNums_size, bytesOf_str h]
theorem nl_l1 (ln : ByteArray) (hln : ln.size ≤ 80) (bs : List Int) (hbs : bs = nlF (bytesOf ln)) : ∀ d i : Nat, bs.length - i = d → i ≤ bs.length → Ev (fun k => laws_FnPoints.l1 k ln (strOfNums bs) i) true := by
  have hbr : bytesIn bs := by rw [hbs]; exact nl_range _ (bytes_range ln)
  have hbc := nl_clean (bytesOf ln)
  rw [← hbs] at hbc
  have hbl : bs.length ≤ 240 := by have := nl_len (bytesOf ln); rw [bytesOf_length] at this; rw [hbs]; omega
  have hbb : bytesOf (strOfNums bs) = bs := bytesOf_str hbr
  have hsz : (strOfNums bs).size = bs.length := strOfNums_size bs
  intro d
  induction d with
  | zero =>
    intro i hd hi
    refine Ev.step (fun k => laws_FnPoints.l1.eq_2 ln (strOfNums bs) i k) (ev_neg (by rw [hsz]; omega) (Ev.bind (nl_spec_ev ln (by omega)) ?_))
    rw [← hbs]
    refine ev_pos rfl (Ev.bind (nl_impl_ev (strOfNums bs) (by rw [hsz]; omega)) (ev_now ?_))
    rw [hbb, nl_same bs hbc]
    exact beq_self_eq_true _
  | succ d ih =>
    intro i hd hi
    have hlt : i < (bytesOf (strOfNums bs)).length := by rw [hbb]; omega
    have hb := bt_get (strOfNums bs) i hlt
    have hmm : ∀ l : List Int, l = bs → ∀ h : i < l.length, l[i] ∈ bs := by rintro l rfl h; exact List.getElem_mem h
    have hm : (bytesOf (strOfNums bs))[i] ∈ bs := hmm _ hbb hlt
    have h13 := (hbc _ hm).1
    have h0 := (hbc _ hm).2
    rw [← hb] at h13 h0
    refine Ev.step (fun k => laws_FnPoints.l1.eq_2 ln (strOfNums bs) i k) (ev_pos (by rw [hsz]; omega) (ev_pos (by omega) (ev_neg h13 (ev_neg h0 ?_))))
    rw [wrap_succ (by omega)]
    exact ih (i + 1) (by omega) (by omega)
theorem pts_j4 (c : List Int) (hc : c.length ≤ 1048576) : Ev (fun k => laws_FnPoints.j4 k c false) true := by
  obtain ⟨ln, hln, e4⟩ := drawNewlines_ev c hc
  refine Ev.step (fun k => laws_FnPoints.j4.eq_2 c false k) (ev_neg (by decide) (Ev.bind e4 (Ev.bind (nl_impl_ev ln (by omega)) ?_)))
  exact nl_l1 ln hln _ rfl _ 0 rfl (Nat.zero_le _)
theorem pts_j3 (c : List Int) (hc : c.length ≤ 1048576) (tx : List Int) (htl : tx.length ≤ 1440) (htr : bytesIn tx) (b : Bool) (hb : pre 0 tx = true → b = true) : Ev (fun k => laws_FnPoints.j3 k c (strOfNums tx) b) true := by
  have hbt : bytesOf (strOfNums tx) = tx := bytesOf_str htr
  have hsz : (strOfNums tx).size = tx.length := strOfNums_size tx
  cases b with
  | true => exact Ev.step (fun k => laws_FnPoints.j3.eq_2 c (strOfNums tx) true k) (ev_pos rfl (pts_j4 c hc))
  | false =>
    have hp : pre 0 tx = false := by cases h : pre 0 tx with
      | false => rfl
      | true => exact absurd (hb h) (by decide)
    refine Ev.step (fun k => laws_FnPoints.j3.eq_2 c (strOfNums tx) false k) (ev_neg (by decide) (ev_pos (by rw [hsz]; omega) ?_))
    refine ev_bc (cp_impl tx htr (by omega)) (ev_bc (enc_some _ (by have := cpU_len tx.length tx; omega)) ?_)
    rw [cp_enc _ tx htr]
    refine Ev.bind (a := strOfNums (rdU tx.length tx)) ?_ ?_
    · have hok : bytesOk tx = true := List.all_eq_true.2 fun x hx => by have := htr x hx; simp [this]
      rw [hbt]
      refine Ev.congr (fun n => by unfold impl_Decode.f; rfl) (ev_pos hok (ev_pos (show (0 : Int) = 0 ∨ (0 : Int) = 1 ∨ (0 : Int) = 2 ∨ (0 : Int) = 3 from .inl rfl) (ev_pos (by omega) (ev_bc (a := false) ?_ ?_))))
      · show strings_HasPrefix.f (strOfNums tx) (markB 0) = some false
        rw [markB_eq, pre_dec htr (markL_range 0), ← hp]
        rfl
      · exact ev_now rfl
    · rw [show ((strOfNums (rdU tx.length tx)).toList != (strOfNums (rdU tx.length tx)).toList) = false from bne_self_eq_false _]
      exact pts_j4 c hc
theorem pts_l0 (c : List Int) (hc : c.length ≤ 1048576) (list : List Int) (hl : list.length ≤ 60) : ∀ d i : Nat, list.length - i = d → i ≤ list.length → Ev (fun k => laws_FnPoints.l0 k c list (list.map fixC) i) true := by
  intro d
  induction d with
  | zero =>
    intro i hd hi
    obtain ⟨tx, htl, htr, e3⟩ := drawPoints_ev c hc
    have hsz : (strOfNums tx).size = tx.length := strOfNums_size tx
    refine Ev.step (fun k => laws_FnPoints.l0.eq_2 c list (list.map fixC) i k) (ev_neg (by omega) (Ev.bind e3 ?_))
    rw [hsz]
    by_cases h3 : (tx.length : Int) ≥ 3
    · refine ev_pos h3 (ev_pos (by omega) (ev_pos (by omega) (pts_j3 c hc tx htl htr _ ?_)))
      intro hp
      have hp : tx.take 3 = [239, 187, 191] := of_decide_eq_true hp
      rw [str_take, hp, Lib.strOfNums_toList]
      decide
    · refine ev_neg h3 (pts_j3 c hc tx htl htr false ?_)
      intro hp
      have hp : tx.take 3 = [239, 187, 191] := of_decide_eq_true hp
      have := congrArg List.length hp
      rw [List.length_take] at this
      simp at this
      omega
  | succ d ih =>
    intro i hd hi
    have hlt : i < list.length := by omega
    have hlt2 : i < (list.map fixC).length := by rw [List.length_map]; omega
    have ih' := ih (i + 1) (by omega) (by omega)
    obtain ⟨x, hx⟩ : ∃ x, x = list[i] := ⟨_, rfl⟩
    have hrm : rd (list.map fixC) (i : Int) = fixC x := by rw [rd_n1 _ i hlt2, List.getElem_map, hx]
    have hrl : rd list (i : Int) = x := by rw [rd_n1 list i hlt, hx]
    have hw : wrap64 ((i : Int) + 1) = ((i + 1 : Nat) : Int) := wrap_succ (by omega)
    have hlm : (list.map fixC).length = list.length := List.length_map ..
    obtain ⟨bk, hbk⟩ : ∃ bk, bk = list.map fixC := ⟨_, rfl⟩
    rw [← hbk] at ih' hrm hlt2 hlm ⊢
    have bad : ∀ b : Bool, encB x = b → Ev (fun k => laws_FnPoints.j2 k c list bk i x b) true := by
      intro b hb
      refine Ev.step (fun k => laws_FnPoints.j2.eq_2 c list bk i x b k) ?_
      rw [hrm, hw]
      cases b with
      | true => exact ev_pos rfl (ev_pos (by omega) (ev_pos (by omega) (ev_pos (by unfold fixC; rw [if_pos hb]) ih')))
      | false => exact ev_neg (by decide) (ev_pos (by omega) (ev_pos (by omega) (ev_pos (by unfold fixC; rw [if_neg (by rw [hb]; decide)]) ih')))
    refine Ev.step (fun k => laws_FnPoints.l0.eq_2 c list bk i k) (ev_pos (by omega) (ev_pos (by omega) ?_))
    rw [hrl]
    have he := encB_eq x
    by_cases a : x < 0
    · exact ev_pos a (bad true (by rw [he, decide_eq_true_eq]; omega))
    · refine ev_neg a ?_
      by_cases b : x > 1114111
      · exact ev_pos b (bad true (by rw [he, decide_eq_true_eq]; omega))
      · refine ev_neg b ?_
        by_cases d2 : x ≥ 55296
        · refine ev_pos d2 (bad _ ?_)
          rw [he]
          exact decide_eq_decide.2 (by omega)
        · exact ev_neg d2 (bad false (by rw [he, decide_eq_false_iff_not]; omega))
theorem FnPoints : laws_FnPoints.Pure := by
  intro c hc1 _ _
  refine Ev.rounds (r := true) ?_
  refine Ev.congr (fun k => by unfold laws_FnPoints.f laws_big.f; rfl) (ev_bs ?_)
  by_cases hbig : (c.length : Int) > 1048576
  · exact ev_pos (decide_eq_true hbig) (ev_now rfl)
  refine ev_neg (by rw [decide_eq_false hbig]; decide) ?_
  have hc : c.length ≤ 1048576 := by omega
  obtain ⟨list, hl, e1⟩ := drawEncode_ev c hc
  have hrg := encU_range list
  have hel := encU_len list
  have hel4 := encU_len4 list
  have eback : impl_CodePoints.f (strOfNums (encU list)) = some (list.map fixC) := by
    rw [cp_impl _ hrg (by omega), enc_cp _ list hel]
  refine Ev.bind e1 (ev_bc (enc_some list (by omega)) (ev_bc eback (Ev.bind (enc_spec list (by omega)) (ev_pos rfl ?_))))
  rw [show (((list.map fixC).length : Int) != (list.length : Int)) = false by rw [List.length_map]; exact bne_self_eq_false _]
  exact Ev.step (fun k => laws_FnPoints.j0.eq_2 c list (list.map fixC) false k) (ev_neg (by decide) (pts_l0 c hc list hl _ 0 rfl (Nat.zero_le _)))
end Go.Proofs.Ytmffcjjodkggcaa.Fact
