/- the mirrored text is the same by both roads -/
import Derived.Test.YtmffcjjodkggcaaMFnExactMirroredx5
import Derived.Lib.DecodeN
namespace Go.Proofs.Ytmffcjjodkggcaa.Fact
open Go.RowKit Go.Proofs.Ytmffcjjodkggcaa.MFnExactMirrored Go.Proofs.YtmffcjjodkggcaaW.PrintWords Go.Proofs.YtmffcjjodkggcaaW.PrintLast
set_option linter.unusedVariables false
set_option linter.unusedSimpArgs false
/-! ### what comes from some round on -/
theorem ev_pos {α : Type} {c : Prop} [Decidable c] {f g : Nat → Option α} {r : α} (h : c) (k : Ev f r) : Ev (fun n => if c then f n else g n) r := by
  simpa only [if_pos h] using k
theorem ev_neg {α : Type} {c : Prop} [Decidable c] {f g : Nat → Option α} {r : α} (h : ¬ c) (k : Ev g r) : Ev (fun n => if c then f n else g n) r := by
  simpa only [if_neg h] using k
theorem ev_now {α : Type} {q r : α} (h : q = r) : Ev (fun _ => some q) r := by rw [h]; exact Ev.now r
theorem ev_bs {α β : Type} {a : α} {f : Nat → α → Option β} {r : β} (k : Ev (fun n => f n a) r) : Ev (fun n => (some a).bind (f n)) r := by
  simpa only [Option.bind_some] using k
theorem ev_bc {α β : Type} {o : Option α} {a : α} {f : Nat → α → Option β} {r : β} (h : o = some a) (k : Ev (fun n => f n a) r) : Ev (fun n => o.bind (f n)) r := by
  rw [h]; exact ev_bs k
theorem wrap_in {i : Int} (h0 : -9223372036854775808 ≤ i) (h1 : i ≤ 9223372036854775807) : wrap64 i = i := by
  unfold wrap64
  omega
theorem i64_bounds {x : Int} (h : (Lit.int .i64 x).wf = true) : -9223372036854775808 ≤ x ∧ x ≤ 9223372036854775807 := by
  simp [Lit.wf, IntKind.min, IntKind.max, IntKind.signed, IntKind.bits] at h
  omega
theorem ev_ite {α : Type} {c : Prop} [Decidable c] {f g : Nat → Option α} {r : α} (h1 : c → Ev f r) (h2 : ¬ c → Ev g r) : Ev (fun n => if c then f n else g n) r := by
  by_cases h : c
  · exact ev_pos h (h1 h)
  · exact ev_neg h (h2 h)
theorem ev_to {α : Type} {f : Nat → Option α} {q r : α} (h : q = r) (k : Ev f q) : Ev f r := h ▸ k
theorem wrap_succ {i : Nat} (h : i < 9223372036854775807) : wrap64 ((i : Int) + 1) = ((i + 1 : Nat) : Int) := by
  rw [wrap_in (by omega) (by omega)]; rfl
theorem getD_nat {α : Type} (d : α) (xs : List α) (i : Nat) (h : i < xs.length) : xs.getD (i : Int).toNat d = xs[i] := by
  simp [List.getElem?_eq_getElem h]
/-- A loop that counts from i up to n, its state s. -/
theorem ev_loop {σ ρ : Type} {g : Nat → σ → Int → Option ρ} (n : Nat) (R : Nat → σ → ρ) (Inv : Nat → σ → Prop)
    (hend : ∀ s, Inv n s → Ev (fun k => g k s n) (R n s))
    (hstep : ∀ i s, i < n → Inv i s → (∀ s', Inv (i + 1) s' → Ev (fun k => g k s' ((i + 1 : Nat) : Int)) (R (i + 1) s')) → Ev (fun k => g k s i) (R i s)) :
    ∀ i, i ≤ n → ∀ s, Inv i s → Ev (fun k => g k s i) (R i s) := by
  have key : ∀ d i, n - i = d → i ≤ n → ∀ s, Inv i s → Ev (fun k => g k s i) (R i s) := by
    intro d
    induction d with
    | zero =>
      intro i hd hi s hs
      obtain rfl : i = n := by omega
      exact hend s hs
    | succ d ih =>
      intro i hd hi s hs
      exact hstep i s (by omega) hs (ih (i + 1) (by omega) (by omega))
  exact fun i hi s hs => key (n - i) i rfl hi s hs
/-- The same, without a state. -/
theorem ev_count {ρ : Type} {g : Nat → Int → Option ρ} (n : Nat) (R : Nat → ρ) (hend : Ev (fun k => g k n) (R n))
    (hstep : ∀ i, i < n → Ev (fun k => g k ((i + 1 : Nat) : Int)) (R (i + 1)) → Ev (fun k => g k i) (R i)) : ∀ i, i ≤ n → Ev (fun k => g k i) (R i) := by
  intro i hi
  exact ev_loop (σ := Unit) (g := fun k _ i => g k i) n (fun i _ => R i) (fun _ _ => True) (fun _ _ => hend) (fun i _ h _ ih => hstep i h (ih () trivial)) i hi () trivial
/-- A loop that writes F of each element into a list of the same length. -/
theorem ev_copy {α β : Type} {g : Nat → List β → Int → Option (List β)} (F : α → β) (xs : List α)
    (hend : ∀ ys : List β, ys.length = xs.length → Ev (fun k => g k ys xs.length) ys)
    (hstep : ∀ (ys : List β) (i : Nat) (h : i < xs.length), ys.length = xs.length → Ev (fun k => g k (ys.set i (F xs[i])) ((i + 1 : Nat) : Int)) (xs.map F) → Ev (fun k => g k ys i) (xs.map F))
    (ys : List β) (hl : ys.length = xs.length) : Ev (fun k => g k ys 0) (xs.map F) := by
  refine ev_loop (g := g) xs.length (fun _ _ => xs.map F) (fun i ys => ys.length = xs.length ∧ ys.take i = (xs.map F).take i) ?_ ?_ 0 (Nat.zero_le _) ys ⟨hl, rfl⟩
  · intro ys hs
    have e : ys = xs.map F := by
      have := hs.2
      rwa [List.take_of_length_le (by omega), List.take_of_length_le (by simp)] at this
    rw [← e]; exact hend ys hs.1
  · intro i ys hi hs ih
    refine hstep ys i hi hs.1 (ih _ ⟨by rw [List.length_set]; exact hs.1, ?_⟩)
    rw [List.take_succ_eq_append_getElem (by rw [List.length_set]; omega), List.take_succ_eq_append_getElem (by rw [List.length_map]; omega), List.take_set, hs.2, List.getElem_set_self, List.getElem_map]
    rw [List.set_eq_of_length_le (by simp; omega)]
theorem ite_eq {α : Type} {c : Prop} [Decidable c] {x y z : α} (h1 : c → x = z) (h2 : ¬ c → y = z) : (if c then x else y) = z := by
  by_cases h : c
  · rw [if_pos h]; exact h1 h
  · rw [if_neg h]; exact h2 h
theorem iteP {α : Type} {P : α → Prop} {c : Prop} [Decidable c] {x y : α} (h1 : c → P x) (h2 : ¬ c → P y) : P (if c then x else y) := by
  by_cases h : c
  · rw [if_pos h]; exact h1 h
  · rw [if_neg h]; exact h2 h
/-! ### the mirror of a code point -/
/-- The first place of a value, counted on from i; -1 if there is none. -/
def fnd : List Int → Int → Int → Int
  | [], _, _ => -1
  | x :: t, a, i => if x = a then i else fnd t a (i + 1)
theorem drop_cons {α : Type} (xs : List α) (d : α) (i : Nat) (h : i < xs.length) : xs.drop i = xs.getD i d :: xs.drop (i + 1) := by
  rw [List.drop_eq_getElem_cons h]
  simp [List.getElem?_eq_getElem h]
theorem find_spec (xs : List Int) (a : Int) (hn : xs.length ≤ 1000000) (d : Nat) : ∀ i : Nat, xs.length - i = d → i ≤ xs.length → Ev (fun k => spec_l3Find.l0 k xs a i) (fnd (xs.drop i) a i) := by
  induction d with
  | zero =>
    intro i hd hi
    refine Ev.step (fun k => spec_l3Find.l0.eq_2 xs a i k) (ev_neg (by omega) (ev_now ?_))
    rw [List.drop_of_length_le (by omega)]; rfl
  | succ d ih =>
    intro i hd hi
    refine Ev.step (fun k => spec_l3Find.l0.eq_2 xs a i k) (ev_pos (by omega) (ev_pos (by omega) ?_))
    rw [drop_cons xs 0 i (by omega)]
    have e : rd xs i = xs.getD i 0 := by simp [rd]
    by_cases h : rd xs i = a
    · refine ev_pos h (ev_now ?_)
      unfold fnd; rw [if_pos (by rw [← e]; exact h)]
    · refine ev_neg h ?_
      unfold fnd; rw [if_neg (by rw [← e]; exact h), wrap_in (by omega) (by omega)]
      exact ih (i + 1) (by omega) (by omega)
theorem find_impl (xs : List Int) (a : Int) (hn : xs.length ≤ 1000000) (d : Nat) : ∀ i : Nat, xs.length - i = d → i ≤ xs.length → Ev (fun k => slices_Index_int_int.l0 k xs a xs.length i) (fnd (xs.drop i) a i) := by
  induction d with
  | zero =>
    intro i hd hi
    refine Ev.step (fun k => slices_Index_int_int.l0.eq_2 xs a xs.length i k) (ev_neg (by omega) (ev_now ?_))
    rw [List.drop_of_length_le (by omega)]; rfl
  | succ d ih =>
    intro i hd hi
    refine Ev.step (fun k => slices_Index_int_int.l0.eq_2 xs a xs.length i k) (ev_pos (by omega) (ev_pos (by omega) (ev_pos (by omega) ?_)))
    rw [drop_cons xs 0 i (by omega)]
    have e : rd xs i = xs.getD i 0 := by simp [rd]
    by_cases h : a = rd xs i
    · refine ev_pos h (ev_now ?_)
      unfold fnd; rw [if_pos (by rw [← e]; exact h.symm)]
    · refine ev_neg h ?_
      unfold fnd; rw [if_neg (by rw [← e]; exact fun z => h z.symm), wrap_in (by omega) (by omega)]
      exact ih (i + 1) (by omega) (by omega)
theorem fnd_range (xs : List Int) (a : Int) : ∀ i, fnd xs a i = -1 ∨ (i ≤ fnd xs a i ∧ fnd xs a i < i + xs.length) := by
  induction xs with
  | nil => intro i; exact .inl rfl
  | cons x t ih =>
    intro i
    unfold fnd
    split
    · right; simp only [List.length_cons]; omega
    · rcases ih (i + 1) with h | h
      · exact .inl h
      · right; simp only [List.length_cons]; omega
theorem both (t : Int) (h : t = -1 ∨ (0 ≤ t ∧ t < 10)) (a : Int) : ∃ r,
    (if t < 0 then (some a) else (if 0 ≤ (wrap64 ((wrap64 (t + 1)) - (wrap64 (2 * (Int.tmod t 2))))) then (if (wrap64 ((wrap64 (t + 1)) - (wrap64 (2 * (Int.tmod t 2))))) < ((([40, 41, 91, 93, 123, 125, 60, 62, 171, 187] : List Int)).length : Int) then (some (rd [40, 41, 91, 93, 123, 125, 60, 62, 171, 187] (wrap64 ((wrap64 (t + 1)) - (wrap64 (2 * (Int.tmod t 2))))))) else (none)) else (none))) = some r ∧
    (if t < 0 then (some a) else (if 0 ≤ (Go.bits .xor .i64 t 1) then (if (Go.bits .xor .i64 t 1) < ((([40, 41, 91, 93, 123, 125, 60, 62, 171, 187] : List Int)).length : Int) then (some (rd [40, 41, 91, 93, 123, 125, 60, 62, 171, 187] (Go.bits .xor .i64 t 1))) else (none)) else (none))) = some r := by
  have h' : t = -1 ∨ t = 0 ∨ t = 1 ∨ t = 2 ∨ t = 3 ∨ t = 4 ∨ t = 5 ∨ t = 6 ∨ t = 7 ∨ t = 8 ∨ t = 9 := by omega
  rcases h' with rfl | h'
  · exact ⟨a, if_pos (by decide), if_pos (by decide)⟩
  have e1 : ¬ t < 0 := by omega
  rw [if_neg e1, if_neg e1]
  rcases h' with rfl | rfl | rfl | rfl | rfl | rfl | rfl | rfl | rfl | rfl
  · exact ⟨41, by decide +kernel, by decide +kernel⟩
  · exact ⟨40, by decide +kernel, by decide +kernel⟩
  · exact ⟨93, by decide +kernel, by decide +kernel⟩
  · exact ⟨91, by decide +kernel, by decide +kernel⟩
  · exact ⟨125, by decide +kernel, by decide +kernel⟩
  · exact ⟨123, by decide +kernel, by decide +kernel⟩
  · exact ⟨62, by decide +kernel, by decide +kernel⟩
  · exact ⟨60, by decide +kernel, by decide +kernel⟩
  · exact ⟨187, by decide +kernel, by decide +kernel⟩
  · exact ⟨171, by decide +kernel, by decide +kernel⟩
/-! ### a text's code points: what the decoder tells of the bytes that were taken whole -/
theorem some_of_getElem? {L : List Int} {i : Nat} {x : Int} (h : L[i]? = some x) (h0 : 0 ≤ x) (h1 : x ≤ 255) : ((strOfNums L).get! i).toNat = x.toNat := by
  obtain ⟨hi, hx⟩ := List.getElem?_eq_some_iff.1 h
  have e : (strOfNums L).get! i = UInt8.ofNat x.toNat := by
    show (strOfNums L).data[i]! = _
    rw [getElem!_pos _ i (by simp [strOfNums]; exact hi)]
    simp [strOfNums, hx]
  rw [e, UInt8.toNat_ofNat']
  omega
theorem at_drop {L m : List Int} {p : Nat} (h : L.drop p = m) (j : Nat) : L[p + j]? = m[j]? := by rw [← h, List.getElem?_drop]
theorem drop_room {L m : List Int} {p : Nat} (h : L.drop p = m) : (strOfNums L).size - p = m.length := by rw [strOfNums_size, ← h, List.length_drop]
theorem dec1 {L R : List Int} {p : Nat} {b : Int} (h : L.drop p = b :: R) (h0 : 0 ≤ b) (h1 : b < 128) : Utf8.decode (strOfNums L) p = (b.toNat, 1) := by
  have e0 := some_of_getElem? (at_drop h 0) h0 (by omega)
  rw [Nat.add_zero] at e0
  rw [Lib.decode_at, e0, Lib.decodeN, if_pos (by omega)]
theorem dec2 {L R : List Int} {p : Nat} {b c : Int} (h : L.drop p = b :: c :: R) (h0 : 194 ≤ b ∧ b ≤ 223) (h1 : 128 ≤ c ∧ c ≤ 191) : Utf8.decode (strOfNums L) p = ((b % 32 * 64 + c % 64).toNat, 2) := by
  have e0 := some_of_getElem? (at_drop h 0) (by omega) (by omega)
  have e1 := some_of_getElem? (at_drop h 1) (by omega) (by omega)
  rw [Nat.add_zero] at e0
  have hs := drop_room h
  simp only [List.length_cons] at hs
  rw [Lib.decode_at, e0, e1, hs, Lib.decodeN, if_neg (by omega), if_pos ⟨by omega, by omega, by omega⟩, if_pos (by omega)]
  congr 1; omega
theorem dec3 {L R : List Int} {p : Nat} {b c d : Int} (h : L.drop p = b :: c :: d :: R) (h0 : 224 ≤ b ∧ b ≤ 239) (h1 : 128 ≤ c ∧ c ≤ 191) (h2 : 128 ≤ d ∧ d ≤ 191) (h3 : b = 224 → 160 ≤ c) (h4 : b = 237 → c ≤ 159) :
    Utf8.decode (strOfNums L) p = ((b % 16 * 4096 + c % 64 * 64 + d % 64).toNat, 3) := by
  have e0 := some_of_getElem? (at_drop h 0) (by omega) (by omega)
  have e1 := some_of_getElem? (at_drop h 1) (by omega) (by omega)
  have e2 := some_of_getElem? (at_drop h 2) (by omega) (by omega)
  rw [Nat.add_zero] at e0
  have hs := drop_room h
  simp only [List.length_cons] at hs
  rw [Lib.decode_at, e0, e1, e2, hs, Lib.decodeN, if_neg (by omega), if_neg (by omega), if_pos ⟨by omega, ⟨by omega, by omega⟩, by omega, by omega⟩, if_pos (by omega)]
  congr 1; omega
theorem dec4 {L R : List Int} {p : Nat} {b c d e : Int} (h : L.drop p = b :: c :: d :: e :: R) (h0 : 240 ≤ b ∧ b ≤ 244) (h1 : 128 ≤ c ∧ c ≤ 191) (h2 : 128 ≤ d ∧ d ≤ 191) (h5 : 128 ≤ e ∧ e ≤ 191) (h3 : b = 240 → 144 ≤ c) (h4 : b = 244 → c ≤ 143) :
    Utf8.decode (strOfNums L) p = ((b % 8 * 262144 + c % 64 * 4096 + d % 64 * 64 + e % 64).toNat, 4) := by
  have e0 := some_of_getElem? (at_drop h 0) (by omega) (by omega)
  have e1 := some_of_getElem? (at_drop h 1) (by omega) (by omega)
  have e2 := some_of_getElem? (at_drop h 2) (by omega) (by omega)
  have e3 := some_of_getElem? (at_drop h 3) (by omega) (by omega)
  rw [Nat.add_zero] at e0
  have hs := drop_room h
  simp only [List.length_cons] at hs
  rw [Lib.decode_at, e0, e1, e2, e3, hs, Lib.decodeN, if_neg (by omega), if_neg (by omega), if_neg (by omega), if_pos ⟨by omega, ⟨by omega, by omega⟩, ⟨by omega, by omega⟩, by omega, by omega⟩, if_pos (by omega)]
  congr 1; omega
/-! ### the number that the specification makes of them -/
theorem fin_of {x : Int} (h0 : 0 ≤ x) (h1 : x ≤ 255) : ∃ n : Fin 256, x = (n.val : Int) := ⟨⟨x.toNat, by omega⟩, by show x = ((x.toNat : Nat) : Int); omega⟩
theorem b31 : ∀ n : Fin 256, Go.bits .and .u8 (n.val : Int) 31 = (n.val : Int) % 32 := by decide +kernel
theorem b63 : ∀ n : Fin 256, Go.bits .and .u8 (n.val : Int) 63 = (n.val : Int) % 64 := by decide +kernel
theorem b15 : ∀ n : Fin 256, Go.bits .and .u8 (n.val : Int) 15 = (n.val : Int) % 16 := by decide +kernel
theorem b07 : ∀ n : Fin 256, Go.bits .and .u8 (n.val : Int) 7 = (n.val : Int) % 8 := by decide +kernel
theorem c31 {x : Int} (h0 : 0 ≤ x) (h1 : x ≤ 255) : Go.bits .and .u8 x 31 = x % 32 := by obtain ⟨n, rfl⟩ := fin_of h0 h1; exact b31 n
theorem c63 {x : Int} (h0 : 0 ≤ x) (h1 : x ≤ 255) : Go.bits .and .u8 x 63 = x % 64 := by obtain ⟨n, rfl⟩ := fin_of h0 h1; exact b63 n
theorem c15 {x : Int} (h0 : 0 ≤ x) (h1 : x ≤ 255) : Go.bits .and .u8 x 15 = x % 16 := by obtain ⟨n, rfl⟩ := fin_of h0 h1; exact b15 n
theorem c07 {x : Int} (h0 : 0 ≤ x) (h1 : x ≤ 255) : Go.bits .and .u8 x 7 = x % 8 := by obtain ⟨n, rfl⟩ := fin_of h0 h1; exact b07 n
theorem pt1 {b : Int} (h0 : 0 ≤ b) (h1 : b ≤ 255) : ptF [b] = b := by
  have e : spec_l1Point.f [b] = some (wrap64 b) := by
    rw [spec_l1Point.f, if_pos (by simp), if_pos (by simp)]; rfl
  rw [ptF, e]; show wrap64 b = b
  exact wrap_in (by omega) (by omega)
theorem pt2 {b c : Int} (h0 : 0 ≤ b ∧ b ≤ 255) (h1 : 0 ≤ c ∧ c ≤ 255) : ptF [b, c] = b % 32 * 64 + c % 64 := by
  have e : spec_l1Point.f [b, c] = some (wrap64 ((wrap64 ((wrap64 (Go.bits .and .u8 b 31)) * 64)) + (wrap64 (Go.bits .and .u8 c 63)))) := by
    rw [spec_l1Point.f, if_neg (by simp), if_pos (by simp), if_pos (by simp), if_pos (by simp)]; rfl
  rw [ptF, e, c31 h0.1 h0.2, c63 h1.1 h1.2, Option.getD_some]
  simp only [wrap64]; omega
theorem pt3 {b c d : Int} (h0 : 0 ≤ b ∧ b ≤ 255) (h1 : 0 ≤ c ∧ c ≤ 255) (h2 : 0 ≤ d ∧ d ≤ 255) : ptF [b, c, d] = b % 16 * 4096 + c % 64 * 64 + d % 64 := by
  have e : spec_l1Point.f [b, c, d] = some (wrap64 ((wrap64 ((wrap64 ((wrap64 (Go.bits .and .u8 b 15)) * 4096)) + (wrap64 ((wrap64 (Go.bits .and .u8 c 63)) * 64)))) + (wrap64 (Go.bits .and .u8 d 63)))) := by
    rw [spec_l1Point.f, if_neg (by simp), if_neg (by simp), if_pos (by simp), if_pos (by simp), if_pos (by simp), if_pos (by simp)]; rfl
  rw [ptF, e, c15 h0.1 h0.2, c63 h1.1 h1.2, c63 h2.1 h2.2, Option.getD_some]
  simp only [wrap64]; omega
theorem pt4 {b c d f : Int} (h0 : 0 ≤ b ∧ b ≤ 255) (h1 : 0 ≤ c ∧ c ≤ 255) (h2 : 0 ≤ d ∧ d ≤ 255) (h3 : 0 ≤ f ∧ f ≤ 255) : ptF [b, c, d, f] = b % 8 * 262144 + c % 64 * 4096 + d % 64 * 64 + f % 64 := by
  have e : spec_l1Point.f [b, c, d, f] = some (wrap64 ((wrap64 ((wrap64 ((wrap64 ((wrap64 (Go.bits .and .u8 b 7)) * 262144)) + (wrap64 ((wrap64 (Go.bits .and .u8 c 63)) * 4096)))) + (wrap64 ((wrap64 (Go.bits .and .u8 d 63)) * 64)))) + (wrap64 (Go.bits .and .u8 f 63)))) := by
    rw [spec_l1Point.f, if_neg (by simp), if_neg (by simp), if_neg (by simp), if_pos (by simp), if_pos (by simp), if_pos (by simp), if_pos (by simp)]; rfl
  rw [ptF, e, c07 h0.1 h0.2, c63 h1.1 h1.2, c63 h2.1 h2.2, c63 h3.1 h3.2, Option.getD_some]
  simp only [wrap64]; omega
/-! ### the bytes that are taken whole -/
theorem tl_ok (k n : Nat) (lo hi : Int) (r : List Int) (h : (tlF (k + 1) n lo hi r).2.1 = true) : ∃ c r', r = c :: r' ∧ lo ≤ c ∧ c ≤ hi ∧ tlF (k + 1) n lo hi r = tlF k (n + 1) 128 191 r' := by
  cases r with
  | nil => rw [tlF] at h; cases h
  | cons c r =>
    rw [tlF] at h
    by_cases e : c < lo ∨ c > hi
    · rw [if_pos e] at h; cases h
    · exact ⟨c, r, rfl, by omega, by omega, by rw [tlF, if_neg e]⟩
theorem needs_cases (b : Int) : (needsF b = (1, 0, 0) ∧ b < 128) ∨ (needsF b = (2, 128, 191) ∧ 194 ≤ b ∧ b ≤ 223) ∨ (∃ lo hi, needsF b = (3, lo, hi) ∧ 224 ≤ b ∧ b ≤ 239 ∧ 128 ≤ lo ∧ hi ≤ 191 ∧ (b = 224 → lo = 160) ∧ (b = 237 → hi = 159)) ∨
    (∃ lo hi, needsF b = (4, lo, hi) ∧ 240 ≤ b ∧ b ≤ 244 ∧ 128 ≤ lo ∧ hi ≤ 191 ∧ (b = 240 → lo = 144) ∧ (b = 244 → hi = 143)) ∨ needsF b = (0, 0, 0) := by
  unfold needsF
  repeat' split
  all_goals first
    | exact .inl ⟨rfl, by omega⟩
    | exact .inr (.inl ⟨rfl, by omega, by omega⟩)
    | exact .inr (.inr (.inl ⟨_, _, rfl, by omega, by omega, by omega, by omega, by omega, by omega⟩))
    | exact .inr (.inr (.inr (.inl ⟨_, _, rfl, by omega, by omega, by omega, by omega, by omega, by omega⟩)))
    | exact .inr (.inr (.inr (.inr rfl)))
theorem stretch_ok (b : Int) (r : List Int) (h : (stretchF (b :: r)).2.1 = true) :
    (b < 128 ∧ (stretchF (b :: r)).1 = 1) ∨
    (∃ c r', r = c :: r' ∧ (stretchF (b :: r)).1 = 2 ∧ (194 ≤ b ∧ b ≤ 223) ∧ (128 ≤ c ∧ c ≤ 191)) ∨
    (∃ c d r', r = c :: d :: r' ∧ (stretchF (b :: r)).1 = 3 ∧ (224 ≤ b ∧ b ≤ 239) ∧ (128 ≤ c ∧ c ≤ 191) ∧ (128 ≤ d ∧ d ≤ 191) ∧ (b = 224 → 160 ≤ c) ∧ (b = 237 → c ≤ 159)) ∨
    (∃ c d e r', r = c :: d :: e :: r' ∧ (stretchF (b :: r)).1 = 4 ∧ (240 ≤ b ∧ b ≤ 244) ∧ (128 ≤ c ∧ c ≤ 191) ∧ (128 ≤ d ∧ d ≤ 191) ∧ (128 ≤ e ∧ e ≤ 191) ∧ (b = 240 → 144 ≤ c) ∧ (b = 244 → c ≤ 143)) := by
  rcases needs_cases b with ⟨e, hb⟩ | ⟨e, hb⟩ | ⟨lo, hi, e, hb⟩ | ⟨lo, hi, e, hb⟩ | e
  · left
    refine ⟨hb, ?_⟩
    rw [stretchF, e, if_neg (by decide)]; rfl
  · right; left
    have es : stretchF (b :: r) = tlF 1 1 128 191 r := by rw [stretchF, e, if_neg (by decide)]; rfl
    rw [es] at h ⊢
    obtain ⟨c, r1, rfl, q1, q2, q3⟩ := tl_ok _ _ _ _ _ h
    exact ⟨c, r1, rfl, by rw [q3]; rfl, hb, q1, q2⟩
  · right; right; left
    have es : stretchF (b :: r) = tlF 2 1 lo hi r := by rw [stretchF, e, if_neg (by simp)]; rfl
    rw [es] at h ⊢
    obtain ⟨c, r1, rfl, q1, q2, q3⟩ := tl_ok _ _ _ _ _ h
    rw [q3] at h ⊢
    obtain ⟨d, r2, rfl, q4, q5, q6⟩ := tl_ok _ _ _ _ _ h
    exact ⟨c, d, r2, rfl, by rw [q6]; rfl, ⟨hb.1, hb.2.1⟩, ⟨by omega, by omega⟩, ⟨q4, q5⟩, by omega, by omega⟩
  · right; right; right
    have es : stretchF (b :: r) = tlF 3 1 lo hi r := by rw [stretchF, e, if_neg (by simp)]; rfl
    rw [es] at h ⊢
    obtain ⟨c, r1, rfl, q1, q2, q3⟩ := tl_ok _ _ _ _ _ h
    rw [q3] at h ⊢
    obtain ⟨d, r2, rfl, q4, q5, q6⟩ := tl_ok _ _ _ _ _ h
    rw [q6] at h ⊢
    obtain ⟨f, r3, rfl, q7, q8, q9⟩ := tl_ok _ _ _ _ _ h
    exact ⟨c, d, f, r3, rfl, by rw [q9]; rfl, ⟨hb.1, hb.2.1⟩, ⟨by omega, by omega⟩, ⟨q4, q5⟩, ⟨q7, q8⟩, by omega, by omega⟩
  · rw [stretchF, e, if_pos rfl] at h; cases h
theorem cp_dec (m : List Int) (hm : m ≠ []) (hr : ∀ x ∈ m, 0 ≤ x ∧ x ≤ 255) (hv : (stretchF m).2.1 = true) (L : List Int) (p : Nat) (R : List Int) (hL : L.drop p = m.take (stretchF m).1 ++ R) :
    Utf8.decode (strOfNums L) p = ((ptF (m.take (stretchF m).1)).toNat, (stretchF m).1) ∧ 0 ≤ ptF (m.take (stretchF m).1) := by
  obtain ⟨b, r, rfl⟩ := List.exists_cons_of_ne_nil hm
  have hb := hr b (by simp)
  rcases stretch_ok b r hv with ⟨q0, q1⟩ | ⟨c, r1, rfl, q1, q2, q3⟩ | ⟨c, d, r1, rfl, q1, q2, q3, q4, q5, q6⟩ | ⟨c, d, e, r1, rfl, q1, q2, q3, q4, q5, q6, q7⟩
  · rw [q1] at hL ⊢
    simp only [List.take_succ_cons, List.take_zero, List.cons_append, List.nil_append] at hL ⊢
    rw [dec1 hL hb.1 q0, pt1 hb.1 hb.2]
    exact ⟨rfl, hb.1⟩
  · rw [q1] at hL ⊢
    simp only [List.take_succ_cons, List.take_zero, List.cons_append, List.nil_append] at hL ⊢
    rw [dec2 hL q2 q3, pt2 hb ⟨by omega, by omega⟩]
    exact ⟨rfl, by omega⟩
  · rw [q1] at hL ⊢
    simp only [List.take_succ_cons, List.take_zero, List.cons_append, List.nil_append] at hL ⊢
    rw [dec3 hL q2 q3 q4 q5 q6, pt3 hb ⟨by omega, by omega⟩ ⟨by omega, by omega⟩]
    exact ⟨rfl, by omega⟩
  · rw [q1] at hL ⊢
    simp only [List.take_succ_cons, List.take_zero, List.cons_append, List.nil_append] at hL ⊢
    rw [dec4 hL q2 q3 q4 q5 q6 q7, pt4 hb ⟨by omega, by omega⟩ ⟨by omega, by omega⟩ ⟨by omega, by omega⟩]
    exact ⟨rfl, by omega⟩
theorem cp_run (k : Nat) : ∀ (l : List Int) (fuel : Nat) (L : List Int) (p : Nat), (∀ x ∈ l, 0 ≤ x ∧ x ≤ 255) → L.drop p = rdU k l → (rdU k l).length ≤ fuel → dcp (strOfNums L) fuel p = cpU k l := by
  have stop : ∀ (fuel : Nat) (L : List Int) (p : Nat), L.drop p = [] → dcp (strOfNums L) fuel p = [] := by
    intro fuel L p h
    cases fuel with
    | zero => rfl
    | succ f => rw [dcp, if_neg (by rw [strOfNums_size]; have := List.drop_eq_nil_iff.1 h; omega)]
  induction k with
  | zero => intro l fuel L p _ h _; exact stop fuel L p h
  | succ k ih =>
    intro l fuel L p hl h hf
    by_cases e : l = []
    · subst e
      rw [cpU_nil]
      exact stop fuel L p (by rw [h, rdU_nil])
    · rw [rdU_cons k l e] at h hf
      rw [cpU_cons k l e]
      have hb := stretch_bd l e
      have hl' : ∀ x ∈ l.drop (stretchF l).1, 0 ≤ x ∧ x ≤ 255 := fun x hx => hl x (List.mem_of_mem_drop hx)
      have go : ∀ (seg : List Int) (c : Int), seg ≠ [] → L.drop p = seg ++ rdU k (l.drop (stretchF l).1) → (seg ++ rdU k (l.drop (stretchF l).1)).length ≤ fuel → ((Utf8.decode (strOfNums L) p).1 : Int) = c → (Utf8.decode (strOfNums L) p).2 = seg.length → dcp (strOfNums L) fuel p = c :: cpU k (l.drop (stretchF l).1) := by
        intro seg c hs h hf h1 h2
        have hp : 0 < seg.length := List.length_pos_iff.mpr hs
        rw [List.length_append] at hf
        obtain ⟨f, rfl⟩ : ∃ f, fuel = f + 1 := ⟨fuel - 1, by omega⟩
        have hlt : p < (strOfNums L).size := by
          have := drop_room h
          rw [List.length_append] at this
          omega
        rw [dcp, if_pos hlt, h1, h2]
        congr 1
        refine ih _ f L (p + seg.length) hl' ?_ (by omega)
        rw [← List.drop_drop, h, List.drop_left]
      by_cases v : (stretchF l).2.1 = true
      · rw [if_pos v] at h hf ⊢
        obtain ⟨q1, q2⟩ := cp_dec l e hl v L p _ h
        refine go _ _ (by intro z; have := congrArg List.length z; rw [List.length_take] at this; simp only [List.length_nil] at this; omega) h hf ?_ ?_
        · rw [q1]; show (((ptF (l.take (stretchF l).1)).toNat : Nat) : Int) = _; omega
        · rw [q1, List.length_take]; show (stretchF l).1 = _; omega
      · rw [if_neg v] at h hf ⊢
        have q := dec3 (L := L) (p := p) (b := 239) (c := 191) (d := 189) (R := rdU k (l.drop (stretchF l).1)) h (by omega) (by omega) (by omega) (by omega) (by omega)
        refine go _ _ (by simp) h hf ?_ ?_
        · rw [q]; decide
        · rw [q]; rfl
theorem bytes_range (s : ByteArray) : ∀ x ∈ bytesOf s, 0 ≤ x ∧ x ≤ 255 := by
  intro x hx
  obtain ⟨b, _, rfl⟩ := List.mem_map.1 hx
  have := b.toNat_lt
  omega
theorem cp_same (s : ByteArray) : dcp (strOfNums (rdU s.size (bytesOf s))) (strOfNums (rdU s.size (bytesOf s))).size 0 = cpU s.size (bytesOf s) :=
  cp_run s.size (bytesOf s) _ _ 0 (bytes_range s) (by rw [List.drop_zero]) (by rw [strOfNums_size]; exact Nat.le_refl _)
theorem cpU_len (k : Nat) : ∀ l : List Int, (cpU k l).length ≤ k := by
  induction k with
  | zero => intro l; exact Nat.le_refl _
  | succ k ih =>
    intro l
    cases l with
    | nil => exact Nat.zero_le _
    | cons b r =>
      rw [cpU_cons k (b :: r) (by simp), List.length_cons]
      have := ih ((b :: r).drop (stretchF (b :: r)).1)
      omega
/-! ### code points written as bytes -/
theorem j1_some (k : Nat) (x : List Int) (c : Int) (h0 : 0 ≤ c) (h1 : c ≤ 1114111) (hs : c < 55296 ∨ 57343 < c) (hl : x.length + 4 < 140737488355328) : spec_l1Put.j1 (k + 1) x c = some (x ++ Lib.encodeRuneZ c) := by
  have d1 : Int.tdiv c 64 = c / 64 := Int.tdiv_eq_ediv_of_nonneg h0
  have d2 : Int.tdiv c 4096 = c / 4096 := Int.tdiv_eq_ediv_of_nonneg h0
  have d3 : Int.tdiv c 262144 = c / 262144 := Int.tdiv_eq_ediv_of_nonneg h0
  have m1 : Int.tmod c 64 = c % 64 := Int.tmod_eq_emod_of_nonneg h0
  have w1 : wrap64 (c / 64) = c / 64 := wrap_in (by omega) (by omega)
  have w2 : wrap64 (c / 4096) = c / 4096 := wrap_in (by omega) (by omega)
  have w3 : wrap64 (c / 262144) = c / 262144 := wrap_in (by omega) (by omega)
  have m2 : Int.tmod (c / 64) 64 = c / 64 % 64 := Int.tmod_eq_emod_of_nonneg (by omega)
  have m3 : Int.tmod (c / 4096) 64 = c / 4096 % 64 := Int.tmod_eq_emod_of_nonneg (by omega)
  have n1 : wrap64 (128 + c % 64) % 256 = 128 + c % 64 := by rw [wrap_in (by omega) (by omega)]; omega
  have n2 : wrap64 (128 + c / 64 % 64) % 256 = 128 + c / 64 % 64 := by rw [wrap_in (by omega) (by omega)]; omega
  have n3 : wrap64 (128 + c / 4096 % 64) % 256 = 128 + c / 4096 % 64 := by rw [wrap_in (by omega) (by omega)]; omega
  rw [spec_l1Put.j1, d1, d2, d3, m1, w1, w2, w3, m2, m3, n1, n2, n3]
  by_cases a : c < 128
  · rw [if_pos a, if_pos (by omega), Lib.encodeRuneZ_one h0 (by omega), show c % 256 = c by omega]
  · rw [if_neg a]
    by_cases b : c < 2048
    · rw [if_pos b, Option.bind_some, if_pos (by simp only [List.length_cons, List.length_nil]; omega), Lib.encodeRuneZ_two (by omega) (by omega), show wrap64 (192 + c / 64) % 256 = 192 + c / 64 by rw [wrap_in (by omega) (by omega)]; omega]
    · rw [if_neg b]
      by_cases d : c < 65536
      · rw [if_pos d, Option.bind_some, if_pos (by simp only [List.length_cons, List.length_nil]; omega), Lib.encodeRuneZ_three (by omega), show wrap64 (224 + c / 4096) % 256 = 224 + c / 4096 by rw [wrap_in (by omega) (by omega)]; omega]
      · rw [if_neg d, Option.bind_some, if_pos (by simp only [List.length_cons, List.length_nil]; omega), Lib.encodeRuneZ_four (by omega) (by omega), show wrap64 (240 + c / 262144) % 256 = 240 + c / 262144 by rw [wrap_in (by omega) (by omega)]; omega]
theorem put_some (k : Nat) (x : List Int) (c : Int) (hl : x.length + 4 < 140737488355328) : spec_l1Put.f (k + 2) x c = some (x ++ encZ c) := by
  have bad : spec_l1Put.j0 (k + 2) x c true = some (x ++ [239, 191, 189]) := by
    rw [spec_l1Put.j0, if_pos rfl, j1_some k x 65533 (by omega) (by omega) (by omega) hl]
    rfl
  rw [spec_l1Put.f, encZ, encB]
  by_cases a : c < 0
  · rw [if_pos a, bad, if_pos (by simp [a])]
  · rw [if_neg a]
    by_cases b : c > 1114111
    · rw [if_pos b, bad, if_pos (by simp [b])]
    · rw [if_neg b]
      by_cases d : c ≥ 55296
      · rw [if_pos d]
        by_cases e : c ≤ 57343
        · rw [decide_eq_true e, bad, if_pos (by simp [d])]
        · rw [decide_eq_false e, spec_l1Put.j0, if_neg (by decide), j1_some k x c (by omega) (by omega) (by omega) hl, if_neg (by simp; omega)]
      · rw [if_neg d, spec_l1Put.j0, if_neg (by decide), j1_some k x c (by omega) (by omega) (by omega) hl, if_neg (by simp; omega)]
theorem enc_loop (xs : List Int) (hl : xs.length ≤ 1099511627776) (d : Nat) : ∀ (x : List Int) (i : Nat), xs.length - i = d → i ≤ xs.length → x = encU (xs.take i) → Ev (fun k => spec_Encode.l0 k xs x i) (strOfNums (encU xs)) := by
  induction d with
  | zero =>
    intro x i hd hi hx
    refine Ev.step (fun k => spec_Encode.l0.eq_2 xs x i k) (ev_neg (by omega) (ev_now ?_))
    rw [hx, List.take_of_length_le (by omega)]
  | succ d ih =>
    intro x i hd hi hx
    have hlt : i < xs.length := by omega
    have hlen := encU_len (xs.take i)
    rw [← hx, List.length_take] at hlen
    refine Ev.step (fun k => spec_Encode.l0.eq_2 xs x i k) (ev_pos (by omega) (ev_pos (by omega) (Ev.bind (a := x ++ encZ xs[i]) ⟨2, fun k hk => ?_⟩ ?_)))
    · obtain ⟨k, rfl⟩ : ∃ m, k = m + 2 := ⟨k - 2, by omega⟩
      rw [rd_n1 xs i hlt]
      exact put_some k x xs[i] (by omega)
    · rw [wrap_succ (by omega)]
      exact ih _ (i + 1) (by omega) (by omega) (by rw [encU_succ xs i hlt, hx])
theorem enc_spec (xs : List Int) (hl : xs.length ≤ 1099511627776) : Ev (fun k => spec_Encode.f k xs) (strOfNums (encU xs)) :=
  Ev.congr (fun k => by unfold spec_Encode.f; rfl) (enc_loop xs hl xs.length [] 0 (by omega) (by omega) rfl)
theorem mirror_spec (c : Int) : Ev (fun k => spec_Mirror.f k c) (mirF c) := by
  obtain ⟨r, h1, h2⟩ := both (fnd [40, 41, 91, 93, 123, 125, 60, 62, 171, 187] c 0) (by have := fnd_range [40, 41, 91, 93, 123, 125, 60, 62, 171, 187] c 0; simp only [List.length_cons, List.length_nil] at this; omega) c
  have e1 : Ev (fun k => spec_Mirror.f k c) r := by
    refine Ev.congr (fun k => by unfold spec_Mirror.f; rfl) (ev_bs (Ev.bind (find_spec _ c (by simp) 10 0 rfl (by simp)) ?_))
    exact ⟨0, fun _ _ => h1⟩
  have e2 : Ev (fun k => impl_Mirror.f k c) r := by
    refine Ev.congr (fun k => by unfold impl_Mirror.f; rfl) (ev_bs (Ev.bind (find_impl _ c (by simp) 10 0 rfl (by simp)) ?_))
    exact ⟨0, fun _ _ => h2⟩
  obtain ⟨K, hK⟩ := e2
  have a : impl_Mirror.f (20 + K) c = some r := hK (20 + K) (by omega)
  have b := at_rounds (fun k => impl_Mirror.mono c k) (show 20 ≤ 20 + K by omega) (mir_some c)
  rw [a] at b
  obtain rfl := Option.some.inj b
  exact e1
theorem back_loop (xs : List Int) (hl : xs.length ≤ 1048576) (i : Nat) : ∀ x : List Int, i ≤ xs.length → x = ((xs.drop i).reverse.map mirF) → Ev (fun k => spec_Mirrored.l0 k xs x ((i : Int) - 1)) (strOfNums (encU (xs.reverse.map mirF))) := by
  induction i with
  | zero =>
    intro x hi hx
    refine Ev.step (fun k => spec_Mirrored.l0.eq_2 xs x (((0 : Nat) : Int) - 1) k) (ev_neg (by omega) (Ev.bind (a := strOfNums (encU (xs.reverse.map mirF))) ?_ (ev_now rfl)))
    rw [hx, List.drop_zero]
    exact enc_spec _ (by simp; omega)
  | succ i ih =>
    intro x hi hx
    have e : (((i + 1 : Nat) : Int) - 1) = (i : Int) := by omega
    have hxl : x.length ≤ xs.length := by rw [hx]; simp
    rw [e]
    refine Ev.step (fun k => spec_Mirrored.l0.eq_2 xs x (i : Int) k) (ev_pos (by omega) (ev_pos (by omega) (ev_pos (by omega) (Ev.bind (a := mirF xs[i]) ?_ (ev_pos (by omega) ?_)))))
    · rw [rd_n1 xs i (by omega)]
      exact mirror_spec xs[i]
    · rw [wrap_in (by omega) (by omega)]
      refine ih _ (by omega) ?_
      rw [List.drop_eq_getElem_cons (by omega : i < xs.length), hx, List.reverse_cons, List.map_append]
      rfl
theorem FnExactMirrored : laws_FnExactMirrored.Pure := by
  intro s lv _ _
  refine Ev.rounds (r := true) ?_
  refine Ev.congr (fun k => by unfold laws_FnExactMirrored.f; rfl) (ev_ite (fun _ => Ev.now true) fun hs => ?_)
  have hs' : s.size ≤ 1048576 := by omega
  by_cases c : Int.tmod lv 2 = 0
  · refine Ev.bind (a := s) (Ev.congr (fun k => by unfold spec_Mirrored.f; rfl) (ev_pos c (ev_now rfl))) (ev_bc (a := s) (by rw [impl_Mirrored.f, if_pos c]) (ev_pos rfl (Ev.now true)))
  · have hn := cpU_len s.size (bytesOf s)
    refine Ev.bind (a := strOfNums (encU ((cpU s.size (bytesOf s)).reverse.map mirF))) ?_ (ev_bc (a := strOfNums (encU ((cpU s.size (bytesOf s)).reverse.map mirF))) ?_ (ev_pos rfl (Ev.now true)))
    · refine Ev.congr (fun k => by unfold spec_Mirrored.f; rfl) (ev_neg c (ev_bc (a := cpU s.size (bytesOf s)) (by rw [spec_CodePoints.f, if_pos (by omega)]) ?_))
      rw [wrap_in (by omega) (by omega)]
      exact back_loop _ (by omega) _ [] (Nat.le_refl _) (by simp)
    · rw [impl_Mirrored.f, if_neg c, impl_CodePoints.f, if_pos (by omega), Option.bind_some, cp_same, if_pos (by omega)]
end Go.Proofs.Ytmffcjjodkggcaa.Fact
