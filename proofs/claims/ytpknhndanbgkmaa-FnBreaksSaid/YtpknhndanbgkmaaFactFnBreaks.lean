/- The law of line breaks and of white that is collapsed. Conditions: none. -/
import Derived.Test.YtpknhndanbgkmaaMFnBreaksx9
namespace Go.Proofs.Ytpknhndanbgkmaa.Fact
open Go.RowKit Go.Proofs.Ytpknhndanbgkmaa.MFnBreaks Go.Proofs.YtpknhndanbgkmaaW.PrintWords Go.Proofs.YtpknhndanbgkmaaW.PrintLast
set_option linter.unusedVariables false
set_option linter.unusedSimpArgs false
/-! ### what comes from some round on -/
theorem ev_pos {α : Type} {c : Prop} [Decidable c] {f g : Nat → Option α} {r : α} (h : c) (k : Ev f r) : Ev (fun n => if c then f n else g n) r := by
  simpa only [if_pos h] using k
theorem ev_neg {α : Type} {c : Prop} [Decidable c] {f g : Nat → Option α} {r : α} (h : ¬ c) (k : Ev g r) : Ev (fun n => if c then f n else g n) r := by
  simpa only [if_neg h] using k
theorem ev_now {α : Type} {q r : α} (h : q = r) : Ev (fun _ => some q) r := by rw [h]; exact Ev.now r
theorem ev_bs {α β : Type} {a : α} {f : Nat → α → Option β} {r : β} (k : Ev (fun n => f n a) r) : Ev (fun n => (some a).bind (f n)) r := by
  simpa only [Option.bind_some] using k
theorem ev_bc {α β : Type} {o : Option α} {a : α} {f : Nat → α → Option β} {r : β} (h : o = some a) (k : Ev (fun n => f n a) r) : Ev (fun n => o.bind (f n)) r := by
  rw [h]; exact ev_bs k
theorem wrap_in {i : Int} (h0 : -9223372036854775808 ≤ i) (h1 : i ≤ 9223372036854775807) : wrap64 i = i := by
  unfold wrap64
  omega
theorem i64_bounds {x : Int} (h : (Lit.int .i64 x).wf = true) : -9223372036854775808 ≤ x ∧ x ≤ 9223372036854775807 := by
  simp [Lit.wf, IntKind.min, IntKind.max, IntKind.signed, IntKind.bits] at h
  omega
theorem ev_ite {α : Type} {c : Prop} [Decidable c] {f g : Nat → Option α} {r : α} (h1 : c → Ev f r) (h2 : ¬ c → Ev g r) : Ev (fun n => if c then f n else g n) r := by
  by_cases h : c
  · exact ev_pos h (h1 h)
  · exact ev_neg h (h2 h)
theorem ev_to {α : Type} {f : Nat → Option α} {q r : α} (h : q = r) (k : Ev f q) : Ev f r := h ▸ k
theorem wrap_succ {i : Nat} (h : i < 9223372036854775807) : wrap64 ((i : Int) + 1) = ((i + 1 : Nat) : Int) := by
  rw [wrap_in (by omega) (by omega)]; rfl
theorem getD_nat {α : Type} (d : α) (xs : List α) (i : Nat) (h : i < xs.length) : xs.getD (i : Int).toNat d = xs[i] := by
  simp [List.getElem?_eq_getElem h]
/-- A loop that counts from i up to n, its state s. -/
theorem ev_loop {σ ρ : Type} {g : Nat → σ → Int → Option ρ} (n : Nat) (R : Nat → σ → ρ) (Inv : Nat → σ → Prop)
    (hend : ∀ s, Inv n s → Ev (fun k => g k s n) (R n s))
    (hstep : ∀ i s, i < n → Inv i s → (∀ s', Inv (i + 1) s' → Ev (fun k => g k s' ((i + 1 : Nat) : Int)) (R (i + 1) s')) → Ev (fun k => g k s i) (R i s)) :
    ∀ i, i ≤ n → ∀ s, Inv i s → Ev (fun k => g k s i) (R i s) := by
  have key : ∀ d i, n - i = d → i ≤ n → ∀ s, Inv i s → Ev (fun k => g k s i) (R i s) := by
    intro d
    induction d with
    | zero =>
      intro i hd hi s hs
      obtain rfl : i = n := by omega
      exact hend s hs
    | succ d ih =>
      intro i hd hi s hs
      exact hstep i s (by omega) hs (ih (i + 1) (by omega) (by omega))
  exact fun i hi s hs => key (n - i) i rfl hi s hs
/-- The same, without a state. -/
theorem ev_count {ρ : Type} {g : Nat → Int → Option ρ} (n : Nat) (R : Nat → ρ) (hend : Ev (fun k => g k n) (R n))
    (hstep : ∀ i, i < n → Ev (fun k => g k ((i + 1 : Nat) : Int)) (R (i + 1)) → Ev (fun k => g k i) (R i)) : ∀ i, i ≤ n → Ev (fun k => g k i) (R i) := by
  intro i hi
  exact ev_loop (σ := Unit) (g := fun k _ i => g k i) n (fun i _ => R i) (fun _ _ => True) (fun _ _ => hend) (fun i _ h _ ih => hstep i h (ih () trivial)) i hi () trivial
/-- A loop that writes F of each element into a list of the same length. -/
theorem ev_copy {α β : Type} {g : Nat → List β → Int → Option (List β)} (F : α → β) (xs : List α)
    (hend : ∀ ys : List β, ys.length = xs.length → Ev (fun k => g k ys xs.length) ys)
    (hstep : ∀ (ys : List β) (i : Nat) (h : i < xs.length), ys.length = xs.length → Ev (fun k => g k (ys.set i (F xs[i])) ((i + 1 : Nat) : Int)) (xs.map F) → Ev (fun k => g k ys i) (xs.map F))
    (ys : List β) (hl : ys.length = xs.length) : Ev (fun k => g k ys 0) (xs.map F) := by
  refine ev_loop (g := g) xs.length (fun _ _ => xs.map F) (fun i ys => ys.length = xs.length ∧ ys.take i = (xs.map F).take i) ?_ ?_ 0 (Nat.zero_le _) ys ⟨hl, rfl⟩
  · intro ys hs
    have e : ys = xs.map F := by
      have := hs.2
      rwa [List.take_of_length_le (by omega), List.take_of_length_le (by simp)] at this
    rw [← e]; exact hend ys hs.1
  · intro i ys hi hs ih
    refine hstep ys i hi hs.1 (ih _ ⟨by rw [List.length_set]; exact hs.1, ?_⟩)
    rw [List.take_succ_eq_append_getElem (by rw [List.length_set]; omega), List.take_succ_eq_append_getElem (by rw [List.length_map]; omega), List.take_set, hs.2, List.getElem_set_self, List.getElem_map]
    rw [List.set_eq_of_length_le (by simp; omega)]
theorem ite_eq {α : Type} {c : Prop} [Decidable c] {x y z : α} (h1 : c → x = z) (h2 : ¬ c → y = z) : (if c then x else y) = z := by
  by_cases h : c
  · rw [if_pos h]; exact h1 h
  · rw [if_neg h]; exact h2 h
theorem iteP {α : Type} {P : α → Prop} {c : Prop} [Decidable c] {x y : α} (h1 : c → P x) (h2 : ¬ c → P y) : P (if c then x else y) := by
  by_cases h : c
  · rw [if_pos h]; exact h1 h
  · rw [if_neg h]; exact h2 h
theorem l12_in (a lo hi : Int) : spec_l12In.f a lo hi = some (decide (lo ≤ a ∧ a ≤ hi)) := by
  unfold spec_l12In.f
  split <;> simp <;> omega
set_option maxHeartbeats 4000000 in
theorem bcl_spec (a : Int) : spec_BreakClass.f 8 a = some (bcl a) := by
  simp only [spec_BreakClass.f, spec_BreakClass.j0, spec_BreakClass.j1, spec_BreakClass.j2, spec_BreakClass.j3, spec_BreakClass.j4, spec_BreakClass.j5, spec_BreakClass.j6, l12_in, Option.bind_some, decide_eq_true_eq, beq_iff_eq, if_true]
  repeat' refine ite_eq (fun _ => ?_) (fun _ => ?_)
  all_goals first
    | (exfalso; omega)
    | (unfold bcl; refine congrArg some ?_; repeat (first | rw [if_pos (by omega)] | rw [if_neg (by omega)]))
theorem bcl_ev (a : Int) : Ev (fun k => spec_BreakClass.f k a) (bcl a) := Ev.of (fun k => spec_BreakClass.mono a k) (bcl_spec a)
/-! ### what the drawing makes of the bytes: a byte, a number below n -/
theorem and255 (x : Int) : 0 ≤ Go.bits .and .i64 x 255 ∧ Go.bits .and .i64 x 255 ≤ 255 := by
  have h : ∀ n : Nat, n ≤ 255 → 0 ≤ IntKind.i64.wrap (n : Int) ∧ IntKind.i64.wrap (n : Int) ≤ 255 := by
    intro n hn
    rw [IntKind.wrap_i64]
    omega
  unfold Go.bits
  exact h _ (by simp only [BitVec.toNat_and]; exact Nat.le_trans Nat.and_le_right (by decide))
theorem byte_ev (c : List Int) (hc : c.length ≤ 1048576) (p s : Int) (h0 : 0 ≤ p) (h1 : p ≤ 1048576) : ∃ v p' s', spec_l1Byte.f c p s = some (v, p', s') ∧ 0 ≤ v ∧ v ≤ 255 ∧ 0 ≤ p' ∧ p' ≤ 1048576 := by
  unfold spec_l1Byte.f
  by_cases g : p < (c.length : Int)
  · rw [if_pos g, if_pos h0]
    exact ⟨_, _, _, rfl, (and255 _).1, (and255 _).2, by rw [wrap_in (by omega) (by omega)]; omega, by rw [wrap_in (by omega) (by omega)]; omega⟩
  · rw [if_neg g]
    exact ⟨_, _, _, rfl, (and255 _).1, (and255 _).2, h0, h1⟩
theorem below_ev (c : List Int) (hc : c.length ≤ 1048576) (p s n : Int) (h0 : 0 ≤ p) (h1 : p ≤ 1048576) (hn : 0 < n) (hn2 : n ≤ 256) : ∃ v p' s', spec_l1Below.f c p s n = some (v, p', s') ∧ 0 ≤ v ∧ v < n ∧ 0 ≤ p' ∧ p' ≤ 1048576 := by
  obtain ⟨v, p', s', e, g0, g1, g2, g3⟩ := byte_ev c hc p s h0 h1
  unfold spec_l1Below.f
  rw [if_neg (by omega), if_pos hn2, e, Option.bind_some]
  dsimp only
  rw [if_neg (by omega)]
  exact ⟨_, _, _, rfl, Int.tmod_nonneg n g0, Int.tmod_lt_of_pos v hn, g2, g3⟩
theorem new_ev (c : List Int) (hc : c.length ≤ 1048576) : ∃ s, Ev (fun k => spec_l1New.f k c) (c, 0, s) := by
  have key : ∀ (d i : Nat) (s : Int), c.length - i = d → ∃ s', Ev (fun k => spec_l1New.l0 k c s i) (c, 0, s') := by
    intro d
    induction d with
    | zero =>
      intro i s hd
      exact ⟨s, Ev.step (fun k => spec_l1New.l0.eq_2 c s i k) (ev_neg (by omega) (ev_now rfl))⟩
    | succ d ih =>
      intro i s hd
      by_cases g : (i : Int) < 4000
      · obtain ⟨s', h⟩ := ih (i + 1) (Go.bits .and .i64 (wrap64 ((wrap64 ((wrap64 (s * 131)) + (wrap64 (rd c (i : Int))))) + 7)) 1073741823) (by omega)
        refine ⟨s', Ev.step (fun k => spec_l1New.l0.eq_2 c s i k) (ev_pos (by omega) (ev_pos g (ev_pos (by omega) ?_)))⟩
        rw [wrap_succ (by omega)]
        exact h
      · exact ⟨s, Ev.step (fun k => spec_l1New.l0.eq_2 c s i k) (ev_pos (by omega) (ev_neg g (ev_now rfl)))⟩
  obtain ⟨s, h⟩ := key c.length 0 _ rfl
  exact ⟨s, Ev.congr (fun k => spec_l1New.f.eq_1 k c) h⟩
def wh (c : Int) : Bool := (spec_l1White.f c).getD false
theorem white_spec (c : Int) : spec_l1White.f c = some (wh c) := by
  unfold wh spec_l1White.f
  split
  · rfl
  split
  · rfl
  split
  · rfl
  split <;> rfl
theorem white_impl (c : Int) : impl_isWhite.f c = some (wh c) := white_spec c
theorem pre_loop (s : ByteArray) (hs : s.size ≤ 1048576) (d : Nat) : ∀ (i : Nat) (acc : List Int), s.size - i = d → i ≤ s.size → acc.length ≤ i → ∃ r, Ev (fun k => spec_Collapse.l0 k s acc i) r ∧ Ev (fun k => impl_Collapse.l0 k s acc s.size i) r := by
  induction d with
  | zero =>
    intro i acc hd hi ha
    exact ⟨_, Ev.step (fun k => spec_Collapse.l0.eq_2 s acc i k) (ev_neg (by omega) (ev_now rfl)), Ev.step (fun k => impl_Collapse.l0.eq_2 s acc s.size i k) (ev_neg (by omega) (ev_now rfl))⟩
  | succ d ih =>
    intro i acc hd hi ha
    have w : wrap64 ((i : Int) + 1) = ((i + 1 : Nat) : Int) := by rw [wrap_in (by omega) (by omega)]; rfl
    obtain ⟨r1, a1, b1⟩ := ih (i + 1) (acc ++ [32]) (by omega) (by omega) (by simp; omega)
    obtain ⟨r2, a2, b2⟩ := ih (i + 1) (acc ++ [bt s i]) (by omega) (by omega) (by simp; omega)
    by_cases h9 : bt s i = 9
    · refine ⟨r1, Ev.step (fun k => spec_Collapse.l0.eq_2 s acc i k) (ev_pos (by omega) (ev_pos (by omega) (ev_pos h9 (ev_pos (by omega) ?_)))), Ev.step (fun k => impl_Collapse.l0.eq_2 s acc s.size i k) (ev_pos (by omega) (ev_pos (by omega) (ev_pos (by omega) (ev_pos h9 (ev_pos (by omega) ?_)))))⟩
      · rw [w]; exact a1
      · rw [w]; exact b1
    by_cases h12 : bt s i = 12
    · refine ⟨r1, Ev.step (fun k => spec_Collapse.l0.eq_2 s acc i k) (ev_pos (by omega) (ev_pos (by omega) (ev_neg h9 (ev_pos h12 (ev_pos (by omega) ?_))))), Ev.step (fun k => impl_Collapse.l0.eq_2 s acc s.size i k) (ev_pos (by omega) (ev_pos (by omega) (ev_pos (by omega) (ev_neg h9 (ev_pos h12 (ev_pos (by omega) ?_))))))⟩
      · rw [w]; exact a1
      · rw [w]; exact b1
    by_cases h13 : bt s i = 13
    · refine ⟨r1, Ev.step (fun k => spec_Collapse.l0.eq_2 s acc i k) (ev_pos (by omega) (ev_pos (by omega) (ev_neg h9 (ev_neg h12 (ev_pos h13 (ev_pos (by omega) ?_)))))), Ev.step (fun k => impl_Collapse.l0.eq_2 s acc s.size i k) (ev_pos (by omega) (ev_pos (by omega) (ev_pos (by omega) (ev_neg h9 (ev_neg h12 (ev_pos h13 (ev_pos (by omega) ?_)))))))⟩
      · rw [w]; exact a1
      · rw [w]; exact b1
    · refine ⟨r2, Ev.step (fun k => spec_Collapse.l0.eq_2 s acc i k) (ev_pos (by omega) (ev_pos (by omega) (ev_neg h9 (ev_neg h12 (ev_neg h13 (ev_pos (by omega) ?_)))))), Ev.step (fun k => impl_Collapse.l0.eq_2 s acc s.size i k) (ev_pos (by omega) (ev_pos (by omega) (ev_pos (by omega) (ev_neg h9 (ev_neg h12 (ev_neg h13 (ev_pos (by omega) ?_)))))))⟩
      · rw [w]; exact a2
      · rw [w]; exact b2
theorem one_loop (s : ByteArray) (hs : s.size ≤ 1048576) (hp : 0 < s.size) (d : Nat) : ∀ (i : Nat) (b : Bool) (acc : List Int), s.size - i = d → i ≤ s.size → acc.length ≤ i → (0 < i → b = wh (bt s ((i : Int) - 1))) → ∃ r, Ev (fun k => spec_Collapse.l1 k s b acc i) r ∧ Ev (fun k => impl_Collapse.l1 k s b acc s.size i) r := by
  induction d with
  | zero =>
    intro i b acc hd hi ha hb
    have e : (i : Int) = s.size := by omega
    have hb' := hb (by omega)
    refine ⟨_, Ev.step (fun k => spec_Collapse.l1.eq_2 s b acc i k) (ev_neg (by omega) ?_), Ev.step (fun k => impl_Collapse.l1.eq_2 s b acc s.size i k) (ev_neg (by omega) (ev_now rfl))⟩
    rw [wrap_in (by omega) (by omega)]
    refine ev_pos (by omega) (ev_pos (by omega) (ev_bc (white_spec _) (ev_now ?_)))
    rw [hb', e]
  | succ d ih =>
    intro i b acc hd hi ha hb
    have w : wrap64 ((i : Int) + 1) = ((i + 1 : Nat) : Int) := by rw [wrap_in (by omega) (by omega)]; rfl
    have back : ((i + 1 : Nat) : Int) - 1 = i := by omega
    by_cases hw : wh (bt s i) = true
    · by_cases hbb : b = true
      · obtain ⟨r, a1, b1⟩ := ih (i + 1) true acc (by omega) (by omega) (by omega) (fun _ => by rw [back, hw])
        subst hbb
        refine ⟨r, Ev.step (fun k => spec_Collapse.l1.eq_2 s true acc i k) (ev_pos (by omega) (ev_pos (by omega) (ev_bc (white_spec _) (ev_pos hw (ev_pos rfl ?_))))), Ev.step (fun k => impl_Collapse.l1.eq_2 s true acc s.size i k) (ev_pos (by omega) (ev_pos (by omega) (ev_pos (by omega) (ev_bc (white_impl _) (ev_pos hw (ev_pos rfl ?_))))))⟩
        · rw [w]; exact a1
        · rw [w]; exact b1
      · obtain ⟨r, a1, b1⟩ := ih (i + 1) true (acc ++ [32]) (by omega) (by omega) (by simp; omega) (fun _ => by rw [back, hw])
        refine ⟨r, Ev.step (fun k => spec_Collapse.l1.eq_2 s b acc i k) (ev_pos (by omega) (ev_pos (by omega) (ev_bc (white_spec _) (ev_pos hw (ev_neg hbb (ev_pos (by omega) ?_)))))), Ev.step (fun k => impl_Collapse.l1.eq_2 s b acc s.size i k) (ev_pos (by omega) (ev_pos (by omega) (ev_pos (by omega) (ev_bc (white_impl _) (ev_pos hw (ev_neg hbb (ev_pos (by omega) ?_)))))))⟩
        · rw [w]; exact a1
        · rw [w]; exact b1
    · obtain ⟨r, a1, b1⟩ := ih (i + 1) false (acc ++ [bt s i]) (by omega) (by omega) (by simp; omega) (fun _ => by rw [back]; exact (Bool.eq_false_iff.mpr hw).symm)
      refine ⟨r, Ev.step (fun k => spec_Collapse.l1.eq_2 s b acc i k) (ev_pos (by omega) (ev_pos (by omega) (ev_bc (white_spec _) (ev_neg hw (ev_pos (by omega) ?_))))), Ev.step (fun k => impl_Collapse.l1.eq_2 s b acc s.size i k) (ev_pos (by omega) (ev_pos (by omega) (ev_pos (by omega) (ev_bc (white_impl _) (ev_neg hw (ev_pos (by omega) ?_))))))⟩
      · rw [w]; exact a1
      · rw [w]; exact b1
theorem j_loop (s : ByteArray) (hs : s.size ≤ 1048576) (hp : 0 < s.size) (b t : Bool) : ∃ r, Ev (fun k => spec_Collapse.j0 k s b [] t) r ∧ Ev (fun k => impl_Collapse.j0 k s b [] t) r := by
  cases t with
  | true =>
    obtain ⟨r, h1, h2⟩ := pre_loop s hs s.size 0 [] (by omega) (by omega) (by simp)
    exact ⟨r, Ev.step (fun k => spec_Collapse.j0.eq_2 s b [] true k) (ev_pos rfl h1), Ev.step (fun k => impl_Collapse.j0.eq_2 s b [] true k) (ev_pos rfl h2)⟩
  | false =>
    obtain ⟨r, h1, h2⟩ := one_loop s hs hp s.size 0 b [] (by omega) (by omega) (by simp) (fun h => by omega)
    exact ⟨r, Ev.step (fun k => spec_Collapse.j0.eq_2 s b [] false k) (ev_neg (by simp) h1), Ev.step (fun k => impl_Collapse.j0.eq_2 s b [] false k) (ev_neg (by simp) h2)⟩
theorem toList_size (s : ByteArray) : s.toList.length = s.size := by
  rw [ByteArray.toList_eq]; simp
theorem both (s : ByteArray) (hs : s.size ≤ 1048576) (m : Int) (b : Bool) : ∃ r, Ev (fun k => spec_Collapse.f k s m b) r ∧ Ev (fun k => impl_Collapse.f k s m b) r := by
  by_cases h : s.toList = []
  · exact ⟨_, Ev.congr (fun k => spec_Collapse.f.eq_1 k s m b) (ev_bs (ev_pos h (ev_now rfl))), Ev.congr (fun k => impl_Collapse.f.eq_1 k s m b) (ev_pos h (ev_now rfl))⟩
  have hp : 0 < s.size := by
    rw [← toList_size]; exact List.length_pos_iff.mpr h
  by_cases h2 : m = 2
  · obtain ⟨r, a, c⟩ := j_loop s hs hp b true
    exact ⟨r, Ev.congr (fun k => spec_Collapse.f.eq_1 k s m b) (ev_bs (ev_neg h (ev_pos h2 a))), Ev.congr (fun k => impl_Collapse.f.eq_1 k s m b) (ev_neg h (ev_bs (ev_pos h2 c)))⟩
  · obtain ⟨r, a, c⟩ := j_loop s hs hp b (m == 3)
    exact ⟨r, Ev.congr (fun k => spec_Collapse.f.eq_1 k s m b) (ev_bs (ev_neg h (ev_neg h2 a))), Ev.congr (fun k => impl_Collapse.f.eq_1 k s m b) (ev_neg h (ev_bs (ev_neg h2 c)))⟩
/-! ### the breaks -/
theorem pair_all : ∀ a b : Fin 13, spec_l13Pair.f 8 (a.val : Int) (b.val : Int) = some (rul a.val b.val) := by decide +kernel
theorem pair_ev (a b : Nat) (ha : a < 13) (hb : b < 13) : Ev (fun k => spec_l13Pair.f k (a : Int) (b : Int)) (rul a b) := Ev.of (fun k => spec_l13Pair.mono a b k) (pair_all ⟨a, ha⟩ ⟨b, hb⟩)
theorem bn_ev (x : Int) : Ev (fun k => spec_BreakClass.f k x) (bn x : Int) := by rw [(bn_bcl x).1]; exact bcl_ev x
theorem brk_length (xs : List Int) : ∀ a, (brk a xs).length = xs.length := by
  induction xs with
  | nil => intro a; rfl
  | cons x xs ih => intro a; rw [brk, List.length_cons, ih, List.length_cons]
theorem brk_spec (xs : List Int) (hn : xs.length ≤ 1048576) : Ev (fun k => spec_Breaks.f k xs) (brk 0 xs) := by
  refine Ev.congr (fun k => spec_Breaks.f.eq_1 k xs) ?_
  refine ev_loop (σ := List Int × Int) (g := fun k s i => spec_Breaks.l0 k xs s.1 s.2 i) xs.length (fun _ _ => brk 0 xs) (fun i s => ∃ a : Nat, s.2 = a ∧ a < 13 ∧ s.1.length = i ∧ s.1 ++ brk a (xs.drop i) = brk 0 xs) ?_ ?_ 0 (Nat.zero_le _) ([], 0) ⟨0, rfl, by omega, rfl, rfl⟩
  · rintro ⟨ys, z⟩ ⟨a, _, _, _, h⟩
    refine Ev.step (fun k => spec_Breaks.l0.eq_2 xs ys z _ k) (ev_neg (by omega) (ev_now ?_))
    rwa [List.drop_of_length_le (Nat.le_refl _), brk, List.append_nil] at h
  · rintro i ⟨ys, z⟩ hi ⟨a, hz, ha, hl, h⟩ ih
    have hz : z = (a : Int) := hz
    have hl : ys.length = i := hl
    have h : ys ++ brk a (xs.drop i) = brk 0 xs := h
    subst hz
    rw [List.drop_eq_getElem_cons hi, brk] at h
    have hb := bn_bcl xs[i]
    refine Ev.step (fun k => spec_Breaks.l0.eq_2 xs ys a i k) (ev_pos (by omega) (ev_pos (by omega) ?_))
    rw [rd_nat xs i hi]
    refine Ev.bind (bn_ev xs[i]) ?_
    obtain ⟨a', ha'⟩ : ∃ a', a' = if bn xs[i] = 5 then a else bn xs[i] := ⟨_, rfl⟩
    rw [← ha'] at h
    have h13 : a' < 13 := by rw [ha']; split <;> omega
    have key : Ev (fun k => spec_Breaks.j1 k xs ys (a' : Int) i (bn xs[i] : Int)) (brk 0 xs) := by
      refine Ev.step (fun k => spec_Breaks.j1.eq_2 xs ys a' i (bn xs[i] : Int) k) ?_
      rw [wrap_succ (i := i) (by omega)]
      by_cases e : i + 1 < xs.length
      · refine ev_pos (by omega) (ev_pos (by omega) ?_)
        rw [rd_nat xs (i + 1) e]
        refine Ev.bind (bn_ev xs[i + 1]) (Ev.bind (pair_ev a' _ h13 (bn_bcl xs[i + 1]).2) (ev_pos (by omega) ?_))
        refine ih (ys ++ [rul a' (bn xs[i + 1])], a') ⟨a', rfl, h13, by simp [hl], ?_⟩
        rw [List.append_assoc, ← h]
        congr 1
        rw [List.drop_eq_getElem_cons e, nextB]; rfl
      · have hd : xs.drop (i + 1) = [] := List.drop_of_length_le (by omega)
        rw [hd, nextB] at h
        refine ev_neg (by omega) ?_
        have fin : ∀ v : Int, v = (if bn xs[i] = 1 then 2 else 1) → Ev (fun k => spec_Breaks.l0 k xs (ys ++ [v]) (a' : Int) ((i + 1 : Nat) : Int)) (brk 0 xs) := fun v hv =>
          ih (ys ++ [v], a') ⟨a', rfl, h13, by simp [hl], by rw [hd, List.append_assoc, ← h, hv]; rfl⟩
        by_cases b1 : bn xs[i] = 1
        · have a1 : a' = 1 := by rw [ha', if_neg (by omega), b1]
          exact ev_pos (by omega) (ev_pos (by omega) (ev_pos (by omega) (fin 2 (by rw [if_pos b1]))))
        · have last : Ev (fun k => if ys.length < 17592186044416 then spec_Breaks.l0 k xs (ys ++ [1]) (a' : Int) ((i + 1 : Nat) : Int) else none) (brk 0 xs) := ev_pos (by omega) (fin 1 (by rw [if_neg b1]))
          exact ev_ite (fun _ => ev_neg (by omega) last) (fun _ => last)
    by_cases b5 : bn xs[i] = 5
    · rw [if_pos b5] at ha'
      subst ha'
      exact ev_pos (by omega) key
    · rw [if_neg b5] at ha'
      subst ha'
      exact ev_neg (by omega) key
theorem same_ev (xs : List Int) (hn : xs.length ≤ 1048576) : Ev (fun k => laws_sameInts.f k xs xs) true := by
  refine Ev.congr (fun k => laws_sameInts.f.eq_1 k xs xs) (ev_pos rfl ?_)
  refine ev_count (g := fun k i => laws_sameInts.l0 k xs xs i) xs.length (fun _ => true) (Ev.step (fun k => laws_sameInts.l0.eq_2 xs xs _ k) (ev_neg (by omega) (ev_now rfl))) ?_ 0 (Nat.zero_le _)
  intro i h ih
  refine Ev.step (fun k => laws_sameInts.l0.eq_2 xs xs i k) (ev_pos (by omega) (ev_pos (by omega) (ev_pos (by omega) (ev_pos rfl ?_))))
  rw [wrap_succ (by omega)]
  exact ih
theorem size_ev (c : List Int) (hc : c.length ≤ 1048576) (m : Int) (hm : 3 ≤ m ∧ m ≤ 1000) : ∃ n : Nat, spec_l1Size.f c m = some (n : Int) ∧ n ≤ 1000 := by
  unfold spec_l1Size.f
  rw [wrap_in (i := (c.length : Int) / 20) (by omega) (by omega), wrap_in (by omega) (by omega)]
  split
  · exact ⟨m.toNat, by rw [Int.toNat_of_nonneg (by omega)], by omega⟩
  · exact ⟨(3 + (c.length : Int) / 20).toNat, by rw [Int.toNat_of_nonneg (by omega)], by omega⟩
theorem drawn_ev (c : List Int) (hc : c.length ≤ 1048576) : ∃ xs, Ev (fun k => spec_DrawBreaks.f k c) xs ∧ xs.length ≤ 2000 := by
  obtain ⟨s0, k0⟩ := new_ev c hc
  obtain ⟨n, hn, hl⟩ := size_ev c hc 60 (by omega)
  have loop : ∀ (n : Nat) (xs : List Int) (p s : Int), xs.length + n ≤ 2000 → 0 ≤ p → p ≤ 1048576 → ∃ ys, Ev (fun k => spec_DrawBreaks.l0 k xs n c p s) ys ∧ ys.length ≤ 2000 := by
    intro n
    induction n with
    | zero =>
      intro xs p s h _ _
      exact ⟨xs, Ev.step (fun k => spec_DrawBreaks.l0.eq_2 xs _ c p s k) (ev_neg (by omega) (ev_now rfl)), by omega⟩
    | succ n ih =>
      intro xs p s h h0 h1
      obtain ⟨v, p1, s1, e1, v0, v1, a1, b1⟩ := below_ev c hc p s 17 h0 h1 (by omega) (by omega)
      obtain ⟨ys, k, r⟩ := ih (xs ++ [rd [10, 32, 8203, 160, 769, 45, 40, 41, 46, 34, 19968, 49, 97, 98, 32, 12354, 173] v]) p1 s1 (by rw [List.length_append]; simp only [List.length_cons, List.length_nil]; omega) a1 b1
      refine ⟨ys, Ev.step (fun k => spec_DrawBreaks.l0.eq_2 xs _ c p s k) (ev_pos (by omega) (ev_bs (ev_bc e1 (ev_pos v0 (ev_pos (by simp only [List.length_cons, List.length_nil]; omega) (ev_pos (by omega) ?_)))))), r⟩
      have hw : wrap64 (((n + 1 : Nat) : Int) - 1) = (n : Int) := by rw [wrap_in (by omega) (by omega)]; omega
      rw [hw]
      exact k
  obtain ⟨xs, k, r⟩ := loop n [] 0 s0 (by simp only [List.length_nil]; omega) (by omega) (by omega)
  exact ⟨xs, Ev.congr (fun k => spec_DrawBreaks.f.eq_1 k c) (Ev.bind k0 (ev_bc hn k)), r⟩
theorem must_all : ∀ a b : Fin 13, (rul a.val b.val = 2 → a.val = 1) ∧ (a.val ≠ 1 → rul a.val (2 : Nat) = 0) := by decide +kernel
theorem one_iff (x : Int) : bn x = 1 ↔ x = 10 := by
  have h := (bn_bcl x).1
  constructor
  · intro e
    rw [e] at h
    unfold bcl at h
    by_cases c : x = 10
    · exact c
    · exfalso
      rw [if_neg c] at h
      repeat (first | (split at h) | omega)
  · rintro rfl
    decide
theorem two_of (x : Int) (h : x = 32) : bn x = 2 := by subst h; decide
theorem brk_get (xs : List Int) (a i : Nat) (h : i < xs.length) : True := trivial
/-- The law's looks at the breaks. -/
theorem law_ev (c xs : List Int) (hn : xs.length ≤ 2000) (hd : ∀ f : Bool, Ev (fun k => laws_FnBreaks.l0 k c xs (brk 0 xs) f xs.length) true) : Ev (fun k => laws_FnBreaks.l0 k c xs (brk 0 xs) false 0) true := by
  refine ev_loop (g := fun k s i => laws_FnBreaks.l0 k c xs (brk 0 xs) s i) xs.length (fun _ _ => true) (fun i s => ∃ a : Nat, s = decide (a = 1) ∧ a < 13 ∧ (brk 0 xs).drop i = brk a (xs.drop i)) ?_ ?_ 0 (Nat.zero_le _) false ⟨0, rfl, by omega, rfl⟩
  · intro s _
    exact hd s
  · rintro i s hi ⟨a, hs, ha, h⟩ ih
    have hbl := brk_length xs 0
    rw [List.drop_eq_getElem_cons (l := brk 0 xs) (by omega), List.drop_eq_getElem_cons hi, brk] at h
    have hb := bn_bcl xs[i]
    obtain ⟨a', ha'⟩ : ∃ a', a' = if bn xs[i] = 5 then a else bn xs[i] := ⟨_, rfl⟩
    rw [← ha'] at h
    have h13 : a' < 13 := by rw [ha']; split <;> omega
    obtain ⟨hg, hr⟩ := List.cons.inj h
    refine Ev.step (fun k => laws_FnBreaks.l0.eq_2 c xs (brk 0 xs) s i k) (ev_pos (by omega) (ev_pos (by omega) ?_))
    rw [rd_nat xs i hi]
    refine Ev.bind (bn_ev xs[i]) ?_
    have key : Ev (fun k => laws_FnBreaks.j2 k c xs (brk 0 xs) (decide (a' = 1)) i) true := by
      have ih' := ih (decide (a' = 1)) ⟨a', rfl, h13, hr⟩
      refine Ev.step (fun k => laws_FnBreaks.j2.eq_2 c xs (brk 0 xs) _ i k) (ev_pos (by omega) (ev_pos (by omega) ?_))
      rw [rd_nat (brk 0 xs) i (by omega), hg]
      have j3 : Ev (fun k => laws_FnBreaks.j3 k c xs (brk 0 xs) (decide (a' = 1)) i false) true := by
        refine Ev.step (fun k => laws_FnBreaks.j3.eq_2 c xs (brk 0 xs) _ i false k) (ev_neg (by simp) ?_)
        rw [wrap_succ (i := i) (by omega)]
        refine ev_ite (fun e => ev_pos (by omega) ?_) (fun _ => ih')
        have e' : i + 1 < xs.length := by omega
        rw [rd_nat xs (i + 1) e']
        refine ev_ite (fun e32 => ev_ite (fun _ => ih') (fun e1 => ev_pos (by omega) (ev_pos (by omega) ?_))) (fun _ => ih')
        rw [rd_nat (brk 0 xs) i (by omega), hg, List.drop_eq_getElem_cons e', nextB, two_of _ e32]
        refine ev_pos ?_ ih'
        exact (must_all ⟨a', h13⟩ ⟨0, by omega⟩).2 (by simpa using e1)
      by_cases g2 : nextB a' xs[i] (xs.drop (i + 1)) = 2
      · refine ev_pos g2 ?_
        have a1 : a' = 1 := by
          by_cases e' : i + 1 < xs.length
          · rw [List.drop_eq_getElem_cons e', nextB] at g2
            exact (must_all ⟨a', h13⟩ ⟨bn xs[i + 1], (bn_bcl _).2⟩).1 g2
          · rw [List.drop_of_length_le (by omega), nextB] at g2
            by_cases b1 : bn xs[i] = 1
            · rw [ha', if_neg (by omega), b1]
            · rw [if_neg b1] at g2; exact absurd g2 (by decide)
        have e : (!decide (a' = 1)) = false := by simp [a1]
        rw [e]
        exact j3
      · exact ev_neg g2 j3
    by_cases b5 : bn xs[i] = 5
    · rw [if_pos b5] at ha'
      subst ha'
      rw [hs]
      exact ev_pos (by omega) key
    · rw [if_neg b5] at ha'
      refine ev_neg (by omega) ?_
      have hi2 : xs[i] = rd xs i := (rd_nat xs i hi).symm
      have e : (xs[i] == 10) = decide (a' = 1) := by
        rw [ha']
        have := one_iff xs[i]
        by_cases z : xs[i] = 10
        · rw [this.mpr z, z]; rfl
        · rw [decide_eq_false (fun q => z (this.mp q))]; exact beq_eq_false_iff_ne.mpr z
      rw [e]
      exact key
/-! ### white that is collapsed -/
def prew (c : Int) : Int := if c = 9 ∨ c = 12 ∨ c = 13 then 32 else c
def onew : Bool → List Int → List Int
  | _, [] => []
  | b, c :: cs => if wh c = true then (if b = true then onew true cs else 32 :: onew true cs) else c :: onew false cs
def endw : Bool → List Int → Bool
  | b, [] => b
  | _, c :: cs => endw (wh c) cs
theorem bt_bytes (s : ByteArray) (i : Nat) (h : i < s.size) : bt s i = (bytesOf s)[i]'(by rw [bytesOf_length]; exact h) := by
  rw [← rd_bytesOf, rd_nat _ _ (by rw [bytesOf_length]; exact h)]
theorem pre_ev (s : ByteArray) (hs : s.size ≤ 1048576) : Ev (fun k => impl_Collapse.l0 k s [] s.size 0) (strOfNums ((bytesOf s).map prew), false) := by
  refine ev_loop (g := fun k a i => impl_Collapse.l0 k s a s.size i) s.size (fun _ _ => (strOfNums ((bytesOf s).map prew), false)) (fun i a => a = ((bytesOf s).map prew).take i) ?_ ?_ 0 (Nat.zero_le _) [] rfl
  · intro a h
    rw [List.take_of_length_le (by simp [bytesOf_length])] at h
    exact Ev.step (fun k => impl_Collapse.l0.eq_2 s a s.size _ k) (ev_neg (by omega) (ev_now (by rw [h])))
  · intro i a hi h ih
    have hl : a.length ≤ i := by rw [h, List.length_take]; omega
    have hb : i < (bytesOf s).length := by rw [bytesOf_length]; exact hi
    have nx : ∀ v, v = prew (bt s i) → Ev (fun k => impl_Collapse.l0 k s (a ++ [v]) s.size ((i + 1 : Nat) : Int)) (strOfNums ((bytesOf s).map prew), false) := fun v hv => by
      refine ih _ ?_
      rw [List.take_succ_eq_append_getElem (by rw [List.length_map]; exact hb), ← h, List.getElem_map, hv, bt_bytes s i hi]
    refine Ev.step (fun k => impl_Collapse.l0.eq_2 s a s.size i k) (ev_pos (by omega) (ev_pos (by omega) (ev_pos (by omega) ?_)))
    rw [wrap_succ (i := i) (by omega)]
    refine ev_ite (fun c => ev_pos (by omega) (nx _ (by rw [prew, if_pos (by omega)]))) (fun c => ?_)
    refine ev_ite (fun c => ev_pos (by omega) (nx _ (by rw [prew, if_pos (by omega)]))) (fun c => ?_)
    refine ev_ite (fun c => ev_pos (by omega) (nx _ (by rw [prew, if_pos (by omega)]))) (fun c => ?_)
    exact ev_pos (by omega) (nx _ (by rw [prew, if_neg (by omega)]))
theorem one_ev (s : ByteArray) (hs : s.size ≤ 1048576) (b : Bool) : Ev (fun k => impl_Collapse.l1 k s b [] s.size 0) (strOfNums (onew b (bytesOf s)), endw b (bytesOf s)) := by
  refine ev_loop (σ := List Int × Bool) (g := fun k a i => impl_Collapse.l1 k s a.2 a.1 s.size i) s.size (fun _ _ => (strOfNums (onew b (bytesOf s)), endw b (bytesOf s))) (fun i a => a.1.length ≤ i ∧ a.1 ++ onew a.2 ((bytesOf s).drop i) = onew b (bytesOf s) ∧ endw a.2 ((bytesOf s).drop i) = endw b (bytesOf s)) ?_ ?_ 0 (Nat.zero_le _) ([], b) ⟨Nat.le_refl _, rfl, rfl⟩
  · rintro ⟨a, f⟩ ⟨_, h1, h2⟩
    rw [List.drop_of_length_le (by rw [bytesOf_length]; exact Nat.le_refl _)] at h1 h2
    refine Ev.step (fun k => impl_Collapse.l1.eq_2 s f a s.size _ k) (ev_neg (by omega) (ev_now ?_))
    rw [← h1, ← h2]; simp [onew, endw]
  · rintro i ⟨a, f⟩ hi ⟨h0, h1, h2⟩ ih
    have h0 : a.length ≤ i := h0
    have hb : i < (bytesOf s).length := by rw [bytesOf_length]; exact hi
    have h1 : a ++ onew f ((bytesOf s).drop i) = onew b (bytesOf s) := h1
    have h2 : endw f ((bytesOf s).drop i) = endw b (bytesOf s) := h2
    rw [List.drop_eq_getElem_cons hb, onew] at h1
    rw [List.drop_eq_getElem_cons hb, endw] at h2
    refine Ev.step (fun k => impl_Collapse.l1.eq_2 s f a s.size i k) (ev_pos (by omega) (ev_pos (by omega) (ev_pos (by omega) (ev_bc (white_impl _) ?_))))
    rw [wrap_succ (i := i) (by omega), bt_bytes s i hi]
    refine ev_ite (fun c => ?_) (fun c => ?_)
    · rw [if_pos c] at h1
      rw [c] at h2
      refine ev_ite (fun d => ?_) (fun d => ev_pos (by omega) ?_)
      · rw [if_pos d] at h1
        exact ih (a, true) ⟨by show a.length ≤ _; omega, h1, h2⟩
      · rw [if_neg d] at h1
        exact ih (a ++ [32], true) ⟨by simp; omega, by rw [List.append_assoc]; exact h1, h2⟩
    · rw [if_neg c] at h1
      rw [Bool.eq_false_iff.mpr c] at h2
      exact ev_pos (by omega) (ih (a ++ [(bytesOf s)[i]], false) ⟨by simp; omega, by rw [List.append_assoc]; exact h1, h2⟩)
theorem empty_iff (s : ByteArray) : s.toList = [] ↔ bytesOf s = [] := by
  rw [← List.length_eq_zero_iff, ← List.length_eq_zero_iff, toList_size, bytesOf_length]
def col (s : ByteArray) (m : Int) (b : Bool) : ByteArray × Bool :=
  if bytesOf s = [] then (⟨#[]⟩, b) else if m = 2 ∨ m = 3 then (strOfNums ((bytesOf s).map prew), false) else (strOfNums (onew b (bytesOf s)), endw b (bytesOf s))
theorem col_ev (s : ByteArray) (hs : s.size ≤ 1048576) (m : Int) (b : Bool) : Ev (fun k => impl_Collapse.f k s m b) (col s m b) := by
  unfold col
  refine Ev.congr (fun k => impl_Collapse.f.eq_1 k s m b) (ev_ite (fun h => ?_) (fun h => ?_))
  · rw [if_pos ((empty_iff s).mp h)]; exact ev_now rfl
  · rw [if_neg (fun z => h ((empty_iff s).mpr z))]
    refine ev_bs (ev_ite (fun h2 => ?_) (fun h2 => ?_))
    · rw [if_pos (by omega)]
      exact Ev.step (fun k => impl_Collapse.j0.eq_2 s b [] true k) (ev_pos rfl (pre_ev s hs))
    · by_cases h3 : m = 3
      · rw [if_pos (by omega), h3]
        exact Ev.step (fun k => impl_Collapse.j0.eq_2 s b [] _ k) (ev_pos rfl (pre_ev s hs))
      · rw [if_neg (by omega), beq_eq_false_iff_ne.mpr h3]
        exact Ev.step (fun k => impl_Collapse.j0.eq_2 s b [] _ k) (ev_neg (by simp) (one_ev s hs b))
theorem ev_same {α : Type} {g : Nat → Option α} {a b : α} (h : Ev g a) (k : Ev g b) : a = b := by
  obtain ⟨n, hn⟩ := h
  obtain ⟨m, hm⟩ := k
  have h1 := hn (max n m) (Nat.le_max_left _ _)
  have h2 := hm (max n m) (Nat.le_max_right _ _)
  exact Option.some.inj (h1.symm.trans h2)
theorem bytes_range (s : ByteArray) : ∀ x ∈ bytesOf s, 0 ≤ x ∧ x ≤ 255 := by
  intro x hx
  simp only [bytesOf, List.mem_map] at hx
  obtain ⟨u, _, rfl⟩ := hx
  have := u.toNat_lt
  omega
theorem bytes_str (xs : List Int) (h : ∀ x ∈ xs, 0 ≤ x ∧ x ≤ 255) : bytesOf (strOfNums xs) = xs := by
  simp only [bytesOf, strOfNums_data, List.map_map]
  conv => rhs; rw [← List.map_id xs]
  refine List.map_congr_left fun x hx => ?_
  have := h x hx
  simp only [Function.comp, UInt8.toNat_ofNat', id]
  omega
theorem str_bytes (s : ByteArray) : strOfNums (bytesOf s) = s := by
  apply ByteArray.ext
  rw [← Array.toList_inj, strOfNums_data, bytesOf, List.map_map]
  conv => rhs; rw [← List.map_id s.data.toList]
  refine List.map_congr_left fun x _ => ?_
  simp
theorem prew_prew (c : Int) : prew (prew c) = prew c := by
  by_cases h : c = 9 ∨ c = 12 ∨ c = 13
  · have e : prew c = 32 := by unfold prew; rw [if_pos h]
    rw [e]; decide
  · have e : prew c = c := by unfold prew; rw [if_neg h]
    rw [e, e]
theorem wh_32 : wh 32 = true := by decide
theorem onew_onew (xs : List Int) : ∀ b, onew b (onew b xs) = onew b xs := by
  induction xs with
  | nil => intro b; rfl
  | cons c cs ih =>
    intro b
    rw [onew]
    by_cases h : wh c = true
    · rw [if_pos h]
      cases b with
      | true => rw [if_pos rfl]; exact ih true
      | false => rw [if_neg (by simp), onew, if_pos wh_32, if_neg (by simp), ih]
    · rw [if_neg h, onew, if_neg h, ih]
theorem onew_range (xs : List Int) (h : ∀ x ∈ xs, 0 ≤ x ∧ x ≤ 255) : ∀ b, ∀ x ∈ onew b xs, 0 ≤ x ∧ x ≤ 255 := by
  induction xs with
  | nil => intro b x hx; cases hx
  | cons c cs ih =>
    have ih := ih (fun x hx => h x (List.mem_cons_of_mem _ hx))
    intro b x hx
    rw [onew] at hx
    split at hx
    · split at hx
      · exact ih _ x hx
      · rcases List.mem_cons.mp hx with rfl | hx
        · omega
        · exact ih _ x hx
    · rcases List.mem_cons.mp hx with rfl | hx
      · exact h x List.mem_cons_self
      · exact ih _ x hx
theorem col_idem (s : ByteArray) (m : Int) (b : Bool) : (col (col s m b).1 m b).1 = (col s m b).1 := by
  by_cases h : bytesOf s = []
  · have e : (col s m b).1 = ⟨#[]⟩ := by unfold col; rw [if_pos h]
    rw [e]; unfold col; rw [if_pos (show bytesOf ⟨#[]⟩ = [] from rfl)]
  by_cases h2 : m = 2 ∨ m = 3
  · have e : (col s m b).1 = strOfNums ((bytesOf s).map prew) := by unfold col; rw [if_neg h, if_pos h2]
    have r : ∀ x ∈ (bytesOf s).map prew, 0 ≤ x ∧ x ≤ 255 := by
      intro x hx
      obtain ⟨y, hy, rfl⟩ := List.mem_map.mp hx
      have := bytes_range s y hy
      unfold prew; split <;> omega
    rw [e]
    unfold col
    rw [bytes_str _ r, if_neg (by rw [List.map_eq_nil_iff]; exact h), if_pos h2, List.map_map]
    exact congrArg strOfNums (List.map_congr_left fun x _ => prew_prew x)
  · have e : (col s m b).1 = strOfNums (onew b (bytesOf s)) := by unfold col; rw [if_neg h, if_neg h2]
    rw [e]
    unfold col
    rw [bytes_str _ (onew_range _ (bytes_range s) b), if_neg h2]
    by_cases z : onew b (bytesOf s) = []
    · rw [if_pos z, z]; rfl
    · rw [if_neg z, onew_onew]
theorem draw_white (c : List Int) (hc : c.length ≤ 1048576) : ∃ s m b, Ev (fun k => spec_DrawCollapse.f k c) (s, m, b) ∧ s.size ≤ 1048576 := by
  obtain ⟨s0, k0⟩ := new_ev c hc
  obtain ⟨v, p1, s1, e1, v0, v1, a1, b1⟩ := below_ev c hc 0 s0 20 (by omega) (by omega) (by omega) (by omega)
  obtain ⟨n, rfl⟩ := Int.eq_ofNat_of_zero_le v0
  have loop : ∀ (n : Nat) (t : ByteArray) (p s : Int), t.size + 3 * n ≤ 1000 → 0 ≤ p → p ≤ 1048576 → ∃ u m b, Ev (fun k => spec_DrawCollapse.l0 k t n c p s) (u, m, b) ∧ u.size ≤ 1000 := by
    intro n
    induction n with
    | zero =>
      intro t p s h h0 h1
      obtain ⟨v, p1, s1, e1, _, _, a1, b1⟩ := below_ev c hc p s 6 h0 h1 (by omega) (by omega)
      obtain ⟨v2, p2, s2, e2, _, _, a2, b2⟩ := below_ev c hc p1 s1 2 a1 b1 (by omega) (by omega)
      exact ⟨t, _, _, Ev.step (fun k => spec_DrawCollapse.l0.eq_2 t _ c p s k) (ev_neg (by omega) (ev_bc e1 (ev_bc e2 (ev_now rfl)))), by omega⟩
    | succ n ih =>
      intro t p s h h0 h1
      obtain ⟨v, p1, s1, e1, v0, v1, a1, b1⟩ := below_ev c hc p s 9 h0 h1 (by omega) (by omega)
      let L : List ByteArray := [⟨#[32]⟩, ⟨#[10]⟩, ⟨#[9]⟩, ⟨#[97]⟩, ⟨#[98, 32, 99]⟩, ⟨#[13]⟩, ⟨#[12]⟩, ⟨#[32, 32]⟩, ⟨#[195, 169]⟩]
      have pick : spec_l1Pick.f c p s L = some (rdOf ByteArray.empty L v, p1, s1) := by
        unfold spec_l1Pick.f
        rw [show ((L.length : Nat) : Int) = 9 from rfl, e1, Option.bind_some]
        dsimp only
        rw [if_pos v0, if_pos v1]
      have small : (rdOf ByteArray.empty L v).size ≤ 3 := by
        obtain ⟨j, rfl⟩ := Int.eq_ofNat_of_zero_le v0
        have hj : j < 9 := by omega
        have : ∀ j : Fin 9, (rdOf ByteArray.empty L (j.val : Int)).size ≤ 3 := by decide
        exact this ⟨j, hj⟩
      have hw : wrap64 (((n + 1 : Nat) : Int) - 1) = (n : Int) := by rw [wrap_in (by omega) (by omega)]; omega
      obtain ⟨u, m, b, k, r⟩ := ih (t ++ rdOf ByteArray.empty L v) p1 s1 (by rw [ByteArray.size_append]; omega) a1 b1
      refine ⟨u, m, b, Ev.step (fun k => spec_DrawCollapse.l0.eq_2 t _ c p s k) (ev_pos (by omega) (ev_bc pick (ev_pos (by dsimp only; omega) ?_))), r⟩
      rw [hw]; exact k
  obtain ⟨u, m, b, k, r⟩ := loop n ⟨#[]⟩ p1 s1 (by show 0 + 3 * n ≤ 1000; omega) a1 b1
  exact ⟨u, m, b, Ev.congr (fun k => spec_DrawCollapse.f.eq_1 k c) (Ev.bind k0 (ev_bc e1 k)), by omega⟩
theorem col_size (s : ByteArray) (hs : s.size ≤ 1048576) (m : Int) (b : Bool) : (col s m b).1.size ≤ 1048576 := by
  have h : ∀ xs b, (onew b xs).length ≤ xs.length := by
    intro xs
    induction xs with
    | nil => intro b; exact Nat.le_refl _
    | cons c cs ih =>
      intro b
      have h1 := ih true
      have h2 := ih false
      rw [onew]
      split
      · split
        · simp; omega
        · simp; omega
      · simp; omega
  unfold col
  split
  · exact Nat.zero_le _
  · split
    · show (strOfNums _).size ≤ _
      rw [strOfNums_size, List.length_map, bytesOf_length]; exact hs
    · show (strOfNums _).size ≤ _
      rw [strOfNums_size]
      have := h (bytesOf s) b
      rw [bytesOf_length] at this
      omega
theorem FnBreaks : laws_FnBreaks.Pure := by
  intro c hl _ hb
  refine Ev.rounds (r := true) ?_
  refine Ev.congr (fun k => laws_FnBreaks.f.eq_1 k c) (ev_bc rfl (ev_ite (fun _ => ev_now rfl) (fun h0 => ?_)))
  have hc : c.length ≤ 1048576 := by
    rw [decide_eq_true_eq] at h0; omega
  obtain ⟨xs, kd, hx⟩ := drawn_ev c hc
  have hbl := brk_length xs 0
  have him : impl_Breaks.f xs = some (brk 0 xs) := by unfold impl_Breaks.f; rw [if_pos (by omega)]
  have hd : ∀ f : Bool, Ev (fun k => laws_FnBreaks.l0 k c xs (brk 0 xs) f xs.length) true := by
    intro f
    obtain ⟨s, m, b, ks, hs⟩ := draw_white c hc
    obtain ⟨r, k1, k2⟩ := both s hs m b
    have e := ev_same k2 (col_ev s hs m b)
    subst e
    refine Ev.step (fun k => laws_FnBreaks.l0.eq_2 c xs (brk 0 xs) f _ k) (ev_neg (by omega) (Ev.bind ks (Ev.bind k2 (Ev.bind (col_ev _ (col_size s hs m b) m b) (Ev.bind k1 (ev_pos rfl (ev_pos (by simp) (ev_now ?_))))))))
    rw [col_idem]; simp
  have go := law_ev c xs hx hd
  have j0 : Ev (fun k => laws_FnBreaks.j0 k c xs (brk 0 xs) false) true := Ev.step (fun k => laws_FnBreaks.j0.eq_2 c xs (brk 0 xs) false k) (ev_neg (by simp) go)
  refine Ev.bind kd (ev_bc him (Ev.bind (brk_spec xs (by omega)) (Ev.bind (same_ev _ (by omega)) (ev_pos rfl (ev_pos (by omega) (ev_ite (fun h => ?_) (fun _ => j0)))))))
  have hw : wrap64 (((brk 0 xs).length : Int) - 1) = ((xs.length - 1 : Nat) : Int) := by rw [wrap_in (by omega) (by omega)]; omega
  rw [hw]
  refine ev_pos (by omega) (ev_pos (by omega) ?_)
  rw [rd_nat _ _ (by omega)]
  have key : ∀ (xs : List Int) (a : Nat) (h : xs.length - 1 < (brk a xs).length), (brk a xs)[xs.length - 1] ≠ 0 := by
    intro xs
    induction xs with
    | nil => intro a h; exact absurd h (by simp [brk])
    | cons x xs ih =>
      intro a h
      cases xs with
      | nil =>
        simp only [brk, nextB, List.length_cons, List.length_nil]
        simp
        split <;> decide
      | cons y ys =>
        have := ih (if bn x = 5 then a else bn x) (by rw [brk_length]; simp)
        simpa [brk] using this
  rw [beq_eq_false_iff_ne.mpr (key xs 0 (by omega))]
  exact j0
end Go.Proofs.Ytpknhndanbgkmaa.Fact
