/- For every text, mode and flag, the program's Collapse answers what the reference's answers. Conditions: none. -/
import Derived.Test.YtdnlehohbbinpaaMFnExactCollapsex2
namespace Go.Proofs.Ytdnlehohbbinpaa.Fact
open Go.RowKit Go.Proofs.Ytdnlehohbbinpaa.MFnExactCollapse Go.Proofs.YtdnlehohbbinpaaW.PrintWords Go.Proofs.YtdnlehohbbinpaaW.PrintLast
/-! ### what comes from some round on -/
theorem ev_pos {α : Type} {c : Prop} [Decidable c] {f g : Nat → Option α} {r : α} (h : c) (k : Ev f r) : Ev (fun n => if c then f n else g n) r := by
  simpa only [if_pos h] using k
theorem ev_neg {α : Type} {c : Prop} [Decidable c] {f g : Nat → Option α} {r : α} (h : ¬ c) (k : Ev g r) : Ev (fun n => if c then f n else g n) r := by
  simpa only [if_neg h] using k
theorem ev_now {α : Type} {q r : α} (h : q = r) : Ev (fun _ => some q) r := by rw [h]; exact Ev.now r
theorem ev_bs {α β : Type} {a : α} {f : Nat → α → Option β} {r : β} (k : Ev (fun n => f n a) r) : Ev (fun n => (some a).bind (f n)) r := by
  simpa only [Option.bind_some] using k
theorem ev_bc {α β : Type} {o : Option α} {a : α} {f : Nat → α → Option β} {r : β} (h : o = some a) (k : Ev (fun n => f n a) r) : Ev (fun n => o.bind (f n)) r := by
  rw [h]; exact ev_bs k
theorem wrap_in {i : Int} (h0 : -9223372036854775808 ≤ i) (h1 : i ≤ 9223372036854775807) : wrap64 i = i := by
  unfold wrap64
  omega
theorem i64_bounds {x : Int} (h : (Lit.int .i64 x).wf = true) : -9223372036854775808 ≤ x ∧ x ≤ 9223372036854775807 := by
  simp [Lit.wf, IntKind.min, IntKind.max, IntKind.signed, IntKind.bits] at h
  omega
theorem ev_ite {α : Type} {c : Prop} [Decidable c] {f g : Nat → Option α} {r : α} (h1 : c → Ev f r) (h2 : ¬ c → Ev g r) : Ev (fun n => if c then f n else g n) r := by
  by_cases h : c
  · exact ev_pos h (h1 h)
  · exact ev_neg h (h2 h)
theorem ev_to {α : Type} {f : Nat → Option α} {q r : α} (h : q = r) (k : Ev f q) : Ev f r := h ▸ k
theorem wrap_succ {i : Nat} (h : i < 9223372036854775807) : wrap64 ((i : Int) + 1) = ((i + 1 : Nat) : Int) := by
  rw [wrap_in (by omega) (by omega)]; rfl
theorem getD_nat {α : Type} (d : α) (xs : List α) (i : Nat) (h : i < xs.length) : xs.getD (i : Int).toNat d = xs[i] := by
  simp [List.getElem?_eq_getElem h]
/-- A loop that counts from i up to n, its state s. -/
theorem ev_loop {σ ρ : Type} {g : Nat → σ → Int → Option ρ} (n : Nat) (R : Nat → σ → ρ) (Inv : Nat → σ → Prop)
    (hend : ∀ s, Inv n s → Ev (fun k => g k s n) (R n s))
    (hstep : ∀ i s, i < n → Inv i s → (∀ s', Inv (i + 1) s' → Ev (fun k => g k s' ((i + 1 : Nat) : Int)) (R (i + 1) s')) → Ev (fun k => g k s i) (R i s)) :
    ∀ i, i ≤ n → ∀ s, Inv i s → Ev (fun k => g k s i) (R i s) := by
  have key : ∀ d i, n - i = d → i ≤ n → ∀ s, Inv i s → Ev (fun k => g k s i) (R i s) := by
    intro d
    induction d with
    | zero =>
      intro i hd hi s hs
      obtain rfl : i = n := by omega
      exact hend s hs
    | succ d ih =>
      intro i hd hi s hs
      exact hstep i s (by omega) hs (ih (i + 1) (by omega) (by omega))
  exact fun i hi s hs => key (n - i) i rfl hi s hs
/-- The same, without a state. -/
theorem ev_count {ρ : Type} {g : Nat → Int → Option ρ} (n : Nat) (R : Nat → ρ) (hend : Ev (fun k => g k n) (R n))
    (hstep : ∀ i, i < n → Ev (fun k => g k ((i + 1 : Nat) : Int)) (R (i + 1)) → Ev (fun k => g k i) (R i)) : ∀ i, i ≤ n → Ev (fun k => g k i) (R i) := by
  intro i hi
  exact ev_loop (σ := Unit) (g := fun k _ i => g k i) n (fun i _ => R i) (fun _ _ => True) (fun _ _ => hend) (fun i _ h _ ih => hstep i h (ih () trivial)) i hi () trivial
/-- A loop that writes F of each element into a list of the same length. -/
theorem ev_copy {α β : Type} {g : Nat → List β → Int → Option (List β)} (F : α → β) (xs : List α)
    (hend : ∀ ys : List β, ys.length = xs.length → Ev (fun k => g k ys xs.length) ys)
    (hstep : ∀ (ys : List β) (i : Nat) (h : i < xs.length), ys.length = xs.length → Ev (fun k => g k (ys.set i (F xs[i])) ((i + 1 : Nat) : Int)) (xs.map F) → Ev (fun k => g k ys i) (xs.map F))
    (ys : List β) (hl : ys.length = xs.length) : Ev (fun k => g k ys 0) (xs.map F) := by
  refine ev_loop (g := g) xs.length (fun _ _ => xs.map F) (fun i ys => ys.length = xs.length ∧ ys.take i = (xs.map F).take i) ?_ ?_ 0 (Nat.zero_le _) ys ⟨hl, rfl⟩
  · intro ys hs
    have e : ys = xs.map F := by
      have := hs.2
      rwa [List.take_of_length_le (by omega), List.take_of_length_le (by simp)] at this
    rw [← e]; exact hend ys hs.1
  · intro i ys hi hs ih
    refine hstep ys i hi hs.1 (ih _ ⟨by rw [List.length_set]; exact hs.1, ?_⟩)
    rw [List.take_succ_eq_append_getElem (by rw [List.length_set]; omega), List.take_succ_eq_append_getElem (by rw [List.length_map]; omega), List.take_set, hs.2, List.getElem_set_self, List.getElem_map]
    rw [List.set_eq_of_length_le (by simp; omega)]
def wh (c : Int) : Bool := (spec_l1White.f c).getD false
theorem white_spec (c : Int) : spec_l1White.f c = some (wh c) := by
  unfold wh spec_l1White.f
  split
  · rfl
  split
  · rfl
  split
  · rfl
  split <;> rfl
theorem white_impl (c : Int) : impl_isWhite.f c = some (wh c) := white_spec c
theorem pre_loop (s : ByteArray) (hs : s.size ≤ 1048576) (d : Nat) : ∀ (i : Nat) (acc : List Int), s.size - i = d → i ≤ s.size → acc.length ≤ i → ∃ r, Ev (fun k => spec_Collapse.l0 k s acc i) r ∧ Ev (fun k => impl_Collapse.l0 k s acc s.size i) r := by
  induction d with
  | zero =>
    intro i acc hd hi ha
    exact ⟨_, Ev.step (fun k => spec_Collapse.l0.eq_2 s acc i k) (ev_neg (by omega) (ev_now rfl)), Ev.step (fun k => impl_Collapse.l0.eq_2 s acc s.size i k) (ev_neg (by omega) (ev_now rfl))⟩
  | succ d ih =>
    intro i acc hd hi ha
    have w : wrap64 ((i : Int) + 1) = ((i + 1 : Nat) : Int) := by rw [wrap_in (by omega) (by omega)]; rfl
    obtain ⟨r1, a1, b1⟩ := ih (i + 1) (acc ++ [32]) (by omega) (by omega) (by simp; omega)
    obtain ⟨r2, a2, b2⟩ := ih (i + 1) (acc ++ [bt s i]) (by omega) (by omega) (by simp; omega)
    by_cases h9 : bt s i = 9
    · refine ⟨r1, Ev.step (fun k => spec_Collapse.l0.eq_2 s acc i k) (ev_pos (by omega) (ev_pos (by omega) (ev_pos h9 (ev_pos (by omega) ?_)))), Ev.step (fun k => impl_Collapse.l0.eq_2 s acc s.size i k) (ev_pos (by omega) (ev_pos (by omega) (ev_pos (by omega) (ev_pos h9 (ev_pos (by omega) ?_)))))⟩
      · rw [w]; exact a1
      · rw [w]; exact b1
    by_cases h12 : bt s i = 12
    · refine ⟨r1, Ev.step (fun k => spec_Collapse.l0.eq_2 s acc i k) (ev_pos (by omega) (ev_pos (by omega) (ev_neg h9 (ev_pos h12 (ev_pos (by omega) ?_))))), Ev.step (fun k => impl_Collapse.l0.eq_2 s acc s.size i k) (ev_pos (by omega) (ev_pos (by omega) (ev_pos (by omega) (ev_neg h9 (ev_pos h12 (ev_pos (by omega) ?_))))))⟩
      · rw [w]; exact a1
      · rw [w]; exact b1
    by_cases h13 : bt s i = 13
    · refine ⟨r1, Ev.step (fun k => spec_Collapse.l0.eq_2 s acc i k) (ev_pos (by omega) (ev_pos (by omega) (ev_neg h9 (ev_neg h12 (ev_pos h13 (ev_pos (by omega) ?_)))))), Ev.step (fun k => impl_Collapse.l0.eq_2 s acc s.size i k) (ev_pos (by omega) (ev_pos (by omega) (ev_pos (by omega) (ev_neg h9 (ev_neg h12 (ev_pos h13 (ev_pos (by omega) ?_)))))))⟩
      · rw [w]; exact a1
      · rw [w]; exact b1
    · refine ⟨r2, Ev.step (fun k => spec_Collapse.l0.eq_2 s acc i k) (ev_pos (by omega) (ev_pos (by omega) (ev_neg h9 (ev_neg h12 (ev_neg h13 (ev_pos (by omega) ?_)))))), Ev.step (fun k => impl_Collapse.l0.eq_2 s acc s.size i k) (ev_pos (by omega) (ev_pos (by omega) (ev_pos (by omega) (ev_neg h9 (ev_neg h12 (ev_neg h13 (ev_pos (by omega) ?_)))))))⟩
      · rw [w]; exact a2
      · rw [w]; exact b2
theorem one_loop (s : ByteArray) (hs : s.size ≤ 1048576) (hp : 0 < s.size) (d : Nat) : ∀ (i : Nat) (b : Bool) (acc : List Int), s.size - i = d → i ≤ s.size → acc.length ≤ i → (0 < i → b = wh (bt s ((i : Int) - 1))) → ∃ r, Ev (fun k => spec_Collapse.l1 k s b acc i) r ∧ Ev (fun k => impl_Collapse.l1 k s b acc s.size i) r := by
  induction d with
  | zero =>
    intro i b acc hd hi ha hb
    have e : (i : Int) = s.size := by omega
    have hb' := hb (by omega)
    refine ⟨_, Ev.step (fun k => spec_Collapse.l1.eq_2 s b acc i k) (ev_neg (by omega) ?_), Ev.step (fun k => impl_Collapse.l1.eq_2 s b acc s.size i k) (ev_neg (by omega) (ev_now rfl))⟩
    rw [wrap_in (by omega) (by omega)]
    refine ev_pos (by omega) (ev_pos (by omega) (ev_bc (white_spec _) (ev_now ?_)))
    rw [hb', e]
  | succ d ih =>
    intro i b acc hd hi ha hb
    have w : wrap64 ((i : Int) + 1) = ((i + 1 : Nat) : Int) := by rw [wrap_in (by omega) (by omega)]; rfl
    have back : ((i + 1 : Nat) : Int) - 1 = i := by omega
    by_cases hw : wh (bt s i) = true
    · by_cases hbb : b = true
      · obtain ⟨r, a1, b1⟩ := ih (i + 1) true acc (by omega) (by omega) (by omega) (fun _ => by rw [back, hw])
        subst hbb
        refine ⟨r, Ev.step (fun k => spec_Collapse.l1.eq_2 s true acc i k) (ev_pos (by omega) (ev_pos (by omega) (ev_bc (white_spec _) (ev_pos hw (ev_pos rfl ?_))))), Ev.step (fun k => impl_Collapse.l1.eq_2 s true acc s.size i k) (ev_pos (by omega) (ev_pos (by omega) (ev_pos (by omega) (ev_bc (white_impl _) (ev_pos hw (ev_pos rfl ?_))))))⟩
        · rw [w]; exact a1
        · rw [w]; exact b1
      · obtain ⟨r, a1, b1⟩ := ih (i + 1) true (acc ++ [32]) (by omega) (by omega) (by simp; omega) (fun _ => by rw [back, hw])
        refine ⟨r, Ev.step (fun k => spec_Collapse.l1.eq_2 s b acc i k) (ev_pos (by omega) (ev_pos (by omega) (ev_bc (white_spec _) (ev_pos hw (ev_neg hbb (ev_pos (by omega) ?_)))))), Ev.step (fun k => impl_Collapse.l1.eq_2 s b acc s.size i k) (ev_pos (by omega) (ev_pos (by omega) (ev_pos (by omega) (ev_bc (white_impl _) (ev_pos hw (ev_neg hbb (ev_pos (by omega) ?_)))))))⟩
        · rw [w]; exact a1
        · rw [w]; exact b1
    · obtain ⟨r, a1, b1⟩ := ih (i + 1) false (acc ++ [bt s i]) (by omega) (by omega) (by simp; omega) (fun _ => by rw [back]; exact (Bool.eq_false_iff.mpr hw).symm)
      refine ⟨r, Ev.step (fun k => spec_Collapse.l1.eq_2 s b acc i k) (ev_pos (by omega) (ev_pos (by omega) (ev_bc (white_spec _) (ev_neg hw (ev_pos (by omega) ?_))))), Ev.step (fun k => impl_Collapse.l1.eq_2 s b acc s.size i k) (ev_pos (by omega) (ev_pos (by omega) (ev_pos (by omega) (ev_bc (white_impl _) (ev_neg hw (ev_pos (by omega) ?_))))))⟩
      · rw [w]; exact a1
      · rw [w]; exact b1
theorem j_loop (s : ByteArray) (hs : s.size ≤ 1048576) (hp : 0 < s.size) (b t : Bool) : ∃ r, Ev (fun k => spec_Collapse.j0 k s b [] t) r ∧ Ev (fun k => impl_Collapse.j0 k s b [] t) r := by
  cases t with
  | true =>
    obtain ⟨r, h1, h2⟩ := pre_loop s hs s.size 0 [] (by omega) (by omega) (by simp)
    exact ⟨r, Ev.step (fun k => spec_Collapse.j0.eq_2 s b [] true k) (ev_pos rfl h1), Ev.step (fun k => impl_Collapse.j0.eq_2 s b [] true k) (ev_pos rfl h2)⟩
  | false =>
    obtain ⟨r, h1, h2⟩ := one_loop s hs hp s.size 0 b [] (by omega) (by omega) (by simp) (fun h => by omega)
    exact ⟨r, Ev.step (fun k => spec_Collapse.j0.eq_2 s b [] false k) (ev_neg (by simp) h1), Ev.step (fun k => impl_Collapse.j0.eq_2 s b [] false k) (ev_neg (by simp) h2)⟩
theorem toList_size (s : ByteArray) : s.toList.length = s.size := by
  rw [ByteArray.toList_eq]; simp
theorem both (s : ByteArray) (hs : s.size ≤ 1048576) (m : Int) (b : Bool) : ∃ r, Ev (fun k => spec_Collapse.f k s m b) r ∧ Ev (fun k => impl_Collapse.f k s m b) r := by
  by_cases h : s.toList = []
  · exact ⟨_, Ev.congr (fun k => spec_Collapse.f.eq_1 k s m b) (ev_bs (ev_pos h (ev_now rfl))), Ev.congr (fun k => impl_Collapse.f.eq_1 k s m b) (ev_pos h (ev_now rfl))⟩
  have hp : 0 < s.size := by
    rw [← toList_size]; exact List.length_pos_iff.mpr h
  by_cases h2 : m = 2
  · obtain ⟨r, a, c⟩ := j_loop s hs hp b true
    exact ⟨r, Ev.congr (fun k => spec_Collapse.f.eq_1 k s m b) (ev_bs (ev_neg h (ev_pos h2 a))), Ev.congr (fun k => impl_Collapse.f.eq_1 k s m b) (ev_neg h (ev_bs (ev_pos h2 c)))⟩
  · obtain ⟨r, a, c⟩ := j_loop s hs hp b (m == 3)
    exact ⟨r, Ev.congr (fun k => spec_Collapse.f.eq_1 k s m b) (ev_bs (ev_neg h (ev_neg h2 a))), Ev.congr (fun k => impl_Collapse.f.eq_1 k s m b) (ev_neg h (ev_bs (ev_neg h2 c)))⟩
theorem FnExactCollapse : laws_FnExactCollapse.Pure := by
  intro s m b _ _
  refine Ev.rounds (r := true) ?_
  refine Ev.congr (fun k => by unfold laws_FnExactCollapse.f; rfl) ?_
  by_cases h : (s.size : Int) > 1048576
  · exact ev_pos h (Ev.now _)
  refine ev_neg h ?_
  obtain ⟨r, a, c⟩ := both s (by omega) m b
  exact Ev.bind a (Ev.bind c (ev_pos rfl (ev_neg (by simp) (Ev.now _))))
end Go.Proofs.Ytdnlehohbbinpaa.Fact
