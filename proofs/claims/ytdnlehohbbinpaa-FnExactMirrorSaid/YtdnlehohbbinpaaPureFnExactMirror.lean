/- For every number, the program's Mirror answers what the reference's answers. Conditions: none. -/
import Derived.Test.YtdnlehohbbinpaaPFnExactMirrorx1
namespace Go.Proofs.Ytdnlehohbbinpaa.Pure
open Go.RowKit Go.Proofs.Ytdnlehohbbinpaa.PFnExactMirror Go.Proofs.YtdnlehohbbinpaaW.PrintWords Go.Proofs.YtdnlehohbbinpaaW.PrintLast
/-! ### what comes from some round on -/
theorem ev_pos {α : Type} {c : Prop} [Decidable c] {f g : Nat → Option α} {r : α} (h : c) (k : Ev f r) : Ev (fun n => if c then f n else g n) r := by
  simpa only [if_pos h] using k
theorem ev_neg {α : Type} {c : Prop} [Decidable c] {f g : Nat → Option α} {r : α} (h : ¬ c) (k : Ev g r) : Ev (fun n => if c then f n else g n) r := by
  simpa only [if_neg h] using k
theorem ev_now {α : Type} {q r : α} (h : q = r) : Ev (fun _ => some q) r := by rw [h]; exact Ev.now r
theorem ev_bs {α β : Type} {a : α} {f : Nat → α → Option β} {r : β} (k : Ev (fun n => f n a) r) : Ev (fun n => (some a).bind (f n)) r := by
  simpa only [Option.bind_some] using k
theorem ev_bc {α β : Type} {o : Option α} {a : α} {f : Nat → α → Option β} {r : β} (h : o = some a) (k : Ev (fun n => f n a) r) : Ev (fun n => o.bind (f n)) r := by
  rw [h]; exact ev_bs k
theorem wrap_in {i : Int} (h0 : -9223372036854775808 ≤ i) (h1 : i ≤ 9223372036854775807) : wrap64 i = i := by
  unfold wrap64
  omega
theorem i64_bounds {x : Int} (h : (Lit.int .i64 x).wf = true) : -9223372036854775808 ≤ x ∧ x ≤ 9223372036854775807 := by
  simp [Lit.wf, IntKind.min, IntKind.max, IntKind.signed, IntKind.bits] at h
  omega
/-- The first place of a value, counted on from i; -1 if there is none. -/
def fnd : List Int → Int → Int → Int
  | [], _, _ => -1
  | x :: t, a, i => if x = a then i else fnd t a (i + 1)
theorem drop_cons {α : Type} (xs : List α) (d : α) (i : Nat) (h : i < xs.length) : xs.drop i = xs.getD i d :: xs.drop (i + 1) := by
  rw [List.drop_eq_getElem_cons h]
  simp [List.getElem?_eq_getElem h]
theorem find_spec (xs : List Int) (a : Int) (hn : xs.length ≤ 1000000) (d : Nat) : ∀ i : Nat, xs.length - i = d → i ≤ xs.length → Ev (fun k => spec_l3Find.l0 k xs a i) (fnd (xs.drop i) a i) := by
  induction d with
  | zero =>
    intro i hd hi
    refine Ev.step (fun k => spec_l3Find.l0.eq_2 xs a i k) (ev_neg (by omega) (ev_now ?_))
    rw [List.drop_of_length_le (by omega)]; rfl
  | succ d ih =>
    intro i hd hi
    refine Ev.step (fun k => spec_l3Find.l0.eq_2 xs a i k) (ev_pos (by omega) (ev_pos (by omega) ?_))
    rw [drop_cons xs 0 i (by omega)]
    have e : rd xs i = xs.getD i 0 := by simp [rd]
    by_cases h : rd xs i = a
    · refine ev_pos h (ev_now ?_)
      unfold fnd; rw [if_pos (by rw [← e]; exact h)]
    · refine ev_neg h ?_
      unfold fnd; rw [if_neg (by rw [← e]; exact h), wrap_in (by omega) (by omega)]
      exact ih (i + 1) (by omega) (by omega)
theorem find_impl (xs : List Int) (a : Int) (hn : xs.length ≤ 1000000) (d : Nat) : ∀ i : Nat, xs.length - i = d → i ≤ xs.length → Ev (fun k => slices_Index_int_int.l0 k xs a xs.length i) (fnd (xs.drop i) a i) := by
  induction d with
  | zero =>
    intro i hd hi
    refine Ev.step (fun k => slices_Index_int_int.l0.eq_2 xs a xs.length i k) (ev_neg (by omega) (ev_now ?_))
    rw [List.drop_of_length_le (by omega)]; rfl
  | succ d ih =>
    intro i hd hi
    refine Ev.step (fun k => slices_Index_int_int.l0.eq_2 xs a xs.length i k) (ev_pos (by omega) (ev_pos (by omega) (ev_pos (by omega) ?_)))
    rw [drop_cons xs 0 i (by omega)]
    have e : rd xs i = xs.getD i 0 := by simp [rd]
    by_cases h : a = rd xs i
    · refine ev_pos h (ev_now ?_)
      unfold fnd; rw [if_pos (by rw [← e]; exact h.symm)]
    · refine ev_neg h ?_
      unfold fnd; rw [if_neg (by rw [← e]; exact fun z => h z.symm), wrap_in (by omega) (by omega)]
      exact ih (i + 1) (by omega) (by omega)
theorem fnd_range (xs : List Int) (a : Int) : ∀ i, fnd xs a i = -1 ∨ (i ≤ fnd xs a i ∧ fnd xs a i < i + xs.length) := by
  induction xs with
  | nil => intro i; exact .inl rfl
  | cons x t ih =>
    intro i
    unfold fnd
    split
    · right; simp only [List.length_cons]; omega
    · rcases ih (i + 1) with h | h
      · exact .inl h
      · right; simp only [List.length_cons]; omega
theorem both (t : Int) (h : t = -1 ∨ (0 ≤ t ∧ t < 10)) (a : Int) : ∃ r,
    (if t < 0 then (some a) else (if 0 ≤ (wrap64 ((wrap64 (t + 1)) - (wrap64 (2 * (Int.tmod t 2))))) then (if (wrap64 ((wrap64 (t + 1)) - (wrap64 (2 * (Int.tmod t 2))))) < ((([40, 41, 91, 93, 123, 125, 60, 62, 171, 187] : List Int)).length : Int) then (some (rd [40, 41, 91, 93, 123, 125, 60, 62, 171, 187] (wrap64 ((wrap64 (t + 1)) - (wrap64 (2 * (Int.tmod t 2))))))) else (none)) else (none))) = some r ∧
    (if t < 0 then (some a) else (if 0 ≤ (Go.bits .xor .i64 t 1) then (if (Go.bits .xor .i64 t 1) < ((([40, 41, 91, 93, 123, 125, 60, 62, 171, 187] : List Int)).length : Int) then (some (rd [40, 41, 91, 93, 123, 125, 60, 62, 171, 187] (Go.bits .xor .i64 t 1))) else (none)) else (none))) = some r := by
  have h' : t = -1 ∨ t = 0 ∨ t = 1 ∨ t = 2 ∨ t = 3 ∨ t = 4 ∨ t = 5 ∨ t = 6 ∨ t = 7 ∨ t = 8 ∨ t = 9 := by omega
  rcases h' with rfl | h'
  · exact ⟨a, if_pos (by decide), if_pos (by decide)⟩
  have e1 : ¬ t < 0 := by omega
  rw [if_neg e1, if_neg e1]
  rcases h' with rfl | rfl | rfl | rfl | rfl | rfl | rfl | rfl | rfl | rfl
  · exact ⟨41, by decide +kernel, by decide +kernel⟩
  · exact ⟨40, by decide +kernel, by decide +kernel⟩
  · exact ⟨93, by decide +kernel, by decide +kernel⟩
  · exact ⟨91, by decide +kernel, by decide +kernel⟩
  · exact ⟨125, by decide +kernel, by decide +kernel⟩
  · exact ⟨123, by decide +kernel, by decide +kernel⟩
  · exact ⟨62, by decide +kernel, by decide +kernel⟩
  · exact ⟨60, by decide +kernel, by decide +kernel⟩
  · exact ⟨187, by decide +kernel, by decide +kernel⟩
  · exact ⟨171, by decide +kernel, by decide +kernel⟩
theorem FnExactMirror : laws_FnExactMirror.Pure := by
  intro a _
  obtain ⟨r, h1, h2⟩ := both (fnd [40, 41, 91, 93, 123, 125, 60, 62, 171, 187] a 0) (by have := fnd_range [40, 41, 91, 93, 123, 125, 60, 62, 171, 187] a 0; simp only [List.length_cons, List.length_nil] at this; omega) a
  have e1 : Ev (fun k => spec_Mirror.f k a) r := by
    refine Ev.congr (fun k => by unfold spec_Mirror.f; rfl) (ev_bs (Ev.bind (find_spec _ a (by simp) 10 0 rfl (by simp)) ?_))
    exact ⟨0, fun _ _ => h1⟩
  have e2 : Ev (fun k => impl_Mirror.f k a) r := by
    refine Ev.congr (fun k => by unfold impl_Mirror.f; rfl) (ev_bs (Ev.bind (find_impl _ a (by simp) 10 0 rfl (by simp)) ?_))
    exact ⟨0, fun _ _ => h2⟩
  refine Ev.rounds (r := true) ?_
  refine Ev.congr (fun k => by unfold laws_FnExactMirror.f; rfl) (Ev.bind e1 (Ev.bind e2 (ev_pos rfl (Ev.now true))))
end Go.Proofs.Ytdnlehohbbinpaa.Pure
