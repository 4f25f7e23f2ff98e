/- For every list of numbers, the program's Margin answers what the reference's answers, and the list stays as it is. Conditions: none. -/
import Derived.Test.YtdnlehohbbinpaaMFnExactMarginx1
namespace Go.Proofs.Ytdnlehohbbinpaa.Fact
open Go.RowKit Go.Proofs.Ytdnlehohbbinpaa.MFnExactMargin Go.Proofs.YtdnlehohbbinpaaW.PrintWords Go.Proofs.YtdnlehohbbinpaaW.PrintLast
/-! ### what comes from some round on -/
theorem ev_pos {α : Type} {c : Prop} [Decidable c] {f g : Nat → Option α} {r : α} (h : c) (k : Ev f r) : Ev (fun n => if c then f n else g n) r := by
  simpa only [if_pos h] using k
theorem ev_neg {α : Type} {c : Prop} [Decidable c] {f g : Nat → Option α} {r : α} (h : ¬ c) (k : Ev g r) : Ev (fun n => if c then f n else g n) r := by
  simpa only [if_neg h] using k
theorem ev_now {α : Type} {q r : α} (h : q = r) : Ev (fun _ => some q) r := by rw [h]; exact Ev.now r
theorem ev_bs {α β : Type} {a : α} {f : Nat → α → Option β} {r : β} (k : Ev (fun n => f n a) r) : Ev (fun n => (some a).bind (f n)) r := by
  simpa only [Option.bind_some] using k
theorem ev_bc {α β : Type} {o : Option α} {a : α} {f : Nat → α → Option β} {r : β} (h : o = some a) (k : Ev (fun n => f n a) r) : Ev (fun n => o.bind (f n)) r := by
  rw [h]; exact ev_bs k
theorem wrap_in {i : Int} (h0 : -9223372036854775808 ≤ i) (h1 : i ≤ 9223372036854775807) : wrap64 i = i := by
  unfold wrap64
  omega
theorem i64_bounds {x : Int} (h : (Lit.int .i64 x).wf = true) : -9223372036854775808 ≤ x ∧ x ≤ 9223372036854775807 := by
  simp [Lit.wf, IntKind.min, IntKind.max, IntKind.signed, IntKind.bits] at h
  omega
/-! ### the copies and comparisons of lists of numbers -/
theorem rd_nat (xs : List Int) (i : Nat) (h : i < xs.length) : rd xs (i : Int) = xs[i] := by
  simp [rd, List.getElem?_eq_getElem h]
theorem toIntS_loop (xs : List Int) (hn : xs.length ≤ 140737488351232) (d : Nat) : ∀ (ys : List Int) (i : Nat), xs.length - i = d → i ≤ xs.length → ys.length = xs.length → ys.take i = xs.take i → Ev (fun k => laws_toIntS.l0 k xs ys i) xs := by
  induction d with
  | zero =>
    intro ys i hd hi hl ht
    refine Ev.step (fun k => laws_toIntS.l0.eq_2 xs ys i k) (ev_neg (by omega) (ev_now ?_))
    rw [List.take_of_length_le (by omega), List.take_of_length_le (by omega)] at ht
    exact ht
  | succ d ih =>
    intro ys i hd hi hl ht
    refine Ev.step (fun k => laws_toIntS.l0.eq_2 xs ys i k) (ev_pos (by omega) (ev_pos (by omega) (ev_pos (by omega) ?_)))
    rw [wrap_in (by omega) (by omega), Int.toNat_natCast, rd_nat xs i (by omega)]
    refine ih (ys.set i xs[i]) (i + 1) (by omega) (by omega) (by rw [List.length_set]; exact hl) ?_
    rw [List.take_succ_eq_append_getElem (by rw [List.length_set]; omega), List.take_succ_eq_append_getElem (by omega), List.take_set, ht, List.getElem_set_self]
    rw [List.set_eq_of_length_le (by simp; omega)]
theorem toIntS_ev (xs : List Int) (hn : xs.length ≤ 1048576) : Ev (fun k => laws_toIntS.f k xs) xs := by
  refine Ev.congr (fun k => by unfold laws_toIntS.f; rfl) (ev_pos (by omega) (ev_pos (by omega) ?_))
  exact toIntS_loop xs (by omega) xs.length _ 0 (by omega) (by omega) (by simp) (by simp)
theorem eqIntS_loop (xs : List Int) (hn : xs.length ≤ 140737488351232) (d : Nat) : ∀ i : Nat, xs.length - i = d → i ≤ xs.length → Ev (fun k => laws_eqIntS.l0 k xs xs i) true := by
  induction d with
  | zero =>
    intro i hd hi
    exact Ev.step (fun k => laws_eqIntS.l0.eq_2 xs xs i k) (ev_neg (by omega) (ev_now rfl))
  | succ d ih =>
    intro i hd hi
    refine Ev.step (fun k => laws_eqIntS.l0.eq_2 xs xs i k) (ev_pos (by omega) (ev_pos (by omega) (ev_pos (by omega) (ev_pos rfl ?_))))
    rw [wrap_in (by omega) (by omega)]
    exact ih (i + 1) (by omega) (by omega)
theorem eqIntS_ev (xs : List Int) (hn : xs.length ≤ 140737488351232) : Ev (fun k => laws_eqIntS.f k xs xs) true :=
  Ev.congr (fun k => by unfold laws_eqIntS.f; rfl) (ev_pos rfl (eqIntS_loop xs hn xs.length 0 (by omega) (by omega)))
def mrg : List Int → Int → Int → Int
  | [], hi, lo => wrap64 (hi + lo)
  | x :: t, hi, lo => mrg t (if x > hi then x else hi) (if x < lo then x else lo)
theorem spec_loop (xs : List Int) (hn : xs.length ≤ 1048576) (d : Nat) : ∀ (i : Nat) (hi lo : Int), xs.length - i = d → i ≤ xs.length → Ev (fun k => spec_Margin.l0 k xs hi lo i) (mrg (xs.drop i) hi lo) := by
  induction d with
  | zero =>
    intro i hi lo hd hl
    refine Ev.step (fun k => spec_Margin.l0.eq_2 xs hi lo i k) (ev_neg (by omega) (ev_now ?_))
    rw [List.drop_of_length_le (by omega)]; rfl
  | succ d ih =>
    intro i hi lo hd hl
    refine Ev.step (fun k => spec_Margin.l0.eq_2 xs hi lo i k) (ev_pos (by omega) (ev_pos (by omega) ?_))
    rw [wrap_in (by omega) (by omega), List.drop_eq_getElem_cons (by omega), rd_nat xs i (by omega)]
    unfold mrg
    by_cases h1 : xs[i] > hi
    · refine ev_pos h1 ?_
      rw [if_pos h1]
      by_cases h2 : xs[i] < lo
      · refine ev_pos h2 ?_
        rw [if_pos h2]; exact ih (i + 1) _ _ (by omega) (by omega)
      · refine ev_neg h2 ?_
        rw [if_neg h2]; exact ih (i + 1) _ _ (by omega) (by omega)
    · refine ev_neg h1 ?_
      rw [if_neg h1]
      by_cases h2 : xs[i] < lo
      · refine ev_pos h2 ?_
        rw [if_pos h2]; exact ih (i + 1) _ _ (by omega) (by omega)
      · refine ev_neg h2 ?_
        rw [if_neg h2]; exact ih (i + 1) _ _ (by omega) (by omega)
theorem impl_loop (xs : List Int) (hn : xs.length ≤ 1048576) (d : Nat) : ∀ (i : Nat) (hi lo : Int), xs.length - i = d → i ≤ xs.length → Ev (fun k => impl_Margin.l0 k hi lo xs xs.length i) (mrg (xs.drop i) hi lo) := by
  induction d with
  | zero =>
    intro i hi lo hd hl
    refine Ev.step (fun k => impl_Margin.l0.eq_2 hi lo xs xs.length i k) (ev_neg (by omega) (ev_now ?_))
    rw [List.drop_of_length_le (by omega)]; rfl
  | succ d ih =>
    intro i hi lo hd hl
    refine Ev.step (fun k => impl_Margin.l0.eq_2 hi lo xs xs.length i k) (ev_pos (by omega) (ev_pos (by omega) (ev_pos (by omega) ?_)))
    rw [wrap_in (by omega) (by omega), List.drop_eq_getElem_cons (by omega), rd_nat xs i (by omega)]
    unfold mrg
    exact ih (i + 1) _ _ (by omega) (by omega)
theorem FnExactMargin : laws_FnExactMargin.Pure := by
  intro xs _ _ _
  refine Ev.rounds (r := true) ?_
  refine Ev.congr (fun k => by unfold laws_FnExactMargin.f; rfl) ?_
  by_cases h : (xs.length : Int) > 1048576
  · exact ev_pos h (Ev.now _)
  refine ev_neg h ?_
  have hn : xs.length ≤ 1048576 := by omega
  have e1 : Ev (fun k => spec_Margin.f k xs) (mrg xs 0 0) := Ev.congr (fun k => by unfold spec_Margin.f; rfl) (spec_loop xs hn xs.length 0 0 0 (by omega) (by omega))
  have e2 : Ev (fun k => impl_Margin.f k xs) (mrg xs 0 0) := Ev.congr (fun k => by unfold impl_Margin.f; rfl) (impl_loop xs hn xs.length 0 0 0 (by omega) (by omega))
  exact Ev.bind (toIntS_ev xs hn) (Ev.bind e1 (Ev.bind (toIntS_ev xs hn) (Ev.bind e2 (ev_pos rfl (Ev.bind (toIntS_ev xs hn) (Ev.bind (eqIntS_ev xs (by omega)) (ev_pos rfl (Ev.now _))))))))
end Go.Proofs.Ytdnlehohbbinpaa.Fact
