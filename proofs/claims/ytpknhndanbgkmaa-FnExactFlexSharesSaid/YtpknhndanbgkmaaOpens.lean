/- What an argument's reading as data says of its cells: numbers, texts, rows, of whatever depth. Conditions: none. -/
import Derived.Test.YtpknhndanbgkmaaWWords
import Derived.Deep.Slices
import Derived.ChangeOld
import Derived.Carry
namespace Go.Proofs.Ytpknhndanbgkmaa.Opens
open Go.RowKit Go.Deep Go.ChangeShapes Go.WideShapes Go.Proofs.YtpknhndanbgkmaaW.PrintWords
set_option linter.unusedVariables false

/-- A value of type T whose cells read as data is told by d, and Ok. -/
def Opens (P : Program) (T : TypeId) {α : Type} (d : Kd α) (Ok : α → Prop) : Prop :=
  ∀ (H : Type) (enc : TypeId × Value → H) (w : World) (fuel : Nat) (cs : List Value) (x : DataW H × List MemPlace), DataW.trod enc P w 0 (fun _ => true) true fuel T cs = some x → ∃ v : α, d.K w v cs ∧ Ok v
section
variable {P : Program} {T : TypeId}
theorem opens_int {k : IntKind} (ht : P.underlying T = some (.int k)) : Opens P T (Kd.int k) (fun n => (Lit.int k n).wf = true) := by
  intro H enc w fuel cs x h
  obtain ⟨n, rfl, _, hw⟩ := DataW.trod_int ht h
  exact ⟨n, rfl, hw⟩
theorem opens_bool (ht : P.underlying T = some .bool) : Opens P T Kd.bool (fun _ => True) := by
  intro H enc w fuel cs x h
  obtain ⟨n, rfl, _⟩ := DataW.trod_bool ht h
  exact ⟨n, rfl, trivial⟩
theorem opens_string (ht : P.underlying T = some .string) : Opens P T Kd.string (fun s => s.size ≤ maxLen) := by
  intro H enc w fuel cs x h
  obtain ⟨s, rfl, _, hs⟩ := DataW.trod_string ht h
  exact ⟨s, rfl, hs⟩
theorem opens_slice {α : Type} {d : Kd α} {Ok : α → Prop} {e : TypeId} (ht : P.underlying T = some (.slice e)) (hc : P.cellsOf e = d.sz) (he : Opens P e d Ok) : Opens P T (Kd.slice e d) (fun l => l.length ≤ maxLen ∧ ∀ x ∈ l, Ok x) := by
  intro H enc w fuel cs x h
  rcases open_slice ht h with ⟨rfl, _⟩ | ⟨a, len, cap, m, n, D, Pl, rfl, _, hl, hm, hmm, _, hx⟩
  · exact ⟨[], ⟨none, 0, rfl, Nat.le_refl _, ⟨rfl, by simp, fun h => absurd h (by simp)⟩⟩, by simp, by simp⟩
  have hle : len ≤ m := by rw [hmm]; simpa using hl
  have all : ∀ i, i < len → ∃ v : α, (∃ c, c.length = d.sz ∧ d.K w v c ∧ ∀ j u, c[j]? = some u → w.cell? (a.add (i * d.sz + j)) = some u) ∧ Ok v := by
    intro i hi
    obtain ⟨c, h1, h2⟩ := hx i (by omega)
    obtain ⟨v, hv, hok⟩ := he H enc w n c _ h2
    obtain ⟨_, hlen, hcell⟩ := World.cells?_some h1
    rw [hc] at hlen
    refine ⟨v, ⟨c, hlen, hv, fun j u hu => ?_⟩, hok⟩
    have hj : j < d.sz := by rw [← hlen]; exact (List.getElem?_eq_some_iff.1 hu).1
    have := hcell j (by rw [hc]; exact hj)
    rw [hc, Deep.add_add] at this
    rw [this, hu]
  have key : ∀ m, m ≤ len → ∃ l : List α, l.length = m ∧ (∀ j p, l[j]? = some p → ∃ c, c.length = d.sz ∧ d.K w p c ∧ ∀ i u, c[i]? = some u → w.cell? (a.add (j * d.sz + i)) = some u) ∧ ∀ p ∈ l, Ok p := by
    intro m
    induction m with
    | zero => intro _; exact ⟨[], rfl, fun j p h => by simp at h, by simp⟩
    | succ m ih =>
      intro hm
      obtain ⟨l, h1, h2, h3⟩ := ih (by omega)
      obtain ⟨v, hv, hok⟩ := all m (by omega)
      refine ⟨l ++ [v], by simp [h1], fun j p hp => ?_, fun p hp => ?_⟩
      · by_cases hj : j < l.length
        · rw [List.getElem?_append_left hj] at hp
          exact h2 j p hp
        · have hl2 := (List.getElem?_eq_some_iff.1 hp).1
          simp at hl2
          have e : j = m := by omega
          subst e
          rw [List.getElem?_append_right (by omega), h1] at hp
          simp at hp
          subst hp
          exact hv
      · rcases List.mem_append.1 hp with hp | hp
        · exact h3 p hp
        · simp at hp; subst hp; exact hok
  obtain ⟨l, h1, h2, h3⟩ := key len (Nat.le_refl _)
  have hml : len ≤ maxLen := Nat.le_trans hl hm
  refine ⟨l, ⟨some a, cap, by rw [h1], by rw [h1]; exact hl, ⟨rfl, by rw [h1]; exact hml, fun _ => ⟨a, rfl, h2⟩⟩⟩, by rw [h1]; exact hml, h3⟩
theorem cons_of {l : List Value} {n : Nat} (h : l.length = n + 1) : ∃ a t, l = a :: t ∧ t.length = n := by
  cases l with
  | nil => simp at h
  | cons a t => exact ⟨a, t, rfl, by simpa using h⟩
theorem nil_of {l : List Value} (h : l.length = 0) : l = [] := List.eq_nil_of_length_eq_zero h
end
end Go.Proofs.Ytpknhndanbgkmaa.Opens
