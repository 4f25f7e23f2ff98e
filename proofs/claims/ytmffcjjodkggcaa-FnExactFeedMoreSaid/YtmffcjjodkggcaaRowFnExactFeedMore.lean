-- Written by this session's own program (wip/gen/myprint.py).
import Derived.Test.YtmffcjjodkggcaaRows
import Derived.Test.YtmffcjjodkggcaaMFnExactFeedMorex12
import Derived.Test.YtmffcjjodkggcaaFactFnExactFeedMore
import Derived.WalkKit
import Derived.ProofKit
import Derived.OpenShut
import Derived.ShutString
import Derived.ChangeOld
import Derived.Below
import Derived.SizedLaws
import Derived.Test.YtmffcjjodkggcaaOpens
import Derived.Test.YtmffcjjodkggcaaWSized
namespace Go.Proofs.Ytmffcjjodkggcaa.fnExactFeedMore
open Go.ChangeShapes Go.WideShapes Go.ChangeAt Go.RowKit
open Go.ChangeMaps (open_string shut_string)
set_option linter.unusedVariables false
theorem own : ownKnob Try.prog.godebug = none := by kernel_rfl
theorem laidOut : laidOutB Try.prog = true := by kernel_rfl
def IsRow (k : IntKind) (w : World) (a : Option Addr) (len cap : Nat) (zs : List Int) : Prop :=
  (a = none ∧ len = 0 ∧ cap = 0 ∧ zs = []) ∨
  ∃ x, a = some x ∧ len ≤ cap ∧ cap ≤ maxLen ∧ zs.length = cap ∧ (∀ i, i < zs.length → w.cell? (x.add i) = some (.int k (zs.getD i 0))) ∧ ∀ n ∈ zs, (Lit.int k n).wf = true
open Go.Proofs.YtmffcjjodkggcaaW.PrintWords Go.Proofs.Ytmffcjjodkggcaa.MFnExactFeedMore
theorem opens35 : Opens.Opens Try.prog 35 k35 ok35 := by
  intro H enc w fuel cs x h
  obtain ⟨xs, n, _, _, hl, hx, hf⟩ := DataW.trod_struct Try.underlying35 h
  rw [show Try.prog.cellsOf 35 = 3 from by kernel_rfl] at hl
  replace hx : xs.length = 3 := hx
  obtain ⟨c0, t0, rfl, g0⟩ := Opens.cons_of hl
  obtain ⟨c1, t1, e1, g1⟩ := Opens.cons_of g0
  obtain ⟨c2, t2, e2, g2⟩ := Opens.cons_of g1
  have e3 := Opens.nil_of g2
  subst e3; subst e2; subst e1
  have z0 : DataW.trod enc Try.prog w 0 (fun _ => true) true n 3 [c0] = xs[0]? := by
    have z : DataW.trod enc Try.prog w 0 (fun _ => true) true n 3 (([c0, c1, c2].drop 0).take (Try.prog.cellsOf 3)) = xs[0]? := hf 0 _ rfl
    rw [show Try.prog.cellsOf 3 = 1 from by kernel_rfl] at z
    exact z
  rw [List.getElem?_eq_getElem (show 0 < xs.length by omega)] at z0
  obtain ⟨v0, k0, o0⟩ := (Opens.opens_int Try.underlying3) H enc w n _ _ z0
  have z1 : DataW.trod enc Try.prog w 0 (fun _ => true) true n 4 [c1] = xs[1]? := by
    have z : DataW.trod enc Try.prog w 0 (fun _ => true) true n 4 (([c0, c1, c2].drop 1).take (Try.prog.cellsOf 4)) = xs[1]? := hf 1 _ rfl
    rw [show Try.prog.cellsOf 4 = 1 from by kernel_rfl] at z
    exact z
  rw [List.getElem?_eq_getElem (show 1 < xs.length by omega)] at z1
  obtain ⟨v1, k1, o1⟩ := (Opens.opens_bool Try.underlying4) H enc w n _ _ z1
  have z2 : DataW.trod enc Try.prog w 0 (fun _ => true) true n 22 [c2] = xs[2]? := by
    have z : DataW.trod enc Try.prog w 0 (fun _ => true) true n 22 (([c0, c1, c2].drop 2).take (Try.prog.cellsOf 22)) = xs[2]? := hf 2 _ rfl
    rw [show Try.prog.cellsOf 22 = 1 from by kernel_rfl] at z
    exact z
  rw [List.getElem?_eq_getElem (show 2 < xs.length by omega)] at z2
  obtain ⟨v2, k2, o2⟩ := (Opens.opens_slice Try.underlying22 (by kernel_rfl) (Opens.opens_int Try.underlying5)) H enc w n _ _ z2
  exact ⟨⟨v0, v1, v2⟩, ⟨[c0], [c1, c2], rfl, k0, ⟨[c1], [c2], rfl, k1, k2⟩⟩, ⟨o0, o2⟩⟩
set_option maxRecDepth 100000 in
theorem lifted (os : Os) (started : os.Started) (H : Type) (enc : TypeId × Value → H) :
    ReturnsInHanded {} Try.checked os 6 .any (Rows.fnExactFeedMoreSpec.pre6 enc Try.prog Try.f6 Rows.fnExactFeedMoreRow.domain false) (Rows.fnExactFeedMoreSpec.post enc Try.prog Try.f6 false true false false) := by
  refine returnsInHanded_of_change_sized (C := Try.checked) own started (by kernel_rfl) Try.func6
    (ChangeSpec.witness6 (enc := enc) (C := Try.checked) false ⟨#[], #[.agg #[.int .i64 0, .bool false, .slice none 0 0], .slice none 0 0], []⟩ 8 (by kernel_rfl) (by kernel_rfl) (by kernel_rfl) (by kernel_rfl)) ?_
  intro W base args ds gs before hval0 hW hcnd hsz0 _
  have hsz : (DataW.weightsEach Try.prog (Try.f6.params.toList ++ Rows.fnExactFeedMoreSpec.plain.varTypes Try.prog) (ds ++ gs)).all (· ≤ reachBytes) = true := hsz0
  have hval : ∀ (j : Nat) t v, Try.f6.params[j]? = some t → args[j]? = some v → Value.okWide Try.prog W .any base t v := hval0
  have hW' := hW
  obtain ⟨p, q, hA0, hV, rfl, hfz, hnd⟩ := hW
  have hA : DataW.TrodAll enc Try.prog W 0 (fun _ => true) true Try.f6.params.toList args.toList ds p := hA0
  rw [Try.params6] at hA hval hsz
  obtain ⟨v0, vs0, d0, ds0, p0, q0, hargs, rfl, rfl, h0, r0⟩ := trodAll_cons hA
  obtain ⟨v1, vs1, d1, ds1, p1, q1, rfl, rfl, rfl, h1, r1⟩ := trodAll_cons r0
  obtain ⟨rfl, rfl, rfl⟩ := trodAll_nil r1
  obtain rfl : args = #[v0, v1] := by cases args; simp_all
  obtain ⟨rfl, rfl⟩ := trodVars_none hV
  obtain ⟨g0, rfl, gs0⟩ := okWide_struct Try.underlying35 (hval 0 35 v0 rfl rfl)
  have k0 := h0
  have lt0 : ∀ x ∈ p0, x.block < W.heap.size := by obtain ⟨m, hm⟩ := k0; exact DataW.trod_lt m _ _ _ hm
  obtain ⟨a0_0, a0_1, A0_2, c0_2, l0_2, eg0, hr0_2, hc0_2, ok0_0, ok0_2⟩ : ∃ (a0_0 : Int) (a0_1 : Bool) (A0_2 : Option Addr) (c0_2 : Nat) (l0_2 : List Int), g0 = #[.int .i64 a0_0, .bool a0_1, .slice A0_2 l0_2.length c0_2] ∧ Kd.C (Kd.int .u8) W A0_2 l0_2.length l0_2 ∧ l0_2.length ≤ c0_2 ∧ (Lit.int .i64 a0_0).wf = true ∧ (l0_2.length ≤ maxLen ∧ ∀ x ∈ l0_2, (Lit.int .u8 x).wf = true) := by
    obtain ⟨fuel, hf⟩ := h0
    obtain ⟨v, hK, ok⟩ := opens35 H enc W fuel _ _ hf
    simp only [Value.cells] at hK
    obtain ⟨cs, ecs⟩ : ∃ cs, cs = g0.toList := ⟨_, rfl⟩
    rw [← ecs] at hK
    obtain ⟨ok_0, ok_2⟩ := ok
    obtain ⟨_, _, rfl, rfl, ⟨_, _, rfl, rfl, ⟨Aq_2, cq_2, rfl, hlq_2, hCq_2⟩⟩⟩ := hK
    exact ⟨v.f0, v.f1, Aq_2, cq_2, v.f2, by rw [show g0 = g0.toList.toArray by simp, ← ecs]; rfl, hCq_2, hlq_2, ok_0, ok_2⟩
  subst eg0
  obtain ⟨a1, len1, cap1, rfl⟩ := okWide_slice Try.underlying22 (hval 1 22 v1 rfl rfl)
  have k1 := h1
  have lt1 : ∀ x ∈ p1, x.block < W.heap.size := by obtain ⟨m, hm⟩ := k1; exact DataW.trod_lt m _ _ _ hm
  obtain ⟨z1, w1⟩ : ∃ zs, IsRow .u8 W a1 len1 cap1 zs := by
    obtain ⟨fuel, hf⟩ := h1
    rcases open_ints Try.underlying22 Try.underlying5 (by kernel_rfl) hf with ⟨hcs, _⟩ | ⟨x, l, c, zs, hcs, _, hl, hm, hz, _, hcell, hwz⟩
    · simp [Value.cells] at hcs
      obtain ⟨rfl, rfl, rfl⟩ := hcs
      exact ⟨[], .inl ⟨rfl, rfl, rfl, rfl⟩⟩
    · simp [Value.cells] at hcs
      obtain ⟨rfl, rfl, rfl⟩ := hcs
      exact ⟨zs, .inr ⟨_, rfl, hl, hm, by simpa using hz, hcell, hwz⟩⟩
  have y1 : len1 * 1 ≤ 140737488351232 := Go.Proofs.YtmffcjjodkggcaaW.PrintWords.sized_ints hsz (j := 1) (t := 22) rfl rfl Try.underlying22 Try.underlying5 (by kernel_rfl) (by kernel_rfl) h1
  obtain ⟨l1, rfl, hr1_, hm1, hw1, hc1⟩ := ReadsInt.ofRowC w1
  have hr1 := Kd.C_of_reads (d := (0 : Int)) (h1 := fun _ => rfl) hr1_
  obtain ⟨k, h⟩ := Fact.FnExactFeedMore a0_0 a0_1 l0_2 l1 ok0_0 ok0_2 hm1 y1 hw1
  clear hA0 hval0 hsz0 hsz
  refine (MFnExactFeedMore.laws_FnExactFeedMore.calls k a0_0 a0_1 A0_2 c0_2 l0_2 a1 cap1 l1 true W hr0_2 hc0_2 hr1 hc1 h).mono fun e W' ⟨he, bel0⟩ => ?_
  have bel : Below W.heap.size W W' := bel0
  subst he
  exact ⟨_, rfl, _, _, _, [], _, [], hW', trodAll_mk1 (shut_bool Try.underlying4 _), (trodAll_cons_mk (Below.trod laidOut (by kernel_rfl) (of_decide_eq_true (by kernel_rfl)) k0 bel lt0) (trodAll_cons_mk (Below.trod laidOut (by kernel_rfl) (of_decide_eq_true (by kernel_rfl)) k1 bel lt1) trodAll_mk0)), rfl, bel.frame _, fun h => by cases h⟩
theorem over : Rows.fnExactFeedMoreRow.holds Try.pinned (OpenSpec.ofChange Rows.fnExactFeedMoreSpec) :=
  OpenClaim.holds_of_wide 6 Try.f6 rfl rfl rfl rfl rfl rfl rfl ⟨rfl, rfl, rfl, rfl, rfl⟩ rfl rfl rfl rfl rfl (by kernel_rfl) Try.func6 (by kernel_rfl)
    (of_decide_eq_true (by kernel_rfl)) (by unfold Func.isWrapper; first | (rw [if_pos (by decide +kernel)]; kernel_rfl) | (rw [if_neg (by decide +kernel)]; exact ⟨rfl, rfl⟩))
    (fun os started H enc _ => lifted os started H enc)
theorem proved : Rows.FnExactFeedMoreSaid := over
#print axioms proved
end Go.Proofs.Ytmffcjjodkggcaa.fnExactFeedMore
namespace Go.Proofs.Ytmffcjjodkggcaa
/-- The row, under a short name, for the claim. -/
theorem fnExactFeedMore_holds : Rows.FnExactFeedMoreSaid := fnExactFeedMore.proved
end Go.Proofs.Ytmffcjjodkggcaa
