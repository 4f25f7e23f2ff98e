-- Written by this session's own program (wip/gen/myprint.py).
import Derived.Test.YtpknhndanbgkmaaRows
import Derived.Test.YtpknhndanbgkmaaMFnExactFlexSharesx9
import Derived.Test.YtpknhndanbgkmaaFactFnExactFlexShares
import Derived.WalkKit
import Derived.ProofKit
import Derived.OpenShut
import Derived.ShutString
import Derived.ChangeOld
import Derived.Below
import Derived.SizedLaws
import Derived.Test.YtpknhndanbgkmaaOpens
import Derived.Test.YtpknhndanbgkmaaWSized
namespace Go.Proofs.Ytpknhndanbgkmaa.fnExactFlexShares
open Go.ChangeShapes Go.WideShapes Go.ChangeAt Go.RowKit
open Go.ChangeMaps (open_string shut_string)
set_option linter.unusedVariables false
theorem own : ownKnob Try.prog.godebug = none := by kernel_rfl
theorem laidOut : laidOutB Try.prog = true := by kernel_rfl
def IsRow (k : IntKind) (w : World) (a : Option Addr) (len cap : Nat) (zs : List Int) : Prop :=
  (a = none ∧ len = 0 ∧ cap = 0 ∧ zs = []) ∨
  ∃ x, a = some x ∧ len ≤ cap ∧ cap ≤ maxLen ∧ zs.length = cap ∧ (∀ i, i < zs.length → w.cell? (x.add i) = some (.int k (zs.getD i 0))) ∧ ∀ n ∈ zs, (Lit.int k n).wf = true
open Go.Proofs.YtpknhndanbgkmaaW.PrintWords Go.Proofs.Ytpknhndanbgkmaa.MFnExactFlexShares
theorem opens100 : Opens.Opens Try.prog 100 k100 ok100 := by
  intro H enc w fuel cs x h
  obtain ⟨xs, n, _, _, hl, hx, hf⟩ := DataW.trod_struct Try.underlying100 h
  rw [show Try.prog.cellsOf 100 = 5 from by kernel_rfl] at hl
  replace hx : xs.length = 5 := hx
  obtain ⟨c0, t0, rfl, g0⟩ := Opens.cons_of hl
  obtain ⟨c1, t1, e1, g1⟩ := Opens.cons_of g0
  obtain ⟨c2, t2, e2, g2⟩ := Opens.cons_of g1
  obtain ⟨c3, t3, e3, g3⟩ := Opens.cons_of g2
  obtain ⟨c4, t4, e4, g4⟩ := Opens.cons_of g3
  have e5 := Opens.nil_of g4
  subst e5; subst e4; subst e3; subst e2; subst e1
  have z0 : DataW.trod enc Try.prog w 0 (fun _ => true) true n 3 [c0] = xs[0]? := by
    have z : DataW.trod enc Try.prog w 0 (fun _ => true) true n 3 (([c0, c1, c2, c3, c4].drop 0).take (Try.prog.cellsOf 3)) = xs[0]? := hf 0 _ rfl
    rw [show Try.prog.cellsOf 3 = 1 from by kernel_rfl] at z
    exact z
  rw [List.getElem?_eq_getElem (show 0 < xs.length by omega)] at z0
  obtain ⟨v0, k0, o0⟩ := (Opens.opens_int Try.underlying3) H enc w n _ _ z0
  have z1 : DataW.trod enc Try.prog w 0 (fun _ => true) true n 3 [c1] = xs[1]? := by
    have z : DataW.trod enc Try.prog w 0 (fun _ => true) true n 3 (([c0, c1, c2, c3, c4].drop 1).take (Try.prog.cellsOf 3)) = xs[1]? := hf 1 _ rfl
    rw [show Try.prog.cellsOf 3 = 1 from by kernel_rfl] at z
    exact z
  rw [List.getElem?_eq_getElem (show 1 < xs.length by omega)] at z1
  obtain ⟨v1, k1, o1⟩ := (Opens.opens_int Try.underlying3) H enc w n _ _ z1
  have z2 : DataW.trod enc Try.prog w 0 (fun _ => true) true n 3 [c2] = xs[2]? := by
    have z : DataW.trod enc Try.prog w 0 (fun _ => true) true n 3 (([c0, c1, c2, c3, c4].drop 2).take (Try.prog.cellsOf 3)) = xs[2]? := hf 2 _ rfl
    rw [show Try.prog.cellsOf 3 = 1 from by kernel_rfl] at z
    exact z
  rw [List.getElem?_eq_getElem (show 2 < xs.length by omega)] at z2
  obtain ⟨v2, k2, o2⟩ := (Opens.opens_int Try.underlying3) H enc w n _ _ z2
  have z3 : DataW.trod enc Try.prog w 0 (fun _ => true) true n 3 [c3] = xs[3]? := by
    have z : DataW.trod enc Try.prog w 0 (fun _ => true) true n 3 (([c0, c1, c2, c3, c4].drop 3).take (Try.prog.cellsOf 3)) = xs[3]? := hf 3 _ rfl
    rw [show Try.prog.cellsOf 3 = 1 from by kernel_rfl] at z
    exact z
  rw [List.getElem?_eq_getElem (show 3 < xs.length by omega)] at z3
  obtain ⟨v3, k3, o3⟩ := (Opens.opens_int Try.underlying3) H enc w n _ _ z3
  have z4 : DataW.trod enc Try.prog w 0 (fun _ => true) true n 3 [c4] = xs[4]? := by
    have z : DataW.trod enc Try.prog w 0 (fun _ => true) true n 3 (([c0, c1, c2, c3, c4].drop 4).take (Try.prog.cellsOf 3)) = xs[4]? := hf 4 _ rfl
    rw [show Try.prog.cellsOf 3 = 1 from by kernel_rfl] at z
    exact z
  rw [List.getElem?_eq_getElem (show 4 < xs.length by omega)] at z4
  obtain ⟨v4, k4, o4⟩ := (Opens.opens_int Try.underlying3) H enc w n _ _ z4
  exact ⟨⟨v0, v1, v2, v3, v4⟩, ⟨[c0], [c1, c2, c3, c4], rfl, k0, ⟨[c1], [c2, c3, c4], rfl, k1, ⟨[c2], [c3, c4], rfl, k2, ⟨[c3], [c4], rfl, k3, k4⟩⟩⟩⟩, ⟨o0, o1, o2, o3, o4⟩⟩
set_option maxRecDepth 100000 in
theorem lifted (os : Os) (started : os.Started) (H : Type) (enc : TypeId × Value → H) :
    ReturnsInHanded {} Try.checked os 7 .any (Rows.fnExactFlexSharesSpec.pre6 enc Try.prog Try.f7 Rows.fnExactFlexSharesRow.domain false) (Rows.fnExactFlexSharesSpec.post enc Try.prog Try.f7 false true false false) := by
  refine returnsInHanded_of_change_sized (C := Try.checked) own started (by kernel_rfl) Try.func7
    (ChangeSpec.witness6 (enc := enc) (C := Try.checked) false ⟨#[], #[.slice none 0 0, .int .i64 0], []⟩ 8 (by kernel_rfl) (by kernel_rfl) (by kernel_rfl) (by kernel_rfl)) ?_
  intro W base args ds gs before hval0 hW hcnd hsz0 _
  have hsz : (DataW.weightsEach Try.prog (Try.f7.params.toList ++ Rows.fnExactFlexSharesSpec.plain.varTypes Try.prog) (ds ++ gs)).all (· ≤ reachBytes) = true := hsz0
  have hval : ∀ (j : Nat) t v, Try.f7.params[j]? = some t → args[j]? = some v → Value.okWide Try.prog W .any base t v := hval0
  have hW' := hW
  obtain ⟨p, q, hA0, hV, rfl, hfz, hnd⟩ := hW
  have hA : DataW.TrodAll enc Try.prog W 0 (fun _ => true) true Try.f7.params.toList args.toList ds p := hA0
  rw [Try.params7] at hA hval hsz
  obtain ⟨v0, vs0, d0, ds0, p0, q0, hargs, rfl, rfl, h0, r0⟩ := trodAll_cons hA
  obtain ⟨v1, vs1, d1, ds1, p1, q1, rfl, rfl, rfl, h1, r1⟩ := trodAll_cons r0
  obtain ⟨rfl, rfl, rfl⟩ := trodAll_nil r1
  obtain rfl : args = #[v0, v1] := by cases args; simp_all
  obtain ⟨rfl, rfl⟩ := trodVars_none hV
  obtain ⟨A0, len0, c0, rfl⟩ := okWide_slice Try.underlying39 (hval 0 39 v0 rfl rfl)
  have k0 := h0
  have lt0 : ∀ x ∈ p0, x.block < W.heap.size := by obtain ⟨m, hm⟩ := k0; exact DataW.trod_lt m _ _ _ hm
  obtain ⟨l0, rfl, hc0, hr0, ok0⟩ : ∃ l : List (S100), len0 = l.length ∧ l.length ≤ c0 ∧ Kd.C k100 W A0 l.length l ∧ (l.length ≤ maxLen ∧ ∀ x ∈ l, ok100 x) := by
    obtain ⟨fuel, hf⟩ := h0
    obtain ⟨l, ⟨A, c, e, hl, hC⟩, ok⟩ := (Opens.opens_slice Try.underlying39 (by kernel_rfl) opens100) H enc W fuel _ _ hf
    simp [Value.cells] at e
    obtain ⟨rfl, rfl, rfl⟩ := e
    exact ⟨l, rfl, hl, hC, ok⟩
  obtain ⟨a1, rfl, rfl, rfl, w1⟩ := open_int Try.underlying3 (hval 1 3 v1 rfl rfl) h1
  obtain ⟨k, h⟩ := Fact.FnExactFlexShares l0 a1 ok0 w1
  clear hA0 hval0 hsz0 hsz
  refine (MFnExactFlexShares.laws_FnExactFlexShares.calls k A0 c0 l0 a1 true W hr0 hc0 h).mono fun e W' ⟨he, bel0⟩ => ?_
  have bel : Below W.heap.size W W' := bel0
  subst he
  exact ⟨_, rfl, _, _, _, [], _, [], hW', trodAll_mk1 (shut_bool Try.underlying4 _), (trodAll_cons_mk (Below.trod laidOut (by kernel_rfl) (of_decide_eq_true (by kernel_rfl)) k0 bel lt0) (trodAll_cons_mk (shut_int Try.underlying3 w1) trodAll_mk0)), rfl, bel.frame _, fun h => by cases h⟩
theorem over : Rows.fnExactFlexSharesRow.holds Try.pinned (OpenSpec.ofChange Rows.fnExactFlexSharesSpec) :=
  OpenClaim.holds_of_wide 7 Try.f7 rfl rfl rfl rfl rfl rfl rfl ⟨rfl, rfl, rfl, rfl, rfl⟩ rfl rfl rfl rfl rfl (by kernel_rfl) Try.func7 (by kernel_rfl)
    (of_decide_eq_true (by kernel_rfl)) (by unfold Func.isWrapper; first | (rw [if_pos (by decide +kernel)]; kernel_rfl) | (rw [if_neg (by decide +kernel)]; exact ⟨rfl, rfl⟩))
    (fun os started H enc _ => lifted os started H enc)
theorem proved : Rows.FnExactFlexSharesSaid := over
#print axioms proved
end Go.Proofs.Ytpknhndanbgkmaa.fnExactFlexShares
namespace Go.Proofs.Ytpknhndanbgkmaa
/-- The row, under a short name, for the claim. -/
theorem fnExactFlexShares_holds : Rows.FnExactFlexSharesSaid := fnExactFlexShares.proved
end Go.Proofs.Ytpknhndanbgkmaa
