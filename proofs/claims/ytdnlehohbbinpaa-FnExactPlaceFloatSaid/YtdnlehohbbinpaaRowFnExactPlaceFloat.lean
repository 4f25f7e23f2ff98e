-- Written by this session's own program (wip/gen/myprint.py).
import Derived.Test.YtdnlehohbbinpaaRows
import Derived.Test.YtdnlehohbbinpaaMFnExactPlaceFloatx6
import Derived.Test.YtdnlehohbbinpaaFactFnExactPlaceFloat
import Derived.WalkKit
import Derived.ProofKit
import Derived.OpenShut
import Derived.ShutString
import Derived.ChangeOld
import Derived.Below
import Derived.SizedLaws
import Derived.Test.YtdnlehohbbinpaaOpens
import Derived.Test.YtdnlehohbbinpaaWSized
namespace Go.Proofs.Ytdnlehohbbinpaa.fnExactPlaceFloat
open Go.ChangeShapes Go.WideShapes Go.ChangeAt Go.RowKit
open Go.ChangeMaps (open_string shut_string)
set_option linter.unusedVariables false
theorem own : ownKnob Try.prog.godebug = none := by kernel_rfl
theorem laidOut : laidOutB Try.prog = true := by kernel_rfl
def IsRow (k : IntKind) (w : World) (a : Option Addr) (len cap : Nat) (zs : List Int) : Prop :=
  (a = none ∧ len = 0 ∧ cap = 0 ∧ zs = []) ∨
  ∃ x, a = some x ∧ len ≤ cap ∧ cap ≤ maxLen ∧ zs.length = cap ∧ (∀ i, i < zs.length → w.cell? (x.add i) = some (.int k (zs.getD i 0))) ∧ ∀ n ∈ zs, (Lit.int k n).wf = true
open Go.Proofs.YtdnlehohbbinpaaW.PrintWords Go.Proofs.Ytdnlehohbbinpaa.MFnExactPlaceFloat
theorem opens61 : Opens.Opens Try.prog 61 k61 ok61 := by
  intro H enc w fuel cs x h
  obtain ⟨xs, n, _, _, hl, hx, hf⟩ := DataW.trod_struct Try.underlying61 h
  rw [show Try.prog.cellsOf 61 = 4 from by kernel_rfl] at hl
  replace hx : xs.length = 4 := hx
  obtain ⟨c0, t0, rfl, g0⟩ := Opens.cons_of hl
  obtain ⟨c1, t1, e1, g1⟩ := Opens.cons_of g0
  obtain ⟨c2, t2, e2, g2⟩ := Opens.cons_of g1
  obtain ⟨c3, t3, e3, g3⟩ := Opens.cons_of g2
  have e4 := Opens.nil_of g3
  subst e4; subst e3; subst e2; subst e1
  have z0 : DataW.trod enc Try.prog w 0 (fun _ => true) true n 3 [c0] = xs[0]? := by
    have z : DataW.trod enc Try.prog w 0 (fun _ => true) true n 3 (([c0, c1, c2, c3].drop 0).take (Try.prog.cellsOf 3)) = xs[0]? := hf 0 _ rfl
    rw [show Try.prog.cellsOf 3 = 1 from by kernel_rfl] at z
    exact z
  rw [List.getElem?_eq_getElem (show 0 < xs.length by omega)] at z0
  obtain ⟨v0, k0, o0⟩ := (Opens.opens_int Try.underlying3) H enc w n _ _ z0
  have z1 : DataW.trod enc Try.prog w 0 (fun _ => true) true n 3 [c1] = xs[1]? := by
    have z : DataW.trod enc Try.prog w 0 (fun _ => true) true n 3 (([c0, c1, c2, c3].drop 1).take (Try.prog.cellsOf 3)) = xs[1]? := hf 1 _ rfl
    rw [show Try.prog.cellsOf 3 = 1 from by kernel_rfl] at z
    exact z
  rw [List.getElem?_eq_getElem (show 1 < xs.length by omega)] at z1
  obtain ⟨v1, k1, o1⟩ := (Opens.opens_int Try.underlying3) H enc w n _ _ z1
  have z2 : DataW.trod enc Try.prog w 0 (fun _ => true) true n 3 [c2] = xs[2]? := by
    have z : DataW.trod enc Try.prog w 0 (fun _ => true) true n 3 (([c0, c1, c2, c3].drop 2).take (Try.prog.cellsOf 3)) = xs[2]? := hf 2 _ rfl
    rw [show Try.prog.cellsOf 3 = 1 from by kernel_rfl] at z
    exact z
  rw [List.getElem?_eq_getElem (show 2 < xs.length by omega)] at z2
  obtain ⟨v2, k2, o2⟩ := (Opens.opens_int Try.underlying3) H enc w n _ _ z2
  have z3 : DataW.trod enc Try.prog w 0 (fun _ => true) true n 3 [c3] = xs[3]? := by
    have z : DataW.trod enc Try.prog w 0 (fun _ => true) true n 3 (([c0, c1, c2, c3].drop 3).take (Try.prog.cellsOf 3)) = xs[3]? := hf 3 _ rfl
    rw [show Try.prog.cellsOf 3 = 1 from by kernel_rfl] at z
    exact z
  rw [List.getElem?_eq_getElem (show 3 < xs.length by omega)] at z3
  obtain ⟨v3, k3, o3⟩ := (Opens.opens_int Try.underlying3) H enc w n _ _ z3
  exact ⟨⟨v0, v1, v2, v3⟩, ⟨[c0], [c1, c2, c3], rfl, k0, ⟨[c1], [c2, c3], rfl, k1, ⟨[c2], [c3], rfl, k2, k3⟩⟩⟩, ⟨o0, o1, o2, o3⟩⟩
theorem opens63 : Opens.Opens Try.prog 63 k63 ok63 := by
  intro H enc w fuel cs x h
  obtain ⟨xs, n, _, _, hl, hx, hf⟩ := DataW.trod_struct Try.underlying63 h
  rw [show Try.prog.cellsOf 63 = 5 from by kernel_rfl] at hl
  replace hx : xs.length = 2 := hx
  obtain ⟨c0, t0, rfl, g0⟩ := Opens.cons_of hl
  obtain ⟨c1, t1, e1, g1⟩ := Opens.cons_of g0
  obtain ⟨c2, t2, e2, g2⟩ := Opens.cons_of g1
  obtain ⟨c3, t3, e3, g3⟩ := Opens.cons_of g2
  obtain ⟨c4, t4, e4, g4⟩ := Opens.cons_of g3
  have e5 := Opens.nil_of g4
  subst e5; subst e4; subst e3; subst e2; subst e1
  have z0 : DataW.trod enc Try.prog w 0 (fun _ => true) true n 61 [c0, c1, c2, c3] = xs[0]? := by
    have z : DataW.trod enc Try.prog w 0 (fun _ => true) true n 61 (([c0, c1, c2, c3, c4].drop 0).take (Try.prog.cellsOf 61)) = xs[0]? := hf 0 _ rfl
    rw [show Try.prog.cellsOf 61 = 4 from by kernel_rfl] at z
    exact z
  rw [List.getElem?_eq_getElem (show 0 < xs.length by omega)] at z0
  obtain ⟨v0, k0, o0⟩ := opens61 H enc w n _ _ z0
  have z1 : DataW.trod enc Try.prog w 0 (fun _ => true) true n 4 [c4] = xs[1]? := by
    have z : DataW.trod enc Try.prog w 0 (fun _ => true) true n 4 (([c0, c1, c2, c3, c4].drop 4).take (Try.prog.cellsOf 4)) = xs[1]? := hf 1 _ rfl
    rw [show Try.prog.cellsOf 4 = 1 from by kernel_rfl] at z
    exact z
  rw [List.getElem?_eq_getElem (show 1 < xs.length by omega)] at z1
  obtain ⟨v1, k1, o1⟩ := (Opens.opens_bool Try.underlying4) H enc w n _ _ z1
  exact ⟨⟨v0, v1⟩, ⟨[c0, c1, c2, c3], [c4], rfl, k0, k1⟩, o0⟩
set_option maxRecDepth 100000 in
theorem lifted (os : Os) (started : os.Started) (H : Type) (enc : TypeId × Value → H) :
    ReturnsInHanded {} Try.checked os 14 .any (Rows.fnExactPlaceFloatSpec.pre6 enc Try.prog Try.f14 Rows.fnExactPlaceFloatRow.domain false) (Rows.fnExactPlaceFloatSpec.post enc Try.prog Try.f14 false true false false) := by
  refine returnsInHanded_of_change_sized (C := Try.checked) own started (by kernel_rfl) Try.func14
    (ChangeSpec.witness6 (enc := enc) (C := Try.checked) false ⟨#[], #[.slice none 0 0, .int .i64 0, .int .i64 0, .int .i64 0, .int .i64 0, .int .i64 0, .bool false], []⟩ 8 (by kernel_rfl) (by kernel_rfl) (by kernel_rfl) (by kernel_rfl)) ?_
  intro W base args ds gs before hval0 hW hcnd hsz0 _
  have hsz : (DataW.weightsEach Try.prog (Try.f14.params.toList ++ Rows.fnExactPlaceFloatSpec.plain.varTypes Try.prog) (ds ++ gs)).all (· ≤ reachBytes) = true := hsz0
  have hval : ∀ (j : Nat) t v, Try.f14.params[j]? = some t → args[j]? = some v → Value.okWide Try.prog W .any base t v := hval0
  have hW' := hW
  obtain ⟨p, q, hA0, hV, rfl, hfz, hnd⟩ := hW
  have hA : DataW.TrodAll enc Try.prog W 0 (fun _ => true) true Try.f14.params.toList args.toList ds p := hA0
  rw [Try.params14] at hA hval hsz
  obtain ⟨v0, vs0, d0, ds0, p0, q0, hargs, rfl, rfl, h0, r0⟩ := trodAll_cons hA
  obtain ⟨v1, vs1, d1, ds1, p1, q1, rfl, rfl, rfl, h1, r1⟩ := trodAll_cons r0
  obtain ⟨v2, vs2, d2, ds2, p2, q2, rfl, rfl, rfl, h2, r2⟩ := trodAll_cons r1
  obtain ⟨v3, vs3, d3, ds3, p3, q3, rfl, rfl, rfl, h3, r3⟩ := trodAll_cons r2
  obtain ⟨v4, vs4, d4, ds4, p4, q4, rfl, rfl, rfl, h4, r4⟩ := trodAll_cons r3
  obtain ⟨v5, vs5, d5, ds5, p5, q5, rfl, rfl, rfl, h5, r5⟩ := trodAll_cons r4
  obtain ⟨v6, vs6, d6, ds6, p6, q6, rfl, rfl, rfl, h6, r6⟩ := trodAll_cons r5
  obtain ⟨rfl, rfl, rfl⟩ := trodAll_nil r6
  obtain rfl : args = #[v0, v1, v2, v3, v4, v5, v6] := by cases args; simp_all
  obtain ⟨rfl, rfl⟩ := trodVars_none hV
  obtain ⟨A0, len0, c0, rfl⟩ := okWide_slice Try.underlying32 (hval 0 32 v0 rfl rfl)
  have k0 := h0
  have lt0 : ∀ x ∈ p0, x.block < W.heap.size := by obtain ⟨m, hm⟩ := k0; exact DataW.trod_lt m _ _ _ hm
  obtain ⟨l0, rfl, hc0, hr0, ok0⟩ : ∃ l : List (S63), len0 = l.length ∧ l.length ≤ c0 ∧ Kd.C k63 W A0 l.length l ∧ (l.length ≤ maxLen ∧ ∀ x ∈ l, ok63 x) := by
    obtain ⟨fuel, hf⟩ := h0
    obtain ⟨l, ⟨A, c, e, hl, hC⟩, ok⟩ := (Opens.opens_slice Try.underlying32 (by kernel_rfl) opens63) H enc W fuel _ _ hf
    simp [Value.cells] at e
    obtain ⟨rfl, rfl, rfl⟩ := e
    exact ⟨l, rfl, hl, hC, ok⟩
  obtain ⟨a1, rfl, rfl, rfl, w1⟩ := open_int Try.underlying3 (hval 1 3 v1 rfl rfl) h1
  obtain ⟨a2, rfl, rfl, rfl, w2⟩ := open_int Try.underlying3 (hval 2 3 v2 rfl rfl) h2
  obtain ⟨a3, rfl, rfl, rfl, w3⟩ := open_int Try.underlying3 (hval 3 3 v3 rfl rfl) h3
  obtain ⟨a4, rfl, rfl, rfl, w4⟩ := open_int Try.underlying3 (hval 4 3 v4 rfl rfl) h4
  obtain ⟨a5, rfl, rfl, rfl, w5⟩ := open_int Try.underlying3 (hval 5 3 v5 rfl rfl) h5
  obtain ⟨a6, rfl, rfl, rfl⟩ := open_bool Try.underlying4 (hval 6 4 v6 rfl rfl) h6
  obtain ⟨k, h⟩ := Fact.FnExactPlaceFloat l0 a1 a2 a3 a4 a5 a6 ok0 w1 w2 w3 w4 w5
  clear hA0 hval0 hsz0 hsz
  refine (MFnExactPlaceFloat.laws_FnExactPlaceFloat.calls k A0 c0 l0 a1 a2 a3 a4 a5 a6 true W hr0 hc0 h).mono fun e W' ⟨he, bel0⟩ => ?_
  have bel : Below W.heap.size W W' := bel0
  subst he
  exact ⟨_, rfl, _, _, _, [], _, [], hW', trodAll_mk1 (shut_bool Try.underlying4 _), (trodAll_cons_mk (Below.trod laidOut (by kernel_rfl) (of_decide_eq_true (by kernel_rfl)) k0 bel lt0) (trodAll_cons_mk (shut_int Try.underlying3 w1) (trodAll_cons_mk (shut_int Try.underlying3 w2) (trodAll_cons_mk (shut_int Try.underlying3 w3) (trodAll_cons_mk (shut_int Try.underlying3 w4) (trodAll_cons_mk (shut_int Try.underlying3 w5) (trodAll_cons_mk (shut_bool Try.underlying4 _) trodAll_mk0))))))), rfl, bel.frame _, fun h => by cases h⟩
theorem over : Rows.fnExactPlaceFloatRow.holds Try.pinned (OpenSpec.ofChange Rows.fnExactPlaceFloatSpec) :=
  OpenClaim.holds_of_wide 14 Try.f14 rfl rfl rfl rfl rfl rfl rfl ⟨rfl, rfl, rfl, rfl, rfl⟩ rfl rfl rfl rfl rfl (by kernel_rfl) Try.func14 (by kernel_rfl)
    (of_decide_eq_true (by kernel_rfl)) (by unfold Func.isWrapper; first | (rw [if_pos (by decide +kernel)]; kernel_rfl) | (rw [if_neg (by decide +kernel)]; exact ⟨rfl, rfl⟩))
    (fun os started H enc _ => lifted os started H enc)
theorem proved : Rows.FnExactPlaceFloatSaid := over
#print axioms proved
end Go.Proofs.Ytdnlehohbbinpaa.fnExactPlaceFloat
namespace Go.Proofs.Ytdnlehohbbinpaa
/-- The row, under a short name, for the claim. -/
theorem fnExactPlaceFloat_holds : Rows.FnExactPlaceFloatSaid := fnExactPlaceFloat.proved
end Go.Proofs.Ytdnlehohbbinpaa
