/-
  No cell of these rows narrows 'for every input' (looked for: loops, veiled, ifaces, maps, wideKeys, modest, calm, conditions, laid).
  DERIVED. THE GIVEN ROWS OF THIS SEAT. 12 by the template 'for every input the law returns true; each argument reads behind the call as it read before'; 0 by the template 'total and deterministic' (their statements: YtdnlehohbbinpaaTotals.lean).
  GIVEN WITH THE SEED: the statements are not yours to turn. If you find one false, say at which input.
  Laid BY PROGRAM, IN A SANDBOX (cutbox-rows.mjs): the forced cells as the released guide's own fill.sh prints them over the translation 3142a5f2d76b2bd6… (all of the seat's roots in one cut). By AI agents, Wed Nov 11 2026. No macro, syntax, notation, axiom, sorry.
-/
import Derived.Test.YtdnlehohbbinpaaChecked
import GoSem.Claim
import GoSem.ClaimJoined
import GoSem.ClaimMapViews
import Derived.JoinedTies
import Derived.KernelRfl
namespace Go.Proofs.Ytdnlehohbbinpaa
/- THE CELL 'sum', in the pinned program and in every row, IS THE sha256 OF THE DUMP (.gsa) THAT YtdnlehohbbinpaaProg.lean LOADS. Nothing in Lean hashes anything: it is a label: what it is worth is what the hold of that sum in a sandbox is worth. -/
noncomputable def Try.pinned : Pinned := { name := "ytdnlehohbbinpaa", sum := "3142a5f2d76b2bd64f756e3d680cb55c4d488432ad24503e2ba31716e3d4707e", checked := Try.checked }
namespace Rows
def none {H : Type} : Left H := { results := [], args := [] }

/-- 'laws.FnExactMirror': WHATEVER THE INPUT: true; the input reads as it did. -/
def fnExactMirrorSpec : ChangeSpec := { name := "fnExactMirror", fn := fun _ => fun
  | [d] => { results := [.lit (.bool true)], args := [d] }
  | _ => none }
def fnExactMirrorRow : OpenClaim := { program := "ytdnlehohbbinpaa", sum := "3142a5f2d76b2bd64f756e3d680cb55c4d488432ad24503e2ba31716e3d4707e", func := "loop.example/g00011/laws.FnExactMirror", spec := "fnExactMirror", apart := false }
def FnExactMirrorSaid : Prop := fnExactMirrorRow.holds Try.pinned (OpenSpec.ofChange fnExactMirrorSpec)

/-- ITS FALSE NEIGHBOUR: 'it returns false'. Refute it at one input. -/
def fnExactMirrorWrong : ChangeSpec := { name := "fnExactMirror", fn := fun _ => fun
  | [d] => { results := [.lit (.bool false)], args := [d] }
  | _ => none }
def FnExactMirrorWrongFalsely : Prop := fnExactMirrorRow.holds Try.pinned (OpenSpec.ofChange fnExactMirrorWrong)

/-- 'laws.FnExactMargin': WHATEVER THE INPUT: true; the input reads as it did. -/
def fnExactMarginSpec : ChangeSpec := { name := "fnExactMargin", fn := fun _ => fun
  | [d] => { results := [.lit (.bool true)], args := [d] }
  | _ => none }
def fnExactMarginRow : OpenClaim := { program := "ytdnlehohbbinpaa", sum := "3142a5f2d76b2bd64f756e3d680cb55c4d488432ad24503e2ba31716e3d4707e", func := "loop.example/g00011/laws.FnExactMargin", spec := "fnExactMargin", apart := false }
def FnExactMarginSaid : Prop := fnExactMarginRow.holds Try.pinned (OpenSpec.ofChange fnExactMarginSpec)

/-- ITS FALSE NEIGHBOUR: 'it returns false'. Refute it at one input. -/
def fnExactMarginWrong : ChangeSpec := { name := "fnExactMargin", fn := fun _ => fun
  | [d] => { results := [.lit (.bool false)], args := [d] }
  | _ => none }
def FnExactMarginWrongFalsely : Prop := fnExactMarginRow.holds Try.pinned (OpenSpec.ofChange fnExactMarginWrong)

/-- 'laws.FnExactCollapse': WHATEVER THE INPUT: true; the input reads as it did. -/
def fnExactCollapseSpec : ChangeSpec := { name := "fnExactCollapse", fn := fun _ => fun
  | [d1, d2, d3] => { results := [.lit (.bool true)], args := [d1, d2, d3] }
  | _ => none }
def fnExactCollapseRow : OpenClaim := { program := "ytdnlehohbbinpaa", sum := "3142a5f2d76b2bd64f756e3d680cb55c4d488432ad24503e2ba31716e3d4707e", func := "loop.example/g00011/laws.FnExactCollapse", spec := "fnExactCollapse", apart := false }
def FnExactCollapseSaid : Prop := fnExactCollapseRow.holds Try.pinned (OpenSpec.ofChange fnExactCollapseSpec)

/-- ITS FALSE NEIGHBOUR: 'it returns false'. Refute it at one input. -/
def fnExactCollapseWrong : ChangeSpec := { name := "fnExactCollapse", fn := fun _ => fun
  | [d1, d2, d3] => { results := [.lit (.bool false)], args := [d1, d2, d3] }
  | _ => none }
def FnExactCollapseWrongFalsely : Prop := fnExactCollapseRow.holds Try.pinned (OpenSpec.ofChange fnExactCollapseWrong)

/-- 'laws.FnExactDirClass': WHATEVER THE INPUT: true; the input reads as it did. -/
def fnExactDirClassSpec : ChangeSpec := { name := "fnExactDirClass", fn := fun _ => fun
  | [d] => { results := [.lit (.bool true)], args := [d] }
  | _ => none }
def fnExactDirClassRow : OpenClaim := { program := "ytdnlehohbbinpaa", sum := "3142a5f2d76b2bd64f756e3d680cb55c4d488432ad24503e2ba31716e3d4707e", func := "loop.example/g00011/laws.FnExactDirClass", spec := "fnExactDirClass", unfollowed := true, recurses := true, apart := false }
def FnExactDirClassSaid : Prop := fnExactDirClassRow.holds Try.pinned (OpenSpec.ofChange fnExactDirClassSpec)

/-- ITS FALSE NEIGHBOUR: 'it returns false'. Refute it at one input. -/
def fnExactDirClassWrong : ChangeSpec := { name := "fnExactDirClass", fn := fun _ => fun
  | [d] => { results := [.lit (.bool false)], args := [d] }
  | _ => none }
def FnExactDirClassWrongFalsely : Prop := fnExactDirClassRow.holds Try.pinned (OpenSpec.ofChange fnExactDirClassWrong)

/-- 'laws.FnExactBreakClass': WHATEVER THE INPUT: true; the input reads as it did. -/
def fnExactBreakClassSpec : ChangeSpec := { name := "fnExactBreakClass", fn := fun _ => fun
  | [d] => { results := [.lit (.bool true)], args := [d] }
  | _ => none }
def fnExactBreakClassRow : OpenClaim := { program := "ytdnlehohbbinpaa", sum := "3142a5f2d76b2bd64f756e3d680cb55c4d488432ad24503e2ba31716e3d4707e", func := "loop.example/g00011/laws.FnExactBreakClass", spec := "fnExactBreakClass", inPlace := ["internal/bytealg.IndexByteString"], apart := false }
def FnExactBreakClassSaid : Prop := fnExactBreakClassRow.holds Try.pinned (OpenSpec.ofChange fnExactBreakClassSpec)

/-- ITS FALSE NEIGHBOUR: 'it returns false'. Refute it at one input. -/
def fnExactBreakClassWrong : ChangeSpec := { name := "fnExactBreakClass", fn := fun _ => fun
  | [d] => { results := [.lit (.bool false)], args := [d] }
  | _ => none }
def FnExactBreakClassWrongFalsely : Prop := fnExactBreakClassRow.holds Try.pinned (OpenSpec.ofChange fnExactBreakClassWrong)

/-- 'laws.FnExactFloatsOk': WHATEVER THE INPUT: true; the input reads as it did. -/
def fnExactFloatsOkSpec : ChangeSpec := { name := "fnExactFloatsOk", fn := fun _ => fun
  | [d] => { results := [.lit (.bool true)], args := [d] }
  | _ => none }
def fnExactFloatsOkRow : OpenClaim := { program := "ytdnlehohbbinpaa", sum := "3142a5f2d76b2bd64f756e3d680cb55c4d488432ad24503e2ba31716e3d4707e", func := "loop.example/g00011/laws.FnExactFloatsOk", spec := "fnExactFloatsOk", apart := false }
def FnExactFloatsOkSaid : Prop := fnExactFloatsOkRow.holds Try.pinned (OpenSpec.ofChange fnExactFloatsOkSpec)

/-- ITS FALSE NEIGHBOUR: 'it returns false'. Refute it at one input. -/
def fnExactFloatsOkWrong : ChangeSpec := { name := "fnExactFloatsOk", fn := fun _ => fun
  | [d] => { results := [.lit (.bool false)], args := [d] }
  | _ => none }
def FnExactFloatsOkWrongFalsely : Prop := fnExactFloatsOkRow.holds Try.pinned (OpenSpec.ofChange fnExactFloatsOkWrong)

/-- 'laws.FnExactBaseLevel': WHATEVER THE INPUT: true; the input reads as it did. -/
def fnExactBaseLevelSpec : ChangeSpec := { name := "fnExactBaseLevel", fn := fun _ => fun
  | [d] => { results := [.lit (.bool true)], args := [d] }
  | _ => none }
def fnExactBaseLevelRow : OpenClaim := { program := "ytdnlehohbbinpaa", sum := "3142a5f2d76b2bd64f756e3d680cb55c4d488432ad24503e2ba31716e3d4707e", func := "loop.example/g00011/laws.FnExactBaseLevel", spec := "fnExactBaseLevel", unfollowed := true, recurses := true, apart := false }
def FnExactBaseLevelSaid : Prop := fnExactBaseLevelRow.holds Try.pinned (OpenSpec.ofChange fnExactBaseLevelSpec)

/-- ITS FALSE NEIGHBOUR: 'it returns false'. Refute it at one input. -/
def fnExactBaseLevelWrong : ChangeSpec := { name := "fnExactBaseLevel", fn := fun _ => fun
  | [d] => { results := [.lit (.bool false)], args := [d] }
  | _ => none }
def FnExactBaseLevelWrongFalsely : Prop := fnExactBaseLevelRow.holds Try.pinned (OpenSpec.ofChange fnExactBaseLevelWrong)

/-- 'laws.FnExactVisual': WHATEVER THE INPUT: true; the input reads as it did. -/
def fnExactVisualSpec : ChangeSpec := { name := "fnExactVisual", fn := fun _ => fun
  | [d] => { results := [.lit (.bool true)], args := [d] }
  | _ => none }
def fnExactVisualRow : OpenClaim := { program := "ytdnlehohbbinpaa", sum := "3142a5f2d76b2bd64f756e3d680cb55c4d488432ad24503e2ba31716e3d4707e", func := "loop.example/g00011/laws.FnExactVisual", spec := "fnExactVisual", unfollowed := true, recurses := true, apart := false }
def FnExactVisualSaid : Prop := fnExactVisualRow.holds Try.pinned (OpenSpec.ofChange fnExactVisualSpec)

/-- ITS FALSE NEIGHBOUR: 'it returns false'. Refute it at one input. -/
def fnExactVisualWrong : ChangeSpec := { name := "fnExactVisual", fn := fun _ => fun
  | [d] => { results := [.lit (.bool false)], args := [d] }
  | _ => none }
def FnExactVisualWrongFalsely : Prop := fnExactVisualRow.holds Try.pinned (OpenSpec.ofChange fnExactVisualWrong)

/-- 'laws.FnExactClearTo': WHATEVER THE INPUT: true; the input reads as it did. -/
def fnExactClearToSpec : ChangeSpec := { name := "fnExactClearTo", fn := fun _ => fun
  | [d1, d2, d3, d4] => { results := [.lit (.bool true)], args := [d1, d2, d3, d4] }
  | _ => none }
def fnExactClearToRow : OpenClaim := { program := "ytdnlehohbbinpaa", sum := "3142a5f2d76b2bd64f756e3d680cb55c4d488432ad24503e2ba31716e3d4707e", func := "loop.example/g00011/laws.FnExactClearTo", spec := "fnExactClearTo", apart := false }
def FnExactClearToSaid : Prop := fnExactClearToRow.holds Try.pinned (OpenSpec.ofChange fnExactClearToSpec)

/-- ITS FALSE NEIGHBOUR: 'it returns false'. Refute it at one input. -/
def fnExactClearToWrong : ChangeSpec := { name := "fnExactClearTo", fn := fun _ => fun
  | [d1, d2, d3, d4] => { results := [.lit (.bool false)], args := [d1, d2, d3, d4] }
  | _ => none }
def FnExactClearToWrongFalsely : Prop := fnExactClearToRow.holds Try.pinned (OpenSpec.ofChange fnExactClearToWrong)

/-- 'laws.FnExactMulDiv': WHATEVER THE INPUT: true; the input reads as it did. -/
def fnExactMulDivSpec : ChangeSpec := { name := "fnExactMulDiv", fn := fun _ => fun
  | [d1, d2, d3] => { results := [.lit (.bool true)], args := [d1, d2, d3] }
  | _ => none }
def fnExactMulDivRow : OpenClaim := { program := "ytdnlehohbbinpaa", sum := "3142a5f2d76b2bd64f756e3d680cb55c4d488432ad24503e2ba31716e3d4707e", func := "loop.example/g00011/laws.FnExactMulDiv", spec := "fnExactMulDiv", named := ["math/bits.divideError", "math/bits.overflowError"], apart := false }
def FnExactMulDivSaid : Prop := fnExactMulDivRow.holds Try.pinned (OpenSpec.ofChange fnExactMulDivSpec)

/-- ITS FALSE NEIGHBOUR: 'it returns false'. Refute it at one input. -/
def fnExactMulDivWrong : ChangeSpec := { name := "fnExactMulDiv", fn := fun _ => fun
  | [d1, d2, d3] => { results := [.lit (.bool false)], args := [d1, d2, d3] }
  | _ => none }
def FnExactMulDivWrongFalsely : Prop := fnExactMulDivRow.holds Try.pinned (OpenSpec.ofChange fnExactMulDivWrong)

/-- 'laws.FnExactRoom': WHATEVER THE INPUT: true; the input reads as it did. -/
def fnExactRoomSpec : ChangeSpec := { name := "fnExactRoom", fn := fun _ => fun
  | [d1, d2, d3, d4, d5] => { results := [.lit (.bool true)], args := [d1, d2, d3, d4, d5] }
  | _ => none }
def fnExactRoomRow : OpenClaim := { program := "ytdnlehohbbinpaa", sum := "3142a5f2d76b2bd64f756e3d680cb55c4d488432ad24503e2ba31716e3d4707e", func := "loop.example/g00011/laws.FnExactRoom", spec := "fnExactRoom", apart := false }
def FnExactRoomSaid : Prop := fnExactRoomRow.holds Try.pinned (OpenSpec.ofChange fnExactRoomSpec)

/-- ITS FALSE NEIGHBOUR: 'it returns false'. Refute it at one input. -/
def fnExactRoomWrong : ChangeSpec := { name := "fnExactRoom", fn := fun _ => fun
  | [d1, d2, d3, d4, d5] => { results := [.lit (.bool false)], args := [d1, d2, d3, d4, d5] }
  | _ => none }
def FnExactRoomWrongFalsely : Prop := fnExactRoomRow.holds Try.pinned (OpenSpec.ofChange fnExactRoomWrong)

/-- 'laws.FnExactPlaceFloat': WHATEVER THE INPUT: true; the input reads as it did. -/
def fnExactPlaceFloatSpec : ChangeSpec := { name := "fnExactPlaceFloat", fn := fun _ => fun
  | [d1, d2, d3, d4, d5, d6, d7] => { results := [.lit (.bool true)], args := [d1, d2, d3, d4, d5, d6, d7] }
  | _ => none }
def fnExactPlaceFloatRow : OpenClaim := { program := "ytdnlehohbbinpaa", sum := "3142a5f2d76b2bd64f756e3d680cb55c4d488432ad24503e2ba31716e3d4707e", func := "loop.example/g00011/laws.FnExactPlaceFloat", spec := "fnExactPlaceFloat", apart := false }
def FnExactPlaceFloatSaid : Prop := fnExactPlaceFloatRow.holds Try.pinned (OpenSpec.ofChange fnExactPlaceFloatSpec)

/-- ITS FALSE NEIGHBOUR: 'it returns false'. Refute it at one input. -/
def fnExactPlaceFloatWrong : ChangeSpec := { name := "fnExactPlaceFloat", fn := fun _ => fun
  | [d1, d2, d3, d4, d5, d6, d7] => { results := [.lit (.bool false)], args := [d1, d2, d3, d4, d5, d6, d7] }
  | _ => none }
def FnExactPlaceFloatWrongFalsely : Prop := fnExactPlaceFloatRow.holds Try.pinned (OpenSpec.ofChange fnExactPlaceFloatWrong)

/- THE SECOND FORM. 'bulk': how many values and letters a reading holds, each counted each time it is reached (what is shared counts as often as it is met; a slice's spare places count too). A statement '..UptoSaid' is the law's where the arguments, and the package variables that the reading takes, are together of bulk at most 1048576: NARROWER than '..Said'. Prove '..Said' where nothing that the law and all that it calls make is longer than what came in: it says more and counts as full. Else prove '..UptoSaid'. A law counts once. -/
mutual
def uptoBulk {H : Type} : DataW H → Nat
  | .lit (.string bytes) => bytes.length + 1
  | .lit _ => 1
  | .nil => 1
  | .ptr d => uptoBulk d + 1
  | .slice elems spare => uptoBulkAll elems + uptoBulkAll spare + 1
  | .agg parts => uptoBulkAll parts + 1
  | .iface _ d => uptoBulk d + 1
  | .map entries => uptoBulkEntries entries + 1
  | .held _ => 1
def uptoBulkAll {H : Type} : List (DataW H) → Nat
  | [] => 0
  | d :: r => uptoBulk d + uptoBulkAll r
def uptoBulkEntries {H : Type} : List (Lit × DataW H) → Nat
  | [] => 0
  | x :: r => uptoBulkEntry x + uptoBulkEntries r
def uptoBulkEntry {H : Type} : Lit × DataW H → Nat
  | (.string bytes, d) => bytes.length + uptoBulk d + 1
  | (_, d) => uptoBulk d + 1
 end
def uptoSmall : (H : Type) → List (DataW H) → Bool := fun _ ds => decide (uptoBulkAll ds ≤ 1048576)
def OpenSpec.upto (s : _root_.Go.ChangeSpec) : _root_.Go.OpenSpec := { _root_.Go.OpenSpec.ofChange s with cond := some uptoSmall }

/-- 'laws.FnExactMirror', WHERE WHAT IT READS IS OF BULK AT MOST 1048576: true; the input reads as it did. -/
def fnExactMirrorUptoRow : OpenClaim := { program := "ytdnlehohbbinpaa", sum := "3142a5f2d76b2bd64f756e3d680cb55c4d488432ad24503e2ba31716e3d4707e", func := "loop.example/g00011/laws.FnExactMirror", spec := "fnExactMirror", apart := false, narrowed := true }
def FnExactMirrorUptoSaid : Prop := fnExactMirrorUptoRow.holds Try.pinned (OpenSpec.upto fnExactMirrorSpec)

/-- 'laws.FnExactMargin', WHERE WHAT IT READS IS OF BULK AT MOST 1048576: true; the input reads as it did. -/
def fnExactMarginUptoRow : OpenClaim := { program := "ytdnlehohbbinpaa", sum := "3142a5f2d76b2bd64f756e3d680cb55c4d488432ad24503e2ba31716e3d4707e", func := "loop.example/g00011/laws.FnExactMargin", spec := "fnExactMargin", apart := false, narrowed := true }
def FnExactMarginUptoSaid : Prop := fnExactMarginUptoRow.holds Try.pinned (OpenSpec.upto fnExactMarginSpec)

/-- 'laws.FnExactCollapse', WHERE WHAT IT READS IS OF BULK AT MOST 1048576: true; the input reads as it did. -/
def fnExactCollapseUptoRow : OpenClaim := { program := "ytdnlehohbbinpaa", sum := "3142a5f2d76b2bd64f756e3d680cb55c4d488432ad24503e2ba31716e3d4707e", func := "loop.example/g00011/laws.FnExactCollapse", spec := "fnExactCollapse", apart := false, narrowed := true }
def FnExactCollapseUptoSaid : Prop := fnExactCollapseUptoRow.holds Try.pinned (OpenSpec.upto fnExactCollapseSpec)

/-- 'laws.FnExactDirClass', WHERE WHAT IT READS IS OF BULK AT MOST 1048576: true; the input reads as it did. -/
def fnExactDirClassUptoRow : OpenClaim := { program := "ytdnlehohbbinpaa", sum := "3142a5f2d76b2bd64f756e3d680cb55c4d488432ad24503e2ba31716e3d4707e", func := "loop.example/g00011/laws.FnExactDirClass", spec := "fnExactDirClass", unfollowed := true, recurses := true, apart := false, narrowed := true }
def FnExactDirClassUptoSaid : Prop := fnExactDirClassUptoRow.holds Try.pinned (OpenSpec.upto fnExactDirClassSpec)

/-- 'laws.FnExactBreakClass', WHERE WHAT IT READS IS OF BULK AT MOST 1048576: true; the input reads as it did. -/
def fnExactBreakClassUptoRow : OpenClaim := { program := "ytdnlehohbbinpaa", sum := "3142a5f2d76b2bd64f756e3d680cb55c4d488432ad24503e2ba31716e3d4707e", func := "loop.example/g00011/laws.FnExactBreakClass", spec := "fnExactBreakClass", inPlace := ["internal/bytealg.IndexByteString"], apart := false, narrowed := true }
def FnExactBreakClassUptoSaid : Prop := fnExactBreakClassUptoRow.holds Try.pinned (OpenSpec.upto fnExactBreakClassSpec)

/-- 'laws.FnExactFloatsOk', WHERE WHAT IT READS IS OF BULK AT MOST 1048576: true; the input reads as it did. -/
def fnExactFloatsOkUptoRow : OpenClaim := { program := "ytdnlehohbbinpaa", sum := "3142a5f2d76b2bd64f756e3d680cb55c4d488432ad24503e2ba31716e3d4707e", func := "loop.example/g00011/laws.FnExactFloatsOk", spec := "fnExactFloatsOk", apart := false, narrowed := true }
def FnExactFloatsOkUptoSaid : Prop := fnExactFloatsOkUptoRow.holds Try.pinned (OpenSpec.upto fnExactFloatsOkSpec)

/-- 'laws.FnExactBaseLevel', WHERE WHAT IT READS IS OF BULK AT MOST 1048576: true; the input reads as it did. -/
def fnExactBaseLevelUptoRow : OpenClaim := { program := "ytdnlehohbbinpaa", sum := "3142a5f2d76b2bd64f756e3d680cb55c4d488432ad24503e2ba31716e3d4707e", func := "loop.example/g00011/laws.FnExactBaseLevel", spec := "fnExactBaseLevel", unfollowed := true, recurses := true, apart := false, narrowed := true }
def FnExactBaseLevelUptoSaid : Prop := fnExactBaseLevelUptoRow.holds Try.pinned (OpenSpec.upto fnExactBaseLevelSpec)

/-- 'laws.FnExactVisual', WHERE WHAT IT READS IS OF BULK AT MOST 1048576: true; the input reads as it did. -/
def fnExactVisualUptoRow : OpenClaim := { program := "ytdnlehohbbinpaa", sum := "3142a5f2d76b2bd64f756e3d680cb55c4d488432ad24503e2ba31716e3d4707e", func := "loop.example/g00011/laws.FnExactVisual", spec := "fnExactVisual", unfollowed := true, recurses := true, apart := false, narrowed := true }
def FnExactVisualUptoSaid : Prop := fnExactVisualUptoRow.holds Try.pinned (OpenSpec.upto fnExactVisualSpec)

/-- 'laws.FnExactClearTo', WHERE WHAT IT READS IS OF BULK AT MOST 1048576: true; the input reads as it did. -/
def fnExactClearToUptoRow : OpenClaim := { program := "ytdnlehohbbinpaa", sum := "3142a5f2d76b2bd64f756e3d680cb55c4d488432ad24503e2ba31716e3d4707e", func := "loop.example/g00011/laws.FnExactClearTo", spec := "fnExactClearTo", apart := false, narrowed := true }
def FnExactClearToUptoSaid : Prop := fnExactClearToUptoRow.holds Try.pinned (OpenSpec.upto fnExactClearToSpec)

/-- 'laws.FnExactMulDiv', WHERE WHAT IT READS IS OF BULK AT MOST 1048576: true; the input reads as it did. -/
def fnExactMulDivUptoRow : OpenClaim := { program := "ytdnlehohbbinpaa", sum := "3142a5f2d76b2bd64f756e3d680cb55c4d488432ad24503e2ba31716e3d4707e", func := "loop.example/g00011/laws.FnExactMulDiv", spec := "fnExactMulDiv", named := ["math/bits.divideError", "math/bits.overflowError"], apart := false, narrowed := true }
def FnExactMulDivUptoSaid : Prop := fnExactMulDivUptoRow.holds Try.pinned (OpenSpec.upto fnExactMulDivSpec)

/-- 'laws.FnExactRoom', WHERE WHAT IT READS IS OF BULK AT MOST 1048576: true; the input reads as it did. -/
def fnExactRoomUptoRow : OpenClaim := { program := "ytdnlehohbbinpaa", sum := "3142a5f2d76b2bd64f756e3d680cb55c4d488432ad24503e2ba31716e3d4707e", func := "loop.example/g00011/laws.FnExactRoom", spec := "fnExactRoom", apart := false, narrowed := true }
def FnExactRoomUptoSaid : Prop := fnExactRoomUptoRow.holds Try.pinned (OpenSpec.upto fnExactRoomSpec)

/-- 'laws.FnExactPlaceFloat', WHERE WHAT IT READS IS OF BULK AT MOST 1048576: true; the input reads as it did. -/
def fnExactPlaceFloatUptoRow : OpenClaim := { program := "ytdnlehohbbinpaa", sum := "3142a5f2d76b2bd64f756e3d680cb55c4d488432ad24503e2ba31716e3d4707e", func := "loop.example/g00011/laws.FnExactPlaceFloat", spec := "fnExactPlaceFloat", apart := false, narrowed := true }
def FnExactPlaceFloatUptoSaid : Prop := fnExactPlaceFloatUptoRow.holds Try.pinned (OpenSpec.upto fnExactPlaceFloatSpec)

end Rows
end Go.Proofs.Ytdnlehohbbinpaa
