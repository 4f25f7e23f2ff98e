/-
  No cell of these rows narrows 'for every input' (looked for: loops, veiled, ifaces, maps, wideKeys, modest, calm, conditions, laid).
  DERIVED. THE GIVEN ROWS OF THIS SEAT. 5 by the template 'for every input the law returns true; each argument reads behind the call as it read before'; 0 by the template 'total and deterministic' (their statements: YtmffcjjodkggcaaTotals.lean).
  GIVEN WITH THE SEED: the statements are not yours to turn. If you find one false, say at which input.
  Laid BY PROGRAM, IN A SANDBOX (cutbox-rows.mjs): the forced cells as the released guide's own fill.sh prints them over the translation 7dd1937a08f0199e… (all of the seat's roots in one cut). By AI agents, Wed Nov 11 2026. No macro, syntax, notation, axiom, sorry.
-/
import Derived.Test.YtmffcjjodkggcaaChecked
import GoSem.Claim
import GoSem.ClaimJoined
import GoSem.ClaimMapViews
import Derived.JoinedTies
import Derived.KernelRfl
namespace Go.Proofs.Ytmffcjjodkggcaa
/- THE CELL 'sum', in the pinned program and in every row, IS THE sha256 OF THE DUMP (.gsa) THAT YtmffcjjodkggcaaProg.lean LOADS. Nothing in Lean hashes anything: it is a label: what it is worth is what the hold of that sum in a sandbox is worth. -/
noncomputable def Try.pinned : Pinned := { name := "ytmffcjjodkggcaa", sum := "7dd1937a08f0199e0837f5b67e25ca70f17e3ffa0500ccded4958a5b054a2a25", checked := Try.checked }
namespace Rows
def none {H : Type} : Left H := { results := [], args := [] }

/-- 'laws.FnPoints': WHATEVER THE INPUT: true; the input reads as it did. -/
def fnPointsSpec : ChangeSpec := { name := "fnPoints", fn := fun _ => fun
  | [d] => { results := [.lit (.bool true)], args := [d] }
  | _ => none }
def fnPointsRow : OpenClaim := { program := "ytmffcjjodkggcaa", sum := "7dd1937a08f0199e0837f5b67e25ca70f17e3ffa0500ccded4958a5b054a2a25", func := "loop.example/g00011/laws.FnPoints", spec := "fnPoints", inPlace := ["internal/abi.NoEscape"], unfollowed := true, recurses := true, apart := false }
def FnPointsSaid : Prop := fnPointsRow.holds Try.pinned (OpenSpec.ofChange fnPointsSpec)

/-- ITS FALSE NEIGHBOUR: 'it returns false'. Refute it at one input. -/
def fnPointsWrong : ChangeSpec := { name := "fnPoints", fn := fun _ => fun
  | [d] => { results := [.lit (.bool false)], args := [d] }
  | _ => none }
def FnPointsWrongFalsely : Prop := fnPointsRow.holds Try.pinned (OpenSpec.ofChange fnPointsWrong)

/-- 'laws.FnExactDecode': WHATEVER THE INPUT: true; the input reads as it did. -/
def fnExactDecodeSpec : ChangeSpec := { name := "fnExactDecode", fn := fun _ => fun
  | [d1, d2] => { results := [.lit (.bool true)], args := [d1, d2] }
  | _ => none }
def fnExactDecodeRow : OpenClaim := { program := "ytmffcjjodkggcaa", sum := "7dd1937a08f0199e0837f5b67e25ca70f17e3ffa0500ccded4958a5b054a2a25", func := "loop.example/g00011/laws.FnExactDecode", spec := "fnExactDecode", unfollowed := true, recurses := true, apart := false }
def FnExactDecodeSaid : Prop := fnExactDecodeRow.holds Try.pinned (OpenSpec.ofChange fnExactDecodeSpec)

/-- ITS FALSE NEIGHBOUR: 'it returns false'. Refute it at one input. -/
def fnExactDecodeWrong : ChangeSpec := { name := "fnExactDecode", fn := fun _ => fun
  | [d1, d2] => { results := [.lit (.bool false)], args := [d1, d2] }
  | _ => none }
def FnExactDecodeWrongFalsely : Prop := fnExactDecodeRow.holds Try.pinned (OpenSpec.ofChange fnExactDecodeWrong)

/-- 'laws.FnExactFeedEnd': WHATEVER THE INPUT: true; the input reads as it did. -/
def fnExactFeedEndSpec : ChangeSpec := { name := "fnExactFeedEnd", fn := fun _ => fun
  | [d] => { results := [.lit (.bool true)], args := [d] }
  | _ => none }
def fnExactFeedEndRow : OpenClaim := { program := "ytmffcjjodkggcaa", sum := "7dd1937a08f0199e0837f5b67e25ca70f17e3ffa0500ccded4958a5b054a2a25", func := "loop.example/g00011/laws.FnExactFeedEnd", spec := "fnExactFeedEnd", unfollowed := true, recurses := true, apart := false }
def FnExactFeedEndSaid : Prop := fnExactFeedEndRow.holds Try.pinned (OpenSpec.ofChange fnExactFeedEndSpec)

/-- ITS FALSE NEIGHBOUR: 'it returns false'. Refute it at one input. -/
def fnExactFeedEndWrong : ChangeSpec := { name := "fnExactFeedEnd", fn := fun _ => fun
  | [d] => { results := [.lit (.bool false)], args := [d] }
  | _ => none }
def FnExactFeedEndWrongFalsely : Prop := fnExactFeedEndRow.holds Try.pinned (OpenSpec.ofChange fnExactFeedEndWrong)

/-- 'laws.FnExactFeedMore': WHATEVER THE INPUT: true; the input reads as it did. -/
def fnExactFeedMoreSpec : ChangeSpec := { name := "fnExactFeedMore", fn := fun _ => fun
  | [d1, d2] => { results := [.lit (.bool true)], args := [d1, d2] }
  | _ => none }
def fnExactFeedMoreRow : OpenClaim := { program := "ytmffcjjodkggcaa", sum := "7dd1937a08f0199e0837f5b67e25ca70f17e3ffa0500ccded4958a5b054a2a25", func := "loop.example/g00011/laws.FnExactFeedMore", spec := "fnExactFeedMore", unfollowed := true, recurses := true, apart := false }
def FnExactFeedMoreSaid : Prop := fnExactFeedMoreRow.holds Try.pinned (OpenSpec.ofChange fnExactFeedMoreSpec)

/-- ITS FALSE NEIGHBOUR: 'it returns false'. Refute it at one input. -/
def fnExactFeedMoreWrong : ChangeSpec := { name := "fnExactFeedMore", fn := fun _ => fun
  | [d1, d2] => { results := [.lit (.bool false)], args := [d1, d2] }
  | _ => none }
def FnExactFeedMoreWrongFalsely : Prop := fnExactFeedMoreRow.holds Try.pinned (OpenSpec.ofChange fnExactFeedMoreWrong)

/-- 'laws.FnExactMirrored': WHATEVER THE INPUT: true; the input reads as it did. -/
def fnExactMirroredSpec : ChangeSpec := { name := "fnExactMirrored", fn := fun _ => fun
  | [d1, d2] => { results := [.lit (.bool true)], args := [d1, d2] }
  | _ => none }
def fnExactMirroredRow : OpenClaim := { program := "ytmffcjjodkggcaa", sum := "7dd1937a08f0199e0837f5b67e25ca70f17e3ffa0500ccded4958a5b054a2a25", func := "loop.example/g00011/laws.FnExactMirrored", spec := "fnExactMirrored", inPlace := ["internal/abi.NoEscape"], apart := false }
def FnExactMirroredSaid : Prop := fnExactMirroredRow.holds Try.pinned (OpenSpec.ofChange fnExactMirroredSpec)

/-- ITS FALSE NEIGHBOUR: 'it returns false'. Refute it at one input. -/
def fnExactMirroredWrong : ChangeSpec := { name := "fnExactMirrored", fn := fun _ => fun
  | [d1, d2] => { results := [.lit (.bool false)], args := [d1, d2] }
  | _ => none }
def FnExactMirroredWrongFalsely : Prop := fnExactMirroredRow.holds Try.pinned (OpenSpec.ofChange fnExactMirroredWrong)

/- THE SECOND FORM. 'bulk': how many values and letters a reading holds, each counted each time it is reached (what is shared counts as often as it is met; a slice's spare places count too). A statement '..UptoSaid' is the law's where the arguments, and the package variables that the reading takes, are together of bulk at most 1048576: NARROWER than '..Said'. Prove '..Said' where nothing that the law and all that it calls make is longer than what came in: it says more and counts as full. Else prove '..UptoSaid'. A law counts once. -/
mutual
def uptoBulk {H : Type} : DataW H → Nat
  | .lit (.string bytes) => bytes.length + 1
  | .lit _ => 1
  | .nil => 1
  | .ptr d => uptoBulk d + 1
  | .slice elems spare => uptoBulkAll elems + uptoBulkAll spare + 1
  | .agg parts => uptoBulkAll parts + 1
  | .iface _ d => uptoBulk d + 1
  | .map entries => uptoBulkEntries entries + 1
  | .held _ => 1
def uptoBulkAll {H : Type} : List (DataW H) → Nat
  | [] => 0
  | d :: r => uptoBulk d + uptoBulkAll r
def uptoBulkEntries {H : Type} : List (Lit × DataW H) → Nat
  | [] => 0
  | x :: r => uptoBulkEntry x + uptoBulkEntries r
def uptoBulkEntry {H : Type} : Lit × DataW H → Nat
  | (.string bytes, d) => bytes.length + uptoBulk d + 1
  | (_, d) => uptoBulk d + 1
 end
def uptoSmall : (H : Type) → List (DataW H) → Bool := fun _ ds => decide (uptoBulkAll ds ≤ 1048576)
def OpenSpec.upto (s : _root_.Go.ChangeSpec) : _root_.Go.OpenSpec := { _root_.Go.OpenSpec.ofChange s with cond := some uptoSmall }

/-- 'laws.FnPoints', WHERE WHAT IT READS IS OF BULK AT MOST 1048576: true; the input reads as it did. -/
def fnPointsUptoRow : OpenClaim := { program := "ytmffcjjodkggcaa", sum := "7dd1937a08f0199e0837f5b67e25ca70f17e3ffa0500ccded4958a5b054a2a25", func := "loop.example/g00011/laws.FnPoints", spec := "fnPoints", inPlace := ["internal/abi.NoEscape"], unfollowed := true, recurses := true, apart := false, narrowed := true }
def FnPointsUptoSaid : Prop := fnPointsUptoRow.holds Try.pinned (OpenSpec.upto fnPointsSpec)

/-- 'laws.FnExactDecode', WHERE WHAT IT READS IS OF BULK AT MOST 1048576: true; the input reads as it did. -/
def fnExactDecodeUptoRow : OpenClaim := { program := "ytmffcjjodkggcaa", sum := "7dd1937a08f0199e0837f5b67e25ca70f17e3ffa0500ccded4958a5b054a2a25", func := "loop.example/g00011/laws.FnExactDecode", spec := "fnExactDecode", unfollowed := true, recurses := true, apart := false, narrowed := true }
def FnExactDecodeUptoSaid : Prop := fnExactDecodeUptoRow.holds Try.pinned (OpenSpec.upto fnExactDecodeSpec)

/-- 'laws.FnExactFeedEnd', WHERE WHAT IT READS IS OF BULK AT MOST 1048576: true; the input reads as it did. -/
def fnExactFeedEndUptoRow : OpenClaim := { program := "ytmffcjjodkggcaa", sum := "7dd1937a08f0199e0837f5b67e25ca70f17e3ffa0500ccded4958a5b054a2a25", func := "loop.example/g00011/laws.FnExactFeedEnd", spec := "fnExactFeedEnd", unfollowed := true, recurses := true, apart := false, narrowed := true }
def FnExactFeedEndUptoSaid : Prop := fnExactFeedEndUptoRow.holds Try.pinned (OpenSpec.upto fnExactFeedEndSpec)

/-- 'laws.FnExactFeedMore', WHERE WHAT IT READS IS OF BULK AT MOST 1048576: true; the input reads as it did. -/
def fnExactFeedMoreUptoRow : OpenClaim := { program := "ytmffcjjodkggcaa", sum := "7dd1937a08f0199e0837f5b67e25ca70f17e3ffa0500ccded4958a5b054a2a25", func := "loop.example/g00011/laws.FnExactFeedMore", spec := "fnExactFeedMore", unfollowed := true, recurses := true, apart := false, narrowed := true }
def FnExactFeedMoreUptoSaid : Prop := fnExactFeedMoreUptoRow.holds Try.pinned (OpenSpec.upto fnExactFeedMoreSpec)

/-- 'laws.FnExactMirrored', WHERE WHAT IT READS IS OF BULK AT MOST 1048576: true; the input reads as it did. -/
def fnExactMirroredUptoRow : OpenClaim := { program := "ytmffcjjodkggcaa", sum := "7dd1937a08f0199e0837f5b67e25ca70f17e3ffa0500ccded4958a5b054a2a25", func := "loop.example/g00011/laws.FnExactMirrored", spec := "fnExactMirrored", inPlace := ["internal/abi.NoEscape"], apart := false, narrowed := true }
def FnExactMirroredUptoSaid : Prop := fnExactMirroredUptoRow.holds Try.pinned (OpenSpec.upto fnExactMirroredSpec)

end Rows
end Go.Proofs.Ytmffcjjodkggcaa
