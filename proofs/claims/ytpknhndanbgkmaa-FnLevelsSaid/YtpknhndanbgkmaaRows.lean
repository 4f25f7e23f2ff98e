/-
  No cell of these rows narrows 'for every input' (looked for: loops, veiled, ifaces, maps, wideKeys, modest, calm, conditions, laid).
  DERIVED. THE GIVEN ROWS OF THIS SEAT. 9 by the template 'for every input the law returns true; each argument reads behind the call as it read before'; 0 by the template 'total and deterministic' (their statements: YtpknhndanbgkmaaTotals.lean).
  GIVEN WITH THE SEED: the statements are not yours to turn. If you find one false, say at which input.
  Laid BY PROGRAM, IN A SANDBOX (cutbox-rows.mjs): the forced cells as the released guide's own fill.sh prints them over the translation 0471e9630832141f… (all of the seat's roots in one cut). By AI agents, Wed Nov 11 2026. No macro, syntax, notation, axiom, sorry.
-/
import Derived.Test.YtpknhndanbgkmaaChecked
import GoSem.Claim
import GoSem.ClaimJoined
import GoSem.ClaimMapViews
import Derived.JoinedTies
import Derived.KernelRfl
namespace Go.Proofs.Ytpknhndanbgkmaa
/- THE CELL 'sum', in the pinned program and in every row, IS THE sha256 OF THE DUMP (.gsa) THAT YtpknhndanbgkmaaProg.lean LOADS. Nothing in Lean hashes anything: it is a label: what it is worth is what the hold of that sum in a sandbox is worth. -/
noncomputable def Try.pinned : Pinned := { name := "ytpknhndanbgkmaa", sum := "0471e9630832141f62ad821fee1bd7b626521133736a89822da6160d2e01c949", checked := Try.checked }
namespace Rows
def none {H : Type} : Left H := { results := [], args := [] }

/-- 'laws.FnExactVisual': WHATEVER THE INPUT: true; the input reads as it did. -/
def fnExactVisualSpec : ChangeSpec := { name := "fnExactVisual", fn := fun _ => fun
  | [d] => { results := [.lit (.bool true)], args := [d] }
  | _ => none }
def fnExactVisualRow : OpenClaim := { program := "ytpknhndanbgkmaa", sum := "0471e9630832141f62ad821fee1bd7b626521133736a89822da6160d2e01c949", func := "loop.example/g00011/laws.FnExactVisual", spec := "fnExactVisual", unfollowed := true, recurses := true, apart := false }
def FnExactVisualSaid : Prop := fnExactVisualRow.holds Try.pinned (OpenSpec.ofChange fnExactVisualSpec)

/-- ITS FALSE NEIGHBOUR: 'it returns false'. Refute it at one input. -/
def fnExactVisualWrong : ChangeSpec := { name := "fnExactVisual", fn := fun _ => fun
  | [d] => { results := [.lit (.bool false)], args := [d] }
  | _ => none }
def FnExactVisualWrongFalsely : Prop := fnExactVisualRow.holds Try.pinned (OpenSpec.ofChange fnExactVisualWrong)

/-- 'laws.FnExactMirrored': WHATEVER THE INPUT: true; the input reads as it did. -/
def fnExactMirroredSpec : ChangeSpec := { name := "fnExactMirrored", fn := fun _ => fun
  | [d1, d2] => { results := [.lit (.bool true)], args := [d1, d2] }
  | _ => none }
def fnExactMirroredRow : OpenClaim := { program := "ytpknhndanbgkmaa", sum := "0471e9630832141f62ad821fee1bd7b626521133736a89822da6160d2e01c949", func := "loop.example/g00011/laws.FnExactMirrored", spec := "fnExactMirrored", inPlace := ["internal/abi.NoEscape"], apart := false }
def FnExactMirroredSaid : Prop := fnExactMirroredRow.holds Try.pinned (OpenSpec.ofChange fnExactMirroredSpec)

/-- ITS FALSE NEIGHBOUR: 'it returns false'. Refute it at one input. -/
def fnExactMirroredWrong : ChangeSpec := { name := "fnExactMirrored", fn := fun _ => fun
  | [d1, d2] => { results := [.lit (.bool false)], args := [d1, d2] }
  | _ => none }
def FnExactMirroredWrongFalsely : Prop := fnExactMirroredRow.holds Try.pinned (OpenSpec.ofChange fnExactMirroredWrong)

/-- 'laws.FnBreaks': WHATEVER THE INPUT: true; the input reads as it did. -/
def fnBreaksSpec : ChangeSpec := { name := "fnBreaks", fn := fun _ => fun
  | [d] => { results := [.lit (.bool true)], args := [d] }
  | _ => none }
def fnBreaksRow : OpenClaim := { program := "ytpknhndanbgkmaa", sum := "0471e9630832141f62ad821fee1bd7b626521133736a89822da6160d2e01c949", func := "loop.example/g00011/laws.FnBreaks", spec := "fnBreaks", inPlace := ["internal/bytealg.IndexByteString"], apart := false }
def FnBreaksSaid : Prop := fnBreaksRow.holds Try.pinned (OpenSpec.ofChange fnBreaksSpec)

/-- ITS FALSE NEIGHBOUR: 'it returns false'. Refute it at one input. -/
def fnBreaksWrong : ChangeSpec := { name := "fnBreaks", fn := fun _ => fun
  | [d] => { results := [.lit (.bool false)], args := [d] }
  | _ => none }
def FnBreaksWrongFalsely : Prop := fnBreaksRow.holds Try.pinned (OpenSpec.ofChange fnBreaksWrong)

/-- 'laws.FnExactLevels': WHATEVER THE INPUT: true; the input reads as it did. -/
def fnExactLevelsSpec : ChangeSpec := { name := "fnExactLevels", fn := fun _ => fun
  | [d1, d2] => { results := [.lit (.bool true)], args := [d1, d2] }
  | _ => none }
def fnExactLevelsRow : OpenClaim := { program := "ytpknhndanbgkmaa", sum := "0471e9630832141f62ad821fee1bd7b626521133736a89822da6160d2e01c949", func := "loop.example/g00011/laws.FnExactLevels", spec := "fnExactLevels", unfollowed := true, recurses := true, apart := false }
def FnExactLevelsSaid : Prop := fnExactLevelsRow.holds Try.pinned (OpenSpec.ofChange fnExactLevelsSpec)

/-- ITS FALSE NEIGHBOUR: 'it returns false'. Refute it at one input. -/
def fnExactLevelsWrong : ChangeSpec := { name := "fnExactLevels", fn := fun _ => fun
  | [d1, d2] => { results := [.lit (.bool false)], args := [d1, d2] }
  | _ => none }
def FnExactLevelsWrongFalsely : Prop := fnExactLevelsRow.holds Try.pinned (OpenSpec.ofChange fnExactLevelsWrong)

/-- 'laws.FnExactFlexShares': WHATEVER THE INPUT: true; the input reads as it did. -/
def fnExactFlexSharesSpec : ChangeSpec := { name := "fnExactFlexShares", fn := fun _ => fun
  | [d1, d2] => { results := [.lit (.bool true)], args := [d1, d2] }
  | _ => none }
def fnExactFlexSharesRow : OpenClaim := { program := "ytpknhndanbgkmaa", sum := "0471e9630832141f62ad821fee1bd7b626521133736a89822da6160d2e01c949", func := "loop.example/g00011/laws.FnExactFlexShares", spec := "fnExactFlexShares", named := ["math/bits.divideError", "math/bits.overflowError"], apart := false }
def FnExactFlexSharesSaid : Prop := fnExactFlexSharesRow.holds Try.pinned (OpenSpec.ofChange fnExactFlexSharesSpec)

/-- ITS FALSE NEIGHBOUR: 'it returns false'. Refute it at one input. -/
def fnExactFlexSharesWrong : ChangeSpec := { name := "fnExactFlexShares", fn := fun _ => fun
  | [d1, d2] => { results := [.lit (.bool false)], args := [d1, d2] }
  | _ => none }
def FnExactFlexSharesWrongFalsely : Prop := fnExactFlexSharesRow.holds Try.pinned (OpenSpec.ofChange fnExactFlexSharesWrong)

/-- 'laws.FnExactColumnNeeds': WHATEVER THE INPUT: true; the input reads as it did. -/
def fnExactColumnNeedsSpec : ChangeSpec := { name := "fnExactColumnNeeds", fn := fun _ => fun
  | [d1, d2] => { results := [.lit (.bool true)], args := [d1, d2] }
  | _ => none }
def fnExactColumnNeedsRow : OpenClaim := { program := "ytpknhndanbgkmaa", sum := "0471e9630832141f62ad821fee1bd7b626521133736a89822da6160d2e01c949", func := "loop.example/g00011/laws.FnExactColumnNeeds", spec := "fnExactColumnNeeds", unfollowed := true, recurses := true, named := ["math/bits.divideError", "math/bits.overflowError"], apart := false }
def FnExactColumnNeedsSaid : Prop := fnExactColumnNeedsRow.holds Try.pinned (OpenSpec.ofChange fnExactColumnNeedsSpec)

/-- ITS FALSE NEIGHBOUR: 'it returns false'. Refute it at one input. -/
def fnExactColumnNeedsWrong : ChangeSpec := { name := "fnExactColumnNeeds", fn := fun _ => fun
  | [d1, d2] => { results := [.lit (.bool false)], args := [d1, d2] }
  | _ => none }
def FnExactColumnNeedsWrongFalsely : Prop := fnExactColumnNeedsRow.holds Try.pinned (OpenSpec.ofChange fnExactColumnNeedsWrong)

/-- 'laws.FnLevels': WHATEVER THE INPUT: true; the input reads as it did. -/
def fnLevelsSpec : ChangeSpec := { name := "fnLevels", fn := fun _ => fun
  | [d] => { results := [.lit (.bool true)], args := [d] }
  | _ => none }
def fnLevelsRow : OpenClaim := { program := "ytpknhndanbgkmaa", sum := "0471e9630832141f62ad821fee1bd7b626521133736a89822da6160d2e01c949", func := "loop.example/g00011/laws.FnLevels", spec := "fnLevels", unfollowed := true, recurses := true, apart := false }
def FnLevelsSaid : Prop := fnLevelsRow.holds Try.pinned (OpenSpec.ofChange fnLevelsSpec)

/-- ITS FALSE NEIGHBOUR: 'it returns false'. Refute it at one input. -/
def fnLevelsWrong : ChangeSpec := { name := "fnLevels", fn := fun _ => fun
  | [d] => { results := [.lit (.bool false)], args := [d] }
  | _ => none }
def FnLevelsWrongFalsely : Prop := fnLevelsRow.holds Try.pinned (OpenSpec.ofChange fnLevelsWrong)

/-- 'laws.FnShares': WHATEVER THE INPUT: true; the input reads as it did. -/
def fnSharesSpec : ChangeSpec := { name := "fnShares", fn := fun _ => fun
  | [d] => { results := [.lit (.bool true)], args := [d] }
  | _ => none }
def fnSharesRow : OpenClaim := { program := "ytpknhndanbgkmaa", sum := "0471e9630832141f62ad821fee1bd7b626521133736a89822da6160d2e01c949", func := "loop.example/g00011/laws.FnShares", spec := "fnShares", named := ["math/bits.divideError", "math/bits.overflowError"], apart := false }
def FnSharesSaid : Prop := fnSharesRow.holds Try.pinned (OpenSpec.ofChange fnSharesSpec)

/-- ITS FALSE NEIGHBOUR: 'it returns false'. Refute it at one input. -/
def fnSharesWrong : ChangeSpec := { name := "fnShares", fn := fun _ => fun
  | [d] => { results := [.lit (.bool false)], args := [d] }
  | _ => none }
def FnSharesWrongFalsely : Prop := fnSharesRow.holds Try.pinned (OpenSpec.ofChange fnSharesWrong)

/-- 'laws.FnColumns': WHATEVER THE INPUT: true; the input reads as it did. -/
def fnColumnsSpec : ChangeSpec := { name := "fnColumns", fn := fun _ => fun
  | [d] => { results := [.lit (.bool true)], args := [d] }
  | _ => none }
def fnColumnsRow : OpenClaim := { program := "ytpknhndanbgkmaa", sum := "0471e9630832141f62ad821fee1bd7b626521133736a89822da6160d2e01c949", func := "loop.example/g00011/laws.FnColumns", spec := "fnColumns", unfollowed := true, recurses := true, named := ["math/bits.divideError", "math/bits.overflowError"], apart := false }
def FnColumnsSaid : Prop := fnColumnsRow.holds Try.pinned (OpenSpec.ofChange fnColumnsSpec)

/-- ITS FALSE NEIGHBOUR: 'it returns false'. Refute it at one input. -/
def fnColumnsWrong : ChangeSpec := { name := "fnColumns", fn := fun _ => fun
  | [d] => { results := [.lit (.bool false)], args := [d] }
  | _ => none }
def FnColumnsWrongFalsely : Prop := fnColumnsRow.holds Try.pinned (OpenSpec.ofChange fnColumnsWrong)

/- THE SECOND FORM. 'bulk': how many values and letters a reading holds, each counted each time it is reached (what is shared counts as often as it is met; a slice's spare places count too). A statement '..UptoSaid' is the law's where the arguments, and the package variables that the reading takes, are together of bulk at most 1048576: NARROWER than '..Said'. Prove '..Said' where nothing that the law and all that it calls make is longer than what came in: it says more and counts as full. Else prove '..UptoSaid'. A law counts once. -/
mutual
def uptoBulk {H : Type} : DataW H → Nat
  | .lit (.string bytes) => bytes.length + 1
  | .lit _ => 1
  | .nil => 1
  | .ptr d => uptoBulk d + 1
  | .slice elems spare => uptoBulkAll elems + uptoBulkAll spare + 1
  | .agg parts => uptoBulkAll parts + 1
  | .iface _ d => uptoBulk d + 1
  | .map entries => uptoBulkEntries entries + 1
  | .held _ => 1
def uptoBulkAll {H : Type} : List (DataW H) → Nat
  | [] => 0
  | d :: r => uptoBulk d + uptoBulkAll r
def uptoBulkEntries {H : Type} : List (Lit × DataW H) → Nat
  | [] => 0
  | x :: r => uptoBulkEntry x + uptoBulkEntries r
def uptoBulkEntry {H : Type} : Lit × DataW H → Nat
  | (.string bytes, d) => bytes.length + uptoBulk d + 1
  | (_, d) => uptoBulk d + 1
 end
def uptoSmall : (H : Type) → List (DataW H) → Bool := fun _ ds => decide (uptoBulkAll ds ≤ 1048576)
def OpenSpec.upto (s : _root_.Go.ChangeSpec) : _root_.Go.OpenSpec := { _root_.Go.OpenSpec.ofChange s with cond := some uptoSmall }

/-- 'laws.FnExactVisual', WHERE WHAT IT READS IS OF BULK AT MOST 1048576: true; the input reads as it did. -/
def fnExactVisualUptoRow : OpenClaim := { program := "ytpknhndanbgkmaa", sum := "0471e9630832141f62ad821fee1bd7b626521133736a89822da6160d2e01c949", func := "loop.example/g00011/laws.FnExactVisual", spec := "fnExactVisual", unfollowed := true, recurses := true, apart := false, narrowed := true }
def FnExactVisualUptoSaid : Prop := fnExactVisualUptoRow.holds Try.pinned (OpenSpec.upto fnExactVisualSpec)

/-- 'laws.FnExactMirrored', WHERE WHAT IT READS IS OF BULK AT MOST 1048576: true; the input reads as it did. -/
def fnExactMirroredUptoRow : OpenClaim := { program := "ytpknhndanbgkmaa", sum := "0471e9630832141f62ad821fee1bd7b626521133736a89822da6160d2e01c949", func := "loop.example/g00011/laws.FnExactMirrored", spec := "fnExactMirrored", inPlace := ["internal/abi.NoEscape"], apart := false, narrowed := true }
def FnExactMirroredUptoSaid : Prop := fnExactMirroredUptoRow.holds Try.pinned (OpenSpec.upto fnExactMirroredSpec)

/-- 'laws.FnBreaks', WHERE WHAT IT READS IS OF BULK AT MOST 1048576: true; the input reads as it did. -/
def fnBreaksUptoRow : OpenClaim := { program := "ytpknhndanbgkmaa", sum := "0471e9630832141f62ad821fee1bd7b626521133736a89822da6160d2e01c949", func := "loop.example/g00011/laws.FnBreaks", spec := "fnBreaks", inPlace := ["internal/bytealg.IndexByteString"], apart := false, narrowed := true }
def FnBreaksUptoSaid : Prop := fnBreaksUptoRow.holds Try.pinned (OpenSpec.upto fnBreaksSpec)

/-- 'laws.FnExactLevels', WHERE WHAT IT READS IS OF BULK AT MOST 1048576: true; the input reads as it did. -/
def fnExactLevelsUptoRow : OpenClaim := { program := "ytpknhndanbgkmaa", sum := "0471e9630832141f62ad821fee1bd7b626521133736a89822da6160d2e01c949", func := "loop.example/g00011/laws.FnExactLevels", spec := "fnExactLevels", unfollowed := true, recurses := true, apart := false, narrowed := true }
def FnExactLevelsUptoSaid : Prop := fnExactLevelsUptoRow.holds Try.pinned (OpenSpec.upto fnExactLevelsSpec)

/-- 'laws.FnExactFlexShares', WHERE WHAT IT READS IS OF BULK AT MOST 1048576: true; the input reads as it did. -/
def fnExactFlexSharesUptoRow : OpenClaim := { program := "ytpknhndanbgkmaa", sum := "0471e9630832141f62ad821fee1bd7b626521133736a89822da6160d2e01c949", func := "loop.example/g00011/laws.FnExactFlexShares", spec := "fnExactFlexShares", named := ["math/bits.divideError", "math/bits.overflowError"], apart := false, narrowed := true }
def FnExactFlexSharesUptoSaid : Prop := fnExactFlexSharesUptoRow.holds Try.pinned (OpenSpec.upto fnExactFlexSharesSpec)

/-- 'laws.FnExactColumnNeeds', WHERE WHAT IT READS IS OF BULK AT MOST 1048576: true; the input reads as it did. -/
def fnExactColumnNeedsUptoRow : OpenClaim := { program := "ytpknhndanbgkmaa", sum := "0471e9630832141f62ad821fee1bd7b626521133736a89822da6160d2e01c949", func := "loop.example/g00011/laws.FnExactColumnNeeds", spec := "fnExactColumnNeeds", unfollowed := true, recurses := true, named := ["math/bits.divideError", "math/bits.overflowError"], apart := false, narrowed := true }
def FnExactColumnNeedsUptoSaid : Prop := fnExactColumnNeedsUptoRow.holds Try.pinned (OpenSpec.upto fnExactColumnNeedsSpec)

/-- 'laws.FnLevels', WHERE WHAT IT READS IS OF BULK AT MOST 1048576: true; the input reads as it did. -/
def fnLevelsUptoRow : OpenClaim := { program := "ytpknhndanbgkmaa", sum := "0471e9630832141f62ad821fee1bd7b626521133736a89822da6160d2e01c949", func := "loop.example/g00011/laws.FnLevels", spec := "fnLevels", unfollowed := true, recurses := true, apart := false, narrowed := true }
def FnLevelsUptoSaid : Prop := fnLevelsUptoRow.holds Try.pinned (OpenSpec.upto fnLevelsSpec)

/-- 'laws.FnShares', WHERE WHAT IT READS IS OF BULK AT MOST 1048576: true; the input reads as it did. -/
def fnSharesUptoRow : OpenClaim := { program := "ytpknhndanbgkmaa", sum := "0471e9630832141f62ad821fee1bd7b626521133736a89822da6160d2e01c949", func := "loop.example/g00011/laws.FnShares", spec := "fnShares", named := ["math/bits.divideError", "math/bits.overflowError"], apart := false, narrowed := true }
def FnSharesUptoSaid : Prop := fnSharesUptoRow.holds Try.pinned (OpenSpec.upto fnSharesSpec)

/-- 'laws.FnColumns', WHERE WHAT IT READS IS OF BULK AT MOST 1048576: true; the input reads as it did. -/
def fnColumnsUptoRow : OpenClaim := { program := "ytpknhndanbgkmaa", sum := "0471e9630832141f62ad821fee1bd7b626521133736a89822da6160d2e01c949", func := "loop.example/g00011/laws.FnColumns", spec := "fnColumns", unfollowed := true, recurses := true, named := ["math/bits.divideError", "math/bits.overflowError"], apart := false, narrowed := true }
def FnColumnsUptoSaid : Prop := fnColumnsUptoRow.holds Try.pinned (OpenSpec.upto fnColumnsSpec)

end Rows
end Go.Proofs.Ytpknhndanbgkmaa
