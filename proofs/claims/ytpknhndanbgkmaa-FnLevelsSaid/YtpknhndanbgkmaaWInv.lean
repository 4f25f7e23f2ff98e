-- Cut out of the print's words by this session's own program (wip/gen/prune.py).
import Derived.Test.YtpknhndanbgkmaaWTab
namespace Go.Proofs.YtpknhndanbgkmaaW.PrintLast
/-- Number i is listed too. -/
def up (b : Nat → Bool) (i : Nat) : Nat → Bool := fun j => if j = i then true else b j
end Go.Proofs.YtpknhndanbgkmaaW.PrintLast
