-- Cut out of the print's words by this session's own program (wip/gen/prune.py).
-- Cut out of the print's words by this session's own program (wip/gen/prune.py).
import Derived.Test.YtpknhndanbgkmaaWFootNe
namespace Go.Proofs.YtpknhndanbgkmaaW.PrintWords
open Go.RowKit
section
variable {w w' u : World} {m B g : Nat} {o : Obj} {row : Option Nat} {S : Nat → Prop} {a : Addr} {v : Value}
theorem cell_at (hq : w.drewN m = w') (h : w.cell? a = some v) : w'.cell? a = some v := by subst hq; exact h
end
end Go.Proofs.YtpknhndanbgkmaaW.PrintWords
