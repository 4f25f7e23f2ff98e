-- Cut out of the print's words by this session's own program (wip/gen/prune.py).
import Derived.SizedLaws
import Derived.ChangeSlices
namespace Go.Proofs.YtpknhndanbgkmaaW.PrintWords
open Go.ChangeShapes Go.WideShapes
end Go.Proofs.YtpknhndanbgkmaaW.PrintWords
