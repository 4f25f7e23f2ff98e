-- Cut out of the print's words by this session's own program (wip/gen/prune.py).
import Derived.Test.YtpknhndanbgkmaaWLast
import Derived.Test.YtpknhndanbgkmaaWWords
namespace Go.Proofs.YtpknhndanbgkmaaW.PrintLast
open Go.Proofs.YtpknhndanbgkmaaW.PrintWords (Aside0)
end Go.Proofs.YtpknhndanbgkmaaW.PrintLast
