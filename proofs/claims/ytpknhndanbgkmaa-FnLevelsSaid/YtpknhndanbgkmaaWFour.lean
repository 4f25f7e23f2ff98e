-- Cut out of the print's words by this session's own program (wip/gen/prune.py).
import Derived.Test.YtpknhndanbgkmaaWTab
namespace Go.Proofs.YtpknhndanbgkmaaW.PrintLast
end Go.Proofs.YtpknhndanbgkmaaW.PrintLast
