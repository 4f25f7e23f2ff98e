-- Cut out of the print's words by this session's own program (wip/gen/prune.py).
import Derived.Test.YtpknhndanbgkmaaWN
namespace Go.Proofs.YtpknhndanbgkmaaW.PrintWords
open Go.RowKit
end Go.Proofs.YtpknhndanbgkmaaW.PrintWords
