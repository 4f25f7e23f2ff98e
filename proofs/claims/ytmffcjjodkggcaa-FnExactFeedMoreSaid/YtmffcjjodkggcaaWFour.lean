-- Cut out of the print's words by this session's own program (wip/gen/prune.py).
import Derived.Test.YtmffcjjodkggcaaWTab
namespace Go.Proofs.YtmffcjjodkggcaaW.PrintLast
end Go.Proofs.YtmffcjjodkggcaaW.PrintLast
