-- Cut out of the print's words by this session's own program (wip/gen/prune.py).
import Derived.Test.YtmffcjjodkggcaaWWords
import Derived.Test.YtmffcjjodkggcaaWLast
namespace Go.Proofs.YtmffcjjodkggcaaW.PrintWords
open Go.RowKit
end Go.Proofs.YtmffcjjodkggcaaW.PrintWords
