/- YthadblmhhekedaaLCopy: lifted functions of the program; printed by lift.py. -/
import Derived.Test.YthadblmhhekedaaLBlk
set_option linter.unusedSimpArgs false
set_option linter.unusedVariables false
set_option maxRecDepth 20000
set_option maxHeartbeats 4000000
namespace Go.Proofs
open Go.VG

end Go.Proofs
