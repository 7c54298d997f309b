/- Own work; no condition. -/
import Derived.Test.YtceihkmakfdcnaaGreatIS1
set_option linter.all false
set_option maxHeartbeats 16000000
set_option maxRecDepth 100000
namespace Go.El
open Go Go.Proofs
def awU:aq Tryz.prog 26 [uP [qI 3,qI 1],uP [qI (-2),qI 0,qI 1]] (uP [qI 7,qI<| -6,qI 1]):=
 iV (l:=[]) M e9 J J
end Go.El
