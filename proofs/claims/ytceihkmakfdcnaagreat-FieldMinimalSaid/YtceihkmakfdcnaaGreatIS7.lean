/- Own work; no condition. -/
import Derived.Test.YtceihkmakfdcnaaGreatIS1
set_option linter.all false
set_option maxHeartbeats 16000000
set_option maxRecDepth 100000
namespace Go.El
open Go Go.Proofs
def awV:aq Tryz.prog 22 [uP [qI 3,qI 1],uP [qI (-2),qI 0,qI 1]] (aQ<|qI 7):=
 RJ (l:=[]) M e9 J J
def awW:aq Tryz.prog 24 [uP [qI 3,qI 1],uP [qI (-2),qI 0,qI 1]] (aQ<|qI 6):=
 RJ (l:=[]) M e9 J J
end Go.El
