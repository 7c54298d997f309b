/- Closed runs: norm and trace. Own work; no condition. -/
import Derived.Test.YtceihkmakfdcnaaGreatA14
set_option linter.all false
set_option maxHeartbeats 16000000
set_option maxRecDepth 100000
namespace Go.El
open Go Go.Proofs
def arV:al Tryz.prog 22 [uP [qI 3,qI 1],uP [qI (-2),qI 0,qI 1]] (aQ<|qI 7):=
 Ob (l:=[]) e dD J J
def arW:al Tryz.prog 24 [uP [qI 3,qI 1],uP [qI (-2),qI 0,qI 1]] (aQ<|qI 6):=
 Ob (l:=[]) e dD J J
end Go.El
