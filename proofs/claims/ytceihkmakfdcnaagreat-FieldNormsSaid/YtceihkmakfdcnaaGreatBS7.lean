/- Closed runs: norm and trace. Own work; no condition. -/
import Derived.Test.YtceihkmakfdcnaaGreatBS1
set_option linter.all false
set_option maxHeartbeats 16000000
set_option maxRecDepth 100000
namespace Go.El
open Go Go.Proofs
def aue:ao Tryz.prog 22 [uP [qI 3,qI 1],uP [qI (-2),qI 0,qI 1]] (aQ<|qI 7):=
 PY (l:=[]) A eL J J
def auf:ao Tryz.prog 24 [uP [qI 3,qI 1],uP [qI (-2),qI 0,qI 1]] (aQ<|qI 6):=
 PY (l:=[]) A eL J J
end Go.El
