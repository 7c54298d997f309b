/- Closed runs: factors modulo the great prime. Own work; no condition. -/
import Derived.Test.YtceihkmakfdcnaaGreatA14
set_option linter.all false
set_option maxHeartbeats 16000000
set_option maxRecDepth 100000
namespace Go.El
open Go Go.Proofs
def arC:al Tryz.prog 233 [aP [1073741825,0,1] PQ] (pL [([1073741825,0,1],PQ)]):=
 fO (l:=[]) e dD J J
end Go.El
