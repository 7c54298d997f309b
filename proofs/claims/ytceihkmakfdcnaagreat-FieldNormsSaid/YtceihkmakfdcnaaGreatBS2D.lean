/- Closed runs: factors modulo the great prime. Own work; no condition. -/
import Derived.Test.YtceihkmakfdcnaaGreatB15
set_option linter.all false
set_option maxHeartbeats 16000000
set_option maxRecDepth 100000
namespace Go.El
open Go Go.Proofs
def atW:ao Tryz.prog 233 [aP [1073741825,0,1] PQ] (pL [([1073741825,0,1],PQ)]):=
 iE (l:=[]) A eL J J
end Go.El
