/- Closed runs: two easy polynomials. Own work; no condition. -/
import Derived.Test.YtceihkmakfdcnaaGreatB15
set_option linter.all false
set_option maxHeartbeats 16000000
set_option maxRecDepth 100000
namespace Go.El
open Go Go.Proofs
def aub:ao Tryz.prog 31 [uP [qI 0,qI 1]] (cB true):=
 iE (l:=[]) A eL J J
def auc:ao Tryz.prog 31 [uP [qI 0,qI 2]] (cB false):=
 iE (l:=[]) A eL J J
end Go.El
