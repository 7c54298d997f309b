/- Closed runs: a minimal polynomial. Own work; no condition. -/
import Derived.Test.YtceihkmakfdcnaaGreatBS1
set_option linter.all false
set_option maxHeartbeats 16000000
set_option maxRecDepth 100000
namespace Go.El
open Go Go.Proofs
def aud:ao Tryz.prog 26 [uP [qI 3,qI 1],uP [qI (-2),qI 0,qI 1]] (uP [qI 7,qI<| -6,qI 1]):=
 iE (l:=[]) A eL J J
end Go.El
