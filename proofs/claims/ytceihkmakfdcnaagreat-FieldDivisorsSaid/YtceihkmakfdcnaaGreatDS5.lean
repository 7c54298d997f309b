/- Closed runs: two easy polynomials. Own work; no condition. -/
import Derived.Test.YtceihkmakfdcnaaGreatD14
set_option linter.all false
set_option maxHeartbeats 16000000
set_option maxRecDepth 100000
namespace Go.El
open Go Go.Proofs
def at1:jd Tryz.prog 31 [uP [qI 0,qI 1]] (cB true):=
 hJ (l:=[]) h dZ J J
def at2:jd Tryz.prog 31 [uP [qI 0,qI 2]] (cB false):=
 hJ (l:=[]) h dZ J J
end Go.El
