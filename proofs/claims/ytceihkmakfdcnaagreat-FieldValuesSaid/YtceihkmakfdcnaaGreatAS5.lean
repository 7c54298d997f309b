/- Closed runs: two easy polynomials. Own work; no condition. -/
import Derived.Test.YtceihkmakfdcnaaGreatA14
set_option linter.all false
set_option maxHeartbeats 16000000
set_option maxRecDepth 100000
namespace Go.El
open Go Go.Proofs
def arS:al Tryz.prog 31 [uP [qI 0,qI 1]] (cB true):=
 fO (l:=[]) e dD J J
def arT:al Tryz.prog 31 [uP [qI 0,qI 2]] (cB false):=
 fO (l:=[]) e dD J J
end Go.El
