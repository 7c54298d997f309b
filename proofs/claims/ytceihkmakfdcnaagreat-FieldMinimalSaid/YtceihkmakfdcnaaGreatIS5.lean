/- Own work; no condition. -/
import Derived.Test.YtceihkmakfdcnaaGreatI15
set_option linter.all false
set_option maxHeartbeats 16000000
set_option maxRecDepth 100000
namespace Go.El
open Go Go.Proofs
def awS:aq Tryz.prog 31 [uP [qI 0,qI 1]] (cB true):=
 iV (l:=[]) M e9 J J
def awT:aq Tryz.prog 31 [uP [qI 0,qI 2]] (cB false):=
 iV (l:=[]) M e9 J J
end Go.El
