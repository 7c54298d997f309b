/- Closed runs: norm and trace. Own work; no condition. -/
import Derived.Test.YtceihkmakfdcnaaGreatDS1
set_option linter.all false
set_option maxHeartbeats 16000000
set_option maxRecDepth 100000
namespace Go.El
open Go Go.Proofs
def at4:jd Tryz.prog 22 [uP [qI 3,qI 1],uP [qI (-2),qI 0,qI 1]] (aQ<|qI 7):=
 Po (l:=[]) h dZ J J
def at5:jd Tryz.prog 24 [uP [qI 3,qI 1],uP [qI (-2),qI 0,qI 1]] (aQ<|qI 6):=
 Po (l:=[]) h dZ J J
end Go.El
