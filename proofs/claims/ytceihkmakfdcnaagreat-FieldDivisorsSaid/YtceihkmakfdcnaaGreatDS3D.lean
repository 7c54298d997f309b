/- Closed runs: factors of monic integer polynomials. Own work; no condition. -/
import Derived.Test.YtceihkmakfdcnaaGreatDS2D
set_option linter.all false
set_option maxHeartbeats 16000000
set_option maxRecDepth 100000
namespace Go.El
open Go Go.Proofs
def atL:jd Tryz.prog 236 [zP [-2,0,1],pL [([1073741825,0,1],PQ)],cU PQ,cI 1] (oJ [[-2,0,1]]):=
 hJ (l:=[]) h dZ J J
def atM:jd Tryz.prog 235 [zP [-2,0,1],oJ [[-2,0,1]],aZ PQ] (oJ [[-2,0,1]]):=
 Po (l:=[]) h dZ J J
def atN:jd Tryz.prog 195 [zP [-2,0,1]] (oJ [[-2,0,1]]):=
 hJ (l:=[(233,[aP [1073741825,0,1] PQ],pL [([1073741825,0,1],PQ)]),(236,[zP [-2,0,1],pL [([1073741825,0,1],PQ)],cU PQ,cI 1],oJ [[-2,0,1]]),(235,[zP [-2,0,1],oJ [[-2,0,1]],aZ PQ],oJ [[-2,0,1]])]) ⟨atK,atL,atM,h⟩ dZ J J
end Go.El
