/- Closed runs: factors of monic integer polynomials. Own work; no condition. -/
import Derived.Test.YtceihkmakfdcnaaGreatDS2E
set_option linter.all false
set_option maxHeartbeats 16000000
set_option maxRecDepth 100000
namespace Go.El
open Go Go.Proofs
def atU:jd Tryz.prog 236 [zP [-4,0,1],pL [([2,1],PQ),([1073741825,1],PQ)],cU PQ,cI 1] (oJ [[2,1],[-2,1]]):=
 hJ (l:=[]) h dZ J J
def atV:jd Tryz.prog 235 [zP [-4,0,1],oJ [[2,1],[-2,1]],aZ PQ] (oJ [[2,1],[-2,1]]):=
 Po (l:=[]) h dZ J J
def atW:jd Tryz.prog 195 [zP [-4,0,1]] (oJ [[2,1],[-2,1]]):=
 hJ (l:=[(233,[aP [1073741823,0,1] PQ],pL [([2,1],PQ),([1073741825,1],PQ)]),(236,[zP [-4,0,1],pL [([2,1],PQ),([1073741825,1],PQ)],cU PQ,cI 1],oJ [[2,1],[-2,1]]),(235,[zP [-4,0,1],oJ [[2,1],[-2,1]],aZ PQ],oJ [[2,1],[-2,1]])]) ⟨atT,atU,atV,h⟩ dZ J J
end Go.El
