/- Closed runs: factors of monic integer polynomials. Own work; no condition. -/
import Derived.Test.YtceihkmakfdcnaaGreatAS2E
set_option linter.all false
set_option maxHeartbeats 16000000
set_option maxRecDepth 100000
namespace Go.El
open Go Go.Proofs
def arL:al Tryz.prog 236 [zP [-4,0,1],pL [([2,1],PQ),([1073741825,1],PQ)],cU PQ,cI 1] (nZ [[2,1],[-2,1]]):=
 fO (l:=[]) e dD J J
def arM:al Tryz.prog 235 [zP [-4,0,1],nZ [[2,1],[-2,1]],aZ PQ] (nZ [[2,1],[-2,1]]):=
 Ob (l:=[]) e dD J J
def arN:al Tryz.prog 195 [zP [-4,0,1]] (nZ [[2,1],[-2,1]]):=
 fO (l:=[(233,[aP [1073741823,0,1] PQ],pL [([2,1],PQ),([1073741825,1],PQ)]),(236,[zP [-4,0,1],pL [([2,1],PQ),([1073741825,1],PQ)],cU PQ,cI 1],nZ [[2,1],[-2,1]]),(235,[zP [-4,0,1],nZ [[2,1],[-2,1]],aZ PQ],nZ [[2,1],[-2,1]])]) ⟨arK,arL,arM,e⟩ dD J J
end Go.El
