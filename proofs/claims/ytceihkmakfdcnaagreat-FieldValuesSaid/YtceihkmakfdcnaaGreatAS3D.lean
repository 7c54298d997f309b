/- Closed runs: factors of monic integer polynomials. Own work; no condition. -/
import Derived.Test.YtceihkmakfdcnaaGreatAS2D
set_option linter.all false
set_option maxHeartbeats 16000000
set_option maxRecDepth 100000
namespace Go.El
open Go Go.Proofs
def arD:al Tryz.prog 236 [zP [-2,0,1],pL [([1073741825,0,1],PQ)],cU PQ,cI 1] (nZ [[-2,0,1]]):=
 fO (l:=[]) e dD J J
def arE:al Tryz.prog 235 [zP [-2,0,1],nZ [[-2,0,1]],aZ PQ] (nZ [[-2,0,1]]):=
 Ob (l:=[]) e dD J J
def arF:al Tryz.prog 195 [zP [-2,0,1]] (nZ [[-2,0,1]]):=
 fO (l:=[(233,[aP [1073741825,0,1] PQ],pL [([1073741825,0,1],PQ)]),(236,[zP [-2,0,1],pL [([1073741825,0,1],PQ)],cU PQ,cI 1],nZ [[-2,0,1]]),(235,[zP [-2,0,1],nZ [[-2,0,1]],aZ PQ],nZ [[-2,0,1]])]) ⟨arC,arD,arE,e⟩ dD J J
end Go.El
