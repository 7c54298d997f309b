/- Closed runs: factors of monic integer polynomials. Own work; no condition. -/
import Derived.Test.YtceihkmakfdcnaaGreatBS2D
set_option linter.all false
set_option maxHeartbeats 16000000
set_option maxRecDepth 100000
namespace Go.El
open Go Go.Proofs
def atX:ao Tryz.prog 236 [zP [-2,0,1],pL [([1073741825,0,1],PQ)],cU PQ,cI 1] (oI [[-2,0,1]]):=
 iE (l:=[]) A eL J J
def atY:ao Tryz.prog 235 [zP [-2,0,1],oI [[-2,0,1]],aZ PQ] (oI [[-2,0,1]]):=
 PY (l:=[]) A eL J J
def atZ:ao Tryz.prog 195 [zP [-2,0,1]] (oI [[-2,0,1]]):=
 iE (l:=[(233,[aP [1073741825,0,1] PQ],pL [([1073741825,0,1],PQ)]),(236,[zP [-2,0,1],pL [([1073741825,0,1],PQ)],cU PQ,cI 1],oI [[-2,0,1]]),(235,[zP [-2,0,1],oI [[-2,0,1]],aZ PQ],oI [[-2,0,1]])]) ⟨atW,atX,atY,A⟩ eL J J
end Go.El
