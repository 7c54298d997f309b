/- Closed runs: factors of monic integer polynomials. Own work; no condition. -/
import Derived.Test.YtceihkmakfdcnaaGreatBS2E
set_option linter.all false
set_option maxHeartbeats 16000000
set_option maxRecDepth 100000
namespace Go.El
open Go Go.Proofs
def at5:ao Tryz.prog 236 [zP [-4,0,1],pL [([2,1],PQ),([1073741825,1],PQ)],cU PQ,cI 1] (oI [[2,1],[-2,1]]):=
 iE (l:=[]) A eL J J
def at6:ao Tryz.prog 235 [zP [-4,0,1],oI [[2,1],[-2,1]],aZ PQ] (oI [[2,1],[-2,1]]):=
 PY (l:=[]) A eL J J
def at7:ao Tryz.prog 195 [zP [-4,0,1]] (oI [[2,1],[-2,1]]):=
 iE (l:=[(233,[aP [1073741823,0,1] PQ],pL [([2,1],PQ),([1073741825,1],PQ)]),(236,[zP [-4,0,1],pL [([2,1],PQ),([1073741825,1],PQ)],cU PQ,cI 1],oI [[2,1],[-2,1]]),(235,[zP [-4,0,1],oI [[2,1],[-2,1]],aZ PQ],oI [[2,1],[-2,1]])]) ⟨at4,at5,at6,A⟩ eL J J
end Go.El
