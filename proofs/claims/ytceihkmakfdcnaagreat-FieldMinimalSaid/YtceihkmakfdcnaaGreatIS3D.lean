/- Own work; no condition. -/
import Derived.Test.YtceihkmakfdcnaaGreatIS2D
set_option linter.all false
set_option maxHeartbeats 16000000
set_option maxRecDepth 100000
namespace Go.El
open Go Go.Proofs
def awD:aq Tryz.prog 236 [zP [-2,0,1],pL [([1073741825,0,1],PQ)],cU PQ,cI 1] (qe [[-2,0,1]]):=
 iV (l:=[]) M e9 J J
def awE:aq Tryz.prog 235 [zP [-2,0,1],qe [[-2,0,1]],aZ PQ] (qe [[-2,0,1]]):=
 RJ (l:=[]) M e9 J J
def awF:aq Tryz.prog 195 [zP [-2,0,1]] (qe [[-2,0,1]]):=
 iV (l:=[(233,[aP [1073741825,0,1] PQ],pL [([1073741825,0,1],PQ)]),(236,[zP [-2,0,1],pL [([1073741825,0,1],PQ)],cU PQ,cI 1],qe [[-2,0,1]]),(235,[zP [-2,0,1],qe [[-2,0,1]],aZ PQ],qe [[-2,0,1]])]) ⟨awC,awD,awE,M⟩ e9 J J
end Go.El
