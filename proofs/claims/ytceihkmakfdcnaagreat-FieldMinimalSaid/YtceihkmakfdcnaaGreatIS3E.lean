/- Own work; no condition. -/
import Derived.Test.YtceihkmakfdcnaaGreatIS2E
set_option linter.all false
set_option maxHeartbeats 16000000
set_option maxRecDepth 100000
namespace Go.El
open Go Go.Proofs
def awL:aq Tryz.prog 236 [zP [-4,0,1],pL [([2,1],PQ),([1073741825,1],PQ)],cU PQ,cI 1] (qe [[2,1],[-2,1]]):=
 iV (l:=[]) M e9 J J
def awM:aq Tryz.prog 235 [zP [-4,0,1],qe [[2,1],[-2,1]],aZ PQ] (qe [[2,1],[-2,1]]):=
 RJ (l:=[]) M e9 J J
def awN:aq Tryz.prog 195 [zP [-4,0,1]] (qe [[2,1],[-2,1]]):=
 iV (l:=[(233,[aP [1073741823,0,1] PQ],pL [([2,1],PQ),([1073741825,1],PQ)]),(236,[zP [-4,0,1],pL [([2,1],PQ),([1073741825,1],PQ)],cU PQ,cI 1],qe [[2,1],[-2,1]]),(235,[zP [-4,0,1],qe [[2,1],[-2,1]],aZ PQ],qe [[2,1],[-2,1]])]) ⟨awK,awL,awM,M⟩ e9 J J
end Go.El
