/- Own work; no condition. -/
import Derived.Test.YtceihkmakfdcnaaGreatCS2E
set_option linter.all false
namespace Go.El
open Go Go.Proofs
def axX:jz Tryz.prog 236 [zP [-4,0,1],pL [([2,1],PQ),([1073741825,1],PQ)],cU PQ,cI 1] (qF [[2,1],[-2,1]]):=
 iT (l:=[]) j fh J J
def axY:jz Tryz.prog 235 [zP [-4,0,1],qF [[2,1],[-2,1]],aZ PQ] (qF [[2,1],[-2,1]]):=
 SI (l:=[]) j fh J J
def axZ:jz Tryz.prog 195 [zP [-4,0,1]] (qF [[2,1],[-2,1]]):=
 iT (l:=[(233,[aP [1073741823,0,1] PQ],pL [([2,1],PQ),([1073741825,1],PQ)]),(236,[zP [-4,0,1],pL [([2,1],PQ),([1073741825,1],PQ)],cU PQ,cI 1],qF [[2,1],[-2,1]]),(235,[zP [-4,0,1],qF [[2,1],[-2,1]],aZ PQ],qF [[2,1],[-2,1]])]) ⟨axW,axX,axY,j⟩ fh J J
end Go.El
