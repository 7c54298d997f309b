/- Own work; no condition. -/
import Derived.Test.YtceihkmakfdcnaaGreatCS2D
set_option linter.all false
namespace Go.El
open Go Go.Proofs
def axP:jz Tryz.prog 236 [zP [-2,0,1],pL [([1073741825,0,1],PQ)],cU PQ,cI 1] (qF [[-2,0,1]]):=
 iT (l:=[]) j fh J J
def axQ:jz Tryz.prog 235 [zP [-2,0,1],qF [[-2,0,1]],aZ PQ] (qF [[-2,0,1]]):=
 SI (l:=[]) j fh J J
def axR:jz Tryz.prog 195 [zP [-2,0,1]] (qF [[-2,0,1]]):=
 iT (l:=[(233,[aP [1073741825,0,1] PQ],pL [([1073741825,0,1],PQ)]),(236,[zP [-2,0,1],pL [([1073741825,0,1],PQ)],cU PQ,cI 1],qF [[-2,0,1]]),(235,[zP [-2,0,1],qF [[-2,0,1]],aZ PQ],qF [[-2,0,1]])]) ⟨axO,axP,axQ,j⟩ fh J J
end Go.El
