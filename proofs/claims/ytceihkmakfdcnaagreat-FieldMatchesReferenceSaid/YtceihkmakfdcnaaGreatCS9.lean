/- Own work; no condition. -/
import Derived.Test.YtceihkmakfdcnaaGreatCS1
set_option linter.all false
namespace Go.El
open Go Go.Proofs
abbrev MO:ET:= .pr oR<|.pr oR<|.pr oR<|.pr oR<|.pr oR<|.pr oR<|.pr oR oR
abbrev TE:ET:= .pr .q MO
abbrev pA:AV:= .c<|.S TE [(qI 1,(2,0,0,0,0,0,0,0)),(qI 1,(0,1,0,0,0,0,0,0))]
abbrev atA:AV:= .a [.S .q [qI 1,qI 1],.S .q [qI 1],.S .q [],.S .q [],.S .q [],.S .q [],.S .q [],.S .q []]
def axN:jz Tryz.prog 55 [pA,atA,uP mS] (uP [qI 4,qI 2]):=
 iT (l:=[]) j fh J J
end Go.El
