/- Closed runs: a value. Own work; no condition. -/
import Derived.Test.YtceihkmakfdcnaaGreatBS1
set_option linter.all false
set_option maxHeartbeats 16000000
set_option maxRecDepth 100000
namespace Go.El
open Go Go.Proofs
abbrev MO:ET:= .pr nb<|.pr nb<|.pr nb<|.pr nb<|.pr nb<|.pr nb<|.pr nb nb
abbrev TE:ET:= .pr .q MO
abbrev pA:AV:= .c<|.S TE [(qI 1,(2,0,0,0,0,0,0,0)),(qI 1,(0,1,0,0,0,0,0,0))]
abbrev atA:AV:= .a [.S .q [qI 1,qI 1],.S .q [qI 1],.S .q [],.S .q [],.S .q [],.S .q [],.S .q [],.S .q []]
def atV:ao Tryz.prog 55 [pA,atA,uP mS] (uP [qI 4,qI 2]):=
 iE (l:=[]) A eL J J
end Go.El
