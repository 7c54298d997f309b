/- Own work; no condition. -/
import Derived.Test.YtceihkmakfdcnaaGreatIS1
set_option linter.all false
set_option maxHeartbeats 16000000
set_option maxRecDepth 100000
namespace Go.El
open Go Go.Proofs
abbrev MO:ET:= .pr ot<|.pr ot<|.pr ot<|.pr ot<|.pr ot<|.pr ot<|.pr ot ot
abbrev TE:ET:= .pr .q MO
abbrev pA:AV:= .c<|.S TE [(qI 1,(2,0,0,0,0,0,0,0)),(qI 1,(0,1,0,0,0,0,0,0))]
abbrev atA:AV:= .a [.S .q [qI 1,qI 1],.S .q [qI 1],.S .q [],.S .q [],.S .q [],.S .q [],.S .q [],.S .q []]
def awB:aq Tryz.prog 55 [pA,atA,uP mS] (uP [qI 4,qI 2]):=
 iV (l:=[]) M e9 J J
end Go.El
