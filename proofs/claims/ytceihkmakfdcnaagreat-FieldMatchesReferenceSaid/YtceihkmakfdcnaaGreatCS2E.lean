/- Own work; no condition. -/
import Derived.Test.YtceihkmakfdcnaaGreatC15
set_option linter.all false
namespace Go.El
open Go Go.Proofs
def axW:jz Tryz.prog 233 [aP [1073741823,0,1] PQ] (pL [([2,1],PQ),([1073741825,1],PQ)]):=
 iT (l:=[]) j fh J J
end Go.El
