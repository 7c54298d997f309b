/- Own work; no condition. -/
import Derived.Test.YtceihkmakfdcnaaGreatC15
set_option linter.all false
namespace Go.El
open Go Go.Proofs
def axO:jz Tryz.prog 233 [aP [1073741825,0,1] PQ] (pL [([1073741825,0,1],PQ)]):=
 iT (l:=[]) j fh J J
end Go.El
