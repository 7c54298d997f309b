/- Own work; no condition. -/
import Derived.Test.YtceihkmakfdcnaaGreatC15
set_option linter.all false
namespace Go.El
open Go Go.Proofs
def ax4:jz Tryz.prog 31 [uP [qI 0,qI 1]] (cB true):=
 iT (l:=[]) j fh J J
def ax5:jz Tryz.prog 31 [uP [qI 0,qI 2]] (cB false):=
 iT (l:=[]) j fh J J
end Go.El
