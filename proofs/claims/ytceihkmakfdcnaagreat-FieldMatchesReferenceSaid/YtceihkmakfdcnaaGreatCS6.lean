/- Own work; no condition. -/
import Derived.Test.YtceihkmakfdcnaaGreatCS1
set_option linter.all false
namespace Go.El
open Go Go.Proofs
def ax6:jz Tryz.prog 26 [uP [qI 3,qI 1],uP [qI (-2),qI 0,qI 1]] (uP [qI 7,qI<| -6,qI 1]):=
 iT (l:=[]) j fh J J
end Go.El
