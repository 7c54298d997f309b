/- Own work; no condition. -/
import Derived.Test.YtceihkmakfdcnaaGreatCS1
set_option linter.all false
namespace Go.El
open Go Go.Proofs
def ax7:jz Tryz.prog 22 [uP [qI 3,qI 1],uP [qI (-2),qI 0,qI 1]] (aQ<|qI 7):=
 SI (l:=[]) j fh J J
def ax8:jz Tryz.prog 24 [uP [qI 3,qI 1],uP [qI (-2),qI 0,qI 1]] (aQ<|qI 6):=
 SI (l:=[]) j fh J J
end Go.El
