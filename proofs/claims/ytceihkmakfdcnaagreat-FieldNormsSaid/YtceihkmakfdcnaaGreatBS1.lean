/- Closed runs: the field of the square root of 2. Own work; no condition. -/
import Derived.Test.YtceihkmakfdcnaaGreatB15
set_option linter.all false
set_option maxHeartbeats 16000000
set_option maxRecDepth 100000
open Go.Proofs.Tryz renaming prog->c
namespace Go.El
open Go Go.Proofs
def qH:Rat:=⟨1,2,D,D⟩
abbrev mS:List Rat:=[qI (-2),qI 0,qI 1]
def atQ:ao c 17 [uP [qI 0,qI 0,qI 0,qI 1],uP mS] (uP [qI 0,qI 2]):=
 iE (l:=[]) A eL J J
def atS:ao c 19 [uP [qI 1,qI 1],uP [qI (-1),qI 1],uP mS] (uP [qI 1]):=
 iE (l:=[]) A eL J J
def atT:ao c 14 [uP [qI 0,qI 1],uP mS] (.t [(false,[.S .q [qI 0,qH]]),(false,[.I .i64 0])]):=
 iE (l:=[]) A eL J J
def atU:ao c 26 [uP [qI 5],uP mS] (uP [qI (-5),qI 1]):=
 iE (l:=[]) A eL J J
end Go.El
