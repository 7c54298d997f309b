/- Own work; no condition. -/
import Derived.Test.YtceihkmakfdcnaaGreatI15
set_option linter.all false
set_option maxHeartbeats 16000000
set_option maxRecDepth 100000
open Go.Proofs.Tryz renaming prog->r
namespace Go.El
open Go Go.Proofs
def qH:Rat:=⟨1,2,o,o⟩
abbrev mS:List Rat:=[qI (-2),qI 0,qI 1]
def awx:aq r 17 [uP [qI 0,qI 0,qI 0,qI 1],uP mS] (uP [qI 0,qI 2]):=
 iV (l:=[]) M e9 J J
def awy:aq r 19 [uP [qI 1,qI 1],uP [qI (-1),qI 1],uP mS] (uP [qI 1]):=
 iV (l:=[]) M e9 J J
def awz:aq r 14 [uP [qI 0,qI 1],uP mS] (.t [(false,[.S .q [qI 0,qH]]),(false,[.I .i64 0])]):=
 iV (l:=[]) M e9 J J
def awA:aq r 26 [uP [qI 5],uP mS] (uP [qI (-5),qI 1]):=
 iV (l:=[]) M e9 J J
end Go.El
