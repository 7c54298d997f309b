/- Own work; no condition. -/
import Derived.Test.YtceihkmakfdcnaaGreatC15
set_option linter.all false
open Go.Proofs.Tryz renaming prog->O
namespace Go.El
open Go Go.Proofs
def qH:Rat:=⟨1,2,S,S⟩
abbrev mS:List Rat:=[qI (-2),qI 0,qI 1]
def axJ:jz O 17 [uP [qI 0,qI 0,qI 0,qI 1],uP mS] (uP [qI 0,qI 2]):=
 iT (l:=[]) j fh J J
def axK:jz O 19 [uP [qI 1,qI 1],uP [qI (-1),qI 1],uP mS] (uP [qI 1]):=
 iT (l:=[]) j fh J J
def axL:jz O 14 [uP [qI 0,qI 1],uP mS] (.t [(false,[.S .q [qI 0,qH]]),(false,[.I .i64 0])]):=
 iT (l:=[]) j fh J J
def axM:jz O 26 [uP [qI 5],uP mS] (uP [qI (-5),qI 1]):=
 iT (l:=[]) j fh J J
end Go.El
