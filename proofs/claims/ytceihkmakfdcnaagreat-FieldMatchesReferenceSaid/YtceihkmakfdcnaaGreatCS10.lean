/- Own work; no condition. -/
import Derived.Test.YtceihkmakfdcnaaGreatCS4D
import Derived.Test.YtceihkmakfdcnaaGreatCS4E
import Derived.Test.YtceihkmakfdcnaaGreatCS5
import Derived.Test.YtceihkmakfdcnaaGreatCS6
import Derived.Test.YtceihkmakfdcnaaGreatCS7
import Derived.Test.YtceihkmakfdcnaaGreatCS8
import Derived.Test.YtceihkmakfdcnaaGreatCS9
set_option linter.all false
open Go.El renaming jz->w
namespace Go.El
open Go Go.Proofs
def ayc:w Tryz.prog 10 [] (cB true):=
 iT (l:=[(14,[uP [qI 0,qI 1],uP [qI (-2),qI 0,qI 1]],.t [(false,[.S .q [qI 0,qH]]),(false,[.I .i64 0])]),(49,[.c (.S (.sl .q) [[qI (-2)],[],[qI 1]]),.c<|.S (.sl .q) [[qI 0,qI 1],[qI 1]],uP [qI (-2),qI 0,qI 1]],.c<|.S (.sl .q) [[qI 0,qI 1],[qI 1]]),(19,[uP [qI 1,qI 1],uP [qI (-1),qI 1],uP [qI (-2),qI 0,qI 1]],uP [qI 1]),(17,[uP [qI 0,qI 0,qI 0,qI 1],uP [qI (-2),qI 0,qI 1]],uP [qI 0,qI 2]),(22,[uP [qI 3,qI 1],uP [qI (-2),qI 0,qI 1]],aQ<|qI 7),(24,[uP [qI 3,qI 1],uP [qI (-2),qI 0,qI 1]],aQ<|qI 6),(26,[uP [qI 3,qI 1],uP [qI (-2),qI 0,qI 1]],uP [qI 7,qI<| -6,qI 1]),(26,[uP [qI 5],uP [qI (-2),qI 0,qI 1]],uP [qI (-5),qI 1]),(55,[pA,atA,uP [qI (-2),qI 0,qI 1]],uP [qI 4,qI 2]),(31,[uP [qI (-2),qI 0,qI 1]],cB true),(31,[uP [qI 0,qI 1]],cB true),(31,[uP [qI (-4),qI 0,qI 1]],cB false),(31,[uP [qI 0,qI 2]],cB false)]) ⟨axL,ayb,axK,axJ,ax7,ax8,ax6,axM,axN,axV,ax4,ax3,ax5,j⟩ fh J J
end Go.El
