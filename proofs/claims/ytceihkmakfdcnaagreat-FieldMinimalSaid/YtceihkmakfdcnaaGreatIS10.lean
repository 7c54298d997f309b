/- Own work; no condition. -/
import Derived.Test.YtceihkmakfdcnaaGreatIS4D
import Derived.Test.YtceihkmakfdcnaaGreatIS4E
import Derived.Test.YtceihkmakfdcnaaGreatIS5
import Derived.Test.YtceihkmakfdcnaaGreatIS6
import Derived.Test.YtceihkmakfdcnaaGreatIS7
import Derived.Test.YtceihkmakfdcnaaGreatIS8
import Derived.Test.YtceihkmakfdcnaaGreatIS9
set_option linter.all false
set_option maxHeartbeats 16000000
set_option maxRecDepth 100000
namespace Go.El
open Go Go.Proofs
def aw1:aq Tryz.prog 10 [] (cB true):=
 iV (l:=[(14,[uP [qI 0,qI 1],uP [qI (-2),qI 0,qI 1]],.t [(false,[.S .q [qI 0,qH]]),(false,[.I .i64 0])]),(49,[.c (.S (.sl .q) [[qI (-2)],[],[qI 1]]),.c<|.S (.sl .q) [[qI 0,qI 1],[qI 1]],uP [qI (-2),qI 0,qI 1]],.c<|.S (.sl .q) [[qI 0,qI 1],[qI 1]]),(19,[uP [qI 1,qI 1],uP [qI (-1),qI 1],uP [qI (-2),qI 0,qI 1]],uP [qI 1]),(17,[uP [qI 0,qI 0,qI 0,qI 1],uP [qI (-2),qI 0,qI 1]],uP [qI 0,qI 2]),(22,[uP [qI 3,qI 1],uP [qI (-2),qI 0,qI 1]],aQ<|qI 7),(24,[uP [qI 3,qI 1],uP [qI (-2),qI 0,qI 1]],aQ<|qI 6),(26,[uP [qI 3,qI 1],uP [qI (-2),qI 0,qI 1]],uP [qI 7,qI<| -6,qI 1]),(26,[uP [qI 5],uP [qI (-2),qI 0,qI 1]],uP [qI (-5),qI 1]),(55,[pA,atA,uP [qI (-2),qI 0,qI 1]],uP [qI 4,qI 2]),(31,[uP [qI (-2),qI 0,qI 1]],cB true),(31,[uP [qI 0,qI 1]],cB true),(31,[uP [qI (-4),qI 0,qI 1]],cB false),(31,[uP [qI 0,qI 2]],cB false)]) ⟨awz,aw0,awy,awx,awV,awW,awU,awA,awB,awJ,awS,awR,awT,M⟩ e9 J J
end Go.El
