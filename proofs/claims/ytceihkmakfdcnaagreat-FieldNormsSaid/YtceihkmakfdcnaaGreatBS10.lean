/- The sanity check of the law holds. Own work; no condition. -/
import Derived.Test.YtceihkmakfdcnaaGreatBS4D
import Derived.Test.YtceihkmakfdcnaaGreatBS4E
import Derived.Test.YtceihkmakfdcnaaGreatBS5
import Derived.Test.YtceihkmakfdcnaaGreatBS6
import Derived.Test.YtceihkmakfdcnaaGreatBS7
import Derived.Test.YtceihkmakfdcnaaGreatBS8
import Derived.Test.YtceihkmakfdcnaaGreatBS9
set_option linter.all false
set_option maxHeartbeats 16000000
set_option maxRecDepth 100000
namespace Go.El
open Go Go.Proofs
def auk:ao Tryz.prog 10 [] (cB true):=
 iE (l:=[(14,[uP [qI 0,qI 1],uP [qI (-2),qI 0,qI 1]],.t [(false,[.S .q [qI 0,qH]]),(false,[.I .i64 0])]),(49,[.c (.S (.sl .q) [[qI (-2)],[],[qI 1]]),.c<|.S (.sl .q) [[qI 0,qI 1],[qI 1]],uP [qI (-2),qI 0,qI 1]],.c<|.S (.sl .q) [[qI 0,qI 1],[qI 1]]),(19,[uP [qI 1,qI 1],uP [qI (-1),qI 1],uP [qI (-2),qI 0,qI 1]],uP [qI 1]),(17,[uP [qI 0,qI 0,qI 0,qI 1],uP [qI (-2),qI 0,qI 1]],uP [qI 0,qI 2]),(22,[uP [qI 3,qI 1],uP [qI (-2),qI 0,qI 1]],aQ<|qI 7),(24,[uP [qI 3,qI 1],uP [qI (-2),qI 0,qI 1]],aQ<|qI 6),(26,[uP [qI 3,qI 1],uP [qI (-2),qI 0,qI 1]],uP [qI 7,qI<| -6,qI 1]),(26,[uP [qI 5],uP [qI (-2),qI 0,qI 1]],uP [qI (-5),qI 1]),(55,[pA,atA,uP [qI (-2),qI 0,qI 1]],uP [qI 4,qI 2]),(31,[uP [qI (-2),qI 0,qI 1]],cB true),(31,[uP [qI 0,qI 1]],cB true),(31,[uP [qI (-4),qI 0,qI 1]],cB false),(31,[uP [qI 0,qI 2]],cB false)]) ⟨atT,auj,atS,atQ,aue,auf,aud,atU,atV,at3,aub,aua,auc,A⟩ eL J J
end Go.El
