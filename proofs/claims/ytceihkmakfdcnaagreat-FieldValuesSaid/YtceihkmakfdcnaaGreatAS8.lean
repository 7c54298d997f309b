/- Closed runs: a divisor. Own work; no condition. -/
import Derived.Test.YtceihkmakfdcnaaGreatA14
set_option linter.all false
set_option maxHeartbeats 16000000
set_option maxRecDepth 100000
open Go.Proofs.Tryz renaming prog->z
namespace Go.El
open Go Go.Proofs
def afl:al z 14 [uP [qI 1],uP [qI (-2),qI 0,qI 1]] (.t [(false,[.S .q [qI 1]]),(false,[.I .i64 0])]):=
 fO (l:=[]) e dD J J
def arX:al z 101 [.c (.S (.sl .q) [[qI (-2)],[],[qI 1]]),uP [qI (-2),qI 0,qI 1]] (.c<|.S (.sl .q) [[qI (-2)],[],[qI 1]]):=
 fO (l:=[(14,[uP [qI 1],uP [qI (-2),qI 0,qI 1]],.t [(false,[.S .q [qI 1]]),(false,[.I .i64 0])])]) ⟨afl,e⟩ dD J J
def arY:al z 101 [.c (.S (.sl .q) [[qI 0,qI 1],[qI 1]]),uP [qI (-2),qI 0,qI 1]] (.c<|.S (.sl .q) [[qI 0,qI 1],[qI 1]]):=
 fO (l:=[(14,[uP [qI 1],uP [qI (-2),qI 0,qI 1]],.t [(false,[.S .q [qI 1]]),(false,[.I .i64 0])])]) ⟨afl,e⟩ dD J J
def arZ:al z 102 [.c (.S (.sl .q) [[qI (-2)],[],[qI 1]]),.c<|.S (.sl .q) [[qI 0,qI 1],[qI 1]],uP [qI (-2),qI 0,qI 1]] (.c<|.S (.sl .q) []):=
 fO (l:=[]) e dD J J
def ar0:al z 49 [.c (.S (.sl .q) [[qI (-2)],[],[qI 1]]),.c<|.S (.sl .q) [[qI 0,qI 1],[qI 1]],uP [qI (-2),qI 0,qI 1]] (.c<|.S (.sl .q) [[qI 0,qI 1],[qI 1]]):=
 fO (l:=[(101,[.c (.S (.sl .q) [[qI (-2)],[],[qI 1]]),uP [qI (-2),qI 0,qI 1]],.c<|.S (.sl .q) [[qI (-2)],[],[qI 1]]),(101,[.c (.S (.sl .q) [[qI 0,qI 1],[qI 1]]),uP [qI (-2),qI 0,qI 1]],.c<|.S (.sl .q) [[qI 0,qI 1],[qI 1]]),(102,[.c (.S (.sl .q) [[qI (-2)],[],[qI 1]]),.c<|.S (.sl .q) [[qI 0,qI 1],[qI 1]],uP [qI (-2),qI 0,qI 1]],.c<|.S (.sl .q) [])]) ⟨arX,arY,arZ,e⟩ dD J J
end Go.El
