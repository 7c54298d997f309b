/- Closed runs: a divisor. Own work; no condition. -/
import Derived.Test.YtceihkmakfdcnaaGreatDS1
set_option linter.all false
set_option maxHeartbeats 16000000
set_option maxRecDepth 100000
open Go.El renaming jd->r
open Go.Proofs.Tryz renaming prog->q
namespace Go.El
open Go Go.Proofs
def ag8:r q 14 [uP [qI 1],uP [qI (-2),qI 0,qI 1]] (.t [(false,[.S .q [qI 1]]),(false,[.I .i64 0])]):=
 hJ (l:=[]) h dZ J J
def at6:r q 101 [.c (.S (.sl .q) [[qI (-2)],[],[qI 1]]),uP [qI (-2),qI 0,qI 1]] (.c<|.S (.sl .q) [[qI (-2)],[],[qI 1]]):=
 hJ (l:=[(14,[uP [qI 1],uP [qI (-2),qI 0,qI 1]],.t [(false,[.S .q [qI 1]]),(false,[.I .i64 0])])]) ⟨ag8,h⟩ dZ J J
def at7:r q 101 [.c (.S (.sl .q) [[qI 0,qI 1],[qI 1]]),uP [qI (-2),qI 0,qI 1]] (.c<|.S (.sl .q) [[qI 0,qI 1],[qI 1]]):=
 hJ (l:=[(14,[uP [qI 1],uP [qI (-2),qI 0,qI 1]],.t [(false,[.S .q [qI 1]]),(false,[.I .i64 0])])]) ⟨ag8,h⟩ dZ J J
def at8:r q 102 [.c (.S (.sl .q) [[qI (-2)],[],[qI 1]]),.c<|.S (.sl .q) [[qI 0,qI 1],[qI 1]],uP [qI (-2),qI 0,qI 1]] (.c<|.S (.sl .q) []):=
 hJ (l:=[]) h dZ J J
def at9:r q 49 [.c (.S (.sl .q) [[qI (-2)],[],[qI 1]]),.c<|.S (.sl .q) [[qI 0,qI 1],[qI 1]],uP [qI (-2),qI 0,qI 1]] (.c<|.S (.sl .q) [[qI 0,qI 1],[qI 1]]):=
 hJ (l:=[(101,[.c (.S (.sl .q) [[qI (-2)],[],[qI 1]]),uP [qI (-2),qI 0,qI 1]],.c<|.S (.sl .q) [[qI (-2)],[],[qI 1]]),(101,[.c (.S (.sl .q) [[qI 0,qI 1],[qI 1]]),uP [qI (-2),qI 0,qI 1]],.c<|.S (.sl .q) [[qI 0,qI 1],[qI 1]]),(102,[.c (.S (.sl .q) [[qI (-2)],[],[qI 1]]),.c<|.S (.sl .q) [[qI 0,qI 1],[qI 1]],uP [qI (-2),qI 0,qI 1]],.c<|.S (.sl .q) [])]) ⟨at6,at7,at8,h⟩ dZ J J
end Go.El
