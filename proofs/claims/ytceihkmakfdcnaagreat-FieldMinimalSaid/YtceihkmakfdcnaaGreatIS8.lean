/- Own work; no condition. -/
import Derived.Test.YtceihkmakfdcnaaGreatIS1
set_option linter.all false
set_option maxHeartbeats 16000000
set_option maxRecDepth 100000
open Go.Proofs.Tryz renaming prog->r
namespace Go.El
open Go Go.Proofs
def ajH:aq r 14 [uP [qI 1],uP [qI (-2),qI 0,qI 1]] (.t [(false,[.S .q [qI 1]]),(false,[.I .i64 0])]):=
 iV (l:=[]) M e9 J J
def awX:aq r 101 [.c (.S (.sl .q) [[qI (-2)],[],[qI 1]]),uP [qI (-2),qI 0,qI 1]] (.c<|.S (.sl .q) [[qI (-2)],[],[qI 1]]):=
 iV (l:=[(14,[uP [qI 1],uP [qI (-2),qI 0,qI 1]],.t [(false,[.S .q [qI 1]]),(false,[.I .i64 0])])]) ⟨ajH,M⟩ e9 J J
def awY:aq r 101 [.c (.S (.sl .q) [[qI 0,qI 1],[qI 1]]),uP [qI (-2),qI 0,qI 1]] (.c<|.S (.sl .q) [[qI 0,qI 1],[qI 1]]):=
 iV (l:=[(14,[uP [qI 1],uP [qI (-2),qI 0,qI 1]],.t [(false,[.S .q [qI 1]]),(false,[.I .i64 0])])]) ⟨ajH,M⟩ e9 J J
def awZ:aq r 102 [.c (.S (.sl .q) [[qI (-2)],[],[qI 1]]),.c<|.S (.sl .q) [[qI 0,qI 1],[qI 1]],uP [qI (-2),qI 0,qI 1]] (.c<|.S (.sl .q) []):=
 iV (l:=[]) M e9 J J
def aw0:aq r 49 [.c (.S (.sl .q) [[qI (-2)],[],[qI 1]]),.c<|.S (.sl .q) [[qI 0,qI 1],[qI 1]],uP [qI (-2),qI 0,qI 1]] (.c<|.S (.sl .q) [[qI 0,qI 1],[qI 1]]):=
 iV (l:=[(101,[.c (.S (.sl .q) [[qI (-2)],[],[qI 1]]),uP [qI (-2),qI 0,qI 1]],.c<|.S (.sl .q) [[qI (-2)],[],[qI 1]]),(101,[.c (.S (.sl .q) [[qI 0,qI 1],[qI 1]]),uP [qI (-2),qI 0,qI 1]],.c<|.S (.sl .q) [[qI 0,qI 1],[qI 1]]),(102,[.c (.S (.sl .q) [[qI (-2)],[],[qI 1]]),.c<|.S (.sl .q) [[qI 0,qI 1],[qI 1]],uP [qI (-2),qI 0,qI 1]],.c<|.S (.sl .q) [])]) ⟨awX,awY,awZ,M⟩ e9 J J
end Go.El
