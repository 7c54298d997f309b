/- Closed runs: a divisor. Own work; no condition. -/
import Derived.Test.YtceihkmakfdcnaaGreatBS1
set_option linter.all false
set_option maxHeartbeats 16000000
set_option maxRecDepth 100000
open Go.Proofs.Tryz renaming prog->c
namespace Go.El
open Go Go.Proofs
def ahl:ao c 14 [uP [qI 1],uP [qI (-2),qI 0,qI 1]] (.t [(false,[.S .q [qI 1]]),(false,[.I .i64 0])]):=
 iE (l:=[]) A eL J J
def aug:ao c 101 [.c (.S (.sl .q) [[qI (-2)],[],[qI 1]]),uP [qI (-2),qI 0,qI 1]] (.c<|.S (.sl .q) [[qI (-2)],[],[qI 1]]):=
 iE (l:=[(14,[uP [qI 1],uP [qI (-2),qI 0,qI 1]],.t [(false,[.S .q [qI 1]]),(false,[.I .i64 0])])]) ⟨ahl,A⟩ eL J J
def auh:ao c 101 [.c (.S (.sl .q) [[qI 0,qI 1],[qI 1]]),uP [qI (-2),qI 0,qI 1]] (.c<|.S (.sl .q) [[qI 0,qI 1],[qI 1]]):=
 iE (l:=[(14,[uP [qI 1],uP [qI (-2),qI 0,qI 1]],.t [(false,[.S .q [qI 1]]),(false,[.I .i64 0])])]) ⟨ahl,A⟩ eL J J
def aui:ao c 102 [.c (.S (.sl .q) [[qI (-2)],[],[qI 1]]),.c<|.S (.sl .q) [[qI 0,qI 1],[qI 1]],uP [qI (-2),qI 0,qI 1]] (.c<|.S (.sl .q) []):=
 iE (l:=[]) A eL J J
def auj:ao c 49 [.c (.S (.sl .q) [[qI (-2)],[],[qI 1]]),.c<|.S (.sl .q) [[qI 0,qI 1],[qI 1]],uP [qI (-2),qI 0,qI 1]] (.c<|.S (.sl .q) [[qI 0,qI 1],[qI 1]]):=
 iE (l:=[(101,[.c (.S (.sl .q) [[qI (-2)],[],[qI 1]]),uP [qI (-2),qI 0,qI 1]],.c<|.S (.sl .q) [[qI (-2)],[],[qI 1]]),(101,[.c (.S (.sl .q) [[qI 0,qI 1],[qI 1]]),uP [qI (-2),qI 0,qI 1]],.c<|.S (.sl .q) [[qI 0,qI 1],[qI 1]]),(102,[.c (.S (.sl .q) [[qI (-2)],[],[qI 1]]),.c<|.S (.sl .q) [[qI 0,qI 1],[qI 1]],uP [qI (-2),qI 0,qI 1]],.c<|.S (.sl .q) [])]) ⟨aug,auh,aui,A⟩ eL J J
end Go.El
