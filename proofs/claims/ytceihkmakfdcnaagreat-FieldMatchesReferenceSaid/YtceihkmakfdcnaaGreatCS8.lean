/- Own work; no condition. -/
import Derived.Test.YtceihkmakfdcnaaGreatCS1
set_option linter.all false
open Go.El renaming jz->w
open Go.Proofs.Tryz renaming prog->O
namespace Go.El
open Go Go.Proofs
def ak8:w O 14 [uP [qI 1],uP [qI (-2),qI 0,qI 1]] (.t [(false,[.S .q [qI 1]]),(false,[.I .i64 0])]):=
 iT (l:=[]) j fh J J
def ax9:w O 101 [.c (.S (.sl .q) [[qI (-2)],[],[qI 1]]),uP [qI (-2),qI 0,qI 1]] (.c<|.S (.sl .q) [[qI (-2)],[],[qI 1]]):=
 iT (l:=[(14,[uP [qI 1],uP [qI (-2),qI 0,qI 1]],.t [(false,[.S .q [qI 1]]),(false,[.I .i64 0])])]) ⟨ak8,j⟩ fh J J
def ax':w O 101 [.c (.S (.sl .q) [[qI 0,qI 1],[qI 1]]),uP [qI (-2),qI 0,qI 1]] (.c<|.S (.sl .q) [[qI 0,qI 1],[qI 1]]):=
 iT (l:=[(14,[uP [qI 1],uP [qI (-2),qI 0,qI 1]],.t [(false,[.S .q [qI 1]]),(false,[.I .i64 0])])]) ⟨ak8,j⟩ fh J J
def aya:w O 102 [.c (.S (.sl .q) [[qI (-2)],[],[qI 1]]),.c<|.S (.sl .q) [[qI 0,qI 1],[qI 1]],uP [qI (-2),qI 0,qI 1]] (.c<|.S (.sl .q) []):=
 iT (l:=[]) j fh J J
def ayb:w O 49 [.c (.S (.sl .q) [[qI (-2)],[],[qI 1]]),.c<|.S (.sl .q) [[qI 0,qI 1],[qI 1]],uP [qI (-2),qI 0,qI 1]] (.c<|.S (.sl .q) [[qI 0,qI 1],[qI 1]]):=
 iT (l:=[(101,[.c (.S (.sl .q) [[qI (-2)],[],[qI 1]]),uP [qI (-2),qI 0,qI 1]],.c<|.S (.sl .q) [[qI (-2)],[],[qI 1]]),(101,[.c (.S (.sl .q) [[qI 0,qI 1],[qI 1]]),uP [qI (-2),qI 0,qI 1]],.c<|.S (.sl .q) [[qI 0,qI 1],[qI 1]]),(102,[.c (.S (.sl .q) [[qI (-2)],[],[qI 1]]),.c<|.S (.sl .q) [[qI 0,qI 1],[qI 1]],uP [qI (-2),qI 0,qI 1]],.c<|.S (.sl .q) [])]) ⟨ax9,ax',aya,j⟩ fh J J
end Go.El
