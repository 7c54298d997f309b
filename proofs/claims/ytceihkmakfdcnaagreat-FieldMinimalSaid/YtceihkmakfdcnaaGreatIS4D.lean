/- Own work; no condition. -/
import Derived.Test.YtceihkmakfdcnaaGreatIS3D
set_option linter.all false
set_option maxHeartbeats 16000000
set_option maxRecDepth 100000
open Bool renaming false->ak
open Go.Proofs.Tryz renaming prog->r
namespace Go.El
open Go Go.Proofs
def awG:aq r 165 [uP [qI (-2),qI 0,qI 1]] (.c<|.S (.sl .q) [[qI (-2),qI 0,qI 1]]):=
 iV (l:=[(195,[zP [-2,0,1]],qe [[-2,0,1]])]) ⟨awF,M⟩ e9 J J
def awH:aq r 164 [uP [qI (-2),qI 0,qI 1]] (.c<|.S (.pr (.sl .q) ot) [([qI (-2),qI 0,qI 1],1)]):=
 iV (l:=[]) M e9 J J
def awI:aq r 139 [uP [qI (-2),qI 0,qI 1]] (.t [(true,[.B ak,.S (.int .u32) [1],.B ak,.S (.int .u32) [1]]),(ak,[.S (.pr (.sl .q) ot) [([qI (-2),qI 0,qI 1],1)]]),(ak,[.I .i64 0])]):=
 iV (l:=[(164,[uP [qI (-2),qI 0,qI 1]],.c<|.S (.pr (.sl .q) ot) [([qI (-2),qI 0,qI 1],1)]),(165,[uP [qI (-2),qI 0,qI 1]],.c<|.S (.sl .q) [[qI (-2),qI 0,qI 1]])]) ⟨awH,awG,M⟩ e9 J J
def awJ:aq r 31 [uP [qI (-2),qI 0,qI 1]] (cB true):=
 iV (l:=[(139,[uP [qI (-2),qI 0,qI 1]],.t [(true,[.B ak,.S (.int .u32) [1],.B ak,.S (.int .u32) [1]]),(ak,[.S (.pr (.sl .q) ot) [([qI (-2),qI 0,qI 1],1)]]),(ak,[.I .i64 0])])]) ⟨awI,M⟩ e9 J J
end Go.El
