/- Closed runs: factors over the rational numbers. Own work; no condition. -/
import Derived.Test.YtceihkmakfdcnaaGreatAS3E
set_option linter.all false
set_option maxHeartbeats 16000000
set_option maxRecDepth 100000
open Bool renaming false->ah
open Go.Proofs.Tryz renaming prog->z
namespace Go.El
open Go Go.Proofs
def arO:al z 165 [uP [qI (-4),qI 0,qI 1]] (.c<|.S (.sl .q) [[qI 2,qI 1],[qI (-2),qI 1]]):=
 fO (l:=[(195,[zP [-4,0,1]],nZ [[2,1],[-2,1]])]) ⟨arN,e⟩ dD J J
def arP:al z 164 [uP [qI (-4),qI 0,qI 1]] (.c<|.S (.pr (.sl .q) mC) [([qI (-4),qI 0,qI 1],1)]):=
 fO (l:=[]) e dD J J
def arQ:al z 139 [uP [qI (-4),qI 0,qI 1]] (.t [(true,[.B ah,.S (.int .u32) [1],.B ah,.S (.int .u32) [1]]),(ah,[.S (.pr (.sl .q) mC) [([qI (-2),qI 1],1),([qI 2,qI 1],1)]]),(ah,[.I .i64 0])]):=
 fO (l:=[(164,[uP [qI (-4),qI 0,qI 1]],.c<|.S (.pr (.sl .q) mC) [([qI (-4),qI 0,qI 1],1)]),(165,[uP [qI (-4),qI 0,qI 1]],.c<|.S (.sl .q) [[qI 2,qI 1],[qI (-2),qI 1]])]) ⟨arP,arO,e⟩ dD J J
def arR:al z 31 [uP [qI (-4),qI 0,qI 1]] (cB ah):=
 fO (l:=[(139,[uP [qI (-4),qI 0,qI 1]],.t [(true,[.B ah,.S (.int .u32) [1],.B ah,.S (.int .u32) [1]]),(ah,[.S (.pr (.sl .q) mC) [([qI (-2),qI 1],1),([qI 2,qI 1],1)]]),(ah,[.I .i64 0])])]) ⟨arQ,e⟩ dD J J
end Go.El
