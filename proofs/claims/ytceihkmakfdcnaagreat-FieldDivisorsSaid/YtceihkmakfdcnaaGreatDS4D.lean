/- Closed runs: factors over the rational numbers. Own work; no condition. -/
import Derived.Test.YtceihkmakfdcnaaGreatDS3D
set_option linter.all false
set_option maxHeartbeats 16000000
set_option maxRecDepth 100000
open Bool renaming false->ah
open Go.El renaming jd->r
open Go.Proofs.Tryz renaming prog->q
namespace Go.El
open Go Go.Proofs
def atO:r q 165 [uP [qI (-2),qI 0,qI 1]] (.c<|.S (.sl .q) [[qI (-2),qI 0,qI 1]]):=
 hJ (l:=[(195,[zP [-2,0,1]],oJ [[-2,0,1]])]) ⟨atN,h⟩ dZ J J
def atP:r q 164 [uP [qI (-2),qI 0,qI 1]] (.c<|.S (.pr (.sl .q) np) [([qI (-2),qI 0,qI 1],1)]):=
 hJ (l:=[]) h dZ J J
def atQ:r q 139 [uP [qI (-2),qI 0,qI 1]] (.t [(true,[.B ah,.S (.int .u32) [1],.B ah,.S (.int .u32) [1]]),(ah,[.S (.pr (.sl .q) np) [([qI (-2),qI 0,qI 1],1)]]),(ah,[.I .i64 0])]):=
 hJ (l:=[(164,[uP [qI (-2),qI 0,qI 1]],.c<|.S (.pr (.sl .q) np) [([qI (-2),qI 0,qI 1],1)]),(165,[uP [qI (-2),qI 0,qI 1]],.c<|.S (.sl .q) [[qI (-2),qI 0,qI 1]])]) ⟨atP,atO,h⟩ dZ J J
def atS:r q 31 [uP [qI (-2),qI 0,qI 1]] (cB true):=
 hJ (l:=[(139,[uP [qI (-2),qI 0,qI 1]],.t [(true,[.B ah,.S (.int .u32) [1],.B ah,.S (.int .u32) [1]]),(ah,[.S (.pr (.sl .q) np) [([qI (-2),qI 0,qI 1],1)]]),(ah,[.I .i64 0])])]) ⟨atQ,h⟩ dZ J J
end Go.El
