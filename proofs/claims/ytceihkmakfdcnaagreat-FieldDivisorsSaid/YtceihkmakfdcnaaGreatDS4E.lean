/- Closed runs: factors over the rational numbers. Own work; no condition. -/
import Derived.Test.YtceihkmakfdcnaaGreatDS3E
set_option linter.all false
set_option maxHeartbeats 16000000
set_option maxRecDepth 100000
open Bool renaming false->ah
open Go.El renaming jd->r
open Go.Proofs.Tryz renaming prog->q
namespace Go.El
open Go Go.Proofs
def atX:r q 165 [uP [qI (-4),qI 0,qI 1]] (.c<|.S (.sl .q) [[qI 2,qI 1],[qI (-2),qI 1]]):=
 hJ (l:=[(195,[zP [-4,0,1]],oJ [[2,1],[-2,1]])]) ⟨atW,h⟩ dZ J J
def atY:r q 164 [uP [qI (-4),qI 0,qI 1]] (.c<|.S (.pr (.sl .q) np) [([qI (-4),qI 0,qI 1],1)]):=
 hJ (l:=[]) h dZ J J
def atZ:r q 139 [uP [qI (-4),qI 0,qI 1]] (.t [(true,[.B ah,.S (.int .u32) [1],.B ah,.S (.int .u32) [1]]),(ah,[.S (.pr (.sl .q) np) [([qI (-2),qI 1],1),([qI 2,qI 1],1)]]),(ah,[.I .i64 0])]):=
 hJ (l:=[(164,[uP [qI (-4),qI 0,qI 1]],.c<|.S (.pr (.sl .q) np) [([qI (-4),qI 0,qI 1],1)]),(165,[uP [qI (-4),qI 0,qI 1]],.c<|.S (.sl .q) [[qI 2,qI 1],[qI (-2),qI 1]])]) ⟨atY,atX,h⟩ dZ J J
def at0:r q 31 [uP [qI (-4),qI 0,qI 1]] (cB ah):=
 hJ (l:=[(139,[uP [qI (-4),qI 0,qI 1]],.t [(true,[.B ah,.S (.int .u32) [1],.B ah,.S (.int .u32) [1]]),(ah,[.S (.pr (.sl .q) np) [([qI (-2),qI 1],1),([qI 2,qI 1],1)]]),(ah,[.I .i64 0])])]) ⟨atZ,h⟩ dZ J J
end Go.El
