/- Own work; no condition. -/
import Derived.Test.YtceihkmakfdcnaaGreatCS3D
set_option linter.all false
open Bool renaming false->ah
open Go.El renaming jz->w
open Go.Proofs.Tryz renaming prog->O
namespace Go.El
open Go Go.Proofs
def axS:w O 165 [uP [qI (-2),qI 0,qI 1]] (.c<|.S (.sl .q) [[qI (-2),qI 0,qI 1]]):=
 iT (l:=[(195,[zP [-2,0,1]],qF [[-2,0,1]])]) ⟨axR,j⟩ fh J J
def axT:w O 164 [uP [qI (-2),qI 0,qI 1]] (.c<|.S (.pr (.sl .q) oR) [([qI (-2),qI 0,qI 1],1)]):=
 iT (l:=[]) j fh J J
def axU:w O 139 [uP [qI (-2),qI 0,qI 1]] (.t [(true,[.B ah,.S (.int .u32) [1],.B ah,.S (.int .u32) [1]]),(ah,[.S (.pr (.sl .q) oR) [([qI (-2),qI 0,qI 1],1)]]),(ah,[.I .i64 0])]):=
 iT (l:=[(164,[uP [qI (-2),qI 0,qI 1]],.c<|.S (.pr (.sl .q) oR) [([qI (-2),qI 0,qI 1],1)]),(165,[uP [qI (-2),qI 0,qI 1]],.c<|.S (.sl .q) [[qI (-2),qI 0,qI 1]])]) ⟨axT,axS,j⟩ fh J J
def axV:w O 31 [uP [qI (-2),qI 0,qI 1]] (cB true):=
 iT (l:=[(139,[uP [qI (-2),qI 0,qI 1]],.t [(true,[.B ah,.S (.int .u32) [1],.B ah,.S (.int .u32) [1]]),(ah,[.S (.pr (.sl .q) oR) [([qI (-2),qI 0,qI 1],1)]]),(ah,[.I .i64 0])])]) ⟨axU,j⟩ fh J J
end Go.El
