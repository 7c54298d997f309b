/- Own work; no condition. -/
import Derived.Test.YtceihkmakfdcnaaGreatCS3E
set_option linter.all false
open Bool renaming false->ah
open Go.El renaming jz->w
open Go.Proofs.Tryz renaming prog->O
namespace Go.El
open Go Go.Proofs
def ax0:w O 165 [uP [qI (-4),qI 0,qI 1]] (.c<|.S (.sl .q) [[qI 2,qI 1],[qI (-2),qI 1]]):=
 iT (l:=[(195,[zP [-4,0,1]],qF [[2,1],[-2,1]])]) ⟨axZ,j⟩ fh J J
def ax1:w O 164 [uP [qI (-4),qI 0,qI 1]] (.c<|.S (.pr (.sl .q) oR) [([qI (-4),qI 0,qI 1],1)]):=
 iT (l:=[]) j fh J J
def ax2:w O 139 [uP [qI (-4),qI 0,qI 1]] (.t [(true,[.B ah,.S (.int .u32) [1],.B ah,.S (.int .u32) [1]]),(ah,[.S (.pr (.sl .q) oR) [([qI (-2),qI 1],1),([qI 2,qI 1],1)]]),(ah,[.I .i64 0])]):=
 iT (l:=[(164,[uP [qI (-4),qI 0,qI 1]],.c<|.S (.pr (.sl .q) oR) [([qI (-4),qI 0,qI 1],1)]),(165,[uP [qI (-4),qI 0,qI 1]],.c<|.S (.sl .q) [[qI 2,qI 1],[qI (-2),qI 1]])]) ⟨ax1,ax0,j⟩ fh J J
def ax3:w O 31 [uP [qI (-4),qI 0,qI 1]] (cB ah):=
 iT (l:=[(139,[uP [qI (-4),qI 0,qI 1]],.t [(true,[.B ah,.S (.int .u32) [1],.B ah,.S (.int .u32) [1]]),(ah,[.S (.pr (.sl .q) oR) [([qI (-2),qI 1],1),([qI 2,qI 1],1)]]),(ah,[.I .i64 0])])]) ⟨ax2,j⟩ fh J J
end Go.El
