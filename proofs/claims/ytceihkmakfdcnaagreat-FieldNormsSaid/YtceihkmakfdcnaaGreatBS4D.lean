/- Closed runs: factors over the rational numbers. Own work; no condition. -/
import Derived.Test.YtceihkmakfdcnaaGreatBS3D
set_option linter.all false
set_option maxHeartbeats 16000000
set_option maxRecDepth 100000
open Bool renaming false->ah
open Go.Proofs.Tryz renaming prog->c
namespace Go.El
open Go Go.Proofs
def at0:ao c 165 [uP [qI (-2),qI 0,qI 1]] (.c<|.S (.sl .q) [[qI (-2),qI 0,qI 1]]):=
 iE (l:=[(195,[zP [-2,0,1]],oI [[-2,0,1]])]) ⟨atZ,A⟩ eL J J
def at1:ao c 164 [uP [qI (-2),qI 0,qI 1]] (.c<|.S (.pr (.sl .q) nb) [([qI (-2),qI 0,qI 1],1)]):=
 iE (l:=[]) A eL J J
def at2:ao c 139 [uP [qI (-2),qI 0,qI 1]] (.t [(true,[.B ah,.S (.int .u32) [1],.B ah,.S (.int .u32) [1]]),(ah,[.S (.pr (.sl .q) nb) [([qI (-2),qI 0,qI 1],1)]]),(ah,[.I .i64 0])]):=
 iE (l:=[(164,[uP [qI (-2),qI 0,qI 1]],.c<|.S (.pr (.sl .q) nb) [([qI (-2),qI 0,qI 1],1)]),(165,[uP [qI (-2),qI 0,qI 1]],.c<|.S (.sl .q) [[qI (-2),qI 0,qI 1]])]) ⟨at1,at0,A⟩ eL J J
def at3:ao c 31 [uP [qI (-2),qI 0,qI 1]] (cB true):=
 iE (l:=[(139,[uP [qI (-2),qI 0,qI 1]],.t [(true,[.B ah,.S (.int .u32) [1],.B ah,.S (.int .u32) [1]]),(ah,[.S (.pr (.sl .q) nb) [([qI (-2),qI 0,qI 1],1)]]),(ah,[.I .i64 0])])]) ⟨at2,A⟩ eL J J
end Go.El
