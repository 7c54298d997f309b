/- Closed runs: factors of monic integer polynomials. Own work; no condition. -/
import Derived.Test.YtkkccchkmcjcpaaGreatM10
import Derived.Test.YtkkccchkmcjcpaaGreatMW23
import Derived.Test.YtkkccchkmcjcpaaGreatMW24
import Derived.Test.YtkkccchkmcjcpaaGreatMW25
import Derived.Test.YtkkccchkmcjcpaaGreatMW26
set_option linter.unusedVariables false
set_option linter.unusedSimpArgs false
namespace Go.El
open Go Go.Proofs
theorem monicFactorsA_s : FnS Tryz.prog 204 [zP [1, 0, 1]] (zzP [[1, 0, 1]]) :=
 cl_fz (l := [(128, [aP [1, 0, 1] PQ], pL [([1, 0, 1], PQ)]), (97, [zP [1, 0, 1], pL [([1, 0, 1], PQ)], cU PQ, cI 1], zzP [[1, 0, 1]]), (257, [zP [1, 0, 1], zzP [[1, 0, 1]], aZ PQ], zzP [[1, 0, 1]])]) ⟨splitA_s, liftA_s, combineA_s, trivial⟩ (by kernel_rfl) rfl rfl
theorem irreducibleA_s : FnS Tryz.prog 135 [uP [qI 1, qI 0, qI 1]] (.c (.S (.sl .q) [[qI 1, qI 0, qI 1]])) :=
 cl_fz (l := [(204, [zP [1, 0, 1]], zzP [[1, 0, 1]])]) ⟨monicFactorsA_s, trivial⟩ (by kernel_rfl) rfl rfl
end Go.El
