/- Closed runs: factors of monic integer polynomials. Own work; no condition. -/
import Derived.Test.YtkkccchkmcjcpaaGreatM10
import Derived.Test.YtkkccchkmcjcpaaGreatMW23
import Derived.Test.YtkkccchkmcjcpaaGreatMW24
import Derived.Test.YtkkccchkmcjcpaaGreatMW25
import Derived.Test.YtkkccchkmcjcpaaGreatMW26
set_option linter.unusedVariables false
set_option linter.unusedSimpArgs false
namespace Go.El
open Go Go.Proofs
theorem monicFactorsC_s : FnS Tryz.prog 204 [zP [4, 0, 0, 0, 1]] (zzP [[2, 2, 1], [2, -2, 1]]) :=
 cl_fz (l := [(128, [aP [4, 0, 0, 0, 1] PQ], pL [([2, 2, 1], PQ), ([2, 1073741825, 1], PQ)]), (97, [zP [4, 0, 0, 0, 1], pL [([2, 2, 1], PQ), ([2, 1073741825, 1], PQ)], cU PQ, cI 1], zzP [[2, 2, 1], [2, -2, 1]]), (257, [zP [4, 0, 0, 0, 1], zzP [[2, 2, 1], [2, -2, 1]], aZ PQ], zzP [[2, 2, 1], [2, -2, 1]])]) ⟨splitC_s, liftC_s, combineC_s, trivial⟩ (by kernel_rfl) rfl rfl
theorem irreducibleC_s : FnS Tryz.prog 135 [uP [qI 4, qI 0, qI 0, qI 0, qI 1]] (.c (.S (.sl .q) [[qI 2, qI 2, qI 1], [qI 2, qI (-2), qI 1]])) :=
 cl_fz (l := [(204, [zP [4, 0, 0, 0, 1]], zzP [[2, 2, 1], [2, -2, 1]])]) ⟨monicFactorsC_s, trivial⟩ (by kernel_rfl) rfl rfl
end Go.El
