/- Closed runs: factors modulo the great prime. Own work; no condition. -/
import Derived.Test.YtkkccchkmcjcpaaGreatM10
set_option linter.unusedVariables false
set_option linter.unusedSimpArgs false
namespace Go.El
open Go Go.Proofs
theorem splitA_s : FnS Tryz.prog 128 [aP [1, 0, 1] PQ] (pL [([1, 0, 1], PQ)]) :=
 cl_fz (l := []) trivial (by kernel_rfl) rfl rfl
theorem splitB_s : FnS Tryz.prog 128 [aP [1073741825, 1, 1] PQ] (pL [([1073741826, 1], PQ), ([2, 1], PQ)]) :=
 cl_fz (l := []) trivial (by kernel_rfl) rfl rfl
end Go.El
