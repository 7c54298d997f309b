/- Closed runs: factors lifted. Own work; no condition. -/
import Derived.Test.YtkkccchkmcjcpaaGreatM10
set_option linter.unusedVariables false
set_option linter.unusedSimpArgs false
namespace Go.El
open Go Go.Proofs
theorem liftA_s : FnS Tryz.prog 97 [zP [1, 0, 1], pL [([1, 0, 1], PQ)], cU PQ, cI 1] (zzP [[1, 0, 1]]) :=
 cl_fz (l := []) trivial (by kernel_rfl) rfl rfl
theorem liftB_s : FnS Tryz.prog 97 [zP [-2, 1, 1], pL [([1073741826, 1], PQ), ([2, 1], PQ)], cU PQ, cI 1] (zzP [[-1, 1], [2, 1]]) :=
 cl_fz (l := []) trivial (by kernel_rfl) rfl rfl
theorem liftC_s : FnS Tryz.prog 97 [zP [4, 0, 0, 0, 1], pL [([2, 2, 1], PQ), ([2, 1073741825, 1], PQ)], cU PQ, cI 1] (zzP [[2, 2, 1], [2, -2, 1]]) :=
 cl_fz (l := []) trivial (by kernel_rfl) rfl rfl
end Go.El
