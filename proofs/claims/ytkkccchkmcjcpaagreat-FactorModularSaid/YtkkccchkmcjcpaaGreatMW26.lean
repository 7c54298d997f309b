/- Closed runs: factors combined. Own work; no condition. -/
import Derived.Test.YtkkccchkmcjcpaaGreatM10
set_option linter.unusedVariables false
set_option linter.unusedSimpArgs false
namespace Go.El
open Go Go.Proofs
theorem combineA_s : FnS Tryz.prog 257 [zP [1, 0, 1], zzP [[1, 0, 1]], aZ PQ] (zzP [[1, 0, 1]]) :=
 cl_rf (l := []) trivial (by kernel_rfl) rfl rfl
theorem combineB_s : FnS Tryz.prog 257 [zP [-2, 1, 1], zzP [[-1, 1], [2, 1]], aZ PQ] (zzP [[-1, 1], [2, 1]]) :=
 cl_rf (l := []) trivial (by kernel_rfl) rfl rfl
theorem combineC_s : FnS Tryz.prog 257 [zP [4, 0, 0, 0, 1], zzP [[2, 2, 1], [2, -2, 1]], aZ PQ] (zzP [[2, 2, 1], [2, -2, 1]]) :=
 cl_rf (l := []) trivial (by kernel_rfl) rfl rfl
end Go.El
