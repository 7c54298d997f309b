/- Closed runs: Lift. Own work; no condition. -/
import Derived.Test.YtkkccchkmcjcpaaGreatM10
set_option linter.unusedVariables false
set_option linter.unusedSimpArgs false
namespace Go.El
open Go Go.Proofs
theorem lift5_s : FnS Tryz.prog 29 [zP [1, 0, 1], .c (.S (.sl U64) [[2, 1], [3, 1]]), cU 5, cI 2] (.t [(false, [.S (.sl .z) [[7, 1], [-7, 1]]]), (false, [.I .i64 0])]) :=
 cl_fz (l := []) trivial (by kernel_rfl) rfl rfl
end Go.El
