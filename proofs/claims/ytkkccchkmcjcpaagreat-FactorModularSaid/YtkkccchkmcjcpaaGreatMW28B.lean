/- Closed runs: squarefree parts. Own work; no condition. -/
import Derived.Test.YtkkccchkmcjcpaaGreatM10
set_option linter.unusedVariables false
set_option linter.unusedSimpArgs false
namespace Go.El
open Go Go.Proofs
theorem deriveB_s : FnS Tryz.prog 196 [uP [qI (-2), qI 1, qI 1]] (uP [qI 1, qI 2]) :=
 cl_fz (l := []) trivial (by kernel_rfl) rfl rfl
theorem gcdB_s : FnS Tryz.prog 197 [uP [qI (-2), qI 1, qI 1], uP [qI 1, qI 2]] (uP [qI 1]) :=
 cl_fz (l := []) trivial (by kernel_rfl) rfl rfl
theorem gcdzB_s : FnS Tryz.prog 197 [uP [qI (-2), qI 1, qI 1], uP []] (uP [qI (-2), qI 1, qI 1]) :=
 cl_fz (l := []) trivial (by kernel_rfl) rfl rfl
theorem quoaB_s : FnS Tryz.prog 198 [uP [qI (-2), qI 1, qI 1], uP [qI 1]] (uP [qI (-2), qI 1, qI 1]) :=
 cl_fz (l := []) trivial (by kernel_rfl) rfl rfl
theorem quodB_s : FnS Tryz.prog 198 [uP [qI 1, qI 2], uP [qI 1]] (uP [qI 1, qI 2]) :=
 cl_fz (l := []) trivial (by kernel_rfl) rfl rfl
theorem quosB_s : FnS Tryz.prog 198 [uP [qI (-2), qI 1, qI 1], uP [qI (-2), qI 1, qI 1]] (uP [qI 1]) :=
 cl_fz (l := []) trivial (by kernel_rfl) rfl rfl
theorem subB_s : FnS Tryz.prog 202 [uP [qI 1, qI 2], uP [qI 1, qI 2]] (uP []) :=
 cl_fz (l := []) trivial (by kernel_rfl) rfl rfl
theorem squareFreeB_s : FnS Tryz.prog 134 [uP [qI (-2), qI 1, qI 1]] (.c (.S (.pr (.sl .q) I64) [([qI (-2), qI 1, qI 1], 1)])) :=
 cl_fz (l := [(196, [uP [qI (-2), qI 1, qI 1]], uP [qI 1, qI 2]), (197, [uP [qI (-2), qI 1, qI 1], uP [qI 1, qI 2]], uP [qI 1]), (197, [uP [qI (-2), qI 1, qI 1], uP []], uP [qI (-2), qI 1, qI 1]), (198, [uP [qI (-2), qI 1, qI 1], uP [qI 1]], uP [qI (-2), qI 1, qI 1]), (198, [uP [qI 1, qI 2], uP [qI 1]], uP [qI 1, qI 2]), (198, [uP [qI (-2), qI 1, qI 1], uP [qI (-2), qI 1, qI 1]], uP [qI 1]), (202, [uP [qI 1, qI 2], uP [qI 1, qI 2]], uP [])]) ⟨deriveB_s, gcdB_s, gcdzB_s, quoaB_s, quodB_s, quosB_s, subB_s, trivial⟩ (by kernel_rfl) rfl rfl
end Go.El
