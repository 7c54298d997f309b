/- Closed runs: squarefree parts. Own work; no condition. -/
import Derived.Test.YtkkccchkmcjcpaaGreatM10
set_option linter.unusedVariables false
set_option linter.unusedSimpArgs false
namespace Go.El
open Go Go.Proofs
theorem deriveC_s : FnS Tryz.prog 196 [uP [qI 4, qI 0, qI 0, qI 0, qI 1]] (uP [qI 0, qI 0, qI 0, qI 4]) :=
 cl_fz (l := []) trivial (by kernel_rfl) rfl rfl
theorem gcdC_s : FnS Tryz.prog 197 [uP [qI 4, qI 0, qI 0, qI 0, qI 1], uP [qI 0, qI 0, qI 0, qI 4]] (uP [qI 1]) :=
 cl_fz (l := []) trivial (by kernel_rfl) rfl rfl
theorem gcdzC_s : FnS Tryz.prog 197 [uP [qI 4, qI 0, qI 0, qI 0, qI 1], uP []] (uP [qI 4, qI 0, qI 0, qI 0, qI 1]) :=
 cl_fz (l := []) trivial (by kernel_rfl) rfl rfl
theorem quoaC_s : FnS Tryz.prog 198 [uP [qI 4, qI 0, qI 0, qI 0, qI 1], uP [qI 1]] (uP [qI 4, qI 0, qI 0, qI 0, qI 1]) :=
 cl_fz (l := []) trivial (by kernel_rfl) rfl rfl
theorem quodC_s : FnS Tryz.prog 198 [uP [qI 0, qI 0, qI 0, qI 4], uP [qI 1]] (uP [qI 0, qI 0, qI 0, qI 4]) :=
 cl_fz (l := []) trivial (by kernel_rfl) rfl rfl
theorem quosC_s : FnS Tryz.prog 198 [uP [qI 4, qI 0, qI 0, qI 0, qI 1], uP [qI 4, qI 0, qI 0, qI 0, qI 1]] (uP [qI 1]) :=
 cl_fz (l := []) trivial (by kernel_rfl) rfl rfl
theorem subC_s : FnS Tryz.prog 202 [uP [qI 0, qI 0, qI 0, qI 4], uP [qI 0, qI 0, qI 0, qI 4]] (uP []) :=
 cl_fz (l := []) trivial (by kernel_rfl) rfl rfl
theorem squareFreeC_s : FnS Tryz.prog 134 [uP [qI 4, qI 0, qI 0, qI 0, qI 1]] (.c (.S (.pr (.sl .q) I64) [([qI 4, qI 0, qI 0, qI 0, qI 1], 1)])) :=
 cl_fz (l := [(196, [uP [qI 4, qI 0, qI 0, qI 0, qI 1]], uP [qI 0, qI 0, qI 0, qI 4]), (197, [uP [qI 4, qI 0, qI 0, qI 0, qI 1], uP [qI 0, qI 0, qI 0, qI 4]], uP [qI 1]), (197, [uP [qI 4, qI 0, qI 0, qI 0, qI 1], uP []], uP [qI 4, qI 0, qI 0, qI 0, qI 1]), (198, [uP [qI 4, qI 0, qI 0, qI 0, qI 1], uP [qI 1]], uP [qI 4, qI 0, qI 0, qI 0, qI 1]), (198, [uP [qI 0, qI 0, qI 0, qI 4], uP [qI 1]], uP [qI 0, qI 0, qI 0, qI 4]), (198, [uP [qI 4, qI 0, qI 0, qI 0, qI 1], uP [qI 4, qI 0, qI 0, qI 0, qI 1]], uP [qI 1]), (202, [uP [qI 0, qI 0, qI 0, qI 4], uP [qI 0, qI 0, qI 0, qI 4]], uP [])]) ⟨deriveC_s, gcdC_s, gcdzC_s, quoaC_s, quodC_s, quosC_s, subC_s, trivial⟩ (by kernel_rfl) rfl rfl
end Go.El
