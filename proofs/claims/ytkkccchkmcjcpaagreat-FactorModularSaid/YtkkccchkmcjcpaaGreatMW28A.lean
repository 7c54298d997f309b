/- Closed runs: squarefree parts. Own work; no condition. -/
import Derived.Test.YtkkccchkmcjcpaaGreatM10
set_option linter.unusedVariables false
set_option linter.unusedSimpArgs false
namespace Go.El
open Go Go.Proofs
theorem deriveA_s : FnS Tryz.prog 196 [uP [qI 1, qI 0, qI 1]] (uP [qI 0, qI 2]) :=
 cl_fz (l := []) trivial (by kernel_rfl) rfl rfl
theorem gcdA_s : FnS Tryz.prog 197 [uP [qI 1, qI 0, qI 1], uP [qI 0, qI 2]] (uP [qI 1]) :=
 cl_fz (l := []) trivial (by kernel_rfl) rfl rfl
theorem gcdzA_s : FnS Tryz.prog 197 [uP [qI 1, qI 0, qI 1], uP []] (uP [qI 1, qI 0, qI 1]) :=
 cl_fz (l := []) trivial (by kernel_rfl) rfl rfl
theorem quoaA_s : FnS Tryz.prog 198 [uP [qI 1, qI 0, qI 1], uP [qI 1]] (uP [qI 1, qI 0, qI 1]) :=
 cl_fz (l := []) trivial (by kernel_rfl) rfl rfl
theorem quodA_s : FnS Tryz.prog 198 [uP [qI 0, qI 2], uP [qI 1]] (uP [qI 0, qI 2]) :=
 cl_fz (l := []) trivial (by kernel_rfl) rfl rfl
theorem quosA_s : FnS Tryz.prog 198 [uP [qI 1, qI 0, qI 1], uP [qI 1, qI 0, qI 1]] (uP [qI 1]) :=
 cl_fz (l := []) trivial (by kernel_rfl) rfl rfl
theorem subA_s : FnS Tryz.prog 202 [uP [qI 0, qI 2], uP [qI 0, qI 2]] (uP []) :=
 cl_fz (l := []) trivial (by kernel_rfl) rfl rfl
theorem squareFreeA_s : FnS Tryz.prog 134 [uP [qI 1, qI 0, qI 1]] (.c (.S (.pr (.sl .q) I64) [([qI 1, qI 0, qI 1], 1)])) :=
 cl_fz (l := [(196, [uP [qI 1, qI 0, qI 1]], uP [qI 0, qI 2]), (197, [uP [qI 1, qI 0, qI 1], uP [qI 0, qI 2]], uP [qI 1]), (197, [uP [qI 1, qI 0, qI 1], uP []], uP [qI 1, qI 0, qI 1]), (198, [uP [qI 1, qI 0, qI 1], uP [qI 1]], uP [qI 1, qI 0, qI 1]), (198, [uP [qI 0, qI 2], uP [qI 1]], uP [qI 0, qI 2]), (198, [uP [qI 1, qI 0, qI 1], uP [qI 1, qI 0, qI 1]], uP [qI 1]), (202, [uP [qI 0, qI 2], uP [qI 0, qI 2]], uP [])]) ⟨deriveA_s, gcdA_s, gcdzA_s, quoaA_s, quodA_s, quosA_s, subA_s, trivial⟩ (by kernel_rfl) rfl rfl
end Go.El
