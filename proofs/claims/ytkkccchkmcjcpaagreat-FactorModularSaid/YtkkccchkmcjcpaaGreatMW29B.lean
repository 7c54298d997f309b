/- Closed runs: factors over the rational numbers. Own work; no condition. -/
import Derived.Test.YtkkccchkmcjcpaaGreatM10
import Derived.Test.YtkkccchkmcjcpaaGreatMW27B
import Derived.Test.YtkkccchkmcjcpaaGreatMW28B
set_option linter.unusedVariables false
set_option linter.unusedSimpArgs false
namespace Go.El
open Go Go.Proofs
theorem factorB_s : FnS Tryz.prog 72 [uP [qI (-2), qI 1, qI 1]] (.t [(true, [.B false, .S (.int .u32) [1], .B false, .S (.int .u32) [1]]), (false, [.S (.pr (.sl .q) I64) [([qI (-1), qI 1], 1), ([qI 2, qI 1], 1)]]), (false, [.I .i64 0])]) :=
 cl_fz (l := [(134, [uP [qI (-2), qI 1, qI 1]], .c (.S (.pr (.sl .q) I64) [([qI (-2), qI 1, qI 1], 1)])), (135, [uP [qI (-2), qI 1, qI 1]], .c (.S (.sl .q) [[qI (-1), qI 1], [qI 2, qI 1]]))]) ⟨squareFreeB_s, irreducibleB_s, trivial⟩ (by kernel_rfl) rfl rfl
theorem rootsB_s : FnS Tryz.prog 24 [uP [qI (-2), qI 1, qI 1]] (uP [qI (-2), qI 1]) :=
 cl_fz (l := [(72, [uP [qI (-2), qI 1, qI 1]], .t [(true, [.B false, .S (.int .u32) [1], .B false, .S (.int .u32) [1]]), (false, [.S (.pr (.sl .q) I64) [([qI (-1), qI 1], 1), ([qI 2, qI 1], 1)]]), (false, [.I .i64 0])])]) ⟨factorB_s, trivial⟩ (by kernel_rfl) rfl rfl
theorem upolyB_s : FnS Tryz.prog 17 [cS I8 [-2, 1, 1], cI 4] (uP [qI (-2), qI 1, qI 1]) :=
 cl_fz (l := []) trivial (by kernel_rfl) rfl rfl
end Go.El
