/- Closed runs: factors over the rational numbers. Own work; no condition. -/
import Derived.Test.YtkkccchkmcjcpaaGreatM10
import Derived.Test.YtkkccchkmcjcpaaGreatMW27C
import Derived.Test.YtkkccchkmcjcpaaGreatMW28C
set_option linter.unusedVariables false
set_option linter.unusedSimpArgs false
namespace Go.El
open Go Go.Proofs
theorem factorC_s : FnS Tryz.prog 72 [uP [qI 4, qI 0, qI 0, qI 0, qI 1]] (.t [(true, [.B false, .S (.int .u32) [1], .B false, .S (.int .u32) [1]]), (false, [.S (.pr (.sl .q) I64) [([qI 2, qI (-2), qI 1], 1), ([qI 2, qI 2, qI 1], 1)]]), (false, [.I .i64 0])]) :=
 cl_fz (l := [(134, [uP [qI 4, qI 0, qI 0, qI 0, qI 1]], .c (.S (.pr (.sl .q) I64) [([qI 4, qI 0, qI 0, qI 0, qI 1], 1)])), (135, [uP [qI 4, qI 0, qI 0, qI 0, qI 1]], .c (.S (.sl .q) [[qI 2, qI 2, qI 1], [qI 2, qI (-2), qI 1]]))]) ⟨squareFreeC_s, irreducibleC_s, trivial⟩ (by kernel_rfl) rfl rfl
theorem wholeC_s : FnS Tryz.prog 18 [uP [qI 4, qI 0, qI 0, qI 0, qI 1]] (.a [.B false, .S (.int .u32) [1], .B false, .S (.int .u32) [1], .S (.pr (.sl .q) I64) [([qI 2, qI (-2), qI 1], 1), ([qI 2, qI 2, qI 1], 1)], .I .i64 0]) :=
 cl_fz (l := [(72, [uP [qI 4, qI 0, qI 0, qI 0, qI 1]], .t [(true, [.B false, .S (.int .u32) [1], .B false, .S (.int .u32) [1]]), (false, [.S (.pr (.sl .q) I64) [([qI 2, qI (-2), qI 1], 1), ([qI 2, qI 2, qI 1], 1)]]), (false, [.I .i64 0])])]) ⟨factorC_s, trivial⟩ (by kernel_rfl) rfl rfl
theorem upolyC_s : FnS Tryz.prog 17 [cS I8 [4, 0, 0, 0, 1], cI 4] (uP [qI 4, qI 0, qI 0, qI 0, qI 1]) :=
 cl_fz (l := []) trivial (by kernel_rfl) rfl rfl
end Go.El
