/- Closed runs: factors over the rational numbers. Own work; no condition. -/
import Derived.Test.YtkkccchkmcjcpaaGreatM10
import Derived.Test.YtkkccchkmcjcpaaGreatMW27A
import Derived.Test.YtkkccchkmcjcpaaGreatMW28A
set_option linter.unusedVariables false
set_option linter.unusedSimpArgs false
namespace Go.El
open Go Go.Proofs
theorem factorA_s : FnS Tryz.prog 72 [uP [qI 1, qI 0, qI 1]] (.t [(true, [.B false, .S (.int .u32) [1], .B false, .S (.int .u32) [1]]), (false, [.S (.pr (.sl .q) I64) [([qI 1, qI 0, qI 1], 1)]]), (false, [.I .i64 0])]) :=
 cl_fz (l := [(134, [uP [qI 1, qI 0, qI 1]], .c (.S (.pr (.sl .q) I64) [([qI 1, qI 0, qI 1], 1)])), (135, [uP [qI 1, qI 0, qI 1]], .c (.S (.sl .q) [[qI 1, qI 0, qI 1]]))]) ⟨squareFreeA_s, irreducibleA_s, trivial⟩ (by kernel_rfl) rfl rfl
theorem irredA_s : FnS Tryz.prog 22 [uP [qI 1, qI 0, qI 1]] (.c (.B true)) :=
 cl_fz (l := [(72, [uP [qI 1, qI 0, qI 1]], .t [(true, [.B false, .S (.int .u32) [1], .B false, .S (.int .u32) [1]]), (false, [.S (.pr (.sl .q) I64) [([qI 1, qI 0, qI 1], 1)]]), (false, [.I .i64 0])])]) ⟨factorA_s, trivial⟩ (by kernel_rfl) rfl rfl
theorem upolyA_s : FnS Tryz.prog 17 [cS I8 [1, 0, 1], cI 4] (uP [qI 1, qI 0, qI 1]) :=
 cl_fz (l := []) trivial (by kernel_rfl) rfl rfl
theorem irredN_s : FnS Tryz.prog 22 [uP []] (.c (.B false)) :=
 cl_fz (l := []) trivial (by kernel_rfl) rfl rfl
end Go.El
