/- The sanity check holds. Own work; no condition. -/
import Derived.Test.YtkkccchkmcjcpaaGreatM10
import Derived.Test.YtkkccchkmcjcpaaGreatM5
import Derived.Test.YtkkccchkmcjcpaaGreatMW29A
import Derived.Test.YtkkccchkmcjcpaaGreatMW29B
import Derived.Test.YtkkccchkmcjcpaaGreatMW29C
import Derived.Test.YtkkccchkmcjcpaaGreatMW30
set_option linter.unusedVariables false
set_option linter.unusedSimpArgs false
namespace Go.El
open Go Go.Proofs
theorem sanity_s : FnS Tryz.prog 9 [] (.c (.B true)) :=
 cl_fz (l := [(12, [cS U64 [1, 0, 1], cU 5], .t [(false, [.S (.pr (.sl U64) I64) [([2, 1], 1), ([3, 1], 1)]]), (false, [.I .i64 0])]), (29, [zP [1, 0, 1], .c (.S (.sl U64) [[2, 1], [3, 1]]), cU 5, cI 2], .t [(false, [.S (.sl .z) [[7, 1], [-7, 1]]]), (false, [.I .i64 0])]), (17, [cS I8 [1, 0, 1], cI 4], uP [qI 1, qI 0, qI 1]), (17, [cS I8 [-2, 1, 1], cI 4], uP [qI (-2), qI 1, qI 1]), (17, [cS I8 [4, 0, 0, 0, 1], cI 4], uP [qI 4, qI 0, qI 0, qI 0, qI 1]), (18, [uP [qI 4, qI 0, qI 0, qI 0, qI 1]], .a [.B false, .S (.int .u32) [1], .B false, .S (.int .u32) [1], .S (.pr (.sl .q) I64) [([qI 2, qI (-2), qI 1], 1), ([qI 2, qI 2, qI 1], 1)], .I .i64 0]), (24, [uP [qI (-2), qI 1, qI 1]], uP [qI (-2), qI 1]), (22, [uP [qI 1, qI 0, qI 1]], .c (.B true)), (22, [uP []], .c (.B false))]) ⟨modular_s, lift5_s, upolyA_s, upolyB_s, upolyC_s, wholeC_s, rootsB_s, irredA_s, irredN_s, trivial⟩ (by kernel_rfl) rfl rfl
end Go.El
