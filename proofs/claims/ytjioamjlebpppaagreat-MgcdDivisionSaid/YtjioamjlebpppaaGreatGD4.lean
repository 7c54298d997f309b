/- Closed runs for the examples. Own work; no condition. -/
import Derived.Test.YtjioamjlebpppaaGreatGD3
set_option linter.unusedVariables false
set_option linter.unusedSimpArgs false
set_option linter.unnecessarySimpa false
namespace Go.El
open Go Go.Proofs
theorem k117_s : FnS Tryz.prog 79 [cS TE [], cS TE [tm 1 0 3]] (cS TE [tm 1 0 3]) :=
 cl_fz (l := [(24, [cS TE [], cS TE [tm 1 0 3]], cS TE [tm 1 0 3]), (21, [cS TE [tm 1 0 3]], cS TE [tm 1 0 3])]) ⟨k114_s, k116_s, trivial⟩ (by kernel_rfl) rfl rfl
theorem k119_s : FnS Tryz.prog 21 [cS TE [tm 2 0 2]] (cS TE [tm 1 0 2]) :=
 cl_fz (l := [(57, [aQ (qF 1 2), aM (0, 0, 0, 0, 0, 0, 0, 0), cS TE [tm 2 0 2]], .t [(false, [.S TE [tm 1 0 2]]), (false, [.I .i64 0])])]) ⟨k118_s, trivial⟩ (by kernel_rfl) rfl rfl
theorem k121_s : FnS Tryz.prog 79 [cS TE [tm 1 0 3], cS TE [tm 2 0 2]] (cS TE [tm 1 0 2]) :=
 cl_fz (l := [(21, [cS TE [tm 1 0 3]], cS TE [tm 1 0 3]), (21, [cS TE [tm 2 0 2]], cS TE [tm 1 0 2]), (22, [cS TE [tm 1 0 3], cS TE [tm 1 0 2]], .t [(false, [.S TE [tm 1 0 1]]), (false, [.B true])])]) ⟨k116_s, k119_s, k120_s, trivial⟩ (by kernel_rfl) rfl rfl
theorem k122_s : FnS Tryz.prog 79 [cS TE [tm 1 0 2], cS TE [tm 1 0 1]] (cS TE [tm 1 0 1]) :=
 cl_fz (l := [(21, [cS TE [tm 1 0 2]], cS TE [tm 1 0 2]), (21, [cS TE [tm 1 0 1]], cS TE [tm 1 0 1]), (22, [cS TE [tm 1 0 2], cS TE [tm 1 0 1]], .t [(false, [.S TE [tm 1 0 1]]), (false, [.B true])])]) ⟨k41_s, k53_s, k50_s, trivial⟩ (by kernel_rfl) rfl rfl
theorem k123_s : FnS Tryz.prog 74 [.c (.S (.sl TE) [[tm 1 0 3], [tm 2 0 2], [tm 1 0 1]])] (cS TE [tm 1 0 1]) :=
 cl_fz (l := [(79, [cS TE [], cS TE [tm 1 0 3]], cS TE [tm 1 0 3]), (79, [cS TE [tm 1 0 3], cS TE [tm 2 0 2]], cS TE [tm 1 0 2]), (79, [cS TE [tm 1 0 2], cS TE [tm 1 0 1]], cS TE [tm 1 0 1])]) ⟨k117_s, k121_s, k122_s, trivial⟩ (by kernel_rfl) rfl rfl
theorem k124_s : FnS Tryz.prog 42 [cS TE [tm 1 0 1], cI 1] (.c (.S (.sl TE) [[], [tm 1 0 0]])) :=
 cl_fz (l := []) trivial (by kernel_rfl) rfl rfl
theorem k126_s : FnS Tryz.prog 79 [cS TE [], cS TE [tm 1 0 0]] (cS TE [tm 1 0 0]) :=
 cl_fz (l := [(24, [cS TE [], cS TE [tm 1 0 0]], cS TE [tm 1 0 0]), (21, [cS TE [tm 1 0 0]], cS TE [tm 1 0 0])]) ⟨k125_s, k43_s, trivial⟩ (by kernel_rfl) rfl rfl
theorem k127_s : FnS Tryz.prog 74 [.c (.S (.sl TE) [[], [tm 1 0 0]])] (cS TE [tm 1 0 0]) :=
 cl_fz (l := [(79, [cS TE [], cS TE []], cS TE []), (79, [cS TE [], cS TE [tm 1 0 0]], cS TE [tm 1 0 0])]) ⟨k35_s, k126_s, trivial⟩ (by kernel_rfl) rfl rfl
theorem k130_s : FnS Tryz.prog 33 [cS TE [tm 1 0 1], cI 1] (.t [(false, [.S TE [tm 1 0 0]]), (false, [.I .i64 0])]) :=
 cl_fz (l := []) trivial (by kernel_rfl) rfl rfl
theorem k133_s : FnS Tryz.prog 79 [cS TE [tm 1 0 1], cS TE []] (cS TE [tm 1 0 1]) :=
 cl_fz (l := [(24, [cS TE [tm 1 0 1], cS TE []], cS TE [tm 1 0 1]), (21, [cS TE [tm 1 0 1]], cS TE [tm 1 0 1])]) ⟨k132_s, k53_s, trivial⟩ (by kernel_rfl) rfl rfl
theorem k138_s : FnS Tryz.prog 33 [cS TE [tm 1 2 0, tm 2 1 1, tm 1 0 2], cI 0] (.t [(false, [.S TE [tm 2 1 0, tm 2 0 1]]), (false, [.I .i64 0])]) :=
 cl_fz (l := []) trivial (by kernel_rfl) rfl rfl
theorem k140_s : FnS Tryz.prog 21 [cS TE [tm 1 2 0, tm 2 1 1, tm 1 0 2]] (cS TE [tm 1 2 0, tm 2 1 1, tm 1 0 2]) :=
 cl_fz (l := [(57, [aQ (qI 1), aM (0, 0, 0, 0, 0, 0, 0, 0), cS TE [tm 1 2 0, tm 2 1 1, tm 1 0 2]], .t [(false, [.S TE [tm 1 2 0, tm 2 1 1, tm 1 0 2]]), (false, [.I .i64 0])])]) ⟨k139_s, trivial⟩ (by kernel_rfl) rfl rfl
theorem k142_s : FnS Tryz.prog 21 [cS TE [tm 2 1 0, tm 2 0 1]] (cS TE [tm 1 1 0, tm 1 0 1]) :=
 cl_fz (l := [(57, [aQ (qF 1 2), aM (0, 0, 0, 0, 0, 0, 0, 0), cS TE [tm 2 1 0, tm 2 0 1]], .t [(false, [.S TE [tm 1 1 0, tm 1 0 1]]), (false, [.I .i64 0])])]) ⟨k141_s, trivial⟩ (by kernel_rfl) rfl rfl
theorem k144_s : FnS Tryz.prog 79 [cS TE [tm 1 2 0, tm 2 1 1, tm 1 0 2], cS TE [tm 2 1 0, tm 2 0 1]] (cS TE [tm 1 1 0, tm 1 0 1]) :=
 cl_fz (l := [(21, [cS TE [tm 1 2 0, tm 2 1 1, tm 1 0 2]], cS TE [tm 1 2 0, tm 2 1 1, tm 1 0 2]), (21, [cS TE [tm 2 1 0, tm 2 0 1]], cS TE [tm 1 1 0, tm 1 0 1]), (22, [cS TE [tm 1 2 0, tm 2 1 1, tm 1 0 2], cS TE [tm 1 1 0, tm 1 0 1]], .t [(false, [.S TE [tm 1 1 0, tm 1 0 1]]), (false, [.B true])])]) ⟨k140_s, k142_s, k143_s, trivial⟩ (by kernel_rfl) rfl rfl
theorem k146_s : FnS Tryz.prog 33 [cS TE [tm 1 1 0, tm 1 0 1], cI 0] (.t [(false, [.S TE [tm 1 0 0]]), (false, [.I .i64 0])]) :=
 cl_fz (l := []) trivial (by kernel_rfl) rfl rfl
theorem k149_s : FnS Tryz.prog 21 [cS TE [tm 1 1 0, tm 1 0 1]] (cS TE [tm 1 1 0, tm 1 0 1]) :=
 cl_fz (l := [(57, [aQ (qI 1), aM (0, 0, 0, 0, 0, 0, 0, 0), cS TE [tm 1 1 0, tm 1 0 1]], .t [(false, [.S TE [tm 1 1 0, tm 1 0 1]]), (false, [.I .i64 0])])]) ⟨k148_s, trivial⟩ (by kernel_rfl) rfl rfl
theorem k150_s : FnS Tryz.prog 79 [cS TE [tm 1 1 0, tm 1 0 1], cS TE [tm 1 0 0]] (cS TE [tm 1 0 0]) :=
 cl_fz (l := [(21, [cS TE [tm 1 1 0, tm 1 0 1]], cS TE [tm 1 1 0, tm 1 0 1]), (21, [cS TE [tm 1 0 0]], cS TE [tm 1 0 0])]) ⟨k149_s, k43_s, trivial⟩ (by kernel_rfl) rfl rfl
theorem k153_s : FnS Tryz.prog 79 [cS TE [tm 1 1 0, tm 1 0 1], cS TE []] (cS TE [tm 1 1 0, tm 1 0 1]) :=
 cl_fz (l := [(24, [cS TE [tm 1 1 0, tm 1 0 1], cS TE []], cS TE [tm 1 1 0, tm 1 0 1]), (21, [cS TE [tm 1 1 0, tm 1 0 1]], cS TE [tm 1 1 0, tm 1 0 1])]) ⟨k152_s, k149_s, trivial⟩ (by kernel_rfl) rfl rfl
end Go.El
