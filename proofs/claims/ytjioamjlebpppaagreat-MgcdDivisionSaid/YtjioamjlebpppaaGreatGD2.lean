/- Closed runs for the examples. Own work; no condition. -/
import Derived.Test.YtjioamjlebpppaaGreatG10
set_option linter.unusedVariables false
set_option linter.unusedSimpArgs false
set_option linter.unnecessarySimpa false
namespace Go.El
open Go Go.Proofs
theorem k4_s : FnS Tryz.prog 29 [cI 1, cI 0, cI 0] (cS TE [tm 1 1 0]) :=
 cl_fz (l := [(73, [aQ (qI 1), aM (0, 0, 0, 0, 0, 0, 0, 0), cS TE [tm 1 1 0]], .t [(false, [.S TE [tm 1 1 0]]), (false, [.I .i64 0])]), (73, [aQ (qI 0), aM (0, 0, 0, 0, 0, 0, 0, 0), cS TE [tm 1 0 1]], .t [(false, [.S TE []]), (false, [.I .i64 0])]), (38, [cS TE [tm 1 1 0], cS TE []], cS TE [tm 1 1 0]), (38, [cS TE [], cS TE [tm 1 1 0]], cS TE [tm 1 1 0])]) ⟨k0_s, k1_s, k2_s, k3_s, trivial⟩ (by kernel_rfl) rfl rfl
theorem k8_s : FnS Tryz.prog 29 [cI 0, cI 1, cI 0] (cS TE [tm 1 0 1]) :=
 cl_fz (l := [(73, [aQ (qI 0), aM (0, 0, 0, 0, 0, 0, 0, 0), cS TE [tm 1 1 0]], .t [(false, [.S TE []]), (false, [.I .i64 0])]), (73, [aQ (qI 1), aM (0, 0, 0, 0, 0, 0, 0, 0), cS TE [tm 1 0 1]], .t [(false, [.S TE [tm 1 0 1]]), (false, [.I .i64 0])]), (38, [cS TE [], cS TE [tm 1 0 1]], cS TE [tm 1 0 1])]) ⟨k5_s, k6_s, k7_s, trivial⟩ (by kernel_rfl) rfl rfl
theorem k12_s : FnS Tryz.prog 29 [cI 1, cI (-1), cI 0] (cS TE [tm 1 1 0, tm (-1) 0 1]) :=
 cl_fz (l := [(73, [aQ (qI 1), aM (0, 0, 0, 0, 0, 0, 0, 0), cS TE [tm 1 1 0]], .t [(false, [.S TE [tm 1 1 0]]), (false, [.I .i64 0])]), (73, [aQ (qI (-1)), aM (0, 0, 0, 0, 0, 0, 0, 0), cS TE [tm 1 0 1]], .t [(false, [.S TE [tm (-1) 0 1]]), (false, [.I .i64 0])]), (38, [cS TE [tm 1 1 0], cS TE [tm (-1) 0 1]], cS TE [tm 1 1 0, tm (-1) 0 1]), (38, [cS TE [], cS TE [tm 1 1 0, tm (-1) 0 1]], cS TE [tm 1 1 0, tm (-1) 0 1])]) ⟨k0_s, k9_s, k10_s, k11_s, trivial⟩ (by kernel_rfl) rfl rfl
theorem k15_s : FnS Tryz.prog 29 [cI 1, cI 1, cI 0] (cS TE [tm 1 1 0, tm 1 0 1]) :=
 cl_fz (l := [(73, [aQ (qI 1), aM (0, 0, 0, 0, 0, 0, 0, 0), cS TE [tm 1 1 0]], .t [(false, [.S TE [tm 1 1 0]]), (false, [.I .i64 0])]), (73, [aQ (qI 1), aM (0, 0, 0, 0, 0, 0, 0, 0), cS TE [tm 1 0 1]], .t [(false, [.S TE [tm 1 0 1]]), (false, [.I .i64 0])]), (38, [cS TE [tm 1 1 0], cS TE [tm 1 0 1]], cS TE [tm 1 1 0, tm 1 0 1]), (38, [cS TE [], cS TE [tm 1 1 0, tm 1 0 1]], cS TE [tm 1 1 0, tm 1 0 1])]) ⟨k0_s, k6_s, k13_s, k14_s, trivial⟩ (by kernel_rfl) rfl rfl
theorem k20_s : FnS Tryz.prog 29 [cI 0, cI 0, cI 2] (cS TE [tm 2 0 0]) :=
 cl_fz (l := [(73, [aQ (qI 0), aM (0, 0, 0, 0, 0, 0, 0, 0), cS TE [tm 1 1 0]], .t [(false, [.S TE []]), (false, [.I .i64 0])]), (73, [aQ (qI 0), aM (0, 0, 0, 0, 0, 0, 0, 0), cS TE [tm 1 0 1]], .t [(false, [.S TE []]), (false, [.I .i64 0])]), (38, [cS TE [], cS TE []], cS TE []), (38, [cS TE [tm 2 0 0], cS TE []], cS TE [tm 2 0 0])]) ⟨k5_s, k1_s, k18_s, k19_s, trivial⟩ (by kernel_rfl) rfl rfl
theorem k24_s : FnS Tryz.prog 21 [cS TE [tm 1 2 0, tm (-1) 0 2]] (cS TE [tm 1 2 0, tm (-1) 0 2]) :=
 cl_fz (l := [(57, [aQ (qI 1), aM (0, 0, 0, 0, 0, 0, 0, 0), cS TE [tm 1 2 0, tm (-1) 0 2]], .t [(false, [.S TE [tm 1 2 0, tm (-1) 0 2]]), (false, [.I .i64 0])])]) ⟨k23_s, trivial⟩ (by kernel_rfl) rfl rfl
theorem k26_s : FnS Tryz.prog 21 [cS TE [tm 2 2 0, tm (-4) 1 1, tm 2 0 2]] (cS TE [tm 1 2 0, tm (-2) 1 1, tm 1 0 2]) :=
 cl_fz (l := [(57, [aQ (qF 1 2), aM (0, 0, 0, 0, 0, 0, 0, 0), cS TE [tm 2 2 0, tm (-4) 1 1, tm 2 0 2]], .t [(false, [.S TE [tm 1 2 0, tm (-2) 1 1, tm 1 0 2]]), (false, [.I .i64 0])])]) ⟨k25_s, trivial⟩ (by kernel_rfl) rfl rfl
theorem k29_s : FnS Tryz.prog 123 [cS TE [tm 1 2 0, tm (-1) 0 2], cS TE [tm 1 2 0, tm (-2) 1 1, tm 1 0 2], cI 0] (cI 1) :=
 cl_fz (l := []) trivial (by kernel_rfl) rfl rfl
theorem k30_s : FnS Tryz.prog 123 [cS TE [tm 1 2 0, tm (-1) 0 2], cS TE [tm 1 2 0, tm (-2) 1 1, tm 1 0 2], cI 1] (cI 1) :=
 cl_fz (l := []) trivial (by kernel_rfl) rfl rfl
theorem k31_s : FnS Tryz.prog 42 [cS TE [tm 1 2 0, tm (-1) 0 2], cI 0] (.c (.S (.sl TE) [[tm (-1) 0 2], [], [tm 1 0 0]])) :=
 cl_fz (l := []) trivial (by kernel_rfl) rfl rfl
theorem k32_s : FnS Tryz.prog 42 [cS TE [tm 1 2 0, tm (-2) 1 1, tm 1 0 2], cI 0] (.c (.S (.sl TE) [[tm 1 0 2], [tm (-2) 0 1], [tm 1 0 0]])) :=
 cl_fz (l := []) trivial (by kernel_rfl) rfl rfl
theorem k34_s : FnS Tryz.prog 21 [cS TE []] (cS TE []) :=
 cl_fz (l := []) trivial (by kernel_rfl) rfl rfl
theorem k35_s : FnS Tryz.prog 79 [cS TE [], cS TE []] (cS TE []) :=
 cl_fz (l := [(24, [cS TE [], cS TE []], cS TE []), (21, [cS TE []], cS TE [])]) ⟨k33_s, k34_s, trivial⟩ (by kernel_rfl) rfl rfl
theorem k38_s : FnS Tryz.prog 21 [cS TE [tm (-1) 0 2]] (cS TE [tm 1 0 2]) :=
 cl_fz (l := [(57, [aQ (qI (-1)), aM (0, 0, 0, 0, 0, 0, 0, 0), cS TE [tm (-1) 0 2]], .t [(false, [.S TE [tm 1 0 2]]), (false, [.I .i64 0])])]) ⟨k37_s, trivial⟩ (by kernel_rfl) rfl rfl
theorem k39_s : FnS Tryz.prog 79 [cS TE [], cS TE [tm (-1) 0 2]] (cS TE [tm 1 0 2]) :=
 cl_fz (l := [(24, [cS TE [], cS TE [tm (-1) 0 2]], cS TE [tm (-1) 0 2]), (21, [cS TE [tm (-1) 0 2]], cS TE [tm 1 0 2])]) ⟨k36_s, k38_s, trivial⟩ (by kernel_rfl) rfl rfl
theorem k41_s : FnS Tryz.prog 21 [cS TE [tm 1 0 2]] (cS TE [tm 1 0 2]) :=
 cl_fz (l := [(57, [aQ (qI 1), aM (0, 0, 0, 0, 0, 0, 0, 0), cS TE [tm 1 0 2]], .t [(false, [.S TE [tm 1 0 2]]), (false, [.I .i64 0])])]) ⟨k40_s, trivial⟩ (by kernel_rfl) rfl rfl
theorem k43_s : FnS Tryz.prog 21 [cS TE [tm 1 0 0]] (cS TE [tm 1 0 0]) :=
 cl_fz (l := [(57, [aQ (qI 1), aM (0, 0, 0, 0, 0, 0, 0, 0), cS TE [tm 1 0 0]], .t [(false, [.S TE [tm 1 0 0]]), (false, [.I .i64 0])])]) ⟨k42_s, trivial⟩ (by kernel_rfl) rfl rfl
theorem k44_s : FnS Tryz.prog 79 [cS TE [tm 1 0 2], cS TE [tm 1 0 0]] (cS TE [tm 1 0 0]) :=
 cl_fz (l := [(21, [cS TE [tm 1 0 2]], cS TE [tm 1 0 2]), (21, [cS TE [tm 1 0 0]], cS TE [tm 1 0 0])]) ⟨k41_s, k43_s, trivial⟩ (by kernel_rfl) rfl rfl
theorem k45_s : FnS Tryz.prog 74 [.c (.S (.sl TE) [[tm (-1) 0 2], [], [tm 1 0 0]])] (cS TE [tm 1 0 0]) :=
 cl_fz (l := [(79, [cS TE [], cS TE []], cS TE []), (79, [cS TE [], cS TE [tm (-1) 0 2]], cS TE [tm 1 0 2]), (79, [cS TE [tm 1 0 2], cS TE [tm 1 0 0]], cS TE [tm 1 0 0])]) ⟨k35_s, k39_s, k44_s, trivial⟩ (by kernel_rfl) rfl rfl
theorem k47_s : FnS Tryz.prog 79 [cS TE [], cS TE [tm 1 0 2]] (cS TE [tm 1 0 2]) :=
 cl_fz (l := [(24, [cS TE [], cS TE [tm 1 0 2]], cS TE [tm 1 0 2]), (21, [cS TE [tm 1 0 2]], cS TE [tm 1 0 2])]) ⟨k46_s, k41_s, trivial⟩ (by kernel_rfl) rfl rfl
theorem k49_s : FnS Tryz.prog 21 [cS TE [tm (-2) 0 1]] (cS TE [tm 1 0 1]) :=
 cl_fz (l := [(57, [aQ (qF (-1) 2), aM (0, 0, 0, 0, 0, 0, 0, 0), cS TE [tm (-2) 0 1]], .t [(false, [.S TE [tm 1 0 1]]), (false, [.I .i64 0])])]) ⟨k48_s, trivial⟩ (by kernel_rfl) rfl rfl
theorem k51_s : FnS Tryz.prog 79 [cS TE [tm 1 0 2], cS TE [tm (-2) 0 1]] (cS TE [tm 1 0 1]) :=
 cl_fz (l := [(21, [cS TE [tm 1 0 2]], cS TE [tm 1 0 2]), (21, [cS TE [tm (-2) 0 1]], cS TE [tm 1 0 1]), (22, [cS TE [tm 1 0 2], cS TE [tm 1 0 1]], .t [(false, [.S TE [tm 1 0 1]]), (false, [.B true])])]) ⟨k41_s, k49_s, k50_s, trivial⟩ (by kernel_rfl) rfl rfl
theorem k53_s : FnS Tryz.prog 21 [cS TE [tm 1 0 1]] (cS TE [tm 1 0 1]) :=
 cl_fz (l := [(57, [aQ (qI 1), aM (0, 0, 0, 0, 0, 0, 0, 0), cS TE [tm 1 0 1]], .t [(false, [.S TE [tm 1 0 1]]), (false, [.I .i64 0])])]) ⟨k52_s, trivial⟩ (by kernel_rfl) rfl rfl
theorem k54_s : FnS Tryz.prog 79 [cS TE [tm 1 0 1], cS TE [tm 1 0 0]] (cS TE [tm 1 0 0]) :=
 cl_fz (l := [(21, [cS TE [tm 1 0 1]], cS TE [tm 1 0 1]), (21, [cS TE [tm 1 0 0]], cS TE [tm 1 0 0])]) ⟨k53_s, k43_s, trivial⟩ (by kernel_rfl) rfl rfl
end Go.El
