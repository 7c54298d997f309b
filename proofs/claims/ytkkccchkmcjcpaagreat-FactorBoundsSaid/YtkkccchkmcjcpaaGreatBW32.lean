/- Closed runs: degrees above 12 are refused. Own work; no condition. -/
import Derived.Test.YtkkccchkmcjcpaaGreatB11
namespace Go.El
open Go Go.Proofs

abbrev bigL : List Rat := [qI 1, qI 1, qI 1, qI 1, qI 1, qI 1, qI 1, qI 1, qI 1, qI 1, qI 1, qI 1, qI 1, qI 1]
theorem wholeG_s : FnS Tryz.prog 18 [uP bigL] (.a [.B false, .S (.int .u32) [], .B false, .S (.int .u32) [], .S (.pr (.sl .q) I64) [], .I .i64 2]) :=
  cl_fz (l := []) trivial (by kernel_rfl) rfl rfl
theorem irredG_s : FnS Tryz.prog 22 [uP bigL] (.c (.B false)) :=
  cl_fz (l := []) trivial (by kernel_rfl) rfl rfl
theorem rootsG_s : FnS Tryz.prog 24 [uP bigL] (uP []) :=
  cl_fz (l := []) trivial (by kernel_rfl) rfl rfl
theorem boundN_s : FnS Tryz.prog 33 [zP []] (aZ 0) :=
  cl_fz (l := []) trivial (by kernel_rfl) rfl rfl
end Go.El
