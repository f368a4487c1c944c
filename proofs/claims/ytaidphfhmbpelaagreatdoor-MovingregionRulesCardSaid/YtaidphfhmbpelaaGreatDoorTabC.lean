/- Helpers for the proof: no statement of its own. -/
import Derived.Test.YtaidphfhmbpelaaGreatDoorTabA
set_option linter.unusedVariables false
set_option linter.unusedSimpArgs false
set_option linter.unnecessarySimpa false
set_option linter.deprecated false
set_option maxRecDepth 1000000
namespace Go.Vse
open Go.Proofs
theorem row37_0 : rowOk (concPure Tryz.prog (concΓ2 Tryz.prog Γv msK 70 20) 70 Tryz.f37) ([shpK, aggI re0], boolA true) = true := by kernel_rfl
end Go.Vse
set_option maxRecDepth 1000000
namespace Go.Vse
open Go.Proofs
theorem row37_1 : rowOk (concPure Tryz.prog (concΓ2 Tryz.prog Γv msK 70 20) 70 Tryz.f37) ([shpK, aggI reh], boolA true) = true := by kernel_rfl
end Go.Vse
set_option maxRecDepth 1000000
namespace Go.Vse
open Go.Proofs
theorem row37_2 : rowOk (concPure Tryz.prog (concΓ2 Tryz.prog Γv msK 70 20) 70 Tryz.f37) ([shpK, aggI re1], boolA false) = true := by kernel_rfl
end Go.Vse
set_option maxRecDepth 1000000
namespace Go.Vse
open Go.Proofs
theorem row37_3 : rowOk (concPure Tryz.prog (concΓ2 Tryz.prog Γv msK 70 20) 70 Tryz.f37) ([shpK, aggI re3], boolA true) = true := by kernel_rfl
end Go.Vse
set_option maxRecDepth 1000000
namespace Go.Vse
open Go.Proofs
theorem row37_4 : rowOk (concPure Tryz.prog (concΓ2 Tryz.prog Γv msK 70 20) 70 Tryz.f37) ([shpK, aggI re2], boolA true) = true := by kernel_rfl
end Go.Vse
set_option maxRecDepth 1000000
namespace Go.Vse
open Go.Proofs
def rows37 : List (List AV × AV) := [([shpK, aggI re0], boolA true),
 ([shpK, aggI reh], boolA true),
 ([shpK, aggI re1], boolA false),
 ([shpK, aggI re3], boolA true),
 ([shpK, aggI re2], boolA true)]
theorem tab37_ok : PureOk Tryz.prog 37 (tabK rows37) := by
 refine tab_ok (concPure_ok prog_mixed (concΓ2_ok (N := 70) (ms := msK) prog_mixed Γv_ok 20) (fn := Tryz.f37) (c := codeOf Tryz.f37) (N := 70) (by kernel_rfl) (by kernel_rfl) (by kernel_rfl)) ?_
 intro r hr
 simp only [rows37, List.mem_cons, List.not_mem_nil, or_false] at hr
 rcases hr with rfl | rfl | rfl | rfl | rfl
 · exact row37_0
 · exact row37_1
 · exact row37_2
 · exact row37_3
 · exact row37_4
end Go.Vse
