/- Helpers for the proof: no statement of its own. -/
import Derived.Test.YtaidphfhmbpelaaGreatDoorTabA
set_option linter.unusedVariables false
set_option linter.unusedSimpArgs false
set_option linter.unnecessarySimpa false
set_option linter.deprecated false
set_option maxRecDepth 1000000
namespace Go.Vse
open Go.Proofs
def rows38 : List (List AV × AV) := [([aggI (inK re0 re0 false false)], aggI re0),
 ([aggI (inK re0 re1 true true)], aggI reh),
 ([aggI (inK re1 re1 false false)], aggI re1),
 ([aggI (inK re1 re2 true true)], aggI re3),
 ([aggI (inK re2 re2 false false)], aggI re2)]
theorem row38_0 : rowOk (concPure Tryz.prog (concΓ2 Tryz.prog Γk msK 70 20) 70 Tryz.f38) ([aggI (inK re0 re0 false false)], aggI re0) = true := by kernel_rfl
theorem row38_1 : rowOk (concPure Tryz.prog (concΓ2 Tryz.prog Γk msK 70 20) 70 Tryz.f38) ([aggI (inK re0 re1 true true)], aggI reh) = true := by kernel_rfl
theorem row38_2 : rowOk (concPure Tryz.prog (concΓ2 Tryz.prog Γk msK 70 20) 70 Tryz.f38) ([aggI (inK re1 re1 false false)], aggI re1) = true := by kernel_rfl
theorem row38_3 : rowOk (concPure Tryz.prog (concΓ2 Tryz.prog Γk msK 70 20) 70 Tryz.f38) ([aggI (inK re1 re2 true true)], aggI re3) = true := by kernel_rfl
theorem row38_4 : rowOk (concPure Tryz.prog (concΓ2 Tryz.prog Γk msK 70 20) 70 Tryz.f38) ([aggI (inK re2 re2 false false)], aggI re2) = true := by kernel_rfl
theorem tab38_ok : PureOk Tryz.prog 38 (tabK rows38) := by
 refine tab_ok (concPure_ok prog_mixed (concΓ2_ok (N := 70) (ms := msK) prog_mixed Γk_ok 20) (fn := Tryz.f38) (c := codeOf Tryz.f38) (N := 70) (by kernel_rfl) (by kernel_rfl) (by kernel_rfl)) ?_
 intro r hr
 simp only [rows38, List.mem_cons, List.not_mem_nil, or_false] at hr
 rcases hr with rfl | rfl | rfl | rfl | rfl
 · exact row38_0
 · exact row38_1
 · exact row38_2
 · exact row38_3
 · exact row38_4
end Go.Vse
set_option maxRecDepth 1000000
namespace Go.Vse
open Go.Proofs
def rows85 : List (List AV × AV) := [([sl20 [iv1], aggI re0], boolA true),
 ([sl20 [iv1], aggI re1], boolA true),
 ([sl20 [iv1], aggI re2], boolA true),
 ([sl20 [iv1], aggI reh], boolA true),
 ([sl20 [iv1], aggI re3], boolA true),
 ([sl20 [iv2], aggI re1], boolA false),
 ([sl20 [iv2], aggI re3], boolA true),
 ([sl20 [iv2], aggI re2], boolA true)]
theorem row85_0 : rowOk (concPure Tryz.prog (concΓ2 Tryz.prog Γk msK 70 20) 70 Tryz.f85) ([sl20 [iv1], aggI re0], boolA true) = true := by kernel_rfl
theorem row85_1 : rowOk (concPure Tryz.prog (concΓ2 Tryz.prog Γk msK 70 20) 70 Tryz.f85) ([sl20 [iv1], aggI re1], boolA true) = true := by kernel_rfl
theorem row85_2 : rowOk (concPure Tryz.prog (concΓ2 Tryz.prog Γk msK 70 20) 70 Tryz.f85) ([sl20 [iv1], aggI re2], boolA true) = true := by kernel_rfl
theorem row85_3 : rowOk (concPure Tryz.prog (concΓ2 Tryz.prog Γk msK 70 20) 70 Tryz.f85) ([sl20 [iv1], aggI reh], boolA true) = true := by kernel_rfl
theorem row85_4 : rowOk (concPure Tryz.prog (concΓ2 Tryz.prog Γk msK 70 20) 70 Tryz.f85) ([sl20 [iv1], aggI re3], boolA true) = true := by kernel_rfl
theorem row85_5 : rowOk (concPure Tryz.prog (concΓ2 Tryz.prog Γk msK 70 20) 70 Tryz.f85) ([sl20 [iv2], aggI re1], boolA false) = true := by kernel_rfl
theorem row85_6 : rowOk (concPure Tryz.prog (concΓ2 Tryz.prog Γk msK 70 20) 70 Tryz.f85) ([sl20 [iv2], aggI re3], boolA true) = true := by kernel_rfl
theorem row85_7 : rowOk (concPure Tryz.prog (concΓ2 Tryz.prog Γk msK 70 20) 70 Tryz.f85) ([sl20 [iv2], aggI re2], boolA true) = true := by kernel_rfl
theorem tab85_ok : PureOk Tryz.prog 85 (tabK rows85) := by
 refine tab_ok (concPure_ok prog_mixed (concΓ2_ok (N := 70) (ms := msK) prog_mixed Γk_ok 20) (fn := Tryz.f85) (c := codeOf Tryz.f85) (N := 70) (by kernel_rfl) (by kernel_rfl) (by kernel_rfl)) ?_
 intro r hr
 simp only [rows85, List.mem_cons, List.not_mem_nil, or_false] at hr
 rcases hr with rfl | rfl | rfl | rfl | rfl | rfl | rfl | rfl
 · exact row85_0
 · exact row85_1
 · exact row85_2
 · exact row85_3
 · exact row85_4
 · exact row85_5
 · exact row85_6
 · exact row85_7
end Go.Vse
