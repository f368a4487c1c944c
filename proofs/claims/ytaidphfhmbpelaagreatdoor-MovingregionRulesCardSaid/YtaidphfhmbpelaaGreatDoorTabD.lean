/- Helpers for the proof: no statement of its own. -/
import Derived.Test.YtaidphfhmbpelaaGreatDoorTabA
import Derived.Test.YtaidphfhmbpelaaGreatDoorVseE
set_option linter.unusedVariables false
set_option linter.unusedSimpArgs false
set_option linter.unnecessarySimpa false
set_option linter.deprecated false
set_option maxRecDepth 1000000
namespace Go.Vse
open Go.Proofs
def rows36 : List (List AV × List (List IV)) := [([shpK], [re1, re1, re1])]
theorem row36 : rowM (concMemF Tryz.prog (concΓ2 Tryz.prog Γv msK 70 20) 70 Tryz.f36) 9 36 ([shpK], [re1, re1, re1]) = true := by kernel_rfl
theorem tab36_ok : MemOk Tryz.prog 36 (tabM 9 36 rows36) := by
 refine tabM_ok (concMemF_ok (N := 70) prog_mixed (concΓ2_ok (N := 70) (ms := msK) prog_mixed Γv_ok 20) (fn := Tryz.f36) (c := codeOf Tryz.f36) (by kernel_rfl) (by kernel_rfl) (by kernel_rfl)) ?_
 intro r hr
 simp only [rows36, List.mem_cons, List.not_mem_nil, or_false] at hr
 subst hr
 exact row36
end Go.Vse
