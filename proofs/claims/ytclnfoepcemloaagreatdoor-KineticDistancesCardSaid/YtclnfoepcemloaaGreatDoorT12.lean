/- Helpers for the proof: no statement of its own. -/
import Derived.Test.YtclnfoepcemloaaGreatDoorT00
import Derived.Test.YtclnfoepcemloaaGreatDoorT10
set_option linter.unusedVariables false
set_option linter.unusedSimpArgs false
set_option linter.unnecessarySimpa false
set_option linter.deprecated false
set_option maxRecDepth 1000000
namespace Go.bI
open Go.Proofs
def X0:List (List AV×AV):=[([nO 32 [nu3]],.c (.v (.int .i64 0)))]
theorem anE:rowOk (cO Tryz.prog (dW Tryz.prog Γ52 XW 70 20) 70 Tryz.f31) ([nO 32 [nu3]],.c (.v (.int .i64 0)))=true:=by kernel_rfl
theorem ahX:aN Tryz.prog 31 (nY X0):=by
 refine qV (jl aj (jM (N:=70) (ms:=XW) aj K7 20) (fn:=Tryz.f31) (c:=codeOf Tryz.f31) (N:=70) (by kernel_rfl) (by kernel_rfl) (by kernel_rfl)) ?_;intro r hr;simp only[X0,List.mem_cons,List.not_mem_nil,or_false]at hr;subst hr;exact anE
end Go.bI
