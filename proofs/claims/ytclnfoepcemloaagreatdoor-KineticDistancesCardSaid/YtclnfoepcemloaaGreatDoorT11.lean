/- Helpers for the proof: no statement of its own. -/
import Derived.Test.YtclnfoepcemloaaGreatDoorT00
import Derived.Test.YtclnfoepcemloaaGreatDoorT10
set_option linter.unusedVariables false
set_option linter.unusedSimpArgs false
set_option linter.unnecessarySimpa false
set_option linter.deprecated false
set_option maxRecDepth 1000000
namespace Go.bI
open Go.Proofs
def ahW:List (List AV×AV):=[([yL],.c (.v (.int .i64 0)))]
theorem asv:rowOk (cO Tryz.prog (dW Tryz.prog Γ52 XW 70 20) 70 Tryz.f8) ([yL],.c (.v (.int .i64 0)))=true:=by kernel_rfl
theorem anD:aN Tryz.prog 8 (nY ahW):=by
 refine qV (jl aj (jM (N:=70) (ms:=XW) aj K7 20) (fn:=Tryz.f8) (c:=codeOf Tryz.f8) (N:=70) (by kernel_rfl) (by kernel_rfl) (by kernel_rfl)) ?_;intro r hr;simp only[ahW,List.mem_cons,List.not_mem_nil,or_false]at hr;subst hr;exact asv
end Go.bI
