/- Helpers for the proof: no statement of its own. -/
import Derived.Test.YtclnfoepcemloaaGreatDoorT00
import Derived.Test.YtclnfoepcemloaaGreatDoorT05
set_option linter.unusedVariables false
set_option linter.unusedSimpArgs false
set_option linter.unnecessarySimpa false
set_option linter.deprecated false
set_option maxRecDepth 1000000
namespace Go.bI
open Go.Proofs
def XT:List (List AV×AV):=[([yL,gJ qW],ids [1,2]),
 ([yL,gJ ra1],ids [1,2]),
 ([yL,gJ wo],ids [1,2]),
 ([yL,gJ ra3],ids [2,1]),
 ([yL,gJ qX],ids [2,1]),
 ([oM,gJ qW],ids [1,3,2]),
 ([oM,gJ ra1],ids [3,1,2]),
 ([oM,gJ wo],ids [3,1,2]),
 ([oM,gJ ra3],ids [3,2,1]),
 ([oM,gJ qX],ids [2,3,1]),
 ([oM,gJ ra5],ids [3]),
 ([oM,gJ Le],ids [3])]
theorem anj:rowOk (cO Tryz.prog (dW Tryz.prog Γk sO 70 20) 70 Tryz.f23) ([yL,gJ qW],ids [1,2])=true:=by kernel_rfl
theorem ank:rowOk (cO Tryz.prog (dW Tryz.prog Γk sO 70 20) 70 Tryz.f23) ([yL,gJ ra1],ids [1,2])=true:=by kernel_rfl
theorem anl:rowOk (cO Tryz.prog (dW Tryz.prog Γk sO 70 20) 70 Tryz.f23) ([yL,gJ wo],ids [1,2])=true:=by kernel_rfl
theorem anm:rowOk (cO Tryz.prog (dW Tryz.prog Γk sO 70 20) 70 Tryz.f23) ([yL,gJ ra3],ids [2,1])=true:=by kernel_rfl
theorem ano:rowOk (cO Tryz.prog (dW Tryz.prog Γk sO 70 20) 70 Tryz.f23) ([yL,gJ qX],ids [2,1])=true:=by kernel_rfl
theorem anp:rowOk (cO Tryz.prog (dW Tryz.prog Γk sO 70 20) 70 Tryz.f23) ([oM,gJ qW],ids [1,3,2])=true:=by kernel_rfl
theorem anq:rowOk (cO Tryz.prog (dW Tryz.prog Γk sO 70 20) 70 Tryz.f23) ([oM,gJ ra1],ids [3,1,2])=true:=by kernel_rfl
theorem anr:rowOk (cO Tryz.prog (dW Tryz.prog Γk sO 70 20) 70 Tryz.f23) ([oM,gJ wo],ids [3,1,2])=true:=by kernel_rfl
theorem ant:rowOk (cO Tryz.prog (dW Tryz.prog Γk sO 70 20) 70 Tryz.f23) ([oM,gJ ra3],ids [3,2,1])=true:=by kernel_rfl
theorem anu:rowOk (cO Tryz.prog (dW Tryz.prog Γk sO 70 20) 70 Tryz.f23) ([oM,gJ qX],ids [2,3,1])=true:=by kernel_rfl
theorem ahQ:rowOk (cO Tryz.prog (dW Tryz.prog Γk sO 70 20) 70 Tryz.f23) ([oM,gJ ra5],ids [3])=true:=by kernel_rfl
theorem ahR:rowOk (cO Tryz.prog (dW Tryz.prog Γk sO 70 20) 70 Tryz.f23) ([oM,gJ Le],ids [3])=true:=by kernel_rfl
theorem ahS:aN Tryz.prog 23 (nY XT):=by
 refine qV (jl aj (jM (N:=70) (ms:=sO) aj GJ 20) (fn:=Tryz.f23) (c:=codeOf Tryz.f23) (N:=70) (by kernel_rfl) (by kernel_rfl) (by kernel_rfl)) ?_;intro r hr;simp only[XT,List.mem_cons,List.not_mem_nil,or_false]at hr;rcases hr with rfl|rfl|rfl|rfl|rfl|rfl|rfl|rfl|rfl|rfl|rfl|rfl
 ·exact anj
 ·exact ank
 ·exact anl
 ·exact anm
 ·exact ano
 ·exact anp
 ·exact anq
 ·exact anr
 ·exact ant
 ·exact anu
 ·exact ahQ
 ·exact ahR
end Go.bI
