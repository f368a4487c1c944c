/- Helpers for the proof: no statement of its own. -/
import Derived.Test.YtclnfoepcemloaaGreatDoorT00
import Derived.Test.YtclnfoepcemloaaGreatDoorT05
set_option linter.unusedVariables false
set_option linter.unusedSimpArgs false
set_option linter.unnecessarySimpa false
set_option linter.deprecated false
set_option maxRecDepth 1000000
open Go.Proofs.Tryz(prog)
namespace Go.bA
open Go.Proofs
def PG:List (List AV×AV):=[([xP,j6 Fu],ids [1,2]),
 ([xP,j6 ra1],ids [1,2]),
 ([xP,j6 DV],ids [1,2]),
 ([xP,j6 ra3],ids [2,1]),
 ([xP,j6 Fv],ids [2,1])]
theorem aks:rowOk (eG prog (iR prog Γk AQ 70 20) 70 Tryz.f23) ([xP,j6 Fu],ids [1,2])=true:=by kernel_rfl
theorem akt:rowOk (eG prog (iR prog Γk AQ 70 20) 70 Tryz.f23) ([xP,j6 ra1],ids [1,2])=true:=by kernel_rfl
theorem aku:rowOk (eG prog (iR prog Γk AQ 70 20) 70 Tryz.f23) ([xP,j6 DV],ids [1,2])=true:=by kernel_rfl
theorem akv:rowOk (eG prog (iR prog Γk AQ 70 20) 70 Tryz.f23) ([xP,j6 ra3],ids [2,1])=true:=by kernel_rfl
theorem akw:rowOk (eG prog (iR prog Γk AQ 70 20) 70 Tryz.f23) ([xP,j6 Fv],ids [2,1])=true:=by kernel_rfl
theorem Ta:aF prog 23 (nH PG):=by
 refine sV (jc aI (jW (N:=70) (ms:=AQ) aI DU 20) (fn:=Tryz.f23) (c:=codeOf Tryz.f23) (N:=70) (by kernel_rfl) (by kernel_rfl) (by kernel_rfl)) ?_;intro r hr;simp only[PG,List.mem_cons,List.not_mem_nil,or_false]at hr;rcases hr with rfl|rfl|rfl|rfl|rfl
 ·exact aks
 ·exact akt
 ·exact aku
 ·exact akv
 ·exact akw
end Go.bA
