/- Helpers for the proof: no statement of its own. -/
import Derived.Test.YtclnfoepcemloaaGreatDoorT00
import Derived.Test.YtclnfoepcemloaaGreatDoorT09
set_option linter.unusedVariables false
set_option linter.unusedSimpArgs false
set_option linter.unnecessarySimpa false
set_option linter.deprecated false
set_option maxRecDepth 1000000
namespace Go.bI
open Go.Proofs
def XW:FuncId→Bool:=λf=>sO f || [34,37,38,81,87].any λg=>Nat.beq f g
def Γ52:FuncId→Option Spec:=λf=>bif Nat.beq f 18 then some (ay (nY XU))else Γk f
theorem K7: ∀f s,Γ52 f=some s→aR Tryz.prog f s:=by
 intro f s h;unfold Γ52 at h;cases h1:Nat.beq f 18 with
 | true=>
   rw[h1]at h;cases h;rw[Nat.eq_of_beq_eq_true h1];exact ahT.spec
 | false=>
   rw[h1]at h;exact GJ f s h
def noS:IV:= .v (.slice none 0 0)
def evt(r:List IV)(b:Bool)(o:IV):List IV:=r++[.v (.bool b),o]
def avn:AV:=nO 11 [evt qW false (D9 [1,2]),evt wo true (D9 [2,1]),evt qX true noS]
def avo:AV:=nO 11 [evt qW false (D9 [1,3,2]),evt qW true (D9 [3,1,2]),evt wo true (D9 [3,2,1]),evt qX false (D9 [2,3,1]),evt qX true (D9 [3]),evt Le true noS]
def i3(a b c:Int):List AV:=[.c (.v (.int .i64 a)),.c (.v (.int .i64 b)),.c (.v (.int .i64 c))]
def XY:List (List AV×AV):=[(i3 0 1 4,nO 32 [nu1]),
 (i3 4 (-1) 4,nO 32 [nu2]),
 (i3 0 0 9,nO 32 [nu3])]
theorem anx:rowOk (cO Tryz.prog (dW Tryz.prog Γ52 XW 70 20) 70 Tryz.f32) (i3 0 1 4,nO 32 [nu1])=true:=by kernel_rfl
theorem anz:rowOk (cO Tryz.prog (dW Tryz.prog Γ52 XW 70 20) 70 Tryz.f32) (i3 4 (-1) 4,nO 32 [nu2])=true:=by kernel_rfl
theorem anA:rowOk (cO Tryz.prog (dW Tryz.prog Γ52 XW 70 20) 70 Tryz.f32) (i3 0 0 9,nO 32 [nu3])=true:=by kernel_rfl
theorem ahU:aN Tryz.prog 32 (nY XY):=by
 refine qV (jl aj (jM (N:=70) (ms:=XW) aj K7 20) (fn:=Tryz.f32) (c:=codeOf Tryz.f32) (N:=70) (by kernel_rfl) (by kernel_rfl) (by kernel_rfl)) ?_;intro r hr;simp only[XY,List.mem_cons,List.not_mem_nil,or_false]at hr;rcases hr with rfl|rfl|rfl
 ·exact anx
 ·exact anz
 ·exact anA
def XZ:List (List AV×AV):=[([yL],avn),
 ([oM],avo)]
theorem anB:rowOk (cO Tryz.prog (dW Tryz.prog Γ52 XW 70 20) 70 Tryz.f33) ([yL],avn)=true:=by kernel_rfl
theorem anC:rowOk (cO Tryz.prog (dW Tryz.prog Γ52 XW 70 20) 70 Tryz.f33) ([oM],avo)=true:=by kernel_rfl
theorem ahV:aN Tryz.prog 33 (nY XZ):=by
 refine qV (jl aj (jM (N:=70) (ms:=XW) aj K7 20) (fn:=Tryz.f33) (c:=codeOf Tryz.f33) (N:=70) (by kernel_rfl) (by kernel_rfl) (by kernel_rfl)) ?_;intro r hr;simp only[XZ,List.mem_cons,List.not_mem_nil,or_false]at hr;rcases hr with rfl|rfl
 ·exact anB
 ·exact anC
end Go.bI
