/- Helpers for the proof: no statement of its own. -/
import Derived.Test.YtclnfoepcemloaaGreatDoorT00
import Derived.Test.YtclnfoepcemloaaGreatDoorT07
import Derived.Test.YtclnfoepcemloaaGreatDoorT06
import Derived.Test.YtclnfoepcemloaaGreatDoorT05
set_option linter.unusedVariables false
set_option linter.unusedSimpArgs false
set_option linter.unnecessarySimpa false
set_option linter.deprecated false
set_option maxRecDepth 1000000
namespace Go.bI
open Go.Proofs
def Γo:FuncId→Option Spec:=λf=>bif Nat.beq f 49 then some (ay (nY XP))else bif Nat.beq f 50 then some (ay (nY XQ))else bif Nat.beq f 51 then some (ay (nY XR))else bif Nat.beq f 52 then some (ay (nY Qd))else bif Nat.beq f 23 then some (ay (nY XT))else none
theorem avj: ∀f s,Γo f=some s→aR Tryz.prog f s:=step_ok ahN.spec (step_ok ahO.spec (step_ok ahP.spec (step_ok TF.spec (bS ahS.spec))))
def D9(l:List Int):IV:= .sl l.length 1 λk=> [.v (.int .i64 (l.getD k 0))]
def avk:AV:=nO 21 [yC qW wo false false++[D9 [1,2]],yC wo qX true false++[D9 [2,1]]]
def aok:AV:=nO 21 [yC qW qW false false++[D9 [1,3,2]],yC qW wo true false++[D9 [3,1,2]],yC wo qX true true++[D9 [3,2,1]],yC qX qX false false++[D9 [2,3,1]],yC qX Le true false++[D9 [3]]]
def XU:List (List AV×AV):=[([yL],avk),
 ([oM],aok)]
theorem anv:rowOk (wV Tryz.prog (dW Tryz.prog Γo sO 70 10) 70 Tryz.f18) ([yL],avk)=true:=by kernel_rfl
theorem anw:rowOk (wV Tryz.prog (dW Tryz.prog Γo sO 70 10) 70 Tryz.f18) ([oM],aok)=true:=by kernel_rfl
theorem ahT:aN Tryz.prog 18 (nY XU):=by
 refine qV (Qc aj (jM (N:=70) (ms:=sO) aj avj 10) (fn:=Tryz.f18) (c:=codeOf Tryz.f18) (N:=70) (by kernel_rfl) (by kernel_rfl) (by kernel_rfl)) ?_;intro r hr;simp only[XU,List.mem_cons,List.not_mem_nil,or_false]at hr;rcases hr with rfl|rfl
 ·exact anv
 ·exact anw
end Go.bI
namespace Go.bI
open Go.RowKit
def avl(S:St):St:={S with tm:=(lY S.mem S.tm).1,mem:=dA S.mem ((wu S.tm).map λb=>(b,none))}
section
variable{P:Program}{Γ:FuncId→Option Spec}{L:Nat→Option (St→Tr (Ex×St))}{N:Nat}
theorem Holds.freeze{C:Ctx}{B:eB}{S:St}{a:Act}{w:World}(hC:C.Ok)(H:Holds C B S a w)(hc: ∀p∈(lY S.mem S.tm).2,p):Holds C B (avl S) a w:=by
 have H':=Holds.drops (wu S.tm) S H;have hA: ∀b,aT C.A0 B (dA S.mem ((wu S.tm).map λb=>(b,none))) b→aT C.A0 B S.mem b:=λb hb=>by
  rcases hb with hb|⟨t,e,h1,h2⟩
  ·exact .inl hb
  ·obtain⟨_,h4⟩:=qI (wu S.tm) S.mem t e h1
   exact .inr ⟨t,e,h4,h2⟩
 have hT:=wD H hA S.tm a.tmps.toList (uS H.size H.tm) (λb hb=>by
  rintro⟨t,ht,e,h1,h2⟩;rcases hb with hb|⟨t',e',h3,h4⟩
  ·rcases(H.old t b h2).1 with h3|h3
   ·exact absurd (hC.a0 b hb) (Nat.not_lt.2 h3)
   ·exact hC.Lh b hb h3
  ·obtain⟨h5,h6⟩:=qI (wu S.tm) S.mem t' e' h3
   exact h5 (H.inj t' t e' e b h6 h1 h4 h2 ▸ ht)) hc
 exact{H' with size:=(kY hT).1,tm:=(kY hT).2}
def avm(P:Program)(Γ:FuncId→Option Spec)(L:Nat→Option (St→Tr (Ex×St)))(N:Nat)(fn:Func)(c:Code)(S:St):Tr AV:=Tr.needs (lY S.mem S.tm).2 (amV P Γ L N fn c (avl S))
theorem XV{C:Ctx}{fn:Func}{c:Code}(hm:P.follows .mixedOrders=true)(hΓ: ∀f s,Γ f=some s→mE C P f s)(hC:C.Ok)(hl:bF P C.k L c)
  (Q:AV→Prop) (S:St) (B:eB) (a:Act) (w:World) (h:(avm P Γ L N fn c S).sat Q) (H:Holds C B S a w):c.wp P (Bb C λq=>(acM P fn q).sat Q) a w:=by
 obtain⟨hc,h⟩:=Tr.mV h;exact qJ (gG hm hΓ hC c hl _ _ _ _ _ (Tr.gP h) (Holds.freeze hC H hc))
def Qg(P:Program)(Γ:FuncId→Option Spec)(N:Nat)(fn:Func)(n:Nat)(args:List AV):Tr AV:=
 match fn.body with
 | some c=>P9 P Γ bX N fn (avm P Γ bX N fn (KX n c)) n c (start args fn.ntmps)
 | none=> .fail "body"
theorem LV(hm:P.follows .mixedOrders=true)(hΓ: ∀f s,Γ f=some s→aR P f s){f:FuncId}{fn:Func}{c:Code}(hf:P.funcs[f]? =some fn)(hb:fn.body=some c)
  (hcall: ∀args w,(callFunc f args).run P w= .ok (.enter f args) w) {K:List AV→Option (AV×List Bool)} (n:Nat)
  (hn: ∀args v cs,K args=some (v,cs)→bI.fu v=true)
  (h: ∀args v cs,K args=some (v,cs)→(∀p∈cs,p)→(Qg P Γ N fn n args).sat λr=>bI.fu r=true∧bM r v):aN P f K where
 sound:=λargs v cs hk=>⟨hn args v cs hk,λA w vs hA hc hargs=>by
  have hs:=h args v cs hk hc;unfold Qg at hs;rw[hb]at hs;refine iW.enter hf ⟨hcall _ _,(LU hf hb (Q:=λr=>bM r v) hA hargs λC a hC hk H=> ?_).mono ?_⟩
  ·exact D7 hm (zO hΓ C) hC n c (by rw[hk];exact ak 0 c) (λQ S B a w hq H=>XV hm (zO hΓ C) hC (by rw[hk];exact Bp n c (ak 0 c)) Q S B a w hq H) _ _ _ _ _ hs H
  ·rintro e w' ⟨r,u,OC,_,rfl,hrel,hb⟩
   exact⟨u,rfl,OC _ _ _ _ hrel,hb⟩⟩
def Qh(P:Program)(Γ:FuncId→Option Spec)(N n:Nat)(fn:Func)(args:List AV):Option (AV×List Bool):=
 match (Qg P Γ N fn n args).zI with
 | some v=>some (v,[])
 | none=>none
theorem acV(hm:P.follows .mixedOrders=true)(hΓ: ∀f s,Γ f=some s→aR P f s){f:FuncId}{fn:Func}{c:Code}(hf:P.funcs[f]? =some fn)(hb:fn.body=some c)(hn:jS fn=true)(n:Nat):aN P f (Qh P Γ N n fn):=by
 have hk: ∀args v cs,Qh P Γ N n fn args=some (v,cs)→(Qg P Γ N fn n args).zI=some v:=by
  intro args v cs h;unfold Qh at h
  split at h
  ·rename_i u hu
   simp only[fK,Prod.mk.injEq]at h;obtain⟨rfl,_⟩:=h;exact hu
  ·cases h
 refine LV (N:=N) hm hΓ hf hb (aG hf hb hn) n (λargs v cs h=>(Tr.qd (hk args v cs h)).1) λargs v cs h _=> ?_
 exact(Tr.qd (hk args v cs h)).2
end
end Go.bI
