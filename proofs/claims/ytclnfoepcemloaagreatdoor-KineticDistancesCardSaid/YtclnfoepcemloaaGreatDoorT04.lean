/- Helpers for the proof: no statement of its own. -/
import Derived.Test.YtclnfoepcemloaaGreatDoorT00
import Derived.Test.YtclnfoepcemloaaGreatDoorT03
set_option linter.unusedVariables false
set_option linter.unusedSimpArgs false
set_option linter.unnecessarySimpa false
set_option linter.deprecated false
set_option maxRecDepth 1000000
namespace Go.bI
open Go.Proofs
theorem aqS{m m':Nat}{el:Nat→List IV}(h1:m=m')(h2:aU.oks m el=true)(b:Nat)(t:Nat):dz [some (.cells [.iP b m 32] t),some (.arr m' 32 el 206)] [some (.cells [.iP b (aU.list m el).length 32] t),some (.arr (aU.list m el).length 32 (aU.el (aU.list m el)) 206)]:=by
 subst h1;rw[aU.Kl];exact .cons (.refl _) (.cons (.arr _ _ _ _ _ (aU.V8 h2)) .nil)
def an2:nJ (List Uq) where
 parse:=λe=>match e with | [some (.cells [.iP 1 m 32] 154),some (.arr m' 32 el 206)]=>some (aU.list m el,[decide (m=m'),aU.oks m el]) | _=>none
 ents:=λU=> [some (.cells [.iP 1 U.length 32] 154),some (.arr U.length 32 (aU.el U) 206)]
 ok:=by
  intro e x cs h hc
  split at h
  ·simp only[fK,Prod.mk.injEq]at h
   obtain⟨rfl,rfl⟩:=h;exact aqS (dec (hc _ (by simp))) (hc _ (by simp)) 1 154
  ·cases h
def rM(u:Uq):List Uq:=(bif u.i.oa then []else [⟨⟨u.i.a,u.i.a,false,false⟩,u.f⟩])++bif decide (u.i.a=u.i.b)then []else⟨⟨u.i.a,u.i.b,true,true⟩,u.f⟩::(bif u.i.ob then []else [⟨⟨u.i.b,u.i.b,false,false⟩,u.f⟩])
def iF(U:List Uq):List Uq:=U.flatMap rM
theorem DR(u:Uq):(rM u).length≤3:=by
 unfold rM;cases u.i.oa<;>cases decide (u.i.a=u.i.b)<;>cases u.i.ob<;>simp
abbrev Wo:=(Unit×Unit×List Uq×Int×Int×Unit)×List Uq
abbrev AtR:=(Unit×Unit)×List Uq
abbrev FAt:Form (Unit×Unit×List Uq×Int×Int×Unit):= .cons (ou 0 0) (.cons (OW 186 0 0) (.cons aU.arg (.cons bK (.cons bK .nil))))
def Ng(x:Wo):Bool:=decide (x.1.2.2.2.1=(x.1.2.2.1.length:Nat))&&(decide (x.1.2.2.2.2.1=0)&&(decide (x.1.2.2.1.length≤100000)&&decide (x.2.length=0)))
def R8:aZ Wo AtR:=yA {nt:=54,live:=[3,4,8,9,10],cells:=[(1,0,32,206)]} {nt:=54,live:=[3],cells:=[(1,0,32,206)]} (fJ.with an2 FAt) (fJ.with an2 (F1 (ou 0 0))) (λx=>(((),()),iF x.1.2.2.1)) Ng
theorem abw:R8.gI:=eG _ _ _ _ _ _
def LAt:Nat→Option (St→Tr (Ex×St)):=λid=>bif Nat.beq id 0 then some (R8.g 0)else none
def ΓAt:FuncId→Option Spec:=λf=>bif Nat.beq f 142 then some (ay aqD)else none
theorem afX: ∀f s,ΓAt f=some s→aR Tryz.prog f s:=bS afO.spec
def MAt(U:List Uq):Tr AV:=
 let x1:List Uq:=aU.list U.length (aU.el U)
 let x2:List Uq:=iF x1
 let x3:Nat:=x2.length
 Tr.need (aU.oks U.length (aU.el U))
  (Tr.need true
   (Tr.need true
    (Tr.need (Ng (((),(),x1, ↑U.length,0,()),aU.list 0 λx=> [])) (Tr.need (decide (x3≤x3)) (Tr.ret (AV.c (IV.sl x3 32 (aU.el x2))))))))
abbrev elU(u:Uq):Nat→List IV:=λk=>((uq u.i++nV u.f).drop (k*32)).take 32
def alL(m:Nat)(t:Tr (Wo ⊕ AtR)):Tr (Wo ⊕ AtR):=Tr.need (decide (m≤m))<| Tr.need true<| Tr.need (decide (m+1≤9223372036854775807))<| Tr.need (decide ((m+1)*360≤140737488355328)) t
def R9(U:List Uq)(n i:Int)(m:Nat)(el:Nat→List IV):Tr (Wo ⊕ AtR):=Tr.need (aU.oks U.length (aU.el U))<| Tr.need (decide (m=m))<| Tr.need (aU.oks m el)<| Tr.ret (Sum.inl (((),(),aU.list U.length (aU.el U),n,IntKind.i64.wrap (i+1),()),aU.list m el))
def Py(U:List Uq)(n i:Int)(u:Uq)(m:Nat)(el:Nat→List IV):Tr (Wo ⊕ AtR):=
 let IA:=dU u.i
 Tr.need (uo IA)<| Tr.ite (decide ((yH IA).a=(yH IA).b)) (R9 U n i m el)
  (alL m<| Tr.ite (!u.i.ob) (alL (m+1)<| R9 U n i (m+1+1) (bN (m+1) (bN m el (elU (⟨⟨u.i.a,u.i.b,true,true⟩,u.f⟩:Uq))) (elU (⟨⟨u.i.b,u.i.b,false,false⟩,u.f⟩:Uq))))
   (R9 U n i (m+1) (bN m el (elU (⟨⟨u.i.a,u.i.b,true,true⟩,u.f⟩:Uq)))))
def E9(U:List Uq)(n i:Int)(A:List Uq):Tr (Wo ⊕ AtR):=
 let u:=U.getD i.toNat aU.d
 Tr.ite (decide (i<n)) (Tr.need (decide (0≤i∧i<(U.length:Int)))<| Tr.ite (!u.i.oa)
   (alL A.length<| Py U n i u (A.length+1) (bN A.length (aU.el A) (elU (⟨⟨u.i.a,u.i.a,false,false⟩,u.f⟩:Uq))))
   (Py U n i u A.length (aU.el A)))
  (Tr.need (decide (A.length=A.length))<| Tr.need (aU.oks A.length (aU.el A))<| Tr.ret (Sum.inr (((),()),aU.list A.length (aU.el A))))
theorem abx(x:Wo):(exec Tryz.prog (AQ Tryz.prog ΓAt (λ_=>false) 1010 2) bX 1010 (bn 0 (codeOf Tryz.f141)) (iQ R8.nIn (R8.head x))).bind (R8.fin 0 0)=E9 x.1.2.2.1 x.1.2.2.2.1 x.1.2.2.2.2.1 x.2:=by
 obtain⟨⟨⟨⟩,⟨⟩,U,n,i,⟨⟩⟩,A⟩:=x
 kernel_rfl
theorem aqT(U:List Uq):aI Tryz.prog (AQ Tryz.prog ΓAt (λ_=>false) 1010 2) LAt 1010 Tryz.f141 [aU.sl U]=MAt U:=by kernel_rfl
theorem Ko{m:Nat}{t:Tr (Wo ⊕ AtR)}{R:Wo ⊕ AtR→Prop}(hm:m≤1000000)(h:t.sat R):(alL m t).sat R:=ah (bQ) (ah rfl (ah (bQ) (ah (bQ) h)))
theorem Fa(U:List Uq)(i:Nat)(hi:i<U.length)(lU:U.length≤100000)(m:Nat)(el:Nat→List IV)(A:List Uq)(h1:aU.list m el=A)(h2:aU.oks m el=true){R:Wo ⊕ AtR→Prop}(hq:R (.inl (((),(),U,(U.length:Int),((i+1:Nat):Int),()),A))):(R9 U (U.length:Int) (i:Nat) m el).sat R:=by
 have w1:IntKind.i64.wrap ((i:Int)+1)=((i+1:Nat):Int):=jR;unfold R9;rw[aU.aS,h1,h2,aU.bH,w1];exact ah rfl (ah (fZ rfl) (ah rfl (av hq)))
theorem Kq(U:List Uq)(i:Nat)(hi:i<U.length)(lU:U.length≤100000)(u:Uq)(A:List Uq)(lA:A.length≤400000){R:Wo ⊕ AtR→Prop}
  (hq:R (.inl (((),(),U,(U.length:Int),((i+1:Nat):Int),()),A++bif decide (u.i.a=u.i.b)then []else(⟨⟨u.i.a,u.i.b,true,true⟩,u.f⟩:Uq)::(bif u.i.ob then []else [(⟨⟨u.i.b,u.i.b,false,false⟩,u.f⟩:Uq)])))) (m:Nat) (el:Nat→List IV) (hm:m=A.length) (he: ∀k,k<m→el k=aU.el A k):
  (Py U (U.length:Int) (i:Nat) u m el).sat R:=by
 subst hm;unfold Py;simp only[nG,j3];have g0:aU.list A.length el=A∧aU.oks A.length el=true:=by
  rw[aU.mK he,aU.oK he];exact⟨aU.aS A,aU.bH A _⟩
 refine ah rfl (au (λh=> ?_) (λh=> ?_))
 ·rw[h,cond_true,List.append_nil]at hq
  exact Fa U i hi lU _ _ A g0.1 g0.2 hq
 ·rw[h,cond_false]at hq
  have j1: ∀k,k<A.length+1→bN A.length el (elU (⟨⟨u.i.a,u.i.b,true,true⟩,u.f⟩:Uq)) k=aU.el (A++[(⟨⟨u.i.a,u.i.b,true,true⟩,u.f⟩:Uq)]) k:=by
   intro k hk;rw[←aU.DN A (⟨⟨u.i.a,u.i.b,true,true⟩,u.f⟩:Uq) (elU (⟨⟨u.i.a,u.i.b,true,true⟩,u.f⟩:Uq)) rfl k hk];unfold bN;by_cases hlt:k<A.length
   ·rw[if_pos hlt,if_pos hlt,he k hlt]
   ·rw[if_neg hlt,if_neg hlt]
  have l1:A.length+1=(A++[(⟨⟨u.i.a,u.i.b,true,true⟩,u.f⟩:Uq)]).length:=by simp
  refine Ko (by omega) (au (λho=> ?_) (λho=> ?_))
  ·have ho:u.i.ob=false:=by simpa using ho
   rw[ho,cond_false]at hq;have j2: ∀k,k<A.length+1+1→bN (A.length+1) (bN A.length el (elU (⟨⟨u.i.a,u.i.b,true,true⟩,u.f⟩:Uq))) (elU (⟨⟨u.i.b,u.i.b,false,false⟩,u.f⟩:Uq)) k=aU.el ((A++[(⟨⟨u.i.a,u.i.b,true,true⟩,u.f⟩:Uq)])++[(⟨⟨u.i.b,u.i.b,false,false⟩,u.f⟩:Uq)]) k:=by
    intro k hk;rw[←aU.DN (A++[(⟨⟨u.i.a,u.i.b,true,true⟩,u.f⟩:Uq)]) (⟨⟨u.i.b,u.i.b,false,false⟩,u.f⟩:Uq) (elU (⟨⟨u.i.b,u.i.b,false,false⟩,u.f⟩:Uq)) rfl k (by rw[←l1];exact hk), ←l1];unfold bN;by_cases hlt:k<A.length+1
    ·rw[if_pos hlt,if_pos hlt]
     exact j1 k hlt
    ·rw[if_neg hlt,if_neg hlt]
   have l2:A.length+1+1=((A++[(⟨⟨u.i.a,u.i.b,true,true⟩,u.f⟩:Uq)])++[(⟨⟨u.i.b,u.i.b,false,false⟩,u.f⟩:Uq)]).length:=by simp
   refine Ko (by omega) (Fa U i hi lU _ _ _ ?_ ?_ hq)
   ·rw[aU.mK j2,l2,aU.aS]
    simp
   ·rw[aU.oK j2]
    exact aU.bH _ _
  ·have ho:u.i.ob=true:=by simpa using ho
   rw[ho,cond_true]at hq;refine Fa U i hi lU _ _ _ ?_ ?_ hq
   ·rw[aU.mK j1,l1,aU.aS]
   ·rw[aU.oK j1]
    exact aU.bH _ _
theorem aby(U:List Uq)(i:Nat)(hi:i<U.length)(lU:U.length≤100000)(A:List Uq)(lA:A.length≤300000){R:Wo ⊕ AtR→Prop}
  (hq:R (.inl (((),(),U,(U.length:Int),((i+1:Nat):Int),()),A++rM (U.getD i aU.d)))):(E9 U (U.length:Int) (i:Nat) A).sat R:=by
 have c1:decide ((i:Int)<(U.length:Int))=true:=bQ;unfold E9;simp only[jf];generalize U.getD i aU.d=u at*;simp only[c1];refine au (λ_=> ?_) (λh=>by cases h);refine ah (bQ) (au (λho=> ?_) (λho=> ?_))
 ·have ho:u.i.oa=false:=by simpa using ho
  have l1:A.length+1=(A++[(⟨⟨u.i.a,u.i.a,false,false⟩,u.f⟩:Uq)]).length:=by simp
  refine Ko (by omega) (Kq U i hi lU u (A++[(⟨⟨u.i.a,u.i.a,false,false⟩,u.f⟩:Uq)]) (by rw[←l1];omega) ?_ _ _ l1 ?_)
  ·rw[rM,ho,cond_false]at hq
   rw[List.append_assoc];exact hq
  ·exact aU.DN A (⟨⟨u.i.a,u.i.a,false,false⟩,u.f⟩:Uq) _ rfl
 ·have ho:u.i.oa=true:=by simpa using ho
  refine Kq U i hi lU u A (by omega) ?_ _ _ rfl (λ_ _=>rfl);rw[rM,ho,cond_true,List.nil_append]at hq;exact hq
theorem Wp(U:List Uq)(i:Nat)(h: ¬i<U.length)(A:List Uq){R:Wo ⊕ AtR→Prop}(hq:R (.inr (((),()),A))):(E9 U (U.length:Int) (i:Nat) A).sat R:=by
 have c:decide ((i:Int)<(U.length:Int))=false:=jK (by omega);unfold E9;simp only[c,aU.aS,aU.bH];exact au (λh=>by cases h) (λ_=>ah (by simp) (ah rfl (av hq)))
theorem afY(U:List Uq)(lU:U.length≤100000)(Q:AtR→Prop)(hq:Q (((),()),iF U)): ∀(n i:Nat),i+n=U.length→
  dJ (λx:Wo=>E9 x.1.2.2.1 x.1.2.2.2.1 x.1.2.2.2.2.1 x.2) Q (n+1) (((),(),U,(U.length:Int),(i:Nat),()),iF (U.take i))
 | 0,i,hn=>by
   obtain rfl:i=U.length:=by omega
   refine Wp U _ (by omega) _ ?_;rw[List.take_length];exact hq
 | n+1,i,hn=>by
   have hi:i<U.length:=by omega
   have e:iF (U.take i)++rM (U.getD i aU.d)=iF (U.take (i+1)):=by
    have e2:U.take (i+1)=U.take i++[U.getD i aU.d]:=by
     rw[List.take_add_one];simp[dR,hi]
    rw[e2];unfold iF;rw[List.flatMap_append];simp
   have hl: ∀V:List Uq,(iF V).length≤3*V.length:=by
    intro V
    induction V with
    | nil=>simp[iF]
    | cons v V ih=>
      have:=DR v;unfold iF at*;simp only[List.flatMap_cons,List.length_append,List.length_cons];omega
   have:=hl (U.take i);rw[List.length_take]at this;refine aby U i hi lU _ (show(iF (U.take i)).length≤300000 by omega) ?_;rw[e];exact afY U lU Q hq n (i+1) (by omega)
end Go.bI
namespace Go.bI
open Go.Proofs
theorem aqU:bF Tryz.prog 0 LAt (codeOf Tryz.f141):=by
 refine bG (d:=λid=>Nat.beq id 0) (λid=>by unfold LAt;cases Nat.beq id 0<;>rfl) _ ?_;have hb:bU (λid=>Nat.beq id 0) (codeOf Tryz.f141)=[(0,.loop (bn 0 (codeOf Tryz.f141)))]:=by kernel_rfl
 rw[hb];intro p hp g hg;simp only[List.mem_singleton]at hp;subst hp;have hh:LAt 0=some ((R8).g 0):=rfl;rw[hh]at hg;obtain rfl:g=(R8).g 0:=(Option.some.inj hg).symm;refine aZ.sU (N:=1010) aj (l7 aj afX 2) (L:=bX) (ak 0 _) abw (λx=>abx x) ?_;rintro⟨⟨⟨⟩,⟨⟩,U,n,i,⟨⟩⟩,A⟩ hx;have hx:Ng (((),(),U,n,i,()),A)=true:=hx;simp only[Ng,cu,fT]at hx;obtain⟨rfl,rfl,h3,h4⟩:=hx;obtain rfl:A=[]:=List.length_eq_zero_iff.1 h4;exact⟨_,afY U h3 (· =R8.res (((),(),U,(U.length:Nat),0,()),[])) rfl U.length 0 (by omega)⟩
theorem alM(U:List Uq)(h:U.length≤100000):(MAt U).sat λr=>r=aU.sl (iF U):=by
 have hp:Ng (((),(),U,(U.length:Nat),0,()),[])=true:=by
  simp only[Ng,cu,fT];exact⟨trivial,trivial,h,rfl⟩
 simp only[MAt,aU.aS,aU.bH,Kn,hp,sat_true];exact ah (fZ (Nat.le_refl _)) (av rfl)
def aqV:List AV→Option (AV×List Bool):=(F1 aU.arg).K (λx=>aU.sl (iF x.1)) λx=> [decide (x.1.length≤100000)]
theorem afZ:aN Tryz.prog 141 aqV:=
 (F1 aU.arg).dO (N:=1010) (L:=LAt) aj (l7 aj afX 2) (fn:=Tryz.f141) (c:=codeOf Tryz.f141) (by kernel_rfl) (by kernel_rfl) (by kernel_rfl) aqU (λ_=>rfl) (M:=λx=>MAt x.1) (λx=>aqT x.1) λx h=>alM x.1 (j4 (h (decide (x.1.length≤100000)) (by simp)))
end Go.bI
namespace Go.bI
open Go.Proofs
def vF(u:Uq):List AV:=dU u.i++cK u.f
theorem abz(u:Uq):uqV (vF u)=u:=aU.V_c u
theorem Wq(u:Uq):V9 (vF u)=true:=aU.Pv u
theorem alN{l:List AV}(h:V9 l=true):l=vF (uqV l):=aU.ok_eq l h
def Ze:Arg Uq where
 get:=λa=>match a with | .agg l=>some (uqV l,[V9 l]) | _=>none
 put:=λu=> .agg (vF u)
 ok:=by
  intro a x cs h hc
  split at h
  ·rename_i l
   simp only[fK,Prod.mk.injEq]at h;obtain⟨rfl,rfl⟩:=h;have:=alN (l:=l) (hc _ (by simp));rw[←this];exact .refl _
  ·cases h
def Sb(i:Ig):Int:=bif i.oa then 1 else 0
def atS:List AV→Option (AV×List Bool):=(F1 sj).K (λx=>dn .i64 (Sb x.1)) λx=> []
theorem alO(i:Ig):aI Tryz.prog Px bX 1010 Tryz.f185 [.agg (dU i)]=Tr.ite i.oa (Tr.ret (dn .i64 1)) (Tr.ret (dn .i64 0)):=by kernel_rfl
theorem aqW:aN Tryz.prog 185 atS:=
 (F1 sj).dO (N:=1010) (L:=bX) aj oz (fn:=Tryz.f185) (c:=codeOf Tryz.f185) (by kernel_rfl) (by kernel_rfl) (by kernel_rfl) (ak _ _) (λ_=>rfl) (M:=λx=>Tr.ite x.1.oa (Tr.ret (dn .i64 1)) (Tr.ret (dn .i64 0))) (λx=>alO x.1)
  λx h=>au (λo=>av (by rw[Sb,o];rfl)) (λo=>av (by rw[Sb,o];rfl))
def atT:FuncId→Option Spec:=λf=>bif Nat.beq f 101 then some (ay aqC)else bif Nat.beq f 185 then some (ay atS)else bif Nat.beq f 109 then some (ay aaf)else bif Nat.beq f 111 then some (ay UR)else none
theorem alP: ∀f s,atT f=some s→aR Tryz.prog f s:=step_ok afH.spec (step_ok aqW.spec (step_ok OO.spec (bS HY.spec)))
def alQ(u v:Uq):Tr AV:=
 let RA:=aY u.i.a
 let RB:=aY v.i.a
 let SA:=aY u.i.b
 let SB:=aY v.i.b
 let IA:=dU u.i
 let IB:=dU v.i
 Tr.need (dN RA)<| Tr.need (dN RB)<| Tr.need (qo 100000 (bW RA))<| Tr.need (qo 100000 (bW RB))<| Tr.need (uo IA)<| Tr.need (uo IB)<| Tr.need (dN SA)<| Tr.need (dN SB)<| Tr.need (qo 100000 (bW SA))<| Tr.need (qo 100000 (bW SB))<|
  Tr.need true<| Tr.need true<| Tr.need true<| Tr.ret (dn .i64 (iX (nQ 3 λk=>([IV.v (.int .i64 (iO (bW RA) (bW RB))),IV.v (.int .i64 (gW (Sb (yH IA)) (Sb (yH IB)))),IV.v (.int .i64 (iO (bW SA) (bW SB)))].drop (k*1)).take 1)))
theorem alR(u v:Uq):aI Tryz.prog atT bX 1010 Tryz.f184 [.agg (vF u),.agg (vF v)]=alQ u v:=by kernel_rfl
def Ws(u v:Uq):Int:=iX [iO u.i.a v.i.a,gW (Sb u.i) (Sb v.i),iO u.i.b v.i.b]
theorem af0(u v:Uq)(h1:Ah 100000 u.i=true)(h2:Ah 100000 v.i=true):(alQ u v).sat λr=>r=dn .i64 (Ws u v):=by
 obtain⟨a1,b1⟩:=oo h1;obtain⟨a2,b2⟩:=oo h2;simp only[alQ,dM,fM,nG,j3,a1,a2,b1,b2,sat_true];exact av rfl
def atU:List AV→Option (AV×List Bool):=(F2 Ze Ze).K (λx=>dn .i64 (Ws x.1 x.2.1)) λx=> [Ah 100000 x.1.i,Ah 100000 x.2.1.i]
theorem aqX:aN Tryz.prog 184 atU:=
 (F2 Ze Ze).dO (N:=1010) (L:=bX) aj alP (fn:=Tryz.f184) (c:=codeOf Tryz.f184) (by kernel_rfl) (by kernel_rfl) (by kernel_rfl) (ak _ _) (λ_=>rfl) (M:=λx=>alQ x.1 x.2.1) (λx=>alR x.1 x.2.1) λx h=>af0 x.1 x.2.1 (h (Ah 100000 x.1.i) (by simp)) (h (Ah 100000 x.2.1.i) (by simp))
end Go.bI
namespace Go.bI
open Go.Proofs
def atV:FuncId→Option Spec:=λf=>bif Nat.beq f 101 then some (ay aqo)else bif Nat.beq f 219 then some (ay ato)else bif Nat.beq f 109 then some (ay aaf)else bif Nat.beq f 111 then some (ay UR)else none
theorem alS: ∀f s,atV f=some s→aR Tryz.prog f s:=step_ok Y5.spec (step_ok alb.spec (step_ok OO.spec (bS HY.spec)))
def alT(u:Un)(v:Un):Tr AV:=
 let x1:List AV:=[.c (.v (.bool false)),.c (.v (.string ⟨⟨aH 1⟩⟩)),.c (.v (.bool false)),.c (.v (.string ⟨⟨[]⟩⟩)),.c (.v (.bool false)),.c (.v (.string ⟨⟨[]⟩⟩)),.c (.v (.bool false))]
 let x2:List AV:= .c (.v (.bool (decide (u.a<0)))):: .c (.v (.string ⟨⟨aA u.a.natAbs⟩⟩))::x1
 let x3:List AV:= .c (.v (.bool (decide (v.a<0)))):: .c (.v (.string ⟨⟨aA v.a.natAbs⟩⟩))::x1
 let x4:Int:=xP x2
 let x5:Int:=xP x3
 let x6:List AV:= .c (.v (.bool (decide (u.b<0)))):: .c (.v (.string ⟨⟨aA u.b.natAbs⟩⟩))::x1
 let x7:List AV:= .c (.v (.bool (decide (v.b<0)))):: .c (.v (.string ⟨⟨aA v.b.natAbs⟩⟩))::x1
 let x8:Int:=xP x6
 let x9:Int:=xP x7
 let x10:Nat:=0+1
 .need (vV x2) (.need (vV x3) (.need (Ag x4) (.need (Ag x5) (.need (DJ [.c (.v (.bool (decide (u.a<0)))),.c (.v (.string ⟨⟨aA u.a.natAbs⟩⟩)),.c (.v (.bool false)),.c (.v (.string ⟨⟨aH 1⟩⟩)),.c (.v (.bool false)),.c (.v (.string ⟨⟨[]⟩⟩)),.c (.v (.bool false)),.c (.v (.string ⟨⟨[]⟩⟩)),.c (.v (.bool false)),.c (.v (.bool (decide (u.b<0)))),.c (.v (.string ⟨⟨aA u.b.natAbs⟩⟩)),.c (.v (.bool false)),.c (.v (.string ⟨⟨aH 1⟩⟩)),.c (.v (.bool false)),.c (.v (.string ⟨⟨[]⟩⟩)),.c (.v (.bool false)),.c (.v (.string ⟨⟨[]⟩⟩)),.c (.v (.bool false)),.c (.v (.bool u.oa)),.c (.v (.bool u.ob))]) (.need (DJ [.c (.v (.bool (decide (v.a<0)))),.c (.v (.string ⟨⟨aA v.a.natAbs⟩⟩)),.c (.v (.bool false)),.c (.v (.string ⟨⟨aH 1⟩⟩)),.c (.v (.bool false)),.c (.v (.string ⟨⟨[]⟩⟩)),.c (.v (.bool false)),.c (.v (.string ⟨⟨[]⟩⟩)),.c (.v (.bool false)),.c (.v (.bool (decide (v.b<0)))),.c (.v (.string ⟨⟨aA v.b.natAbs⟩⟩)),.c (.v (.bool false)),.c (.v (.string ⟨⟨aH 1⟩⟩)),.c (.v (.bool false)),.c (.v (.string ⟨⟨[]⟩⟩)),.c (.v (.bool false)),.c (.v (.string ⟨⟨[]⟩⟩)),.c (.v (.bool false)),.c (.v (.bool v.oa)),.c (.v (.bool v.ob))]) (.need (vV x6) (.need (vV x7) (.need (Ag x8) (.need (Ag x9) (.need true (.need true (.need true (.ret (.c (.v (.int IntKind.i64 (iX (nQ 3 λk=>List.take x10 (List.drop (k*x10) [IV.v (.int IntKind.i64 (gW x8 x9)),IV.v (.int IntKind.i64 (gW (bif nK [.c (.v (.bool u.oa))]then 1 else 0) (bif nK [.c (.v (.bool v.oa))]then 1 else 0))),IV.v (.int IntKind.i64 (gW x4 x5))].reverse)))))))))))))))))))
theorem alU(u v:Un):aI Tryz.prog atV bX 1010 Tryz.f218 [akV u,akV v]=alT u v:=by kernel_rfl
theorem aqY(a b:Int)(p q:Bool):DJ [AV.c (.v (.bool (decide (a<0)))),AV.c (.v (.string ⟨⟨aA a.natAbs⟩⟩)),AV.c (.v (.bool false)),AV.c (.v (.string ⟨⟨aH 1⟩⟩)),AV.c (.v (.bool false)),AV.c (.v (.string ⟨⟨[]⟩⟩)),AV.c (.v (.bool false)),AV.c (.v (.string ⟨⟨[]⟩⟩)),AV.c (.v (.bool false)),AV.c (.v (.bool (decide (b<0)))),AV.c (.v (.string ⟨⟨aA b.natAbs⟩⟩)),AV.c (.v (.bool false)),AV.c (.v (.string ⟨⟨aH 1⟩⟩)),AV.c (.v (.bool false)),AV.c (.v (.string ⟨⟨[]⟩⟩)),AV.c (.v (.bool false)),AV.c (.v (.string ⟨⟨[]⟩⟩)),AV.c (.v (.bool false)),AV.c (.v (.bool p)),AV.c (.v (.bool q))]=true:=dS ⟨a,b,p,q⟩
theorem af2(u v:Un)(h1:Ag u.a=true)(h2:Ag v.a=true)(h3:Ag u.b=true)(h4:Ag v.b=true)(h:decide (v.a<u.a)=true):(alT u v).sat λr=>r=dn .i64 1:=by
 have hlt:v.a<u.a:=j4 h;simp only[alT,anX,afs,aqY,h1,h2,h3,h4,sat_true];refine av ?_;have hs:gW u.a v.a=1:=by unfold gW;rw[if_neg (by omega),if_pos (by omega)]
 show AV.c (.v (.int IntKind.i64 (iX [gW u.a v.a,_,_])))=_
 rw[hs];rfl
def atW:List AV→Option (AV×List Bool):=(F2 Y4 Y4).K (λx=>dn .i64 1) λx=> [Ag x.1.a,Ag x.2.1.a,Ag x.1.b,Ag x.2.1.b,decide (x.2.1.a<x.1.a)]
theorem alV:aN Tryz.prog 218 atW:=
 (F2 Y4 Y4).dO (N:=1010) (L:=bX) aj alS (fn:=Tryz.f218) (c:=codeOf Tryz.f218) (by kernel_rfl) (by kernel_rfl) (by kernel_rfl) (ak _ _) (λ_=>rfl) (M:=λx=>alT x.1 x.2.1) (λx=>alU x.1 x.2.1)
  λx h=>af2 x.1 x.2.1 (h _ (by simp)) (h _ (by simp)) (h _ (by simp)) (h _ (by simp)) (h _ (by simp))
end Go.bI
namespace Go.bI
open Go.Proofs
theorem fC(a b:Int)(p q:Bool)(f:L4):[AV.c (.v (.bool (decide (a<0)))),AV.c (.v (.string ⟨⟨aA a.natAbs⟩⟩)),AV.c (.v (.bool false)),AV.c (.v (.string ⟨⟨aH 1⟩⟩)),AV.c (.v (.bool false)),AV.c (.v (.string ⟨⟨[]⟩⟩)),AV.c (.v (.bool false)),AV.c (.v (.string ⟨⟨[]⟩⟩)),AV.c (.v (.bool false)),AV.c (.v (.bool (decide (b<0)))),AV.c (.v (.string ⟨⟨aA b.natAbs⟩⟩)),AV.c (.v (.bool false)),AV.c (.v (.string ⟨⟨aH 1⟩⟩)),AV.c (.v (.bool false)),AV.c (.v (.string ⟨⟨[]⟩⟩)),AV.c (.v (.bool false)),AV.c (.v (.string ⟨⟨[]⟩⟩)),AV.c (.v (.bool false)),AV.c (.v (.bool p)),AV.c (.v (.bool q)),AV.c (.v (.bool (decide (f.x0.num<0)))),AV.c (.v (.string ⟨⟨aA f.x0.num.natAbs⟩⟩)),AV.c (.v (.bool false)),AV.c (.v (.string ⟨⟨aH f.x0.den⟩⟩)),AV.c (.v (.bool (decide (f.x1.num<0)))),AV.c (.v (.string ⟨⟨aA f.x1.num.natAbs⟩⟩)),AV.c (.v (.bool false)),AV.c (.v (.string ⟨⟨aH f.x1.den⟩⟩)),AV.c (.v (.bool (decide (f.y0.num<0)))),AV.c (.v (.string ⟨⟨aA f.y0.num.natAbs⟩⟩)),AV.c (.v (.bool false)),AV.c (.v (.string ⟨⟨aH f.y0.den⟩⟩)),AV.c (.v (.bool (decide (f.y1.num<0)))),AV.c (.v (.string ⟨⟨aA f.y1.num.natAbs⟩⟩)),AV.c (.v (.bool false)),AV.c (.v (.string ⟨⟨aH f.y1.den⟩⟩))]=sK ⟨a,b,p,q,f⟩:=rfl
theorem fD(a b:Int)(p q:Bool):[AV.c (.v (.bool (decide (a<0)))),AV.c (.v (.string ⟨⟨aA a.natAbs⟩⟩)),AV.c (.v (.bool false)),AV.c (.v (.string ⟨⟨aH 1⟩⟩)),AV.c (.v (.bool false)),AV.c (.v (.string ⟨⟨[]⟩⟩)),AV.c (.v (.bool false)),AV.c (.v (.string ⟨⟨[]⟩⟩)),AV.c (.v (.bool false)),AV.c (.v (.bool (decide (b<0)))),AV.c (.v (.string ⟨⟨aA b.natAbs⟩⟩)),AV.c (.v (.bool false)),AV.c (.v (.string ⟨⟨aH 1⟩⟩)),AV.c (.v (.bool false)),AV.c (.v (.string ⟨⟨[]⟩⟩)),AV.c (.v (.bool false)),AV.c (.v (.string ⟨⟨[]⟩⟩)),AV.c (.v (.bool false)),AV.c (.v (.bool p)),AV.c (.v (.bool q))]=pY ⟨a,b,p,q⟩:=rfl
theorem fE(f:L4):[AV.c (.v (.bool (decide (f.x0.num<0)))),AV.c (.v (.string ⟨⟨aA f.x0.num.natAbs⟩⟩)),AV.c (.v (.bool false)),AV.c (.v (.string ⟨⟨aH f.x0.den⟩⟩)),AV.c (.v (.bool (decide (f.x1.num<0)))),AV.c (.v (.string ⟨⟨aA f.x1.num.natAbs⟩⟩)),AV.c (.v (.bool false)),AV.c (.v (.string ⟨⟨aH f.x1.den⟩⟩)),AV.c (.v (.bool (decide (f.y0.num<0)))),AV.c (.v (.string ⟨⟨aA f.y0.num.natAbs⟩⟩)),AV.c (.v (.bool false)),AV.c (.v (.string ⟨⟨aH f.y0.den⟩⟩)),AV.c (.v (.bool (decide (f.y1.num<0)))),AV.c (.v (.string ⟨⟨aA f.y1.num.natAbs⟩⟩)),AV.c (.v (.bool false)),AV.c (.v (.string ⟨⟨aH f.y1.den⟩⟩))]=dF f:=rfl
theorem fF(n:Int):[AV.c (.v (.bool (decide (n<0)))),AV.c (.v (.string ⟨⟨aA n.natAbs⟩⟩)),AV.c (.v (.bool false)),AV.c (.v (.string ⟨⟨aH 1⟩⟩)),AV.c (.v (.bool false)),AV.c (.v (.string ⟨⟨[]⟩⟩)),AV.c (.v (.bool false)),AV.c (.v (.string ⟨⟨[]⟩⟩)),AV.c (.v (.bool false))]=gT n:=rfl
theorem iA(u:Un):(⟨u.a,u.b,u.oa,u.ob,u.f⟩:Un)=u:=rfl
theorem iB(u:Iv):(⟨u.a,u.b,u.oa,u.ob⟩:Iv)=u:=rfl
theorem dY(u:Un):List.take 9 (sK u)=gT u.a:=rfl
theorem dZ(u:Un):List.take 9 (List.drop 9 (sK u))=gT u.b:=rfl
theorem d9(u:Iv):List.take 9 (pY u)=gT u.a:=rfl
theorem eu(u:Iv):List.take 9 (List.drop 9 (pY u))=gT u.b:=rfl
def aqZ:FuncId→Option Spec:=λf=>bif Nat.beq f 218 then some (ay atW)else none
abbrev avJ:Form (List Un×Int×Int×Unit×Int×Unit):= .cons l9 (.cons bK (.cons bK (.cons (EI 218) (.cons bK .nil))))
def Ce(U:List Un):Bool:=(List.range (U.length-1)).all λk=>decide ((U.getD k u0).a<(U.getD (k+1) u0).a)
def qc(U:List Un):Bool:=(List.range U.length).all λk=>Ag (U.getD k u0).a&&Ag (U.getD k u0).b
def Kr(x:List Un×Int×Int×Unit×Int×Unit):Bool:=Ce x.1&&(qc x.1&&(decide (x.2.1=0)&&(decide (x.2.2.1=(x.1.length:Nat))&&(decide (1≤x.2.2.2.2.1)&&(decide (x.2.2.2.2.1≤(x.1.length:Nat))&&decide (x.1.length≤1000))))))
def Kt:aZ (List Un×Int×Int×Unit×Int×Unit) Unit:=yA {nt:=53,live:=[0,1,2,3,8]} {nt:=53,live:=[]} (fJ.pure avJ) (fJ.pure Form.nil) (λ_=>()) Kr
theorem Wt:Kt.gI:=eG _ _ _ _ _ _
theorem Zf: ∀f s,aqZ f=some s→aR Tryz.prog f s:=bS alV.spec
def Ak(U:List Un)(a:Int)(b:Int)(i:Int):Tr (List Un×Int×Int×Unit×Int×Unit ⊕ Unit):=
 let x1:Bool:=decide (i>a)
 let x2:Int:= ↑U.length
 let x3:Bool:=decide (0≤i∧i<x2)
 let x4:Int:=IntKind.i64.wrap (i-1)
 let x5:Bool:=decide (0≤x4∧x4<x2)
 let x6:Int:=(U.getD i.toNat u0).a
 let x7:Int:=(U.getD i.toNat u0).b
 let x8:Int:=(U.getD i.toNat u0).f.x0.num
 let x9:Int:=(U.getD i.toNat u0).f.x1.num
 let x10:Int:=(U.getD i.toNat u0).f.y0.num
 let fI:Int:=(U.getD i.toNat u0).f.y1.num
 let fU:List AV:=[.c (.v (.bool (decide (x6<0)))),.c (.v (.string ⟨⟨aA x6.natAbs⟩⟩)),.c (.v (.bool false)),.c (.v (.string ⟨⟨aH 1⟩⟩)),.c (.v (.bool false)),.c (.v (.string ⟨⟨[]⟩⟩)),.c (.v (.bool false)),.c (.v (.string ⟨⟨[]⟩⟩)),.c (.v (.bool false)),.c (.v (.bool (decide (x7<0)))),.c (.v (.string ⟨⟨aA x7.natAbs⟩⟩)),.c (.v (.bool false)),.c (.v (.string ⟨⟨aH 1⟩⟩)),.c (.v (.bool false)),.c (.v (.string ⟨⟨[]⟩⟩)),.c (.v (.bool false)),.c (.v (.string ⟨⟨[]⟩⟩)),.c (.v (.bool false)),.c (.v (.bool (U.getD i.toNat u0).oa)),.c (.v (.bool (U.getD i.toNat u0).ob)),.c (.v (.bool (decide (x8<0)))),.c (.v (.string ⟨⟨aA x8.natAbs⟩⟩)),.c (.v (.bool false)),.c (.v (.string ⟨⟨aH (U.getD i.toNat u0).f.x0.den⟩⟩)),.c (.v (.bool (decide (x9<0)))),.c (.v (.string ⟨⟨aA x9.natAbs⟩⟩)),.c (.v (.bool false)),.c (.v (.string ⟨⟨aH (U.getD i.toNat u0).f.x1.den⟩⟩)),.c (.v (.bool (decide (x10<0)))),.c (.v (.string ⟨⟨aA x10.natAbs⟩⟩)),.c (.v (.bool false)),.c (.v (.string ⟨⟨aH (U.getD i.toNat u0).f.y0.den⟩⟩)),.c (.v (.bool (decide (fI<0)))),.c (.v (.string ⟨⟨aA fI.natAbs⟩⟩)),.c (.v (.bool false)),.c (.v (.string ⟨⟨aH (U.getD i.toNat u0).f.y1.den⟩⟩))]
 let iM:Int:=(U.getD x4.toNat u0).a
 let iR:Int:=(U.getD x4.toNat u0).b
 let jH:Int:=(U.getD x4.toNat u0).f.x0.num
 let kE:Int:=(U.getD x4.toNat u0).f.x1.num
 let jD:Int:=(U.getD x4.toNat u0).f.y0.num
 let x18:Int:=(U.getD x4.toNat u0).f.y1.num
 let lW:List AV:=[.c (.v (.bool (decide (iM<0)))),.c (.v (.string ⟨⟨aA iM.natAbs⟩⟩)),.c (.v (.bool false)),.c (.v (.string ⟨⟨aH 1⟩⟩)),.c (.v (.bool false)),.c (.v (.string ⟨⟨[]⟩⟩)),.c (.v (.bool false)),.c (.v (.string ⟨⟨[]⟩⟩)),.c (.v (.bool false)),.c (.v (.bool (decide (iR<0)))),.c (.v (.string ⟨⟨aA iR.natAbs⟩⟩)),.c (.v (.bool false)),.c (.v (.string ⟨⟨aH 1⟩⟩)),.c (.v (.bool false)),.c (.v (.string ⟨⟨[]⟩⟩)),.c (.v (.bool false)),.c (.v (.string ⟨⟨[]⟩⟩)),.c (.v (.bool false)),.c (.v (.bool (U.getD x4.toNat u0).oa)),.c (.v (.bool (U.getD x4.toNat u0).ob)),.c (.v (.bool (decide (jH<0)))),.c (.v (.string ⟨⟨aA jH.natAbs⟩⟩)),.c (.v (.bool false)),.c (.v (.string ⟨⟨aH (U.getD x4.toNat u0).f.x0.den⟩⟩)),.c (.v (.bool (decide (kE<0)))),.c (.v (.string ⟨⟨aA kE.natAbs⟩⟩)),.c (.v (.bool false)),.c (.v (.string ⟨⟨aH (U.getD x4.toNat u0).f.x1.den⟩⟩)),.c (.v (.bool (decide (jD<0)))),.c (.v (.string ⟨⟨aA jD.natAbs⟩⟩)),.c (.v (.bool false)),.c (.v (.string ⟨⟨aH (U.getD x4.toNat u0).f.y0.den⟩⟩)),.c (.v (.bool (decide (x18<0)))),.c (.v (.string ⟨⟨aA x18.natAbs⟩⟩)),.c (.v (.bool false)),.c (.v (.string ⟨⟨aH (U.getD x4.toNat u0).f.y1.den⟩⟩))]
 let x20:Int:=xP (List.take 9 fU)
 let x21:Int:=xP (List.take 9 lW)
 .ite (decide (i<b)) (.need (bif x1 then x3&&(x5&&(DF fU&&(DF lW&&(Ag x20&&(Ag x21&&(Ag (xP (List.take 9 (List.drop 9 fU)))&&(Ag (xP (List.take 9 (List.drop 9 lW)))&&(decide (x21<x20)&&true))))))))else true) (.ite (bif x1 then bif true then decide ((1:Int)<0)else false else false) (.need x5 (.need x3 (.need x3 (.fail "zsortanyfunc.go:13")))) (.need (eH U.length (bZ U)) (.ret (Sum.inl (cB U.length (bZ U),a,b,(),IntKind.i64.wrap (i+1),())))))) (.ret (Sum.inr ()))
theorem Wu(x:List Un×Int×Int×Unit×Int×Unit):(exec Tryz.prog aqZ bX 1010 (bn 0 (codeOf Tryz.f285)) (iQ Kt.nIn (Kt.head x))).bind (Kt.fin 0 0)=Ak x.1 x.2.1 x.2.2.1 x.2.2.2.2.1:=by
 obtain⟨U,a,b,⟨⟩,i,⟨⟩⟩:=x
 kernel_rfl
theorem tC{n:Nat}{p:Nat→Bool}(h:(List.range n).all p=true){k:Nat}(hk:k<n):p k=true:=List.all_eq_true.1 h k (List.mem_range.2 hk)
theorem Wv(U:List Un)(i:Nat)(h1:Ce U=true)(h2:qc U=true)(hi:1≤i)(hl:i<U.length)(hn:U.length≤1000)(Q:List Un×Int×Int×Unit×Int×Unit ⊕ Unit→Prop)(hq:Q (.inl (U,0,(U.length:Nat),(),((i+1:Nat):Int),()))):
  (Ak U 0 (U.length:Nat) (i:Nat)).sat Q:=by
 have hw:IntKind.i64.wrap ((i:Int)-1)=((i-1:Nat):Int):=jR;have hw2:IntKind.i64.wrap ((i:Int)+1)=((i+1:Nat):Int):=jR;have c1:decide ((i:Int)>0)=true:=bQ;have c2:decide ((0:Int)≤(i:Int)∧(i:Int)<(U.length:Int))=true:=bQ;have c3:decide ((0:Int)≤((i-1:Nat):Int)∧((i-1:Nat):Int)<(U.length:Int))=true:=bQ;have c4:decide ((i:Int)<(U.length:Int))=true:=bQ;have s1:=tC h2 hl;have s2:=tC h2 (show i-1<U.length by omega);have s3:=tC h1 (show i-1<U.length-1 by omega);simp only[show i-1+1=i by omega]at s3;simp only[cu]at s1 s2;simp only[Ak, ↓fC, ↓fD, ↓fE, ↓fF,iA,iB,dY,dZ,d9,eu,dw,bY,dG,dh,fB,dS,bD,bE,dQ,bT,sat_true,hw,hw2,c1,c2,c3,c4,Int.toNat_natCast,s1.1,s1.2,s2.1,s2.2,s3,Bool.and_self,cond_true]
 repeat first
  | refine ah rfl ?_
  | refine au (λh=>Bool.noConfusion h) (λ_=> ?_)
  | refine au (λ_=> ?_) (λh=>Bool.noConfusion h)
 exact av hq
theorem Sc(U:List Un)(Q:List Un×Int×Int×Unit×Int×Unit ⊕ Unit→Prop)(hq:Q (.inr ()))(i:Int)(hi: ¬i<(U.length:Nat)):(Ak U 0 (U.length:Nat) i).sat Q:=by
 have c4:decide (i<(U.length:Int))=false:=jK hi;simp only[Ak,c4];exact au (λh=>by cases h) λ_=>av hq
theorem Zg(U:List Un)(h1:Ce U=true)(h2:qc U=true)(hn:U.length≤1000)(Q:Unit→Prop)(hq:Q ()): ∀(k i:Nat),1≤i→i+k=U.length→dJ (λx:List Un×Int×Int×Unit×Int×Unit=>Ak x.1 x.2.1 x.2.2.1 x.2.2.2.2.1) Q (k+1) (U,0,(U.length:Nat),(),(i:Nat),())
 | 0,i,hi,he=>Sc U _ hq i (by omega)
 | k+1,i,hi,he=>Wv U i h1 h2 hi (by omega) hn _ (Zg U h1 h2 hn Q hq k (i+1) (by omega) (by omega))
def af3:Nat→Option (St→Tr (Ex×St)):=λid=>bif Nat.beq id 0 then some (Kt.g 0)else none
theorem Ww:bF Tryz.prog 0 af3 (codeOf Tryz.f285):=by
 refine bG (d:=λid=>Nat.beq id 0) (λid=>by unfold af3;cases Nat.beq id 0<;>rfl) _ ?_;have hb:bU (λid=>Nat.beq id 0) (codeOf Tryz.f285)=[(0,.loop (bn 0 (codeOf Tryz.f285)))]:=by kernel_rfl
 rw[hb];intro p hp g hg;simp only[List.mem_singleton]at hp;subst hp;have hh:af3 0=some ((Kt).g 0):=rfl;rw[hh]at hg;obtain rfl:g=(Kt).g 0:=(Option.some.inj hg).symm;refine aZ.sU (N:=1010) aj Zf (L:=bX) (ak 0 _) Wt (λx=>Wu x) ?_;rintro⟨U,a,b,⟨⟩,i,⟨⟩⟩ hx;have hx:Kr (U,a,b,(),i,())=true:=hx;simp only[Kr,cu,fT]at hx;obtain⟨h1,h2,rfl,rfl,h5,h6,h7⟩:=hx;obtain⟨i,rfl⟩: ∃m:Nat,i=m:=⟨i.toNat,by omega⟩
 exact⟨_,Zg U h1 h2 h7 (· =()) rfl (U.length-i) i (by omega) (by omega)⟩
end Go.bI
namespace Go.bI
open Go.Proofs
def fnV(f:Nat):Value:= .func (.func f) #[] #[]
def atX:List AV→Option (AV×List Bool):=(Form.cons l9 (.cons bK (.cons bK (.cons (EI 218) .nil)))).K (λx=> .iC []) λx=> [Ce x.1,qc x.1,decide (x.2.1=0),decide (x.2.2.1=(x.1.length:Nat)),decide (1≤x.1.length),decide (x.1.length≤1000)]
def atY:List AV→Option (AV×List Bool):=(Form.cons l9 (.cons bK (.cons (EI 218) .nil))).K (λx=> .iC []) λx=> [Ce x.1,qc x.1,decide (x.2.1=(x.1.length:Nat)),decide (1≤x.1.length),decide (x.1.length≤19)]
def atZ:FuncId→Option Spec:=λf=>bif Nat.beq f 285 then some (ay atX)else none
def an3:FuncId→Option Spec:=λf=>bif Nat.beq f 255 then some (ay atY)else none
def alW(U:List Un)(a:Int)(b:Int):Tr AV:=
 .need (eH U.length (bZ U)) (.need (Kr (cB U.length (bZ U),a,b,(),IntKind.i64.wrap (a+1),())) (.ret (AV.iC [])))
def alX(U:List Un)(n:Int):Tr AV:=
 let x1:Bool:=eH U.length (bZ U)
 let x2:List Un:=cB U.length (bZ U)
 let x3:Bool:=Ce x2
 let x4:Bool:=qc x2
 let x5:Nat:=x2.length
 let x6:Int:= ↑x5
 let x7:Bool:=decide (1≤x5)
 let x8:Bool:=decide (x5≤1000)
 let x9:Int:=IntKind.i64.wrap (2*20)
 let x10:Int:=IntKind.i64.wrap (0+20)
 .ite (decide (20≤n)) (.need x1 (.need x3 (.need x4 (.need true (.need (decide (20=x6)) (.need x7 (.need x8 (.fail "rounds")))))))) (.need x1 (.need x3 (.need x4 (.need true (.need (decide (n=x6)) (.need x7 (.need x8 (.ite (decide (20<n)) (.ite (decide (x9≤n)) (.fail "zsortanyfunc.go:348") (.ite (decide (x10<n)) (.fail "zsortanyfunc.go:353") (.fail "rounds"))) (.ret (AV.iC []))))))))))
def alY(U:List Un):Tr AV:=
 let x1:Nat:=0+U.length
 let x2:Nat:=x1*408
 let x3:List Un:=cB x1 (bN 0 (λx=> []) (bZ U))
 let x4:Int:= ↑x1
 let x5:Nat:=x3.length
 let x6:Int:= ↑x5
 .need (decide (U.length≠0)) (.need true (.need (decide (x1≤9223372036854775807)) (.need (decide (x2≤140737488355328)) (.need (decide (x1≤x1)) (.need (eH x1 (bN 0 (λx=> []) (bZ U))) (.need (Ce x3) (.need (qc x3) (.need (decide (x4=x6)) (.need (decide (1≤x5)) (.need (decide (x5≤19)) (.ret (AV.c (IV.sl x1 36 (bN 0 (λx=> []) (bZ U)))))))))))))))
theorem alZ(U:List Un)(a b:Int):aI Tryz.prog aqZ af3 1010 Tryz.f285 [GZ U,.c (.v (.int .i64 a)),.c (.v (.int .i64 b)),.c (.v (fnV 218))]=alW U a b:=by kernel_rfl
theorem al0(U:List Un)(n:Int):aI Tryz.prog atZ bX 1001 Tryz.f255 [GZ U,.c (.v (.int .i64 n)),.c (.v (fnV 218))]=alX U n:=by kernel_rfl
theorem al1(U:List Un):aI Tryz.prog (AQ Tryz.prog an3 (λ_=>false) 1010 2) bX 1010 Tryz.f169 [GZ U]=alY U:=by kernel_rfl
theorem af4(e el:Nat→List IV):bN 0 e el=el:=by
 funext k
 unfold bN;rw[if_neg (Nat.not_lt_zero k),Nat.sub_zero]
theorem af5(U:List Un)(h1:Ce U=true)(h2:qc U=true)(h3:1≤U.length)(h4:U.length≤1000):(alW U 0 (U.length:Nat)).sat λr=>r= .iC []:=by
 simp only[alW, ↓fC, ↓fD, ↓fE, ↓fF,iA,iB,dY,dZ,d9,eu,dw,bY,dG,dh,fB,dS,bD,bE,dQ,bT,sat_true];refine ah ?_ (av rfl);simp only[Kr,h1,h2,fZ h4,Bool.true_and,Bool.and_true,cu,fT];refine⟨trivial,trivial,?_,?_⟩
 ·decide
 ·show(1:Int)≤(U.length:Nat)
  omega
theorem al2:aN Tryz.prog 285 atX:=
 Form.dO _ (N:=1010) (L:=af3) aj Zf (fn:=Tryz.f285) (c:=codeOf Tryz.f285) (by kernel_rfl) (by kernel_rfl) (by kernel_rfl) Ww (λ_=>rfl) (M:=λx=>alW x.1 x.2.1 x.2.2.1) (λx=>alZ x.1 x.2.1 x.2.2.1)
  λx h=>by
   obtain⟨U,a,b,⟨⟩,⟨⟩⟩:=x;have h0:a=0:=dec (h (decide (a=0)) (by simp));have h1:b=(U.length:Nat):=dec (h (decide (b=(U.length:Nat))) (by simp));subst h0;subst h1;exact af5 U (h (Ce U) (by simp)) (h (qc U) (by simp)) (dec (h (decide (1≤U.length)) (by simp))) (dec (h (decide (U.length≤1000)) (by simp)))
theorem al3: ∀f s,atZ f=some s→aR Tryz.prog f s:=bS al2.spec
theorem af6(U:List Un)(h1:Ce U=true)(h2:qc U=true)(h3:1≤U.length)(h4:U.length≤19):(alX U (U.length:Nat)).sat λr=>r= .iC []:=by
 have c1:decide ((20:Int)≤(U.length:Int))=false:=jK (by omega);have c2:decide ((20:Int)<(U.length:Int))=false:=jK (by omega);have c3:decide (1≤U.length)=true:=fZ h3;have c4:decide (U.length≤1000)=true:=bQ;simp only[alX, ↓fC, ↓fD, ↓fE, ↓fF,iA,iB,dY,dZ,d9,eu,dw,bY,dG,dh,fB,dS,bD,bE,dQ,bT,sat_true,h1,h2,c1,c2,c3,c4,decide_true]
 repeat first
  | refine ah rfl ?_
  | refine au (λh=>Bool.noConfusion h) (λ_=> ?_)
  | refine au (λ_=> ?_) (λh=>Bool.noConfusion h)
 exact av rfl
theorem al4:aN Tryz.prog 255 atY:=
 Form.dO _ (N:=1001) (L:=bX) aj al3 (fn:=Tryz.f255) (c:=codeOf Tryz.f255) (by kernel_rfl) (by kernel_rfl) (by kernel_rfl) (ak _ _) (λ_=>rfl) (M:=λx=>alX x.1 x.2.1) (λx=>al0 x.1 x.2.1)
  λx h=>by
   obtain⟨U,b,⟨⟩,⟨⟩⟩:=x;have h1:b=(U.length:Nat):=dec (h (decide (b=(U.length:Nat))) (by simp));subst h1;exact af6 U (h (Ce U) (by simp)) (h (qc U) (by simp)) (dec (h (decide (1≤U.length)) (by simp))) (dec (h (decide (U.length≤19)) (by simp)))
theorem af7: ∀f s,an3 f=some s→aR Tryz.prog f s:=bS al4.spec
theorem af8(U:List Un)(h1:Ce U=true)(h2:qc U=true)(h3:1≤U.length)(h4:U.length≤19):(alY U).sat λr=>r=GZ U:=by
 have c3:decide (1≤U.length)=true:=fZ h3;have c4:decide (U.length≤19)=true:=fZ h4;have c5:decide (U.length≠0)=true:=bQ;have c6:decide (U.length≤9223372036854775807)=true:=bQ;have c7:decide (U.length*408≤140737488355328)=true:=bQ;simp only[alY,af4,Nat.zero_add, ↓fC, ↓fD, ↓fE, ↓fF,iA,iB,dY,dZ,d9,eu,dw,bY,dG,dh,fB,dS,bD,bE,dQ,bT,sat_true,h1,h2,c3,c4,c5,c6,c7,decide_true,Nat.le_refl]
 repeat first
  | refine ah rfl ?_
  | refine au (λh=>Bool.noConfusion h) (λ_=> ?_)
  | refine au (λ_=> ?_) (λh=>Bool.noConfusion h)
 exact av rfl
def at0:List AV→Option (AV×List Bool):=(F1 l9).K (λx=>GZ x.1) λx=> [Ce x.1,qc x.1,decide (1≤x.1.length),decide (x.1.length≤19)]
theorem al5:aN Tryz.prog 169 at0:=
 (F1 l9).dO (N:=1010) (L:=bX) aj (l7 aj af7 2) (fn:=Tryz.f169) (c:=codeOf Tryz.f169) (by kernel_rfl) (by kernel_rfl) (by kernel_rfl) (ak _ _) (λ_=>rfl) (M:=λx=>alY x.1) (λx=>al1 x.1)
  λx h=>af8 x.1 (h _ (by simp)) (h _ (by simp)) (dec (h (decide (1≤x.1.length)) (by simp))) (dec (h (decide (x.1.length≤19)) (by simp)))
end Go.bI
namespace Go.bI
open Go.Proofs
abbrev IsX:=List Uq×Int×Int×Unit×Int×Unit
abbrev FIs:Form IsX:= .cons aU.arg (.cons bK (.cons bK (.cons (EI 184) (.cons bK .nil))))
def rO(U:List Uq):Bool:=(List.range (U.length-1)).all λk=> !decide (Ws (U.getD (k+1) aU.d) (U.getD k aU.d)<0)
def qp(U:List Uq):Bool:=U.all λu=>Ah 100000 u.i
def Sd(x:IsX):Bool:=rO x.1&&(qp x.1&&(decide (x.2.1=0)&&(decide (x.2.2.1=(x.1.length:Nat))&&(decide (x.2.2.2.2.1=1)&&decide (x.1.length≤100000)))))
def Wx:aZ IsX Unit:=yA {nt:=53,live:=[0,1,2,3,8]} {nt:=53,live:=[]} (fJ.pure FIs) (fJ.pure Form.nil) (λ_=>()) Sd
theorem abA:Wx.gI:=eG _ _ _ _ _ _
def ΓIs:FuncId→Option Spec:=λf=>bif Nat.beq f 184 then some (ay atU)else none
theorem af9: ∀f s,ΓIs f=some s→aR Tryz.prog f s:=bS aqX.spec
def Fb(U:List Uq)(a b i:Int):Tr (IsX ⊕ Unit):=
 let j:=IntKind.i64.wrap (i-1)
 let u:=U.getD i.toNat aU.d
 let v:=U.getD j.toNat aU.d
 let CU:=vF u
 let CV:=vF v
 Tr.ite (decide (i<b))
  (Tr.need (bif decide (i>a)then decide (0≤i∧i<(U.length:Int))&&(decide (0≤j∧j<(U.length:Int))&&(V9 CU&&(V9 CV&&(Ah 100000 (uqV CU).i&&(Ah 100000 (uqV CV).i&&true)))))else true)<|
   Tr.ite (bif decide (i>a)then bif true then decide (Ws (uqV CU) (uqV CV)<0)else false else false) (Tr.need (decide (0≤j∧j<(U.length:Int)))<| Tr.need (decide (0≤i∧i<(U.length:Int)))<| Tr.need (decide (0≤i∧i<(U.length:Int)))<| Tr.fail "zsortanyfunc.go:13")
    (Tr.need (aU.oks U.length (aU.el U))<| Tr.ret (Sum.inl (aU.list U.length (aU.el U),a,b,(),IntKind.i64.wrap (i+1),()))))
  (Tr.ret (Sum.inr ()))
theorem abB(x:IsX):(exec Tryz.prog ΓIs bX 1010 (bn 0 (codeOf Tryz.f265)) (iQ Wx.nIn (Wx.head x))).bind (Wx.fin 0 0)=Fb x.1 x.2.1 x.2.2.1 x.2.2.2.2.1:=by
 obtain⟨U,a,b,⟨⟩,i,⟨⟩⟩:=x
 kernel_rfl
theorem Sg{U:List Uq}(h:qp U=true){i:Nat}(hi:i<U.length):Ah 100000 (U.getD i aU.d).i=true:=by
 have:=List.all_eq_true.1 h U[i] (List.getElem_mem hi);have e:U.getD i aU.d=U[i]:=by simp[dR,hi]
 rw[e];exact this
theorem aga{U:List Uq}(h:rO U=true){k:Nat}(hk:k+1<U.length):decide (Ws (U.getD (k+1) aU.d) (U.getD k aU.d)<0)=false:=by
 have:=List.all_eq_true.1 h k (List.mem_range.2 (by omega));simpa using this
theorem abC(U:List Uq)(h1:rO U=true)(h2:qp U=true)(lU:U.length≤100000)(i:Nat)(hi:i+1<U.length){R:IsX ⊕ Unit→Prop}(hq:R (.inl (U,0,(U.length:Int),(),((i+1+1:Nat):Int),()))):
  (Fb U 0 (U.length:Int) ((i+1:Nat):Int)).sat R:=by
 have w0:IntKind.i64.wrap (((i+1:Nat):Int)-1)=(i:Int):=jR;have w1:IntKind.i64.wrap (((i+1:Nat):Int)+1)=((i+1+1:Nat):Int):=jR;have c1:decide (((i+1:Nat):Int)<(U.length:Int))=true:=bQ;have c2:decide (((i+1:Nat):Int)>0)=true:=bQ;have c3:decide (0≤((i+1:Nat):Int)∧((i+1:Nat):Int)<(U.length:Int))=true:=bQ;have c4:decide (0≤(i:Int)∧(i:Int)<(U.length:Int))=true:=bQ;have s:=aga h1 hi;have b1:=Sg h2 hi;have b2:=Sg h2 (show i<U.length by omega);unfold Fb;simp only[w0,w1,jf];generalize U.getD (i+1) aU.d=u at*;generalize U.getD i aU.d=v at*;simp only[abz,Wq,b1,b2,c1,c2,c3,c4,s,cond_true,Bool.true_and,aU.aS,aU.bH];refine au (λ_=> ?_) (λh=>by cases h);exact ah rfl (au (λh=>by cases h) (λ_=>ah rfl (av hq)))
theorem Ku(U:List Uq)(i:Nat)(h: ¬i<U.length){R:IsX ⊕ Unit→Prop}(hq:R (.inr ())):(Fb U 0 (U.length:Int) (i:Int)).sat R:=by
 have c:decide ((i:Int)<(U.length:Int))=false:=jK (by omega);unfold Fb;simp only[c];exact au (λh=>by cases h) (λ_=>av hq)
theorem agb(U:List Uq)(h1:rO U=true)(h2:qp U=true)(lU:U.length≤100000)(Q:Unit→Prop)(hq:Q ()): ∀(n i:Nat),i+1+n=U.length→dJ (λx:IsX=>Fb x.1 x.2.1 x.2.2.1 x.2.2.2.2.1) Q (n+1) (U,0,(U.length:Int),(),((i+1:Nat):Int),())
 | 0,i,he=>Ku U (i+1) (by omega) hq
 | n+1,i,he=>abC U h1 h2 lU i (by omega) (agb U h1 h2 lU Q hq n (i+1) (by omega))
def LIs:Nat→Option (St→Tr (Ex×St)):=λid=>bif Nat.beq id 0 then some (Wx.g 0)else none
theorem aq0:bF Tryz.prog 0 LIs (codeOf Tryz.f265):=by
 refine bG (d:=λid=>Nat.beq id 0) (λid=>by unfold LIs;cases Nat.beq id 0<;>rfl) _ ?_;have hb:bU (λid=>Nat.beq id 0) (codeOf Tryz.f265)=[(0,.loop (bn 0 (codeOf Tryz.f265)))]:=by kernel_rfl
 rw[hb];intro p hp g hg;simp only[List.mem_singleton]at hp;subst hp;have hh:LIs 0=some ((Wx).g 0):=rfl;rw[hh]at hg;obtain rfl:g=(Wx).g 0:=(Option.some.inj hg).symm;refine aZ.sU (N:=1010) aj af9 (L:=bX) (ak 0 _) abA (λx=>abB x) ?_;rintro⟨U,a,b,⟨⟩,i,⟨⟩⟩ hx;have hx:Sd (U,a,b,(),i,())=true:=hx;simp only[Sd,cu,fT]at hx;obtain⟨h1,h2,rfl,rfl,rfl,h7⟩:=hx;by_cases h0:U.length=0
 ·exact⟨1,Ku U 1 (by omega) rfl⟩
 exact⟨_,agb U h1 h2 h7 (· =()) rfl (U.length-1) 0 (by omega)⟩
end Go.bI
namespace Go.bI
open Go.Proofs
def KIs:List AV→Option (AV×List Bool):=(Form.cons aU.arg (.cons bK (.cons bK (.cons (EI 184) .nil)))).K (λx=> .iC []) λx=> [rO x.1,qp x.1,decide (x.2.1=0),decide (x.2.2.1=(x.1.length:Nat)),decide (x.1.length≤100000)]
def aq1:List AV→Option (AV×List Bool):=(Form.cons aU.arg (.cons bK (.cons (EI 184) .nil))).K (λx=> .iC []) λx=> [rO x.1,qp x.1,decide (x.2.1=(x.1.length:Nat)),decide (x.1.length≤19)]
def at1:FuncId→Option Spec:=λf=>bif Nat.beq f 265 then some (ay KIs)else none
def ΓSo:FuncId→Option Spec:=λf=>bif Nat.beq f 231 then some (ay aq1)else none
def MIs(U:List Uq)(a:Int)(b:Int):Tr AV:=
 Tr.need (aU.oks U.length (aU.el U)) (Tr.need (Sd (aU.list U.length (aU.el U),a,b,(),IntKind.i64.wrap (a+1),())) (Tr.ret (AV.iC [])))
def al6(U:List Uq)(n:Int):Tr AV:=
 let x1:Bool:=aU.oks U.length (aU.el U)
 let x2:List Uq:=aU.list U.length (aU.el U)
 let x3:Bool:=rO x2
 let x4:Bool:=qp x2
 let x5:Nat:=x2.length
 let x6:Int:= ↑x5
 let x7:Bool:=decide (x5≤100000)
 let x8:Int:=IntKind.i64.wrap (2*20)
 let x9:Int:=IntKind.i64.wrap (0+20)
 Tr.ite (decide (20≤n)) (Tr.need x1 (Tr.need x3 (Tr.need x4 (Tr.need true (Tr.need (decide (20=x6)) (Tr.need x7 (Tr.fail "rounds")))))))
  (Tr.need x1
   (Tr.need x3
    (Tr.need x4
     (Tr.need true
      (Tr.need (decide (n=x6))
       (Tr.need x7
        (Tr.ite (decide (20<n))
         (Tr.ite (decide (x8≤n)) (Tr.fail "zsortanyfunc.go:348") (Tr.ite (decide (x9<n)) (Tr.fail "zsortanyfunc.go:353") (Tr.fail "rounds")))
         (Tr.ret (AV.iC [])))))))))
def MSo(U:List Uq):Tr AV:=
 let x1:Nat:=0+U.length
 let x2:Nat:=x1*360
 let x3:List Uq:=aU.list x1 (bN 0 (λx=> []) (aU.el U))
 let x4:Int:= ↑x1
 let x5:Nat:=x3.length
 let x6:Int:= ↑x5
 Tr.need (decide (U.length≠0))
  (Tr.need true
   (Tr.need (decide (x1≤9223372036854775807))
    (Tr.need (decide (x2≤140737488355328))
     (Tr.need (decide (x1≤x1))
      (Tr.need (aU.oks x1 (bN 0 (λx=> []) (aU.el U)))
       (Tr.need (rO x3)
        (Tr.need (qp x3)
         (Tr.need (decide (x4=x6)) (Tr.need (decide (x5≤19)) (Tr.ret (AV.c (IV.sl x1 32 (bN 0 (λx=> []) (aU.el U))))))))))))))
theorem aq2(U:List Uq)(a b:Int):aI Tryz.prog ΓIs LIs 1010 Tryz.f265 [aU.sl U,.c (.v (.int .i64 a)),.c (.v (.int .i64 b)),.c (.v (fnV 184))]=MIs U a b:=by kernel_rfl
theorem al7(U:List Uq)(n:Int):aI Tryz.prog at1 bX 1001 Tryz.f231 [aU.sl U,.c (.v (.int .i64 n)),.c (.v (fnV 184))]=al6 U n:=by kernel_rfl
theorem aq3(U:List Uq):aI Tryz.prog (AQ Tryz.prog ΓSo (λ_=>false) 1010 2) bX 1010 Tryz.f140 [aU.sl U]=MSo U:=by kernel_rfl
theorem al8(U:List Uq)(h1:rO U=true)(h2:qp U=true)(h4:U.length≤100000):(MIs U 0 (U.length:Nat)).sat λr=>r= .iC []:=by
 simp only[MIs,aU.aS,aU.bH,sat_true];refine ah ?_ (av rfl);simp only[Sd,h1,h2,fZ h4,Bool.true_and,Bool.and_true,cu,fT];refine⟨trivial,trivial,?_⟩
 decide
theorem at5:aN Tryz.prog 265 KIs:=
 Form.dO _ (N:=1010) (L:=LIs) aj af9 (fn:=Tryz.f265) (c:=codeOf Tryz.f265) (by kernel_rfl) (by kernel_rfl) (by kernel_rfl) aq0 (λ_=>rfl) (M:=λx=>MIs x.1 x.2.1 x.2.2.1) (λx=>aq2 x.1 x.2.1 x.2.2.1)
  λx h=>by
   obtain⟨U,a,b,⟨⟩,⟨⟩⟩:=x;have h0:a=0:=dec (h (decide (a=0)) (by simp));have h1:b=(U.length:Nat):=dec (h (decide (b=(U.length:Nat))) (by simp));subst h0;subst h1;exact al8 U (h (rO U) (by simp)) (h (qp U) (by simp)) (dec (h (decide (U.length≤100000)) (by simp)))
theorem al9: ∀f s,at1 f=some s→aR Tryz.prog f s:=bS at5.spec
theorem agc(U:List Uq)(h1:rO U=true)(h2:qp U=true)(h4:U.length≤19):(al6 U (U.length:Nat)).sat λr=>r= .iC []:=by
 have c1:decide ((20:Int)≤(U.length:Int))=false:=jK (by omega);have c2:decide ((20:Int)<(U.length:Int))=false:=jK (by omega);have c4:decide (U.length≤100000)=true:=bQ;simp only[al6,aU.aS,aU.bH,sat_true,h1,h2,c1,c2,c4,decide_true]
 repeat first
  | refine ah rfl ?_
  | refine au (λh=>Bool.noConfusion h) (λ_=> ?_)
  | refine au (λ_=> ?_) (λh=>Bool.noConfusion h)
 exact av rfl
theorem agd:aN Tryz.prog 231 aq1:=
 Form.dO _ (N:=1001) (L:=bX) aj al9 (fn:=Tryz.f231) (c:=codeOf Tryz.f231) (by kernel_rfl) (by kernel_rfl) (by kernel_rfl) (ak _ _) (λ_=>rfl) (M:=λx=>al6 x.1 x.2.1) (λx=>al7 x.1 x.2.1)
  λx h=>by
   obtain⟨U,b,⟨⟩,⟨⟩⟩:=x;have h1:b=(U.length:Nat):=dec (h (decide (b=(U.length:Nat))) (by simp));subst h1;exact agc U (h (rO U) (by simp)) (h (qp U) (by simp)) (dec (h (decide (U.length≤19)) (by simp)))
theorem aq4: ∀f s,ΓSo f=some s→aR Tryz.prog f s:=bS agd.spec
theorem ama(U:List Uq)(h1:rO U=true)(h2:qp U=true)(h3:1≤U.length)(h4:U.length≤19):(MSo U).sat λr=>r=aU.sl U:=by
 have c4:decide (U.length≤19)=true:=fZ h4;have c5:decide (U.length≠0)=true:=bQ;have c6:decide (U.length≤9223372036854775807)=true:=bQ;have c7:decide (U.length*360≤140737488355328)=true:=bQ;simp only[MSo,af4,Nat.zero_add,aU.aS,aU.bH,sat_true,h1,h2,c4,c5,c6,c7,decide_true,Nat.le_refl]
 repeat first
  | refine ah rfl ?_
  | refine au (λh=>Bool.noConfusion h) (λ_=> ?_)
  | refine au (λ_=> ?_) (λh=>Bool.noConfusion h)
 exact av rfl
def KSo:List AV→Option (AV×List Bool):=(F1 aU.arg).K (λx=>aU.sl x.1) λx=> [rO x.1,qp x.1,decide (1≤x.1.length),decide (x.1.length≤19)]
theorem at6:aN Tryz.prog 140 KSo:=
 (F1 aU.arg).dO (N:=1010) (L:=bX) aj (l7 aj aq4 2) (fn:=Tryz.f140) (c:=codeOf Tryz.f140) (by kernel_rfl) (by kernel_rfl) (by kernel_rfl) (ak _ _) (λ_=>rfl) (M:=λx=>MSo x.1) (λx=>aq3 x.1)
  λx h=>ama x.1 (h (rO x.1) (by simp)) (h (qp x.1) (by simp)) (dec (h (decide (1≤x.1.length)) (by simp))) (dec (h (decide (x.1.length≤19)) (by simp)))
end Go.bI
namespace Go.bI
theorem abD(i j:Ig)(ha:iO j.a i.a= - iO i.a j.a)(hb:iO j.b i.b= - iO i.b j.b)(ea:iO i.a j.a=0→i.a=j.a)(eb:iO i.b j.b=0→i.b=j.b):jF i j=jF j i:=by
 unfold jF;rw[ha,hb];generalize iO i.a j.a=m at*;generalize iO i.b j.b=n at*;have e1:(if m<0 then j.a else i.a)=if -m<0 then i.a else j.a:=by
  rcases Int.lt_trichotomy m 0 with h|h|h
  ·rw[if_pos h,if_neg (by omega)]
  ·rw[if_neg (by omega),if_neg (by omega)];exact ea h
  ·rw[if_neg (by omega),if_pos (by omega)]
 have e2:(if n>0 then j.b else i.b)=if -n>0 then i.b else j.b:=by
  rcases Int.lt_trichotomy n 0 with h|h|h
  ·rw[if_neg (by omega),if_pos (by omega)]
  ·rw[if_neg (by omega),if_neg (by omega)];exact eb h
  ·rw[if_pos (by omega),if_neg (by omega)]
 have e3:(if m<0 then j.oa else if m=0 then i.oa || j.oa else i.oa)=if -m<0 then i.oa else if -m=0 then j.oa || i.oa else j.oa:=by
  rcases Int.lt_trichotomy m 0 with h|h|h
  ·rw[if_pos h,if_neg (by omega),if_neg (by omega)]
  ·rw[if_neg (by omega),if_pos h,if_neg (by omega),if_pos (by omega),Bool.or_comm]
  ·rw[if_neg (by omega),if_neg (by omega),if_pos (by omega)]
 have e4:(if n>0 then j.ob else if n=0 then i.ob || j.ob else i.ob)=if -n>0 then i.ob else if -n=0 then j.ob || i.ob else j.ob:=by
  rcases Int.lt_trichotomy n 0 with h|h|h
  ·rw[if_neg (by omega),if_neg (by omega),if_pos (by omega)]
  ·rw[if_neg (by omega),if_pos h,if_neg (by omega),if_pos (by omega),Bool.or_comm]
  ·rw[if_pos (by omega),if_neg (by omega),if_neg (by omega)]
 rw[e1,e2,e3,e4]
theorem abE(i j:Ig)(hb:iO j.b i.b= - iO i.b j.b):qO i j=false→qO j i=true:=by
 unfold qO;rw[hb];generalize iO i.b j.b=n;intro h;rcases Int.lt_trichotomy n 0 with h1|h1|h1
 ·rw[fZ h1]at h
  cases h
 ·subst h1
  revert h;cases i.ob<;>cases j.ob<;>decide
 ·rw[fZ (show -n<0 by omega)]
  rfl
end Go.bI
namespace Go.bI
def Si(x:R3):Prop:=x.r=0∧x.neg=false
theorem abF:gW 0 0=0:=rfl
theorem Al{x y:R3}(hx:Si x)(hy:Si y):iO x y=gW (x.p-y.p).num 0:=by
 unfold iO l8;rw[hx.1,hy.1];simp[abF]
theorem IG(q:Rat):(q<0∧gW q.num 0= -1)∨(q=0∧gW q.num 0=0)∨(0<q∧gW q.num 0=1):=by
 have h1:q<0↔q.num<0:=by have:=Rat.lt_iff q 0;simpa using this
 have h2:0<q↔0<q.num:=by have:=Rat.lt_iff 0 q;simpa using this
 have h3:q=0↔q.num=0:=Rat.num_eq_zero.symm;unfold gW;rcases Int.lt_trichotomy q.num 0 with h|h|h
 ·exact .inl ⟨h1.2 h,by rw[if_pos h]⟩
 ·exact .inr (.inl ⟨h3.2 h,by rw[if_neg (by omega),if_neg (by omega)]⟩)
 ·exact .inr (.inr ⟨h2.2 h,by rw[if_neg (by omega),if_pos (by omega)]⟩)
theorem xU{x y:R3}(hx:Si x)(hy:Si y):iO x y= -1∨iO x y=0∨iO x y=1:=by
 rw[Al hx hy];rcases IG (x.p-y.p)with h|h|h
 ·exact .inl h.2
 ·exact .inr (.inl h.2)
 ·exact .inr (.inr h.2)
theorem lV{x y:R3}(hx:Si x)(hy:Si y):iO y x= -iO x y:=by
 rw[Al hx hy,Al hy hx];have e:y.p-x.p= -(x.p-y.p):=by grind
 rw[e];generalize x.p-y.p=q;rw[Rat.neg_num];unfold gW;rcases Int.lt_trichotomy q.num 0 with h|h|h
 ·rw[if_neg (by omega),if_pos (by omega),if_pos h];rfl
 ·rw[h];rfl
 ·rw[if_pos (by omega),if_neg (by omega),if_pos (by omega)]
theorem Pz{x y:R3}(hx:Si x)(hy:Si y):iO x y≤0↔x.p≤y.p:=by
 rw[Al hx hy];rcases IG (x.p-y.p)with⟨h,e⟩|⟨h,e⟩|⟨h,e⟩
 ·rw[e]
  exact⟨λ_=>by grind,λ_=>by decide⟩
 ·rw[e]
  exact⟨λ_=>by grind,λ_=>by decide⟩
 ·rw[e]
  exact⟨λk=>absurd k (by decide),λk=>by exfalso;grind⟩
theorem Wy{x y z:R3}(hx:Si x)(hy:Si y)(hz:Si z)(h:iO x y≤0)(h2:iO y z≤0):iO x z≤0:=
 (Pz hx hz).2 (Rat.le_trans ((Pz hx hy).1 h) ((Pz hy hz).1 h2))
theorem qP{x y:R3}(hx:Si x)(hy:Si y):iO x y=0↔x=y:=by
 obtain⟨p,r,n⟩:=x;obtain⟨p',r',n'⟩:=y;obtain⟨h1,h2⟩:=hx;obtain⟨h3,h4⟩:=hy;dsimp only at h1 h2 h3 h4;subst h1 h2 h3 h4;rw[Al ⟨rfl,rfl⟩ ⟨rfl,rfl⟩]
 show gW (p-p').num 0=0↔_
 constructor
 ·intro h
  rcases IG (p-p')with⟨k,e⟩|⟨k,e⟩|⟨k,e⟩
  ·rw[e]at h;cases h
  ·have:p=p':=by grind
   rw[this]
  ·rw[e]at h;cases h
 ·intro h
  have:p=p':=by
   have:=congrArg R3.p h;exact this
  rw[this,Rat.sub_self];rfl
structure Brd where
 t:R3
 k:Bool
def nW(x y:Brd):Prop:=iO x.t y.t<0∨(iO x.t y.t=0∧(x.k=true→y.k=true))
def Eb(i:Ig):Brd:=⟨i.a,i.oa⟩
def lsB(i:Ig):Brd:=⟨i.b, !i.ob⟩
def Sj(x:Brd):Prop:=Si x.t
theorem DT{x:Brd}(h:Sj x):nW x x:= .inr ⟨(qP h h).2 rfl,id⟩
theorem Wz{x y:Brd}(hx:Sj x)(hy:Sj y):nW x y∨nW y x:=by
 have hs:=lV hx hy;rcases xU hx hy with h|h|h
 ·exact .inl (.inl (by omega))
 ·cases hk:x.k with
  | false=>exact .inl (.inr ⟨h,λe=>by rw[hk]at e;cases e⟩)
  | true=>exact .inr (.inr ⟨by omega,λ_=>hk⟩)
 ·exact .inr (.inl (by omega))
theorem jB{x y z:Brd}(hx:Sj x)(hy:Sj y)(hz:Sj z)(h1:nW x y)(h2:nW y z):nW x z:=by
 have a1:iO x.t y.t≤0:=by rcases h1 with h|h;omega;omega
 have a2:iO y.t z.t≤0:=by rcases h2 with h|h;omega;omega
 have a3:=Wy hx hy hz a1 a2;by_cases h:iO x.t z.t<0
 ·exact .inl h
 ·have h0:iO x.t z.t=0:=by omega
  have e:=(qP hx hz).1 h0;have s:=lV hx hy;rw[←e]at a2;have b1:iO x.t y.t=0:=by omega
  rcases h1 with h1|⟨_,h1⟩
  ·omega
  ·rcases h2 with h2|⟨_,h2⟩
   ·rw[←e]at h2;omega
   ·exact .inr ⟨h0,λk=>h2 (h1 k)⟩
structure nX (i:Ig):Prop where
 a:Si i.a
 b:Si i.b
theorem Zh(i j:Ig):G8 i j=true↔nW (lsB i) (Eb j):=by
 unfold G8 nW lsB Eb;simp only[Bool.or_eq_true,cu,fT,beq_iff_eq];cases i.ob<;>cases j.oa<;>simp
theorem PD(i j:Ig):qO i j=true↔nW (lsB i) (lsB j):=by
 unfold qO nW lsB;simp only[Bool.or_eq_true,cu,fT,beq_iff_eq];cases i.ob<;>cases j.ob<;>simp
def abG(i:Ig):Prop:= ¬nW (lsB i) (Eb i)
theorem Fe{o:Ig}(h:nX o):rJ o=true↔abG o:=by
 unfold rJ abG nW lsB Eb;have hs:=lV h.b h.a;simp only[Bool.or_eq_true,cu,fT,beq_iff_eq];rcases xU h.b h.a with e|e|e<;>rw[e]at hs⊢ <;>cases o.ob<;>cases o.oa<;>simp[hs]
theorem agf{o:Ig}(h:nX o)(hl:nW (lsB o) (Eb o)):rJ o=false:=by
 cases hm:rJ o with
 | false=>rfl
 | true=>exact absurd hl ((Fe h).1 hm)
theorem Nh{i j:Ig}(hi:nX i)(hj:nX j):nX (jF i j):=by
 unfold jF;constructor
 ·dsimp only;split
  ·exact hj.a
  ·exact hi.a
 ·dsimp only;split
  ·exact hj.b
  ·exact hi.b
theorem Zi{i j:Ig}(hi:nX i)(hj:nX j):(Eb (jF i j)=Eb i∧nW (Eb j) (Eb i))∨(Eb (jF i j)=Eb j∧nW (Eb i) (Eb j)):=by
 unfold jF Eb nW;have hs:=lV hi.a hj.a;have hz:=qP hi.a hj.a;dsimp only;rcases xU hi.a hj.a with e|e|e
 ·rw[e];right;simp
 ·have e':=hz.1 e
  rw[hs,e];cases h1:i.oa<;>cases h2:j.oa<;>simp[e']
 ·rw[hs,e];left;simp
theorem Zj{i j:Ig}(hi:nX i)(hj:nX j):(lsB (jF i j)=lsB i∧nW (lsB i) (lsB j))∨(lsB (jF i j)=lsB j∧nW (lsB j) (lsB i)):=by
 unfold jF lsB nW;have hs:=lV hi.b hj.b;have hz:=qP hi.b hj.b;dsimp only;rcases xU hi.b hj.b with e|e|e
 ·rw[e];left;simp
 ·have e':=hz.1 e
  rw[hs,e];cases h1:i.ob<;>cases h2:j.ob<;>simp[e']
 ·rw[hs,e];right;simp
theorem nX.f{i:Ig}(h:nX i):Sj (Eb i):=h.a
theorem nX.l{i:Ig}(h:nX i):Sj (lsB i):=h.b
theorem agh{i j:Ig}(hi:nX i)(hj:nX j):nW (Eb i) (Eb (jF i j)):=by
 rcases Zi hi hj with⟨e,h⟩|⟨e,h⟩<;>rw[e]
 ·exact DT hi.f
 ·exact h
theorem aq5{i j:Ig}(hi:nX i)(hj:nX j):nW (Eb j) (Eb (jF i j)):=by
 rcases Zi hi hj with⟨e,h⟩|⟨e,h⟩<;>rw[e]
 ·exact h
 ·exact DT hj.f
theorem aq6{i j:Ig}(hi:nX i)(hj:nX j):nW (lsB (jF i j)) (lsB i):=by
 rcases Zj hi hj with⟨e,h⟩|⟨e,h⟩<;>rw[e]
 ·exact DT hi.l
 ·exact h
theorem agi{i j:Ig}(hi:nX i)(hj:nX j):nW (lsB (jF i j)) (lsB j):=by
 rcases Zj hi hj with⟨e,h⟩|⟨e,h⟩<;>rw[e]
 ·exact h
 ·exact DT hj.l
theorem agj{i j:Ig}(hi:nX i)(hj:nX j):jF i j=jF j i:=
 abD i j (lV hi.a hj.a) (lV hi.b hj.b) (qP hi.a hj.a).1 (qP hi.b hj.b).1
structure vG (A:List Ul):Prop where
 ok: ∀u∈A,nX u.i
 vd: ∀u∈A,abG u.i
 pw:A.Pairwise λu v=>nW (lsB u.i) (Eb v.i)
theorem vG.tail{x:Ul}{A:List Ul}(h:vG (x::A)):vG A:=
 ⟨λu hu=>h.ok u (.tail _ hu),λu hu=>h.vd u (.tail _ hu),(List.pairwise_cons.1 h.pw).2⟩
def ref(A B:List Ul)(o:List Ub):List Ub:=yI (A.length+B.length) A B o
theorem abH: ∀(n:Nat) (A B:List Ul) (o:List Ub),A.length+B.length≤n→yI (n+1) A B o=yI n A B o
 | 0,A,B,o,h=>by
   have h1:A=[]:=List.length_eq_zero_iff.1 (by omega);have h2:B=[]:=List.length_eq_zero_iff.1 (by omega);subst h1;subst h2;rfl
 | n+1,[],B,o,h=>by rw[Ai,Ai]
 | n+1,_::_,[],o,h=>by rw[Aj,Aj]
 | n+1,x::a,y::b,o,h=>by
   simp only[List.length_cons]at h;unfold yI;rw[abH n]
   split<;>simp only[List.length_cons]<;>omega
theorem rP(B:List Ul)(o:List Ub):ref [] B o=o:=Ai _ _ _
theorem wR(A:List Ul)(o:List Ub):ref A [] o=o:=Aj _ _ _
theorem wS(x y:Ul)(a b:List Ul)(o:List Ub):ref (x::a) (y::b) o=if qO x.i y.i then ref a (y::b) (Cm x y o)else ref (x::a) b (Cm x y o):=by
 show yI ((x::a).length+(y::b).length) (x::a) (y::b) o=_
 have e:(x::a).length+(y::b).length=(a.length+(y::b).length)+1:=by simp only[List.length_cons];omega
 rw[e]
 show yI _ (if qO x.i y.i then a else x::a) (if qO x.i y.i then y::b else b) (Cm x y o)=_
 cases qO x.i y.i with
 | true=>rfl
 | false=>
   have e:a.length+(y::b).length=(x::a).length+b.length:=by simp only[List.length_cons];omega
   rw[e];rfl
def swU(u:Ub):Ub:=⟨u.i,u.g,u.f⟩
theorem agk{x y:Ul}(hx:nX x.i)(hy:nX y.i)(o:List Ub):Cm y x (o.map swU)=(Cm x y o).map swU:=by
 unfold Cm;rw[agj hy hx]
 split
 ·simp[swU]
 ·rfl
theorem Sk{y:Ul}{a b:List Ul}(o:List Ub)(ha:vG a)(hy:nX y.i)(hap: ∀u∈a,nW (lsB y.i) (Eb u.i)):ref a (y::b) o=ref a b o:=by
 cases a with
 | nil=>rw[rP,rP]
 | cons x a=>
   have hx:=ha.ok x (by simp);have hl:=hap x (by simp);have m0:=Nh hx hy;have hm:rJ (jF x.i y.i)=false:=agf m0 (jB m0.l hy.l m0.f (agi hx hy) (jB hy.l hx.f m0.f hl (agh hx hy)));have he:qO x.i y.i=false:=by
    cases h:qO x.i y.i with
    | false=>rfl
    | true=>exact absurd (jB hx.l hy.l hx.f ((PD _ _).1 h) hl) (ha.vd x (by simp))
   rw[wS,he];unfold Cm;rw[hm];rfl
theorem DU: ∀(n:Nat) (A B:List Ul) (o:List Ub),A.length+B.length≤n→vG A→vG B→ref B A (o.map swU)=(ref A B o).map swU
 | _,[],B,o,_,_,_=>by rw[rP,wR]
 | _,_::_,[],o,_,_,_=>by rw[rP,wR]
 | 0,_::_,_::_,o,h,_,_=>by simp only[List.length_cons]at h;omega
 | n+1,x::a,y::b,o,h,hA,hB=>by
   simp only[List.length_cons]at h;have hx:=hA.ok x (by simp);have hy:=hB.ok y (by simp);rw[wS,wS,agk hx hy];cases h1:qO x.i y.i with
   | false=>
     have h2:qO y.i x.i=true:=abE _ _ (lV hx.b hy.b) h1;rw[h2];exact DU n (x::a) b _ (by simp only[List.length_cons];omega) hA hB.tail
   | true=>
     cases h2:qO y.i x.i with
     | false=>exact DU n a (y::b) _ (by simp only[List.length_cons];omega) hA.tail hB
     | true=>
       have l1:=(PD _ _).1 h1;have l2:=(PD _ _).1 h2;have pa:=(List.pairwise_cons.1 hA.pw).1;have pb:=(List.pairwise_cons.1 hB.pw).1;simp only[if_true];rw[Sk (y:=y) (Cm x y o) hA.tail hy λu hu=>jB hy.l hx.l (hA.ok u (.tail _ hu)).f l2 (pa u hu)];rw[Sk (y:=x) ((Cm x y o).map swU) hB.tail hx λu hu=>jB hx.l hy.l (hB.ok u (.tail _ hu)).f l1 (pb u hu)];exact DU n a b _ (by omega) hA.tail hB.tail
theorem Sl{A B:List Ul}(hA:vG A)(hB:vG B):refine B A=(refine A B).map swU:=DU _ A B [] (Nat.le_refl _) hA hB
structure Ni (o:List Ub):Prop where
 ok: ∀u∈o,nX u.i
 vd: ∀u∈o,abG u.i
 pw:o.Pairwise λu v=>nW (lsB u.i) (Eb v.i)
theorem Kv: ∀(n:Nat) (A B:List Ul) (o:List Ub),A.length+B.length≤n→vG A→vG B→Ni o→
  (∀p∈o,(∀u∈A,nW (lsB p.i) (Eb u.i))∨(∀u∈B,nW (lsB p.i) (Eb u.i)))→Ni (ref A B o)
 | _,[],B,o,_,_,_,ho,_=>by rw[rP];exact ho
 | _,_::_,[],o,_,_,_,ho,_=>by rw[wR];exact ho
 | 0,_::_,_::_,o,h,_,_,_,_=>by simp only[List.length_cons]at h;omega
 | n+1,x::a,y::b,o,h,hA,hB,ho,hi=>by
   simp only[List.length_cons]at h;have hx:=hA.ok x (by simp);have hy:=hB.ok y (by simp);have m0:=Nh hx hy;have pa:=(List.pairwise_cons.1 hA.pw).1;have pb:=(List.pairwise_cons.1 hB.pw).1;have good:Ni (Cm x y o):=by
    unfold Cm
    split
    ·rename_i hm
     refine⟨λu hu=> ?_,λu hu=> ?_,?_⟩
     ·rcases List.mem_append.1 hu with h|h
      ·exact ho.ok u h
      ·simp only[List.mem_singleton]at h;subst h;exact m0
     ·rcases List.mem_append.1 hu with h|h
      ·exact ho.vd u h
      ·simp only[List.mem_singleton]at h;subst h;exact(Fe m0).1 hm
     ·refine List.pairwise_append.2 ⟨ho.pw,List.pairwise_singleton _ _,λp hp q hq=> ?_⟩
      simp only[List.mem_singleton]at hq;subst hq;have hp0:=ho.ok p hp;rcases hi p hp with h|h
      ·exact jB hp0.l hx.f m0.f (h x (by simp)) (agh hx hy)
      ·exact jB hp0.l hy.f m0.f (h y (by simp)) (aq5 hx hy)
    ·exact ho
   have mem: ∀p∈Cm x y o,p∈o∨p.i=jF x.i y.i:=by
    intro p hp;unfold Cm at hp
    split at hp
    ·rcases List.mem_append.1 hp with h|h
     ·exact .inl h
     ·simp only[List.mem_singleton]at h;subst h;exact .inr rfl
    ·exact .inl hp
   rw[wS];cases h1:qO x.i y.i with
   | true=>
     refine Kv n a (y::b) _ (by simp only[List.length_cons];omega) hA.tail hB good λp hp=> ?_
     rcases mem p hp with h|h
     ·rcases hi p h with k|k
      ·exact .inl λu hu=>k u (.tail _ hu)
      ·exact .inr k
     ·rw[h]
      exact .inl λu hu=>jB m0.l hx.l (hA.ok u (.tail _ hu)).f (aq6 hx hy) (pa u hu)
   | false=>
     refine Kv n (x::a) b _ (by simp only[List.length_cons];omega) hA hB.tail good λp hp=> ?_
     rcases mem p hp with h|h
     ·rcases hi p h with k|k
      ·exact .inl k
      ·exact .inr λu hu=>k u (.tail _ hu)
     ·rw[h]
      exact .inr λu hu=>jB m0.l hy.l (hB.ok u (.tail _ hu)).f (agi hx hy) (pb u hu)
theorem Sn{A B:List Ul}(hA:vG A)(hB:vG B):Ni (refine A B):=
 Kv _ A B [] (Nat.le_refl _) hA hB ⟨λ_ h=>by simp at h,λ_ h=>by simp at h,.nil⟩ λ_ h=>by simp at h
theorem PE: ∀(n:Nat) (A B:List Ul) (o:List Ub),A.length+B.length≤n→ ∀p∈ref A B o,p∈o∨ ∃x∈A, ∃y∈B,p=⟨jF x.i y.i,x.f,y.f⟩
 | _,[],B,o,_,p,hp=>by rw[rP]at hp;exact .inl hp
 | _,_::_,[],o,_,p,hp=>by rw[wR]at hp;exact .inl hp
 | 0,_::_,_::_,o,h,_,_=>by simp only[List.length_cons]at h;omega
 | n+1,x::a,y::b,o,h,p,hp=>by
   simp only[List.length_cons]at h;have mem: ∀p∈Cm x y o,p∈o∨p=⟨jF x.i y.i,x.f,y.f⟩:=by
    intro p hp;unfold Cm at hp
    split at hp
    ·rcases List.mem_append.1 hp with h|h
     ·exact .inl h
     ·simp only[List.mem_singleton]at h;exact .inr h
    ·exact .inl hp
   rw[wS]at hp;have fin:p∈Cm x y o→p∈o∨ ∃u∈x::a, ∃v∈y::b,p=⟨jF u.i v.i,u.f,v.f⟩:=λk=>by
    rcases mem p k with k|k
    ·exact .inl k
    ·exact .inr ⟨x,by simp,y,by simp,k⟩
   cases h1:qO x.i y.i with
   | true=>
     rw[h1,if_pos rfl]at hp;rcases PE n a (y::b) _ (by simp only[List.length_cons];omega) p hp with k|⟨u,hu,v,hv,e⟩
     ·exact fin k
     ·exact .inr ⟨u,.tail _ hu,v,hv,e⟩
   | false=>
     rw[h1]at hp;rcases PE n (x::a) b _ (by simp only[List.length_cons];omega) p hp with k|⟨u,hu,v,hv,e⟩
     ·exact fin k
     ·exact .inr ⟨u,hu,v,.tail _ hv,e⟩
theorem Kw{A B:List Ul}{p:Ub}(hp:p∈refine A B): ∃x∈A, ∃y∈B,p=⟨jF x.i y.i,x.f,y.f⟩:=by
 rcases PE _ A B [] (Nat.le_refl _) p hp with h|h
 ·simp at h
 ·exact h
theorem amb(x y:Ul)(o:List Ub):(Cm x y o).length≤o.length+1:=by
 unfold Cm;split
 ·simp
 ·omega
theorem II: ∀(n:Nat) (A B:List Ul) (o:List Ub),A.length+B.length≤n→(ref A B o).length+(if A=[]∨B=[]then 0 else 1)≤o.length+A.length+B.length
 | _,[],B,o,_=>by rw[rP];simp
 | _,_::_,[],o,_=>by rw[wR];simp
 | 0,_::_,_::_,o,h=>by simp only[List.length_cons]at h;omega
 | n+1,x::a,y::b,o,h=>by
   simp only[List.length_cons]at h;have hl:=amb x y o;rw[wS];cases h1:qO x.i y.i with
   | true=>
     have:=II n a (y::b) (Cm x y o) (by simp only[List.length_cons];omega);simp only[if_true,List.length_cons]at this⊢;cases a with
     | nil=>rw[rP]at this⊢;simp at this⊢;omega
     | cons u a=>simp at this⊢;omega
   | false=>
     have:=II n (x::a) b (Cm x y o) (by simp only[List.length_cons];omega);simp only[List.length_cons]at this⊢;cases b with
     | nil=>simp[wR]at this⊢;omega
     | cons u b=>simp at this⊢;omega
end Go.bI
namespace Go.bI
open Go.Proofs
theorem iG(a b:Int)(p q:Bool)(f:L4):List.reverse [IV.v (.string ⟨⟨aH f.y1.den⟩⟩),IV.v (.bool false),IV.v (.string ⟨⟨aA f.y1.num.natAbs⟩⟩),IV.v (.bool (decide (f.y1.num<0))),IV.v (.string ⟨⟨aH f.y0.den⟩⟩),IV.v (.bool false),IV.v (.string ⟨⟨aA f.y0.num.natAbs⟩⟩),IV.v (.bool (decide (f.y0.num<0))),IV.v (.string ⟨⟨aH f.x1.den⟩⟩),IV.v (.bool false),IV.v (.string ⟨⟨aA f.x1.num.natAbs⟩⟩),IV.v (.bool (decide (f.x1.num<0))),IV.v (.string ⟨⟨aH f.x0.den⟩⟩),IV.v (.bool false),IV.v (.string ⟨⟨aA f.x0.num.natAbs⟩⟩),IV.v (.bool (decide (f.x0.num<0))),IV.v (.bool q),IV.v (.bool p),IV.v (.bool false),IV.v (.string ⟨⟨[]⟩⟩),IV.v (.bool false),IV.v (.string ⟨⟨[]⟩⟩),IV.v (.bool false),IV.v (.string ⟨⟨aH 1⟩⟩),IV.v (.bool false),IV.v (.string ⟨⟨aA b.natAbs⟩⟩),IV.v (.bool (decide (b<0))),IV.v (.bool false),IV.v (.string ⟨⟨[]⟩⟩),IV.v (.bool false),IV.v (.string ⟨⟨[]⟩⟩),IV.v (.bool false),IV.v (.string ⟨⟨aH 1⟩⟩),IV.v (.bool false),IV.v (.string ⟨⟨aA a.natAbs⟩⟩),IV.v (.bool (decide (a<0)))]=zA ⟨a,b,p,q,f⟩:=rfl
theorem gF(u:Un):List.take (35+1) (List.drop (0*(35+1)) (zA u))=zA u:=rfl
theorem kC(u:Un):unV ((zA u).map AV.c)=u:=dG u
theorem jq(u:Un):DF ((zA u).map AV.c)=true:=dh u
theorem eT(m:Nat)(el e:Nat→List IV):cB (m+1) (bN m el e)=cB m el++[unV ((e 0).map AV.c)]:=by
 unfold cB;rw[List.range_succ,List.map_append]
 congr 1
 ·refine List.map_congr_left λk hk=> ?_
  have hk:=List.mem_range.1 hk;unfold bN;rw[if_pos hk]
 ·simp only[List.map_cons,List.map_nil]
  unfold bN;rw[if_neg (Nat.lt_irrefl m),Nat.sub_self]
theorem eU(m:Nat)(el e:Nat→List IV):eH (m+1) (bN m el e)=(eH m el&&DF ((e 0).map AV.c)):=by
 unfold eH;rw[List.range_succ,List.all_append]
 congr 1
 ·have: ∀l:List Nat,(∀k∈l,k<m)→(l.all λk=>DF ((bN m el e k).map AV.c))=l.all λk=>DF ((el k).map AV.c):=by
   intro l hl
   induction l with
   | nil=>rfl
   | cons x l ih=>
     simp only[List.all_cons];rw[ih λk hk=>hl k (by simp[hk])];have hx:=hl x (by simp);unfold bN;rw[if_pos hx]
  exact this _ λk hk=>List.mem_range.1 hk
 ·simp only[List.all_cons,List.all_nil,Bool.and_true]
  unfold bN;rw[if_neg (Nat.lt_irrefl m),Nat.sub_self]
theorem aq7{m m':Nat}{el:Nat→List IV}(h1:m=m')(h2:eH m el=true)(b:Nat)(t:Nat):dz [some (.cells [.iP b m 36] t),some (.arr m' 36 el 185)] [some (.cells [.iP b (cB m el).length 36] t),some (.arr (cB m el).length 36 (bZ (cB m el)) 185)]:=by
 subst h1;rw[tq];exact .cons (.refl _) (.cons (.arr _ _ _ _ _ (wQ h2)) .nil)
def at7:nJ (List Un) where
 parse:=λe=>match e with | [some (.cells [.iP 1 m 36] 119),some (.arr m' 36 el 185)]=>some (cB m el,[decide (m=m'),eH m el]) | _=>none
 ents:=λU=> [some (.cells [.iP 1 U.length 36] 119),some (.arr U.length 36 (bZ U) 185)]
 ok:=by
  intro e x cs h hc
  split at h
  ·simp only[fK,Prod.mk.injEq]at h
   obtain⟨rfl,rfl⟩:=h;exact aq7 (dec (hc _ (by simp))) (hc _ (by simp)) 1 119
  ·cases h
def mh(u:Un):List Un:=(bif u.oa then []else [⟨u.a,u.a,false,false,u.f⟩])++bif decide (u.a=u.b)then []else⟨u.a,u.b,true,true,u.f⟩::(bif u.ob then []else [⟨u.b,u.b,false,false,u.f⟩])
def dL(U:List Un):List Un:=U.flatMap mh
theorem Gy(u:Un):(mh u).length≤3:=by
 unfold mh;cases u.oa<;>cases decide (u.a=u.b)<;>cases u.ob<;>simp
def agl:FuncId→Option Spec:=λf=>bif Nat.beq f 142 then some (ay aqt)else none
abbrev WA:=(Unit×Unit×List Un×Int×Int×Unit)×List Un
abbrev avK:Form (Unit×Unit×List Un×Int×Int×Unit):= .cons (ou 0 0) (.cons (OW 220 0 0) (.cons l9 (.cons bK (.cons bK .nil))))
def Fg(x:WA):Bool:=decide (x.1.2.2.2.1=(x.1.2.2.1.length:Nat))&&(decide (0≤x.1.2.2.2.2.1)&&(decide (x.1.2.2.2.2.1≤(x.1.2.2.1.length:Nat))&&(decide (x.1.2.2.1.length≤333)&&decide (x.2.length≤5000))))
def Gz:aZ WA ((Unit×Unit)×List Un):=yA {nt:=54,live:=[3,4,8,9,10],cells:=[(1,0,36,185)]} {nt:=54,live:=[3],cells:=[(1,0,36,185)]} (fJ.with at7 avK) (fJ.with at7 (F1 (ou 0 0))) (λx=>(((),()),x.2++dL (x.1.2.2.1.drop x.1.2.2.2.2.1.toNat))) Fg
theorem WB:Gz.gI:=eG _ _ _ _ _ _
def agm:Nat→Option (St→Tr (Ex×St)):=λid=>bif Nat.beq id 0 then some (Gz.g 0)else none
theorem Sq: ∀f s,agl f=some s→aR Tryz.prog f s:=bS Y6.spec
def Am(U:List Un)(n:Int)(i:Int)(A:List Un):Tr (WA ⊕ (Unit×Unit)×List Un):=
 let x1:Int:= ↑U.length
 let x2:Bool:=(U.getD i.toNat u0).oa
 let x3:Bool:=decide (A.length≤A.length)
 let x4:Nat:=A.length+1
 let x5:Bool:=decide (x4≤9223372036854775807)
 let x6:Nat:=x4*408
 let x7:Bool:=decide (x6≤140737488355328)
 let x8:Int:=(U.getD i.toNat u0).a
 let x9:IV:=IV.v (.bool (decide (x8<0)))
 let x10:IV:=IV.v (.string ⟨⟨aA x8.natAbs⟩⟩)
 let fI:IV:=IV.v (.string ⟨⟨aH 1⟩⟩)
 let fU:IV:=IV.v (.string ⟨⟨[]⟩⟩)
 let iM:Int:=(U.getD i.toNat u0).b
 let iR:IV:=IV.v (.bool (decide (iM<0)))
 let jH:IV:=IV.v (.string ⟨⟨aA iM.natAbs⟩⟩)
 let kE:Bool:=(U.getD i.toNat u0).ob
 let jD:List AV:=[AV.c x9,AV.c x10,.c (.v (.bool false)),AV.c fI,.c (.v (.bool false)),AV.c fU,.c (.v (.bool false)),AV.c fU,.c (.v (.bool false)),AV.c iR,AV.c jH,.c (.v (.bool false)),AV.c fI,.c (.v (.bool false)),AV.c fU,.c (.v (.bool false)),AV.c fU,.c (.v (.bool false)),.c (.v (.bool x2)),.c (.v (.bool kE))]
 let x18:Bool:=DJ jD
 let lW:Int:=xP (List.take 9 jD)
 let x20:Int:=xP (List.take 9 (List.drop 9 jD))
 let x21:Bool:=decide (lW=x20)
 let lZ:Bool:=eH U.length (bZ U)
 let x23:Bool:=decide (x4=x4)
 let x24:Nat:=35+1
 let x25:IV:=IV.v (.string ⟨⟨aH (U.getD i.toNat u0).f.y1.den⟩⟩)
 let rY:Int:=(U.getD i.toNat u0).f.y1.num
 let x27:IV:=IV.v (.string ⟨⟨aA rY.natAbs⟩⟩)
 let x28:IV:=IV.v (.bool (decide (rY<0)))
 let x29:IV:=IV.v (.string ⟨⟨aH (U.getD i.toNat u0).f.y0.den⟩⟩)
 let x30:Int:=(U.getD i.toNat u0).f.y0.num
 let x31:IV:=IV.v (.string ⟨⟨aA x30.natAbs⟩⟩)
 let x32:IV:=IV.v (.bool (decide (x30<0)))
 let pV:IV:=IV.v (.string ⟨⟨aH (U.getD i.toNat u0).f.x1.den⟩⟩)
 let x34:Int:=(U.getD i.toNat u0).f.x1.num
 let yF:IV:=IV.v (.string ⟨⟨aA x34.natAbs⟩⟩)
 let vk:IV:=IV.v (.bool (decide (x34<0)))
 let r9:IV:=IV.v (.string ⟨⟨aH (U.getD i.toNat u0).f.x0.den⟩⟩)
 let x38:Int:=(U.getD i.toNat u0).f.x0.num
 let x39:IV:=IV.v (.string ⟨⟨aA x38.natAbs⟩⟩)
 let x40:IV:=IV.v (.bool (decide (x38<0)))
 let x41:List IV:=[IV.v (.bool false),fU,IV.v (.bool false),fU,IV.v (.bool false),fI,IV.v (.bool false),x10,x9]
 let GU:Bool:=decide (x4≤x4)
 let x43:Nat:=x4+1
 let Gs:Bool:=decide (x43≤9223372036854775807)
 let GV:Nat:=x43*408
 let Iq:Bool:=decide (GV≤140737488355328)
 let Ea:Bool:= !kE
 let La:Nat:=x43+1
 let J5:Nat:=La*408
 let Ca:Bool:=decide (x43=x43)
 let Bl:Bool:=decide (A.length=A.length)
 let EO:Bool:=eH A.length (bZ A)
 let x53:List Un:=cB A.length (bZ A)
 .ite (decide (i<n)) (.need (decide (0≤i∧i<x1)) (.ite (!x2) (.need x3 (.need true (.need x5 (.need x7 (.need x18 (.ite x21 (.need lZ (.need x23 (.need (eH x4 (bN A.length (bZ A) λk=>List.take x24 (List.drop (k*x24) (x25::IV.v (.bool false)::x27::x28::x29::IV.v (.bool false)::x31::x32::pV::IV.v (.bool false)::yF::vk::r9::IV.v (.bool false)::x39::x40::IV.v (.bool false)::IV.v (.bool false)::IV.v (.bool false)::fU::IV.v (.bool false)::fU::IV.v (.bool false)::fI::IV.v (.bool false)::x10::x9::x41).reverse))) (.ret (Sum.inl (((),(),cB U.length (bZ U),n,IntKind.i64.wrap (i+1),()),cB x4 (bN A.length (bZ A) λk=>List.take x24 (List.drop (k*x24) (x25::IV.v (.bool false)::x27::x28::x29::IV.v (.bool false)::x31::x32::pV::IV.v (.bool false)::yF::vk::r9::IV.v (.bool false)::x39::x40::IV.v (.bool false)::IV.v (.bool false)::IV.v (.bool false)::fU::IV.v (.bool false)::fU::IV.v (.bool false)::fI::IV.v (.bool false)::x10::x9::x41).reverse)))))))) (.need GU (.need true (.need Gs (.need Iq (.ite Ea (.need (decide (x43≤x43)) (.need true (.need (decide (La≤9223372036854775807)) (.need (decide (J5≤140737488355328)) (.need lZ (.need (decide (La=La)) (.need (eH La (bN x43 (bN x4 (bN A.length (bZ A) λk=>List.take x24 (List.drop (k*x24) (x25::IV.v (.bool false)::x27::x28::x29::IV.v (.bool false)::x31::x32::pV::IV.v (.bool false)::yF::vk::r9::IV.v (.bool false)::x39::x40::IV.v (.bool false)::IV.v (.bool false)::IV.v (.bool false)::fU::IV.v (.bool false)::fU::IV.v (.bool false)::fI::IV.v (.bool false)::x10::x9::x41).reverse)) λk=>List.take x24 (List.drop (k*x24) (x25::IV.v (.bool false)::x27::x28::x29::IV.v (.bool false)::x31::x32::pV::IV.v (.bool false)::yF::vk::r9::IV.v (.bool false)::x39::x40::IV.v (.bool true)::IV.v (.bool true)::IV.v (.bool false)::fU::IV.v (.bool false)::fU::IV.v (.bool false)::fI::IV.v (.bool false)::jH::iR::x41).reverse)) λk=>List.take x24 (List.drop (k*x24) [x25,IV.v (.bool false),x27,x28,x29,IV.v (.bool false),x31,x32,pV,IV.v (.bool false),yF,vk,r9,IV.v (.bool false),x39,x40,IV.v (.bool false),IV.v (.bool false),IV.v (.bool false),fU,IV.v (.bool false),fU,IV.v (.bool false),fI,IV.v (.bool false),jH,iR,IV.v (.bool false),fU,IV.v (.bool false),fU,IV.v (.bool false),fI,IV.v (.bool false),jH,iR].reverse))) (.ret (Sum.inl (((),(),cB U.length (bZ U),n,IntKind.i64.wrap (i+1),()),cB La (bN x43 (bN x4 (bN A.length (bZ A) λk=>List.take x24 (List.drop (k*x24) (x25::IV.v (.bool false)::x27::x28::x29::IV.v (.bool false)::x31::x32::pV::IV.v (.bool false)::yF::vk::r9::IV.v (.bool false)::x39::x40::IV.v (.bool false)::IV.v (.bool false)::IV.v (.bool false)::fU::IV.v (.bool false)::fU::IV.v (.bool false)::fI::IV.v (.bool false)::x10::x9::x41).reverse)) λk=>List.take x24 (List.drop (k*x24) (x25::IV.v (.bool false)::x27::x28::x29::IV.v (.bool false)::x31::x32::pV::IV.v (.bool false)::yF::vk::r9::IV.v (.bool false)::x39::x40::IV.v (.bool true)::IV.v (.bool true)::IV.v (.bool false)::fU::IV.v (.bool false)::fU::IV.v (.bool false)::fI::IV.v (.bool false)::jH::iR::x41).reverse)) λk=>List.take x24 (List.drop (k*x24) [x25,IV.v (.bool false),x27,x28,x29,IV.v (.bool false),x31,x32,pV,IV.v (.bool false),yF,vk,r9,IV.v (.bool false),x39,x40,IV.v (.bool false),IV.v (.bool false),IV.v (.bool false),fU,IV.v (.bool false),fU,IV.v (.bool false),fI,IV.v (.bool false),jH,iR,IV.v (.bool false),fU,IV.v (.bool false),fU,IV.v (.bool false),fI,IV.v (.bool false),jH,iR].reverse)))))))))))) (.need lZ (.need Ca (.need (eH x43 (bN x4 (bN A.length (bZ A) λk=>List.take x24 (List.drop (k*x24) (x25::IV.v (.bool false)::x27::x28::x29::IV.v (.bool false)::x31::x32::pV::IV.v (.bool false)::yF::vk::r9::IV.v (.bool false)::x39::x40::IV.v (.bool false)::IV.v (.bool false)::IV.v (.bool false)::fU::IV.v (.bool false)::fU::IV.v (.bool false)::fI::IV.v (.bool false)::x10::x9::x41).reverse)) λk=>List.take x24 (List.drop (k*x24) (x25::IV.v (.bool false)::x27::x28::x29::IV.v (.bool false)::x31::x32::pV::IV.v (.bool false)::yF::vk::r9::IV.v (.bool false)::x39::x40::IV.v (.bool true)::IV.v (.bool true)::IV.v (.bool false)::fU::IV.v (.bool false)::fU::IV.v (.bool false)::fI::IV.v (.bool false)::jH::iR::x41).reverse))) (.ret (Sum.inl (((),(),cB U.length (bZ U),n,IntKind.i64.wrap (i+1),()),cB x43 (bN x4 (bN A.length (bZ A) λk=>List.take x24 (List.drop (k*x24) (x25::IV.v (.bool false)::x27::x28::x29::IV.v (.bool false)::x31::x32::pV::IV.v (.bool false)::yF::vk::r9::IV.v (.bool false)::x39::x40::IV.v (.bool false)::IV.v (.bool false)::IV.v (.bool false)::fU::IV.v (.bool false)::fU::IV.v (.bool false)::fI::IV.v (.bool false)::x10::x9::x41).reverse)) λk=>List.take x24 (List.drop (k*x24) (x25::IV.v (.bool false)::x27::x28::x29::IV.v (.bool false)::x31::x32::pV::IV.v (.bool false)::yF::vk::r9::IV.v (.bool false)::x39::x40::IV.v (.bool true)::IV.v (.bool true)::IV.v (.bool false)::fU::IV.v (.bool false)::fU::IV.v (.bool false)::fI::IV.v (.bool false)::jH::iR::x41).reverse))))))))))))))))))) (.need x18 (.ite x21 (.need lZ (.need Bl (.need EO (.ret (Sum.inl (((),(),cB U.length (bZ U),n,IntKind.i64.wrap (i+1),()),x53)))))) (.need x3 (.need true (.need x5 (.need x7 (.ite Ea (.need GU (.need true (.need Gs (.need Iq (.need lZ (.need Ca (.need (eH x43 (bN x4 (bN A.length (bZ A) λk=>List.take x24 (List.drop (k*x24) (x25::IV.v (.bool false)::x27::x28::x29::IV.v (.bool false)::x31::x32::pV::IV.v (.bool false)::yF::vk::r9::IV.v (.bool false)::x39::x40::IV.v (.bool true)::IV.v (.bool true)::IV.v (.bool false)::fU::IV.v (.bool false)::fU::IV.v (.bool false)::fI::IV.v (.bool false)::jH::iR::x41).reverse)) λk=>List.take x24 (List.drop (k*x24) [x25,IV.v (.bool false),x27,x28,x29,IV.v (.bool false),x31,x32,pV,IV.v (.bool false),yF,vk,r9,IV.v (.bool false),x39,x40,IV.v (.bool false),IV.v (.bool false),IV.v (.bool false),fU,IV.v (.bool false),fU,IV.v (.bool false),fI,IV.v (.bool false),jH,iR,IV.v (.bool false),fU,IV.v (.bool false),fU,IV.v (.bool false),fI,IV.v (.bool false),jH,iR].reverse))) (.ret (Sum.inl (((),(),cB U.length (bZ U),n,IntKind.i64.wrap (i+1),()),cB x43 (bN x4 (bN A.length (bZ A) λk=>List.take x24 (List.drop (k*x24) (x25::IV.v (.bool false)::x27::x28::x29::IV.v (.bool false)::x31::x32::pV::IV.v (.bool false)::yF::vk::r9::IV.v (.bool false)::x39::x40::IV.v (.bool true)::IV.v (.bool true)::IV.v (.bool false)::fU::IV.v (.bool false)::fU::IV.v (.bool false)::fI::IV.v (.bool false)::jH::iR::x41).reverse)) λk=>List.take x24 (List.drop (k*x24) [x25,IV.v (.bool false),x27,x28,x29,IV.v (.bool false),x31,x32,pV,IV.v (.bool false),yF,vk,r9,IV.v (.bool false),x39,x40,IV.v (.bool false),IV.v (.bool false),IV.v (.bool false),fU,IV.v (.bool false),fU,IV.v (.bool false),fI,IV.v (.bool false),jH,iR,IV.v (.bool false),fU,IV.v (.bool false),fU,IV.v (.bool false),fI,IV.v (.bool false),jH,iR].reverse)))))))))))) (.need lZ (.need x23 (.need (eH x4 (bN A.length (bZ A) λk=>List.take x24 (List.drop (k*x24) (x25::IV.v (.bool false)::x27::x28::x29::IV.v (.bool false)::x31::x32::pV::IV.v (.bool false)::yF::vk::r9::IV.v (.bool false)::x39::x40::IV.v (.bool true)::IV.v (.bool true)::IV.v (.bool false)::fU::IV.v (.bool false)::fU::IV.v (.bool false)::fI::IV.v (.bool false)::jH::iR::x41).reverse))) (.ret (Sum.inl (((),(),cB U.length (bZ U),n,IntKind.i64.wrap (i+1),()),cB x4 (bN A.length (bZ A) λk=>List.take x24 (List.drop (k*x24) (x25::IV.v (.bool false)::x27::x28::x29::IV.v (.bool false)::x31::x32::pV::IV.v (.bool false)::yF::vk::r9::IV.v (.bool false)::x39::x40::IV.v (.bool true)::IV.v (.bool true)::IV.v (.bool false)::fU::IV.v (.bool false)::fU::IV.v (.bool false)::fI::IV.v (.bool false)::jH::iR::x41).reverse))))))))))))))))) (.need Bl (.need EO (.ret (Sum.inr (((),()),x53)))))
def amc(U:List Un):Tr AV:=
 let x1:List Un:=cB U.length (bZ U)
 let x2:List Un:=cB 0 λx=> []
 let x3:List Un:=x2++dL (List.drop (Int.toNat 0) x1)
 let x4:Nat:=x3.length
 .need (eH U.length (bZ U)) (.need true (.need true (.need (Fg (((),(),x1, ↑U.length,0,()),x2)) (.need (decide (x4≤x4)) (.ret (AV.c (IV.sl x4 36 (bZ x3))))))))
theorem WC(x:WA):(exec Tryz.prog (AQ Tryz.prog agl (λ_=>false) 1010 2) bX 1010 (bn 0 (codeOf Tryz.f170)) (iQ Gz.nIn (Gz.head x))).bind (Gz.fin 0 0)=Am x.1.2.2.1 x.1.2.2.2.1 x.1.2.2.2.2.1 x.2:=by
 obtain⟨⟨⟨⟩,⟨⟩,U,n,i,⟨⟩⟩,A⟩:=x
 kernel_rfl
theorem amd(U:List Un):aI Tryz.prog (AQ Tryz.prog agl (λ_=>false) 1010 2) agm 1010 Tryz.f170 [GZ U]=amc U:=by kernel_rfl
theorem WE(U A:List Un)(i:Nat)(hl:i<U.length)(hn:A.length+3*U.length≤10000)(Q:WA ⊕ ((Unit×Unit)×List Un)→Prop)(hq:Q (.inl (((),(),U,(U.length:Nat),((i+1:Nat):Int),()),A++mh (U.getD i u0)))):
  (Am U (U.length:Nat) (i:Nat) A).sat Q:=by
 have hw2:IntKind.i64.wrap ((i:Int)+1)=((i+1:Nat):Int):=jR;have c2:decide ((0:Int)≤(i:Int)∧(i:Int)<(U.length:Int))=true:=bQ;have c4:decide ((i:Int)<(U.length:Int))=true:=bQ;have d1:decide (A.length+1≤9223372036854775807)=true:=bQ;have d2:decide (A.length+1+1≤9223372036854775807)=true:=bQ;have d3:decide (A.length+1+1+1≤9223372036854775807)=true:=bQ;have e1:decide ((A.length+1)*408≤140737488355328)=true:=bQ;have e2:decide ((A.length+1+1)*408≤140737488355328)=true:=bQ;have e3:decide ((A.length+1+1+1)*408≤140737488355328)=true:=bQ;generalize hu:U.getD i u0=u at hq;cases hoa:u.oa<;>cases hab:decide (u.a=u.b)<;>cases uG:u.ob
 all_goals
  simp only[mh,hoa,hab,uG,cond_true,cond_false,List.nil_append,List.append_nil,List.cons_append]at hq;simp only[Am,Int.toNat_natCast,hu];simp only[↓fC, ↓fD, ↓fE, ↓fF,iA,iB,dY,dZ,d9,eu,dw,bY,dG,dh,fB,dS,bD,bE,dQ,bT,sat_true,iG,gF,kC,jq,eT,eU,Bool.and_true,eq_self,decide_true,Nat.le_refl,hoa,hab,uG,hw2,c2,c4,d1,d2,d3,e1,e2,e3,Bool.not_true,Bool.not_false]
  repeat first
   | refine ah rfl ?_
   | refine au (λh=>Bool.noConfusion h) (λ_=> ?_)
   | refine au (λ_=> ?_) (λh=>Bool.noConfusion h)
  refine av ?_;simpa only[List.append_assoc,List.cons_append,List.nil_append]using hq
theorem Sr(U A:List Un)(Q:WA ⊕ ((Unit×Unit)×List Un)→Prop)(hq:Q (.inr (((),()),A)))(i:Int)(hi: ¬i<(U.length:Nat)):(Am U (U.length:Nat) i A).sat Q:=by
 have c4:decide (i<(U.length:Int))=false:=jK hi;simp only[Am, ↓fC, ↓fD, ↓fE, ↓fF,iA,iB,dY,dZ,d9,eu,dw,bY,dG,dh,fB,dS,bD,bE,dQ,bT,sat_true,c4,eq_self,decide_true]
 repeat first
  | refine ah rfl ?_
  | refine au (λh=>Bool.noConfusion h) (λ_=> ?_)
  | refine au (λ_=> ?_) (λh=>Bool.noConfusion h)
 exact av hq
theorem Zk(U:List Un)(Q:(Unit×Unit)×List Un→Prop): ∀(k i:Nat) (A:List Un),i+k=U.length→A.length+3*U.length≤10000+3*i→3*U.length≤1000→A.length≤3*i+5000→Q (((),()),A++dL (U.drop i))→dJ (λx:WA=>Am x.1.2.2.1 x.1.2.2.2.1 x.1.2.2.2.2.1 x.2) Q (k+1) (((),(),U,(U.length:Nat),(i:Nat),()),A)
 | 0,i,A,he,h1,h2,h3,hq=>by
   obtain rfl:i=U.length:=by omega
   rw[List.drop_length]at hq;refine Sr U A _ ?_ ((U.length:Nat):Int) (by omega);simpa[dL]using hq
 | k+1,i,A,he,h1,h2,h3,hq=>by
   have hl:i<U.length:=by omega
   refine WE U A i hl (by omega) _ ?_;have hu:U.getD i u0=U[i]:=by simp[dR,hl]
   have hlen:=Gy (U.getD i u0);refine Zk U Q k (i+1) _ (by omega) (by simp only[List.length_append];omega) h2 (by simp only[List.length_append];omega) ?_;rw[List.drop_eq_getElem_cons hl]at hq;simp only[dL,List.flatMap_cons]at hq⊢;rw[hu,List.append_assoc];exact hq
theorem WG:bF Tryz.prog 0 agm (codeOf Tryz.f170):=by
 refine bG (d:=λid=>Nat.beq id 0) (λid=>by unfold agm;cases Nat.beq id 0<;>rfl) _ ?_;have hb:bU (λid=>Nat.beq id 0) (codeOf Tryz.f170)=[(0,.loop (bn 0 (codeOf Tryz.f170)))]:=by kernel_rfl
 rw[hb];intro p hp g hg;simp only[List.mem_singleton]at hp;subst hp;have hh:agm 0=some ((Gz).g 0):=rfl;rw[hh]at hg;obtain rfl:g=(Gz).g 0:=(Option.some.inj hg).symm;refine aZ.sU (N:=1010) aj (l7 aj Sq 2) (L:=bX) (ak 0 _) WB (λx=>WC x) ?_;rintro⟨⟨⟨⟩,⟨⟩,U,n,i,⟨⟩⟩,A⟩ hx;have hx:Fg (((),(),U,n,i,()),A)=true:=hx;simp only[Fg,cu,fT]at hx;have h1:n=(U.length:Nat):=hx.1;have h2:0≤i:=hx.2.1;have h3:i≤(U.length:Nat):=hx.2.2.1;have h4:U.length≤333:=hx.2.2.2.1;have h5:A.length≤5000:=hx.2.2.2.2;clear hx;subst h1;obtain⟨i,rfl⟩: ∃m:Nat,i=m:=⟨i.toNat,by omega⟩
 exact⟨_,Zk U (· =Gz.res (((),(),U,(U.length:Nat),(i:Nat),()),A)) (U.length-i) i A (by omega) (by omega) (by omega) (by omega) rfl⟩
theorem agn(U:List Un)(h:U.length≤333):(amc U).sat λr=>r=GZ (dL U):=by
 have e0:cB 0 (λ_=>([]:List IV))=[]:=rfl;have hp:Fg (((),(),U,(U.length:Nat),0,()),[])=true:=by
  simp only[Fg,decide_true,Bool.true_and,cu,fT,List.length_nil];omega
 have d0: ∀X:List Un,List.drop (Int.toNat 0) X=X:=λX=>rfl
 simp only[amc, ↓fC, ↓fD, ↓fE, ↓fF,iA,iB,dY,dZ,d9,eu,dw,bY,dG,dh,fB,dS,bD,bE,dQ,bT,sat_true,e0,hp,d0,List.nil_append,Nat.le_refl,decide_true]
 repeat first
  | refine ah rfl ?_
  | refine au (λh=>Bool.noConfusion h) (λ_=> ?_)
  | refine au (λ_=> ?_) (λh=>Bool.noConfusion h)
 exact av rfl
def aua:List AV→Option (AV×List Bool):=(F1 l9).K (λx=>GZ (dL x.1)) λx=> [decide (x.1.length≤333)]
theorem ame:aN Tryz.prog 170 aua:=
 (F1 l9).dO (N:=1010) (L:=agm) aj (l7 aj Sq 2) (fn:=Tryz.f170) (c:=codeOf Tryz.f170) (by kernel_rfl) (by kernel_rfl) (by kernel_rfl) WG (λ_=>rfl) (M:=λx=>amc x.1) (λx=>amd x.1)
  λx h=>agn x.1 (dec (h (decide (x.1.length≤333)) (by simp)))
end Go.bI
namespace Go.bI
open Go.Proofs
theorem Form.weaken{P:Program}{f:FuncId}{K:List AV→Option (AV×List Bool)}{X:Type}(F:Form X){val:X→AV}{pre:X→List Bool}(h:aN P f K)(hv: ∀x,bI.fu (val x)=true)
  (hk: ∀x,(∀p∈pre x,p=true)→ ∃v cs,K (F.args x)=some (v,cs)∧(∀p∈cs,p=true)∧v=val x):aN P f (F.K val pre) where
 sound:=by
  intro args v cs hK;unfold Form.K at hK
  split at hK
  ·rename_i x ds hx
   simp only[fK,Prod.mk.injEq]at hK;obtain⟨rfl,rfl⟩:=hK;refine⟨hv x,λA w vs hA hc hargs=> ?_⟩;have hs:=F.ok args x ds hx λp hp=>hc p (by simp[hp])
   obtain⟨v,cs,h1,h2,h3⟩:=hk x λp hp=>hc p (by simp[hp])
   have:=(h.sound (F.args x) v cs h1).2 A w vs hA h2 (hs.Oz hargs);rw[h3]at this;exact this
  ·cases hK
theorem IJ{x y:L4}:Pk x y=true↔x=y:=by
 obtain⟨a,b,c,d⟩:=x;obtain⟨a',b',c',d'⟩:=y;simp only[Pk,cu,fT,L4.mk.injEq]
def PG(t:Int):Bool:=decide (0≤t)&&decide (t≤63)
theorem an4{t:Int}(h:PG t=true):YX ⟨(t:Rat),0,false⟩=true:=by
 simp only[PG,cu,fT]at h;have:yG 63 1 (t:Rat)=true:=rG.2 ⟨by show t.natAbs≤63;omega,Nat.le_refl _⟩;simp only[YX,this];simp
theorem agp{t:Int}(h:PG t=true):Ag t=true:=by
 simp only[PG,cu,fT]at h;exact Iz.2 (by omega)
theorem abI(p:Q3)(t:Rat):nU (lX p p) ⟨t,0,false⟩=0:=by
 unfold nU lX Bn;rw[Rat.sub_self,Rat.sub_self,Rat.sub_self,aff,aa6,aff,aa6];rfl
theorem Nj(q:Q3)(t:Rat):oN q ⟨t,0,false⟩=0:=rfl
theorem WH(p:Q3)(t:Rat):qC p p ⟨t,0,false⟩=true:=by
 unfold qC;rw[abI,Nj];rfl
abbrev F4{X Y Z W:Type}(A:Arg X)(B:Arg Y)(C:Arg Z)(D:Arg W):Form (X×Y×Z×W×Unit):= .cons A (.cons B (.cons C (.cons D .nil)))
def an5:List AV→Option (AV×List Bool):=(F4 sH nE nE Gv).K (λx=>bL true) λx=> [Pk x.2.1 x.2.2.1,uL x.2.1,PG x.2.2.2.1]
theorem agq:aN Tryz.prog 356 an5:=
 Form.weaken _ akS (λ_=>rfl) λx h=>by
  obtain⟨⟨⟩,f,g,t,⟨⟩⟩:=x;have h1:f=g:=IJ.1 (h (Pk f g) (by simp));have h2:uL f=true:=h (uL f) (by simp);have h3:=an4 (h (PG t) (by simp));subst h1;refine⟨_,_,rfl,?_,?_⟩
  ·simp only[←vD,bE,bD,h2,vD,fM,dM,h3]
   simp
  ·simp only[bD,vD,dM,WH]
   rfl
theorem Ky{q:Q3}(h1:q.c1=0)(h2:q.c2=0)(t:Rat):nU q ⟨t,0,false⟩=q.c0:=by
 unfold nU Bn;rw[h1,h2,aff,aa6,aff,aa6];rfl
def an6:List AV→Option (AV×List Bool):=(F3 sH nE Gv).K (λx=>zu x.2.1) λx=> [decide (x.2.1.x1=0),decide (x.2.1.y1=0),uL x.2.1,PG x.2.2.1]
theorem agr:aN Tryz.prog 355 an6:=
 Form.weaken _ akT (λ_=>rfl) λx h=>by
  obtain⟨⟨⟩,f,t,⟨⟩⟩:=x;have h1:f.x1=0:=dec (h (decide (f.x1=0)) (by simp));have h2:f.y1=0:=dec (h (decide (f.y1=0)) (by simp));have h3:uL f=true:=h (uL f) (by simp);have h4:=an4 (h (PG t) (by simp));refine⟨_,_,rfl,?_,?_⟩
  ·simp only[bE,bD,h3,vD,fM,dM,h4]
   simp
  ·simp only[bD,vD,dM,fV,Nj]
   rw[Ky (q:=xQ f) h1 rfl,Ky (q:=yQ f) h2 rfl];have e:(⟨(xQ f).c0,0,(yQ f).c0,0⟩:L4)=f:=by
    obtain⟨a,b,c,d⟩:=f;simp only at h1 h2;subst h1;subst h2;rfl
   rw[e]
def an7:List AV→Option (AV×List Bool):=(F3 sH nE nE).K (λx=>bL (Pk x.2.1 x.2.2.1)) λx=> []
theorem ags:aN Tryz.prog 354 an7:=
 Form.weaken _ akU (λ_=>rfl) λx h=>by
  obtain⟨⟨⟩,f,g,⟨⟩⟩:=x;refine⟨_,_,rfl,?_,?_⟩
  ·simp only[bE]
   simp
  ·simp only[bD]
end Go.bI
namespace Go.bI
open Go.Proofs
def eqQ(p q:Q3):Bool:=decide (p.c0=q.c0)&&(decide (p.c1=q.c1)&&decide (p.c2=q.c2))
theorem amf{p q:Q3}:eqQ p q=true↔p=q:=by
 obtain⟨a,b,c⟩:=p;obtain⟨a',b',c'⟩:=q;simp only[eqQ,cu,fT,Q3.mk.injEq]
def LH(q:Q3)(t:R3):Q3:=⟨nU q t,oN q t,0⟩
theorem WI{k l:Nat}{q:Q3}{t:Rat}(h:Ki k q)(ht:Bt l t)(hk:3*k+2*l+2<8000000):om q t=true:=by
 have m1:=ht.mul h.c2;have a1:=h.c1.add m1;have m2:=ht.mul a1;simp only[om,cu];exact⟨⟨⟨kN ht h.c2 (by omega),jE h.c1 m1 (by omega)⟩,kN ht a1 (by omega)⟩,jE h.c0 m2 (by omega)⟩
theorem Sv{k l:Nat}{q:Q3}{t:Rat}(h:Ki k q)(ht:Bt l t)(hk:3*k+l+2<8000000):lN q t=true:=by
 have a1:=h.c2.add h.c2;have m1:=a1.mul ht;simp only[lN,cu];exact⟨⟨jE h.c2 h.c2 (by omega),kN a1 ht (by omega)⟩,jE h.c1 m1 (by omega)⟩
theorem Ao{k l:Nat}{x y:Rat}(h:Bt k x)(h':Bt l y)(hk:k+l+1<8000000):nT x y=true:=jE h h'.neg hk
theorem WJ{k l:Nat}{p q:Q3}(h:Ki k p)(h':Ki l q)(hk:k+l+1<8000000):iN p q=true:=by
 simp only[iN,cu];exact⟨⟨Ao h.c0 h'.c0 hk,Ao h.c1 h'.c1 hk⟩,Ao h.c2 h'.c2 hk⟩
theorem Ki.sub{k l:Nat}{p q:Q3}(h:Ki k p)(h':Ki l q):Ki (k+l+1) (lX p q):=⟨h.c0.sub h'.c0,h.c1.sub h'.c1,h.c2.sub h'.c2⟩
theorem Ki.mono{k l:Nat}{p:Q3}(h:Ki k p)(hl:k≤l):Ki l p:=⟨h.c0.mono hl,h.c1.mono hl,h.c2.mono hl⟩
theorem Nk{k l:Nat}{q:Q3}{t:R3}(h:Ki k q)(ht:qo l t=true)(hk:3*k+3*l+3<8000000):kQ q t=true:=by
 obtain⟨t1,t2⟩:=Pq ht;unfold kQ;cases decide (t.r=0)with
 | true=>rw[cond_true];exact WI h t1 (by omega)
 | false=>
   have m1:=t1.mul t1;have s1:=t2.sub m1;have m2:=h.c2.mul s1;simp only[cond_false,cu];exact⟨⟨⟨⟨kN t1 t1 (by omega),Ao t2 m1 (by omega)⟩,kN h.c2 s1 (by omega)⟩,jE h.c0 m2 (by omega)⟩,Sv h t1 (by omega)⟩
theorem WK:Ka=aC 0:=Kc.symm
def aub:List AV→Option (AV×List Bool):=(F3 sH iY iY).K (λx=>bL (eqQ x.2.1 x.2.2.1)) λx=> []
def auc:List AV→Option (AV×List Bool):=(F3 sH iY q9).K (λx=>jN (LH x.2.1 x.2.2.1)) λx=> [vW 1000000 x.2.1,qo 100000 x.2.2.1]
def aud:List AV→Option (AV×List Bool):=(F4 sH iY iY q9).K (λx=>bL (qC x.2.1 x.2.2.1 x.2.2.2.1)) λx=> [vW 1000000 x.2.1,vW 1000000 x.2.2.1,qo 100000 x.2.2.2.1]
def aue:FuncId→Option Spec:=λf=>bif Nat.beq f 67 then some (ay aa5)else none
def auf:FuncId→Option Spec:=λf=>bif Nat.beq f 358 then some (ay ae5)else none
theorem amg: ∀f s,aue f=some s→aR Tryz.prog f s:=bS Ph.spec
theorem amh: ∀f s,auf f=some s→aR Tryz.prog f s:=bS YW.spec
def ami(q:Q3)(t:R3):Tr AV:=
 let Q:=cK q
 let R:=aY t
 Tr.need (dI Q)<| Tr.need (dN R)<| Tr.need (kQ (aX Q) (bW R))<| Tr.ret (.agg (aC (hold (nU (aX Q) (bW R)))++(aC (hold (oN (aX Q) (bW R)))++Ka)))
theorem amj(q:Q3)(t:R3):aI Tryz.prog aue bX 1010 Tryz.f361 [.agg [],jN q,DC t]=ami q t:=by kernel_rfl
theorem agt(q:Q3)(t:R3)(h1:vW 1000000 q=true)(h2:qo 100000 t=true):(ami q t).sat λr=>r=jN (LH q t):=by
 have f:=Nk (mg.1 h1) h2 (by decide);simp only[ami,jm,lG,dM,fM,f,sat_true,fV,WK];exact av rfl
theorem aq8:aN Tryz.prog 361 auc:=
 (F3 sH iY q9).dO (N:=1010) (L:=bX) aj amg (fn:=Tryz.f361) (c:=codeOf Tryz.f361) (by kernel_rfl) (by kernel_rfl) (by kernel_rfl) (ak _ _) (λ_=>rfl) (M:=λx=>ami x.2.1 x.2.2.1) (λx=>amj x.2.1 x.2.2.1)
  λx h=>agt x.2.1 x.2.2.1 (h (vW 1000000 x.2.1) (by simp)) (h (qo 100000 x.2.2.1) (by simp))
def amk(p q:Q3)(t:R3):Tr AV:=
 let A:=cK p
 let B:=cK q
 let R:=aY t
 Tr.need (dI A)<| Tr.need (dI B)<| Tr.need (dN R)<| Tr.need (iN (aX A) (aX B))<| Tr.need (kQ (lX (aX A) (aX B)) (bW R))<|
  Tr.ret (bL (decide (nU (lX (aX A) (aX B)) (bW R)=0)&&decide (oN (lX (aX A) (aX B)) (bW R)=0)))
theorem aml(p q:Q3)(t:R3):aI Tryz.prog auf bX 1010 Tryz.f362 [.agg [],jN p,jN q,DC t]=amk p q t:=by kernel_rfl
theorem agu(p q:Q3)(t:R3)(h1:vW 1000000 p=true)(h2:vW 1000000 q=true)(h3:qo 100000 t=true):(amk p q t).sat λr=>r=bL (qC p q t):=by
 have b1:=mg.1 h1;have b2:=mg.1 h2;have f0:=WJ b1 b2 (by decide);have f:=Nk (b1.sub b2) h3 (by decide);simp only[amk,jm,lG,dM,fM,f0,f,sat_true];exact av rfl
theorem aq9:aN Tryz.prog 362 aud:=
 (F4 sH iY iY q9).dO (N:=1010) (L:=bX) aj amh (fn:=Tryz.f362) (c:=codeOf Tryz.f362) (by kernel_rfl) (by kernel_rfl) (by kernel_rfl) (ak _ _) (λ_=>rfl) (M:=λx=>amk x.2.1 x.2.2.1 x.2.2.2.1) (λx=>aml x.2.1 x.2.2.1 x.2.2.2.1)
  λx h=>agu x.2.1 x.2.2.1 x.2.2.2.1 (h (vW 1000000 x.2.1) (by simp)) (h (vW 1000000 x.2.2.1) (by simp)) (h (qo 100000 x.2.2.2.1) (by simp))
def Fh(x y:Rat):Bool:=bA [bA [aH x.den==aH y.den,false==false].reverse,bA [aA x.num.natAbs==aA y.num.natAbs,decide (x.num<0)==decide (y.num<0)].reverse].reverse
theorem Nl(x y:Rat):Fh x y=decide (x=y):=rF x y
def agv(p q:Q3):Bool:=bA [Fh p.c2 q.c2,Fh p.c1 q.c1,Fh p.c0 q.c0].reverse
theorem Zl(p q:Q3):agv p q=eqQ p q:=by
 simp only[agv,Nl];unfold eqQ;cases decide (p.c0=q.c0)<;>cases decide (p.c1=q.c1)<;>cases decide (p.c2=q.c2)<;>rfl
theorem amm(p q:Q3):aI Tryz.prog Px bX 1010 Tryz.f360 [.agg [],jN p,jN q]=Tr.ret (bL (agv p q)):=by kernel_rfl
theorem ara:aN Tryz.prog 360 aub:=
 (F3 sH iY iY).dO (N:=1010) (L:=bX) aj oz (fn:=Tryz.f360) (c:=codeOf Tryz.f360) (by kernel_rfl) (by kernel_rfl) (by kernel_rfl) (ak _ _) (λ_=>rfl) (M:=λx=>Tr.ret (bL (agv x.2.1 x.2.2.1))) (λx=>amm x.2.1 x.2.2.1)
  λx h=>av (by rw[Zl])
def WL(x y:R3):Bool:=bA [x.neg==y.neg,Fh x.r y.r,Fh x.p y.p].reverse
theorem IK(x y:R3):WL x y=decide (x=y):=by
 simp only[WL,Nl];exact EW x y
end Go.bI
namespace Go.bI
open Go.Proofs
def Sw(x y:R3):Bool:=decide (x.p=y.p)&&(decide (x.r=y.r)&&(x.neg==y.neg))
def abJ(i j:Ig):Bool:=Sw i.a j.a&&(Sw i.b j.b&&((i.oa==j.oa)&&(i.ob==j.ob)))
def Sy(u v:Uq):Bool:=abJ u.i v.i&&eqQ u.f v.f
theorem Kz{x y:R3}:Sw x y=true↔x=y:=by
 obtain⟨a,b,c⟩:=x;obtain⟨a',b',c'⟩:=y;simp only[Sw,cu,fT,beq_iff_eq,R3.mk.injEq]
theorem agw{x y:Ig}:abJ x y=true↔x=y:=by
 obtain⟨a,b,c,d⟩:=x;obtain⟨a',b',c',d'⟩:=y;simp only[abJ,cu,Kz,beq_iff_eq,Ig.mk.injEq]
theorem Sz{x y:Uq}:Sy x y=true↔x=y:=by
 obtain⟨a,b⟩:=x;obtain⟨a',b'⟩:=y;simp only[Sy,cu,agw,amf,Uq.mk.injEq]
def rQ:List Uq→List Uq→Bool
 | [],[]=>true
 | u::l,v::m=>Sy u v&&rQ l m
 | _,_=>false
theorem kG: ∀{l m:List Uq},rQ l m=true↔l=m
 | [],[]=>by simp[rQ]
 | [],_::_=>by simp[rQ]
 | _::_,[]=>by simp[rQ]
 | u::l,v::m=>by simp only[rQ,cu,Sz,kG,List.cons.injEq]
abbrev NaX:=Unit×List Uq×Int×Int×Unit
abbrev FNa:Form NaX:= .cons (nZ 233) (.cons aU.arg (.cons bK (.cons bK .nil)))
def PI(U:List Uq):Bool:=(List.range (U.length-1)).all λk=>G8 (U.getD k aU.d).i (U.getD (k+1) aU.d).i
def Nn(x:NaX):Bool:=PI x.2.1&&(qp x.2.1&&(decide (x.2.2.1=(x.2.1.length:Nat))&&(decide (x.2.2.2.1=0)&&decide (x.2.1.length≤100000))))
def WM:aZ NaX (Unit×List Uq×Unit):=yA {nt:=219,live:=[0,1,17,18]} {nt:=219,live:=[0,1]} (fJ.pure FNa) (fJ.pure (F2 (nZ 233) aU.arg)) (λx=>((),x.2.1,())) Nn
theorem abK:WM.gI:=eG _ _ _ _ _ _
def uw(i:Ig):Bool:=decide (i.a=i.b)
def Fj(A:List Uq)(i:Nat)(O:List Uq):List Uq:=
 let x:=A.getD i aU.d
 let t:=x.i.a
 let l:=gU O
 let bf:=decide (0<O.length)&&(decide (l.i.b=t)&& !uw l.i)
 if uw x.i then
  if bf&&qC l.f x.f t then O.set (O.length-1) ⟨⟨l.i.a,l.i.b,l.i.oa,false⟩,l.f⟩
  else if decide (i+1<A.length)&&(decide ((A.getD (i+1) aU.d).i.a=t)&&qC (A.getD (i+1) aU.d).f x.f t)then O
  else O++[⟨x.i,LH x.f t⟩]
 else
  if bf&&(!l.i.ob&&eqQ l.f x.f)then O.set (O.length-1) ⟨⟨l.i.a,x.i.b,l.i.oa,true⟩,l.f⟩
  else if decide (0<i)&&(uw (A.getD (i-1) aU.d).i&&(decide ((A.getD (i-1) aU.d).i.a=t)&& !Gx O t))then O++[⟨⟨x.i.a,x.i.b,false,x.i.ob⟩,x.f⟩]
  else O++[x]
def Np(A:List Uq):Nat→Nat→List Uq→List Uq
 | 0,_,O=>O
 | n+1,i,O=>Np A n (i+1) (Fj A i O)
def PK(A:List Uq):List Uq:=Np A A.length 0 []
abbrev TN:=(Unit×List Uq×Nat×List Uq×List Uq×Int×Int×Unit)×(List Uq×Unit)
abbrev Zm:=(Nat×Unit)×(List Uq×Unit)
def WO(A:List Uq):Bool:=A.all λu=>Ah 100000 u.i&&vW 1000000 u.f
def aug(x:TN):Zm:=match x with
 | (((),U,m,A,B,n,i,()),(O,()))=>(((PK A).length,()),(PK A,()))
def Nq(x:TN):Bool:=match x with
 | (((),U,m,A,B,n,i,()),(O,()))=>rQ A B&&(WO A&&(decide (m=0)&&(decide (O.length=0)&&(decide (i=0)&&(decide (n=(A.length:Int))&&decide (A.length≤300000))))))
def WQ:aZ TN Zm:=yA {nt:=219,live:=[0,1,7,8,41,42,43],lifts:=[(7,32,206)]} {nt:=219,live:=[7],lifts:=[(7,32,206)]} (.with (.cons (aU.ent 206) .nil) (.cons (nZ 233) (.cons aU.arg (.cons (gu 0 32) (.cons aU.arg (.cons aU.arg (.cons bK (.cons bK .nil)))))))) (.with (.cons (aU.ent 206) .nil) (.cons (gu 0 32) .nil)) aug Nq
theorem abL:WQ.gI:=eG _ _ _ _ _ _
def LNq:Nat→Option (St→Tr (Ex×St)):=λid=>bif Nat.beq id 0 then some (WM.g 0)else bif Nat.beq id 2 then some (WQ.g 0)else none
def ΓNq:FuncId→Option Spec:=λf=>bif Nat.beq f 130 then some (ay atA)else bif Nat.beq f 142 then some (ay aqD)else bif Nat.beq f 143 then some (ay KHe)else bif Nat.beq f 360 then some (ay aub)else bif Nat.beq f 361 then some (ay auc)else bif Nat.beq f 362 then some (ay aud)else bif Nat.beq f 140 then some (ay KSo)else bif Nat.beq f 141 then some (ay aqV)else none
theorem agx: ∀f s,ΓNq f=some s→aR Tryz.prog f s:=step_ok aqE.spec (step_ok afO.spec (step_ok atQ.spec (step_ok ara.spec (step_ok aq8.spec (step_ok aq9.spec (step_ok at6.spec (bS afZ.spec)))))))
def Nr(U A B:List Uq)(n i:Int)(m len:Nat)(el:Nat→List IV):Tr (TN ⊕ Zm):=
 Tr.need (aU.oks U.length (aU.el U))<| Tr.need (aU.oks A.length (aU.el A))<| Tr.need (aU.oks B.length (aU.el B))<| Tr.need (aU.oks len el)<|
  Tr.ret (Sum.inl (((),aU.list U.length (aU.el U),m,aU.list A.length (aU.el A),aU.list B.length (aU.el B),n,IntKind.i64.wrap (i+1),()),(aU.list len el,())))
def SC(U A B:List Uq)(n i:Int)(m:Nat)(O:List Uq)(c:List IV):Tr (TN ⊕ Zm):=
 Tr.need (decide (m≤O.length))<| Tr.need true<| Tr.need (decide (m+1≤9223372036854775807))<| Tr.need (decide ((m+1)*360≤140737488355328))<|
  Nr U A B n i (m+1) (m+1) (bN m (aU.el O) λk=>(c.drop (k*32)).take 32)
def Zn(U A B:List Uq)(n i:Int)(m:Nat)(O:List Uq)(x:Uq):Tr (TN ⊕ Zm):=
 let j:=IntKind.i64.wrap (i-1)
 let v:=A.getD j.toNat aU.d
 let IV':=dU v.i
 let RX:=aY x.i.a
 let c1:=decide (0≤j∧j<(A.length:Int))
 let hO:=aU.list m (aU.el O)
 let abM:=decide (m≤O.length)&&(aU.oks m (aU.el O)&&(dN RX&&(decide (hO.length≤400000)&&true)))
 let agy:=bif true then WL v.i.a x.i.a else false
 let agz:=bif true then decide ((yH IV').a=(yH IV').b)else false
 let abN:=c1&&bif agy then abM else true
 let KA:=bif false then abM else true
 let KC:=bif true then !Gx hO (bW RX)else false
 let KD:=bif agy then KC else false
 let KE:=bif false then KC else false
 Tr.need (bif decide (i>0)then c1&&(uo IV'&&bif agz then abN else KA)else bif false then abN else KA)<|
  Tr.ite (bif decide (i>0)then bif agz then KD else KE else bif false then KD else KE)
   (SC U A B n i m O (uq ⟨x.i.a,x.i.b,false,x.i.ob⟩++nV x.f))
   (SC U A B n i m O (uq x.i++nV x.f))
def Zo(U A B:List Uq)(n i:Int)(m:Nat)(O:List Uq)(x:Uq):Tr (TN ⊕ Zm):=
 let j:=IntKind.i64.wrap (i+1)
 let v:=A.getD j.toNat aU.d
 let QV:=cK v.f
 let QX:=cK x.f
 let RX:=aY x.i.a
 let c1:=decide (0≤j∧j<(A.length:Int))
 let auh:=bif true then WL v.i.a x.i.a else false
 let x152:=c1&&(dI QV&&(dI QX&&(dN RX&&(vW 1000000 (aX QV)&&(vW 1000000 (aX QX)&&(qo 100000 (bW RX)&&true))))))
 let x153:=bif true then qC (aX QV) (aX QX) (bW RX)else false
 Tr.need (bif decide (j<(A.length:Int))then c1&&bif auh then x152 else true else bif false then x152 else true)<|
  Tr.ite (bif decide (j<(A.length:Int))then bif auh then x153 else false else bif false then x153 else false)
   (Nr U A B n i m O.length (aU.el O))
   (Tr.need (dI QX)<| Tr.need (dN RX)<| Tr.need (vW 1000000 (aX QX))<| Tr.need (qo 100000 (bW RX))<|
    SC U A B n i m O (uq x.i++nV (LH (aX QX) (bW RX))))
def Fp(U:List Uq)(m:Nat)(A B:List Uq)(n i:Int)(O:List Uq):Tr (TN ⊕ Zm):=
 let x:=B.getD i.toNat aU.d
 let l:=IntKind.i64.wrap ((m:Int)-1)
 let u:=O.getD l.toNat aU.d
 let x3:=decide ((m:Int)>0)
 let x5:=decide (0≤l∧l<(m:Int))
 let x7:=decide (l.toNat<O.length)
 let IU:=dU u.i
 let IX:=dU x.i
 let QU:=cK u.f
 let QX:=cK x.f
 let RX:=aY x.i.a
 let x31:=bif true then WL u.i.b x.i.a else false
 let r9:=x5&&(x7&&(uo IU&&true))
 let x38:=bif true then !decide ((yH IU).a=(yH IU).b)else false
 let x61:= !decide ((yH IX).a=(yH IX).b)
 let SE:=bif true then !u.i.ob else false
 let x88:=x7&&(dI QU&&(dI QX&&true))
 let x89:=bif true then eqQ (aX QU) (aX QX)else false
 Tr.ite (decide (i<n))
  (Tr.need (decide (0≤i∧i<(B.length:Int)))<| Tr.need (bif x3 then x5&&(x7&&bif x31 then r9 else true)else bif false then r9 else true)<|
   Tr.ite (bif x3 then bif x31 then x38 else false else bif false then x38 else false)
    (Tr.need x5<| Tr.need (uo IX)<| Tr.ite x61
     (Tr.need (bif !false then x7&&bif SE then x88 else true else bif false then x88 else true)<|
      Tr.ite (bif !false then bif SE then x89 else false else bif false then x89 else false)
       (Tr.need x7<| Tr.need x7<| Nr U A B n i m O.length (aP (aP (aU.el O) l.toNat (0+0+9) (xS x.i.b)) l.toNat (0+0+19) [.v (.bool true)]))
       (Zn U A B n i m O x))
     (Tr.need (bif !false then x7&&(dI QU&&(dI QX&&(dN RX&&(vW 1000000 (aX QU)&&(vW 1000000 (aX QX)&&(qo 100000 (bW RX)&&true))))))else true)<|
      Tr.ite (bif !false then bif true then qC (aX QU) (aX QX) (bW RX)else false else false)
       (Tr.need x7<| Nr U A B n i m O.length (aP (aU.el O) l.toNat (0+0+19) [.v (.bool false)]))
       (Zo U A B n i m O x)))
    (Tr.need (uo IX)<| Tr.ite x61
     (Tr.ite false (Tr.fail "pieces.go:171")<| Tr.ite false (Tr.fail "pieces.go:171")<| Tr.ite false (Tr.fail "pieces.go:172")<| Zn U A B n i m O x)
     (Tr.ite false (Tr.fail "pieces.go:180")<| Tr.ite false (Tr.fail "pieces.go:181")<| Zo U A B n i m O x)))
  (Tr.need (aU.oks O.length (aU.el O))<| Tr.ret (Sum.inr ((m,()),(aU.list O.length (aU.el O),()))))
theorem abO(x:TN):(exec Tryz.prog ΓNq bX 1010 (bn 2 (codeOf Tryz.f95)) (iQ WQ.nIn (WQ.head x))).bind (WQ.fin 0 2)=Fp x.1.2.1 x.1.2.2.1 x.1.2.2.2.1 x.1.2.2.2.2.1 x.1.2.2.2.2.2.1 x.1.2.2.2.2.2.2.1 x.2.1:=by
 obtain⟨⟨⟨⟩,U,m,A,B,n,i,⟨⟩⟩,⟨O,⟨⟩⟩⟩:=x
 kernel_rfl
def Fq(U:List Uq)(n i:Int):Tr (NaX ⊕ Unit×List Uq×Unit):=
 let j:=IntKind.i64.wrap (i-1)
 let u:=U.getD j.toNat aU.d
 let v:=U.getD i.toNat aU.d
 let A:=dU u.i
 let B:=dU v.i
 let RA:=aY u.i.b
 let RB:=aY v.i.a
 Tr.ite (decide (i<n))
  (Tr.need (bif decide (i>0)then decide (0≤j∧j<(U.length:Int))&&(decide (0≤i∧i<(U.length:Int))&&(uo A&&(uo B&&(qo 100000 (bW RA)&&(qo 100000 (bW RB)&&true)))))else true)<|
   Tr.ite (bif decide (i>0)then bif true then !G8 (yH A) (yH B)else false else false) (Tr.fail "out")
    (Tr.need (aU.oks U.length (aU.el U))<| Tr.ret (Sum.inl ((),aU.list U.length (aU.el U),n,IntKind.i64.wrap (i+1),()))))
  (Tr.need (aU.oks U.length (aU.el U))<| Tr.ret (Sum.inr ((),aU.list U.length (aU.el U),())))
theorem abP(x:NaX):(exec Tryz.prog ΓNq bX 1010 (bn 0 (codeOf Tryz.f95)) (iQ WM.nIn (WM.head x))).bind (WM.fin 0 0)=Fq x.2.1 x.2.2.1 x.2.2.2.1:=by
 obtain⟨⟨⟩,U,n,i,⟨⟩⟩:=x
 kernel_rfl
end Go.bI
namespace Go.bI
open Go.Proofs
theorem Ap(U A:List Uq)(i:Nat)(hi:i<A.length)(lA:A.length≤300000)(O':List Uq)(m len:Nat)(el:Nat→List IV)(h1:aU.list len el=O')(h2:aU.oks len el=true)(hm:m=O'.length){R:TN ⊕ Zm→Prop}
  (hq:R (.inl (((),U,O'.length,A,A,(A.length:Int),((i+1:Nat):Int),()),(O',())))):(Nr U A A (A.length:Int) (i:Nat) m len el).sat R:=by
 have w1:IntKind.i64.wrap ((i:Int)+1)=((i+1:Nat):Int):=jR;subst hm;simp only[Nr,h1,h2,aU.aS,aU.bH,w1,sat_true];exact av hq
theorem oL(U A:List Uq)(i:Nat)(hi:i<A.length)(lA:A.length≤300000)(O:List Uq)(hO:O.length≤300000)(x:Uq)(c:List IV)(hc:c=uq x.i++nV x.f){R:TN ⊕ Zm→Prop}
  (hq:R (.inl (((),U,(O++[x]).length,A,A,(A.length:Int),((i+1:Nat):Int),()),(O++[x],())))):(SC U A A (A.length:Int) (i:Nat) O.length O c).sat R:=by
 subst hc;obtain⟨s1,s2⟩:=aU.snoc O x (λk=>((uq x.i++nV x.f).drop (k*32)).take 32) rfl;unfold SC;refine ah (bQ) (ah rfl (ah (bQ) (ah (bQ) ?_)));exact Ap U A i hi lA (O++[x]) _ _ _ s1 s2 (by simp) hq
structure avL (O:List Uq):Prop where
 len:O.length≤300000
 bt: ∀u∈O,uw u.i=false→Ki 1000000 u.f
theorem PL{A:List Uq}(h:WO A=true){i:Nat}(hi:i<A.length):Ah 100000 (A.getD i aU.d).i=true∧vW 1000000 (A.getD i aU.d).f=true:=by
 have:=List.all_eq_true.1 h A[i] (List.getElem_mem hi);have e:A.getD i aU.d=A[i]:=by simp[dR,hi]
 rw[e];simpa using this
theorem Cg(i:Ig):decide ((yH (dU i)).a=(yH (dU i)).b)=uw i:=by rw[nG];rfl
def SF(A:List Uq)(i:Nat)(O:List Uq)(x:Uq):List Uq:=
 if decide (0<i)&&(uw (A.getD (i-1) aU.d).i&&(decide ((A.getD (i-1) aU.d).i.a=x.i.a)&& !Gx O x.i.a))then O++[⟨⟨x.i.a,x.i.b,false,x.i.ob⟩,x.f⟩]else O++[x]
def SG(A:List Uq)(i:Nat)(O:List Uq)(x:Uq):List Uq:=
 if decide (i+1<A.length)&&(decide ((A.getD (i+1) aU.d).i.a=x.i.a)&&qC (A.getD (i+1) aU.d).f x.f x.i.a)then O else O++[⟨x.i,LH x.f x.i.a⟩]
theorem Fu(U A:List Uq)(hA:WO A=true)(i:Nat)(hi:i<A.length)(lA:A.length≤300000)(O:List Uq)(hO:O.length≤300000)(x:Uq){R:TN ⊕ Zm→Prop}
  (hq:R (.inl (((),U,(SF A i O x).length,A,A,(A.length:Int),((i+1:Nat):Int),()),(SF A i O x,())))):(Zn U A A (A.length:Int) (i:Nat) O.length O x).sat R:=by
 have c4:decide (O.length≤O.length)=true:=fZ (Nat.le_refl _);have c5:decide (O.length≤400000)=true:=bQ;unfold Zn;by_cases h0:0<i
 ·have w1:IntKind.i64.wrap ((i:Int)-1)=((i-1:Nat):Int):=jR
  have c1:decide ((i:Int)>0)=true:=bQ;have c2:decide ((0:Int)≤((i-1:Nat):Int)∧((i-1:Nat):Int)<(A.length:Int))=true:=bQ;simp only[w1,c1,c2,jf,Cg,j3,IK,dM,fM,aU.aS,aU.bH,c4,c5,cond_true,cond_false,Bool.true_and,Bool.and_true];unfold SF at hq;rw[fZ h0,Bool.true_and]at hq;generalize A.getD (i-1) aU.d=v at*;refine ah ?_ ?_
  ·cases uw v.i<;>cases decide (v.i.a=x.i.a)<;>rfl
  ·cases h1:uw v.i with
   | false=>
     rw[h1]at hq;exact au (λh=>by cases h) λ_=>oL U A i hi lA O hO x _ rfl hq
   | true=>
     cases h2:decide (v.i.a=x.i.a)with
     | false=>
       rw[h1,h2]at hq;exact au (λh=>by cases h) λ_=>oL U A i hi lA O hO x _ rfl hq
     | true=>
       rw[h1,h2]at hq;cases h3:Gx O x.i.a with
       | true=>
         rw[h3]at hq;exact au (λh=>by cases h) λ_=>oL U A i hi lA O hO x _ rfl hq
       | false=>
         rw[h3]at hq;exact au (λ_=>oL U A i hi lA O hO ⟨⟨x.i.a,x.i.b,false,x.i.ob⟩,x.f⟩ _ rfl hq) λh=>by cases h
 ·have c1:decide ((i:Int)>0)=false:=jK (by omega)
  simp only[c1,cond_false];unfold SF at hq;rw[jK h0,Bool.false_and]at hq;exact ah rfl (au (λh=>by cases h) λ_=>oL U A i hi lA O hO x _ rfl hq)
theorem Fv(U A:List Uq)(hA:WO A=true)(i:Nat)(hi:i<A.length)(lA:A.length≤300000)(O:List Uq)(hO:O.length≤300000)(x:Uq)(hx:vW 1000000 x.f=true)(ht:qo 100000 x.i.a=true){R:TN ⊕ Zm→Prop}
  (hq:R (.inl (((),U,(SG A i O x).length,A,A,(A.length:Int),((i+1:Nat):Int),()),(SG A i O x,())))):(Zo U A A (A.length:Int) (i:Nat) O.length O x).sat R:=by
 have w1:IntKind.i64.wrap ((i:Int)+1)=((i+1:Nat):Int):=jR;unfold Zo;by_cases h0:i+1<A.length
 ·have c1:decide (((i+1:Nat):Int)<(A.length:Int))=true:=bQ
  have c2:decide ((0:Int)≤((i+1:Nat):Int)∧((i+1:Nat):Int)<(A.length:Int))=true:=bQ;have hv:=(PL hA h0).2;simp only[w1,c1,c2,jf,lG,jm,IK,dM,fM,aU.bH,hx,ht,hv,cond_true,cond_false,Bool.true_and,Bool.and_true,sat_true];unfold SG at hq;rw[fZ h0,Bool.true_and]at hq;generalize A.getD (i+1) aU.d=v at*;refine ah ?_ ?_
  ·cases decide (v.i.a=x.i.a)<;>rfl
  ·cases h1:decide (v.i.a=x.i.a)with
   | false=>
     rw[h1]at hq;exact au (λh=>by cases h) λ_=>ah rfl (ah rfl (ah rfl (ah rfl (oL U A i hi lA O hO ⟨x.i,LH x.f x.i.a⟩ _ rfl hq))))
   | true=>
     rw[h1]at hq;cases h2:qC v.f x.f x.i.a with
     | false=>
       rw[h2]at hq;exact au (λh=>by cases h) λ_=>ah rfl (ah rfl (ah rfl (ah rfl (oL U A i hi lA O hO ⟨x.i,LH x.f x.i.a⟩ _ rfl hq))))
     | true=>
       rw[h2]at hq;exact au (λ_=>Ap U A i hi lA O _ _ _ (aU.aS O) (aU.bH O _) rfl hq) λh=>by cases h
 ·have c1:decide (((i+1:Nat):Int)<(A.length:Int))=false:=jK (by omega)
  simp only[w1,c1,lG,jm,dM,fM,hx,ht,cond_false,sat_true];unfold SG at hq;rw[jK h0,Bool.false_and]at hq;exact au (λh=>by cases h) λ_=>ah rfl (ah rfl (ah rfl (ah rfl (oL U A i hi lA O hO ⟨x.i,LH x.f x.i.a⟩ _ rfl hq))))
theorem Zp(A:List Uq)(i:Nat)(O:List Uq):Fj A i O=
 let x:=A.getD i aU.d
 let l:=gU O
 let bf:=decide (0<O.length)&&(decide (l.i.b=x.i.a)&& !uw l.i)
 if uw x.i then(if bf&&qC l.f x.f x.i.a then O.set (O.length-1) ⟨⟨l.i.a,l.i.b,l.i.oa,false⟩,l.f⟩else SG A i O x)
 else(if bf&&(!l.i.ob&&eqQ l.f x.f)then O.set (O.length-1) ⟨⟨l.i.a,x.i.b,l.i.oa,true⟩,l.f⟩else SF A i O x):=rfl
theorem arb(O:List Uq)(h:O.length-1<O.length)(b:Bool):aU.list O.length (aP (aU.el O) (O.length-1) (0+0+19) [.v (.bool b)])=O.set (O.length-1) ⟨⟨(gU O).i.a,(gU O).i.b,(gU O).i.oa,b⟩,(gU O).f⟩∧aU.oks O.length (aP (aU.el O) (O.length-1) (0+0+19) [.v (.bool b)])=true:=
 aU.set O (O.length-1) h (0+0+19) [.v (.bool b)] ⟨⟨(gU O).i.a,(gU O).i.b,(gU O).i.oa,b⟩,(gU O).f⟩ rfl
theorem aui{X:Type}(E:Kk X)(U:List X)(i:Nat)(j j':Nat)(c c':List IV)(u:X)(he:((E.iv (U.getD i E.d)).take j++c++(E.iv (U.getD i E.d)).drop (j+c.length)).take j'++c'++((E.iv (U.getD i E.d)).take j++c++(E.iv (U.getD i E.d)).drop (j+c.length)).drop (j'+c'.length)=E.iv u)(k:Nat)(hk:k<U.length):
  aP (aP (E.el U) i j c) i j' c' k=E.el (U.set i u) k:=by
 unfold aP;by_cases hk2:k=i
 ·subst hk2
  simp only[if_true];unfold Kk.el;rw[he];simp[dR,hk]
 ·simp only[hk2,if_false]
  unfold Kk.el;simp[dR,List.getElem?_set_ne (Ne.symm hk2)]
theorem ard(O:List Uq)(b:R3):aU.list O.length (aP (aP (aU.el O) (O.length-1) (0+0+9) (xS b)) (O.length-1) (0+0+19) [.v (.bool true)])=O.set (O.length-1) ⟨⟨(gU O).i.a,b,(gU O).i.oa,true⟩,(gU O).f⟩∧aU.oks O.length (aP (aP (aU.el O) (O.length-1) (0+0+9) (xS b)) (O.length-1) (0+0+19) [.v (.bool true)])=true:=by
 have key:=aui aU O (O.length-1) (0+0+9) (0+0+19) (xS b) [.v (.bool true)] ⟨⟨(gU O).i.a,b,(gU O).i.oa,true⟩,(gU O).f⟩ rfl;rw[aU.mK key,aU.oK key];refine⟨?_,aU.bH _ _⟩;have:=aU.aS (O.set (O.length-1) (⟨⟨(gU O).i.a,b,(gU O).i.oa,true⟩,(gU O).f⟩:Uq));rw[List.length_set]at this;exact this
theorem Ns{O:List Uq}(h:0<O.length):gU O∈O:=by
 have e:gU O=O[O.length-1]:=by simp[gU,dR,show O.length-1<O.length by omega]
 rw[e];exact List.getElem_mem _
theorem abQ(U A:List Uq)(hA:WO A=true)(i:Nat)(hi:i<A.length)(lA:A.length≤300000)(O:List Uq)(hO:avL O){R:TN ⊕ Zm→Prop}
  (hq:R (.inl (((),U,(Fj A i O).length,A,A,(A.length:Int),((i+1:Nat):Int),()),(Fj A i O,())))):(Fp U O.length A A (A.length:Int) (i:Nat) O).sat R:=by
 obtain⟨lO,bO⟩:=hO;obtain⟨xi,xf⟩:=PL hA hi;have xa:=(oo xi).1;have c1:decide ((i:Int)<(A.length:Int))=true:=bQ;have c2:decide ((0:Int)≤(i:Int)∧(i:Int)<(A.length:Int))=true:=bQ;rw[Zp]at hq;dsimp only at hq;unfold Fp;by_cases h0:0<O.length
 ·have w1:IntKind.i64.wrap ((O.length:Int)-1)=((O.length-1:Nat):Int):=jR
  have c3:decide ((O.length:Int)>0)=true:=bQ;have c4:decide ((0:Int)≤((O.length-1:Nat):Int)∧((O.length-1:Nat):Int)<(O.length:Int))=true:=bQ;have c5:decide (O.length-1<O.length)=true:=bQ;have hl:O.getD (O.length-1) aU.d=gU O:=rfl;have bl:=bO (gU O) (Ns h0);rw[fZ h0,Bool.true_and]at hq;simp only[c1,c2,c3,c4,c5,w1,hl,jf,Cg,j3,lG,jm,IK,dM,fM,xf,xa,cond_true,cond_false,Bool.true_and,Bool.and_true,Bool.not_false,sat_true];generalize hx:A.getD i aU.d=x at*;refine au (λ_=> ?_) (λh=>by cases h);refine ah rfl (ah ?_ ?_)
  ·cases decide ((gU O).i.b=x.i.a)<;>rfl
  ·cases h1:decide ((gU O).i.b=x.i.a)&& !uw (gU O).i with
   | true=>
     have h1':=Bool.and_eq_true_iff.1 h1;have bq:vW 1000000 (gU O).f=true:=mg.2 (bl (by simpa using h1'.2));rw[h1,Bool.true_and,Bool.true_and]at hq;refine au (λ_=> ?_) (λh=>by rw[h1'.1,h1'.2]at h;cases h);simp only[bq,cond_true,Bool.true_and,Bool.and_true]
     repeat refine ah rfl ?_
     cases h2:uw x.i with
     | true=>
       rw[h2,if_pos rfl]at hq;refine au (λh=>by cases h) (λ_=> ?_);refine ah rfl ?_;cases h3:qC (gU O).f x.f x.i.a with
       | true=>
         rw[h3,if_pos rfl]at hq;refine au (λ_=> ?_) (λh=>by cases h);obtain⟨s1,s2⟩:=arb O (by omega) false
         repeat refine ah rfl ?_
         exact Ap U A i hi lA _ _ _ _ s1 s2 (by simp) hq
       | false=>
         rw[h3]at hq;refine au (λh=>by cases h) (λ_=> ?_);exact Fv U A hA i hi lA O lO x xf xa hq
     | false=>
       rw[h2]at hq;refine au (λ_=> ?_) (λh=>by cases h);refine ah (by cases (gU O).i.ob<;>rfl) ?_;cases h3: !(gU O).i.ob&&eqQ (gU O).f x.f with
       | true=>
         rw[h3,if_pos rfl]at hq;have h3':=Bool.and_eq_true_iff.1 h3;refine au (λ_=> ?_) (λh=>by rw[h3'.1,h3'.2]at h;cases h);obtain⟨s1,s2⟩:=ard O x.i.b
         repeat refine ah rfl ?_
         exact Ap U A i hi lA _ _ _ _ s1 s2 (by simp) hq
       | false=>
         rw[h3]at hq;refine au (λh=>by revert h h3;cases (gU O).i.ob<;>cases eqQ (gU O).f x.f<;>simp) (λ_=> ?_);exact Fu U A hA i hi lA O lO x hq
   | false=>
     rw[h1,Bool.false_and,Bool.false_and]at hq;refine au (λh=>by revert h h1;cases decide ((gU O).i.b=x.i.a)<;>cases uw (gU O).i<;>simp) (λ_=> ?_)
     repeat refine ah rfl ?_
     cases h2:uw x.i with
     | true=>
       rw[h2,if_pos rfl]at hq;refine au (λh=>by cases h) (λ_=>au (λh=>by cases h) (λ_=>au (λh=>by cases h) (λ_=> ?_)));exact Fv U A hA i hi lA O lO x xf xa hq
     | false=>
       rw[h2]at hq;refine au (λ_=>au (λh=>by cases h) (λ_=>au (λh=>by cases h) (λ_=>au (λh=>by cases h) (λ_=> ?_)))) (λh=>by cases h);exact Fu U A hA i hi lA O lO x hq
 ·have c3:decide ((O.length:Int)>0)=false:=jK (by omega)
  rw[jK h0,Bool.false_and]at hq;simp only[c1,c2,c3,Cg,j3,jf,xf,xa,cond_true,cond_false,sat_true];generalize hx:A.getD i aU.d=x at*;refine au (λ_=> ?_) (λh=>by cases h);refine ah rfl (ah rfl (au (λh=>by cases h) (λ_=> ?_)));rw[Bool.false_and,Bool.false_and]at hq
  repeat refine ah rfl ?_
  cases h2:uw x.i with
  | true=>
    rw[h2,if_pos rfl]at hq;refine au (λh=>by cases h) (λ_=>au (λh=>by cases h) (λ_=>au (λh=>by cases h) (λ_=> ?_)));exact Fv U A hA i hi lA O lO x xf xa hq
  | false=>
    rw[h2]at hq;refine au (λ_=>au (λh=>by cases h) (λ_=>au (λh=>by cases h) (λ_=>au (λh=>by cases h) (λ_=> ?_)))) (λh=>by cases h);exact Fu U A hA i hi lA O lO x hq
end Go.bI
namespace Go.bI
open Go.Proofs
def agA:List AV→Option (AV×List Bool)
 | [.c (.v (.slice none 0 0))]=>some (aU.sl [],[])
 | [.c (.v (.slice (some _) 0 _))]=>some (aU.sl [],[])
 | _=>none
theorem PN:aN Tryz.prog 182 agA:=by
 refine aM aj oz (fn:=Tryz.f182) (c:=codeOf Tryz.f182) (by kernel_rfl) (by kernel_rfl) (aG (fn:=Tryz.f182) (c:=codeOf Tryz.f182) (by kernel_rfl) (by kernel_rfl) (by kernel_rfl)) (L:=bX) (N:=1010) (ak _ _) ?_ ?_
 ·intro args v cs h
  unfold agA at h
  split at h
  ·cases h;rfl
  ·cases h;rfl
  ·cases h
 ·intro args v cs h _
  unfold agA at h
  split at h
  ·cases h
   have e:aI Tryz.prog Px bX 1010 Tryz.f182 [.c (.v (.slice none 0 0))]=Tr.ite true (Tr.ret (.c (.v (.slice none 0 0)))) (Tr.need true (Tr.need true (Tr.need true (Tr.need true (Tr.ret (.c (.sl 0 32 (bN 0 (λ_=> []) λ_=> [])))))))):=by kernel_rfl
   generalize aI Tryz.prog Px bX 1010 Tryz.f182 [.c (.v (.slice none 0 0))]=T at e⊢;subst e;exact au (λ_=>av ⟨rfl,bM.nil _ _⟩) (λh=>by cases h)
  ·rename_i a c
   cases h;have e:aI Tryz.prog Px bX 1010 Tryz.f182 [.c (.v (.slice (some a) 0 c))]=Tr.ite false (Tr.ret (.c (.v (.slice none 0 0)))) (Tr.need true (Tr.need true (Tr.need true (Tr.need true (Tr.ret (.c (.sl 0 32 (bN 0 (λ_=> []) λ_=> [])))))))):=by kernel_rfl
   generalize aI Tryz.prog Px bX 1010 Tryz.f182 [.c (.v (.slice (some a) 0 c))]=T at e⊢;subst e;refine au (λh=>by cases h) (λ_=> ?_)
   repeat refine ah rfl ?_
   exact av ⟨rfl,bM.sl λk hk=>absurd hk (Nat.not_lt_zero k)⟩
  ·cases h
def auj(U:List Uq):Tr AV:=
 Tr.need (decide (U.length≠0))<| Tr.ite false (Tr.ret (.c (.v (.slice none 0 0))))<| Tr.need true<| Tr.need (decide (0+U.length≤9223372036854775807))<| Tr.need (decide ((0+U.length)*360≤140737488355328))<| Tr.need (decide (0+U.length≤0+U.length))<| Tr.ret (.c (.sl (0+U.length) 32 (bN 0 (λ_=> []) (aU.el U))))
theorem amn(U:List Uq):aI Tryz.prog Px bX 1010 Tryz.f182 [aU.sl U]=auj U:=by kernel_rfl
def agB:List AV→Option (AV×List Bool):=(F1 aU.arg).K (λx=>aU.sl x.1) λx=> [decide (1≤x.1.length),decide (x.1.length≤100000)]
theorem amo:aN Tryz.prog 182 agB:=
 (F1 aU.arg).dO (N:=1010) (L:=bX) aj oz (fn:=Tryz.f182) (c:=codeOf Tryz.f182) (by kernel_rfl) (by kernel_rfl) (by kernel_rfl) (ak _ _) (λ_=>rfl) (M:=λx=>auj x.1) (λx=>amn x.1)
  λx h=>by
   have h1:1≤x.1.length:=dec (h (decide (1≤x.1.length)) (by simp));have h2:x.1.length≤100000:=dec (h (decide (x.1.length≤100000)) (by simp));refine ah (bQ) (au (λh=>by cases h) (λ_=>ah rfl (ah (bQ) (ah (bQ) (ah (bQ) (av ?_))))));simp only[Nat.zero_add,af4];rfl
def arf:List AV→Option (AV×List Bool):=(F1 aU.arg).K (λx=>aU.sl x.1) λx=> [decide (x.1.length≤100000)]
theorem arh:aN Tryz.prog 182 arf where
 sound:=by
  intro args v cs hK;unfold arf Form.K at hK
  split at hK
  ·rename_i x ds hx
   simp only[fK,Prod.mk.injEq]at hK;obtain⟨rfl,rfl⟩:=hK;refine⟨rfl,λA w vs hA hc hargs=> ?_⟩;have hs:=(F1 aU.arg).ok args x ds hx λp hp=>hc p (by simp[hp])
   have h2:x.1.length≤100000:=dec (hc (decide (x.1.length≤100000)) (by simp));have hr:=hs.Oz hargs;obtain⟨U,⟨⟩⟩:=x;by_cases h0:U.length=0
   ·obtain rfl:U=[]:=List.length_eq_zero_iff.1 h0
    obtain⟨hl,hr⟩:=hr;have h1:=hr 0 (by show 0<1;omega)
    match vs,hl,h1 with
    | [v0],_,h1=>
      have h1:aV A (λ_=>none) w (.c (.sl 0 aU.n (aU.el []))) v0:=h1;have one: ∀v1,v0=v1→eF A (λ_=>none) w [.c (.v v1)] [v0]:=λv1 e=>⟨rfl,λj hj=>by
       have hj:j<1:=hj;obtain rfl:j=0:=by omega
       subst e;exact .c _ _ (.v _)⟩
      cases h1 with
      | c _ _ hi=>
        cases hi with
        | nil=>exact(PN.sound _ _ _ rfl).2 A w _ hA (λp hp=>by cases hp) (one _ rfl)
        | zero=>exact(PN.sound _ _ _ rfl).2 A w _ hA (λp hp=>by cases hp) (one _ rfl)
        | sl=>exact(PN.sound _ _ _ rfl).2 A w _ hA (λp hp=>by cases hp) (one _ rfl)
   ·obtain⟨v1,cs1,k1,k2,k3⟩: ∃v1 cs1,agB ((F1 aU.arg).args (U,()))=some (v1,cs1)∧(∀p∈cs1,p=true)∧v1=aU.sl U:=by
     have e:(F1 aU.arg).parse ((F1 aU.arg).args (U,()))=some ((aU.list U.length (aU.el U),()),[aU.oks U.length (aU.el U)]):=rfl;refine⟨aU.sl (aU.list U.length (aU.el U)),[aU.oks U.length (aU.el U),decide (1≤(aU.list U.length (aU.el U)).length),decide ((aU.list U.length (aU.el U)).length≤100000)],?_,?_,by rw[aU.aS]⟩
     ·unfold agB Form.K
      rw[e];rfl
     ·rw[aU.aS,aU.bH]
      intro p hp;simp only[List.mem_cons,List.not_mem_nil,or_false]at hp;rcases hp with rfl|rfl|rfl
      ·rfl
      ·exact bQ
      ·exact fZ h2
    have:=(amo.sound _ _ _ k1).2 A w vs hA k2 hr;rw[k3]at this;exact this
  ·cases hK
end Go.bI
namespace Go.bI
open Go.Proofs
def auk:List AV→Option (AV×List Bool):=(F1 aU.arg).K (λx=>aU.sl x.1) λx=> [rO x.1,qp x.1,decide (x.1.length≤19)]
def aul:FuncId→Option Spec:=λf=>bif Nat.beq f 182 then some (ay arf)else bif Nat.beq f 231 then some (ay aq1)else none
theorem amq: ∀f s,aul f=some s→aR Tryz.prog f s:=step_ok arh.spec (bS agd.spec)
def ari(U:List Uq):Tr AV:=
 let V:=aU.list U.length (aU.el U)
 Tr.need (aU.oks U.length (aU.el U))<| Tr.need (decide (V.length≤100000))<| Tr.need (aU.oks V.length (aU.el V))<|
  Tr.need (rO (aU.list V.length (aU.el V)))<| Tr.need (qp (aU.list V.length (aU.el V)))<| Tr.need (decide ((V.length:Int)=((aU.list V.length (aU.el V)).length:Int)))<| Tr.need (decide ((aU.list V.length (aU.el V)).length≤19))<|
   Tr.ret (aU.sl V)
theorem amr(U:List Uq):aI Tryz.prog (AQ Tryz.prog aul (λ_=>false) 1010 2) bX 1010 Tryz.f140 [aU.sl U]=ari U:=by kernel_rfl
theorem arj:aN Tryz.prog 140 auk:=
 (F1 aU.arg).dO (N:=1010) (L:=bX) aj (l7 aj amq 2) (fn:=Tryz.f140) (c:=codeOf Tryz.f140) (by kernel_rfl) (by kernel_rfl) (by kernel_rfl) (ak _ _) (λ_=>rfl) (M:=λx=>ari x.1) (λx=>amr x.1)
  λx h=>by
   have h1:rO x.1=true:=h (rO x.1) (by simp);have h2:qp x.1=true:=h (qp x.1) (by simp);have h3:x.1.length≤19:=dec (h (decide (x.1.length≤19)) (by simp));have h4:decide (x.1.length≤19)=true:=fZ h3;have h5:decide (x.1.length≤100000)=true:=bQ;simp only[ari,aU.aS,aU.bH,h1,h2,h4,h5,decide_true,sat_true];exact av rfl
def ΓNm:FuncId→Option Spec:=λf=>bif Nat.beq f 140 then some (ay auk)else bif Nat.beq f 141 then some (ay aqV)else none
theorem ark: ∀f s,ΓNm f=some s→aR Tryz.prog f s:=step_ok arj.spec (bS afZ.spec)
theorem abR(U:List Uq)(h1:PI U=true)(h2:qp U=true)(hn:U.length≤100000)(i:Nat)(hi:i<U.length){R:NaX ⊕ Unit×List Uq×Unit→Prop}(hq:R (.inl ((),U,(U.length:Int),((i+1:Nat):Int),()))):(Fq U (U.length:Int) (i:Nat)).sat R:=by
 have w1:IntKind.i64.wrap ((i:Int)+1)=((i+1:Nat):Int):=jR;have c1:decide ((i:Int)<(U.length:Int))=true:=bQ;have c2:decide ((0:Int)≤(i:Int)∧(i:Int)<(U.length:Int))=true:=bQ;unfold Fq;by_cases h0:0<i
 ·have w2:IntKind.i64.wrap ((i:Int)-1)=((i-1:Nat):Int):=jR
  have c3:decide ((i:Int)>0)=true:=bQ;have c4:decide ((0:Int)≤((i-1:Nat):Int)∧((i-1:Nat):Int)<(U.length:Int))=true:=bQ;have ha:G8 (U.getD (i-1) aU.d).i (U.getD i aU.d).i=true:=by
   have:=List.all_eq_true.1 h1 (i-1) (List.mem_range.2 (by omega));rw[show i-1+1=i by omega]at this;exact this
  have b1:Ah 100000 (U.getD (i-1) aU.d).i=true:=by
   have e:U.getD (i-1) aU.d=U[i-1]:=by simp[dR,show i-1<U.length by omega]
   rw[e];exact List.all_eq_true.1 h2 _ (List.getElem_mem _)
  have b2:Ah 100000 (U.getD i aU.d).i=true:=by
   have e:U.getD i aU.d=U[i]:=by simp[dR,hi]
   rw[e];exact List.all_eq_true.1 h2 _ (List.getElem_mem _)
  have b3:=(oo b1).2;have b4:=(oo b2).1;simp only[w1,w2,c1,c2,c3,c4,jf,nG,j3,dM,fM,b3,b4,ha,aU.aS,aU.bH,cond_true,Bool.true_and,Bool.not_true,sat_true];exact au (λ_=>ah rfl (au (λh=>by cases h) (λ_=>ah rfl (av hq)))) (λh=>by cases h)
 ·have c3:decide ((i:Int)>0)=false:=jK (by omega)
  simp only[w1,c1,c3,aU.aS,aU.bH,cond_false,sat_true];exact au (λ_=>ah rfl (au (λh=>by cases h) (λ_=>ah rfl (av hq)))) (λh=>by cases h)
theorem WR(U:List Uq)(i:Nat)(hi: ¬i<U.length){R:NaX ⊕ Unit×List Uq×Unit→Prop}(hq:R (.inr ((),U,()))):(Fq U (U.length:Int) (i:Nat)).sat R:=by
 have c1:decide ((i:Int)<(U.length:Int))=false:=jK (by omega);unfold Fq;simp only[c1,aU.aS,aU.bH];exact au (λh=>by cases h) (λ_=>ah rfl (av hq))
theorem agC(U:List Uq)(h1:PI U=true)(h2:qp U=true)(hn:U.length≤100000)(Q:Unit×List Uq×Unit→Prop)(hq:Q ((),U,())): ∀(k i:Nat),i+k=U.length→dJ (λx:NaX=>Fq x.2.1 x.2.2.1 x.2.2.2.1) Q (k+1) ((),U,(U.length:Nat),(i:Nat),())
 | 0,i,he=>WR U i (by omega) hq
 | k+1,i,he=>abR U h1 h2 hn i (by omega) (agC U h1 h2 hn Q hq k (i+1) (by omega))
theorem WS(U A:List Uq)(i:Nat)(hi: ¬i<A.length)(O:List Uq){R:TN ⊕ Zm→Prop}(hq:R (.inr ((O.length,()),(O,())))):(Fp U O.length A A (A.length:Int) (i:Nat) O).sat R:=by
 have c1:decide ((i:Int)<(A.length:Int))=false:=jK (by omega);unfold Fp;simp only[c1,aU.aS,aU.bH];exact au (λh=>by cases h) (λ_=>ah rfl (av hq))
theorem WT(A:List Uq)(i:Nat)(O:List Uq)(x:Uq):SF A i O x=O++[⟨⟨x.i.a,x.i.b,false,x.i.ob⟩,x.f⟩]∨SF A i O x=O++[x]:=by
 unfold SF;split
 ·exact .inl rfl
 ·exact .inr rfl
theorem WU(A:List Uq)(i:Nat)(O:List Uq)(x:Uq):SG A i O x=O∨SG A i O x=O++[⟨x.i,LH x.f x.i.a⟩]:=by
 unfold SG;split
 ·exact .inl rfl
 ·exact .inr rfl
theorem KF(A:List Uq)(i:Nat)(O:List Uq):Fj A i O=O∨(uw (A.getD i aU.d).i=true∧Fj A i O=O++[⟨(A.getD i aU.d).i,LH (A.getD i aU.d).f (A.getD i aU.d).i.a⟩])∨
  (∃o:Bool,Fj A i O=O++[⟨⟨(A.getD i aU.d).i.a,(A.getD i aU.d).i.b,o,(A.getD i aU.d).i.ob⟩,(A.getD i aU.d).f⟩])∨
  (0<O.length∧uw (gU O).i=false∧ ∃b o,Fj A i O=O.set (O.length-1) ⟨⟨(gU O).i.a,b,(gU O).i.oa,o⟩,(gU O).f⟩):=by
 rw[Zp];dsimp only;generalize A.getD i aU.d=x;have bf: ∀c:Bool,((decide (0<O.length)&&(decide ((gU O).i.b=x.i.a)&& !uw (gU O).i))&&c)=true→0<O.length∧uw (gU O).i=false:=by
  intro c h;simp only[cu,fT,Bool.not_eq_true']at h;exact⟨h.1.1,h.1.2.2⟩
 cases h2:uw x.i with
 | true=>
   rw[if_pos rfl]
   split
   ·rename_i h
    obtain⟨h3,h4⟩:=bf _ h;exact .inr (.inr (.inr ⟨h3,h4,_,_,rfl⟩))
   ·rcases WU A i O x with h|h<;>rw[h]
    ·exact .inl rfl
    ·exact .inr (.inl ⟨rfl,rfl⟩)
 | false=>
   rw[if_neg (by decide)]
   split
   ·rename_i h
    obtain⟨h3,h4⟩:=bf _ h;exact .inr (.inr (.inr ⟨h3,h4,_,_,rfl⟩))
   ·rcases WT A i O x with h|h<;>rw[h]
    ·exact .inr (.inr (.inl ⟨false,rfl⟩))
    ·exact .inr (.inr (.inl ⟨x.i.oa,rfl⟩))
theorem SH(A:List Uq)(i:Nat)(O:List Uq):(Fj A i O).length≤O.length+1:=by
 rcases KF A i O with h|⟨_,h⟩|⟨_,h⟩|⟨_,_,_,_,h⟩<;>rw[h]<;>simp
theorem agD(A:List Uq)(hA:WO A=true)(i:Nat)(hi:i<A.length)(O:List Uq)(h: ∀u∈O,uw u.i=false→Ki 1000000 u.f): ∀u∈Fj A i O,uw u.i=false→Ki 1000000 u.f:=by
 have hx:=mg.1 (PL hA hi).2;intro u hu hn;rcases KF A i O with e|⟨k,e⟩|⟨_,e⟩|⟨h0,h1,_,_,e⟩<;>rw[e]at hu
 ·exact h u hu hn
 ·rcases List.mem_append.1 hu with hu|hu
  ·exact h u hu hn
  ·simp only[List.mem_singleton]at hu
   subst hu;rw[k]at hn;cases hn
 ·rcases List.mem_append.1 hu with hu|hu
  ·exact h u hu hn
  ·simp only[List.mem_singleton]at hu
   subst hu;exact hx
 ·rcases List.mem_or_eq_of_mem_set hu with hu|hu
  ·exact h u hu hn
  ·subst hu
   exact(show Ki 1000000 (gU O).f from h (gU O) (Ns h0) h1)
theorem agE(U A:List Uq)(hA:WO A=true)(lA:A.length≤300000)(Q:Zm→Prop): ∀(n i:Nat) (O:List Uq),i+n=A.length→O.length≤i→(∀u∈O,uw u.i=false→Ki 1000000 u.f)→Q (((Np A n i O).length,()),(Np A n i O,()))→
  dJ (λx:TN=>Fp x.1.2.1 x.1.2.2.1 x.1.2.2.2.1 x.1.2.2.2.2.1 x.1.2.2.2.2.2.1 x.1.2.2.2.2.2.2.1 x.2.1) Q (n+1) (((),U,O.length,A,A,(A.length:Nat),(i:Nat),()),(O,()))
 | 0,i,O,he,hl,hO,hq=>WS U A i (by omega) O hq
 | n+1,i,O,he,hl,hO,hq=>by
   have hl2:=SH A i O;refine abQ U A hA i (by omega) lA O ⟨by omega,hO⟩ ?_;exact agE U A hA lA Q n (i+1) (Fj A i O) (by omega) (by omega) (agD A hA i (by omega) O hO) hq
theorem arl:bF Tryz.prog 0 LNq (codeOf Tryz.f95):=by
 refine bG (d:=λid=>Nat.beq id 0 || Nat.beq id 2) (λid=>by unfold LNq;cases Nat.beq id 0<;>cases Nat.beq id 2<;>rfl) _ ?_;have hb:bU (λid=>Nat.beq id 0 || Nat.beq id 2) (codeOf Tryz.f95)=[(0,.loop (bn 0 (codeOf Tryz.f95))),(2,.loop (bn 2 (codeOf Tryz.f95)))]:=by kernel_rfl
 rw[hb];intro p hp g hg;simp only[List.mem_cons,List.not_mem_nil,or_false]at hp;rcases hp with rfl|rfl
 ·have hh:LNq 0=some (WM.g 0):=rfl
  rw[hh]at hg;obtain rfl:g=WM.g 0:=(Option.some.inj hg).symm;refine aZ.sU (N:=1010) aj agx (L:=bX) (ak 0 _) abK (λx=>abP x) ?_;rintro⟨⟨⟩,U,n,i,⟨⟩⟩ hx;have hx:Nn ((),U,n,i,())=true:=hx;simp only[Nn,cu,fT]at hx;obtain⟨h1,h2,rfl,rfl,h5⟩:=hx;exact⟨_,agC U h1 h2 h5 (· =((),U,())) rfl U.length 0 (by omega)⟩
 ·have hh:LNq 2=some (WQ.g 0):=rfl
  rw[hh]at hg;obtain rfl:g=WQ.g 0:=(Option.some.inj hg).symm;refine aZ.sU (N:=1010) aj agx (L:=bX) (ak 0 _) abL (λx=>abO x) ?_;rintro⟨⟨⟨⟩,U,m,A,B,n,i,⟨⟩⟩,⟨O,⟨⟩⟩⟩ hx;have hx:Nq (((),U,m,A,B,n,i,()),(O,()))=true:=hx;simp only[Nq,cu,fT,kG]at hx;obtain⟨rfl,h2,rfl,h4,rfl,rfl,h7⟩:=hx;obtain rfl:O=[]:=List.length_eq_zero_iff.1 h4;exact⟨_,agE U A h2 h7 (· =(((PK A).length,()),(PK A,()))) A.length 0 [] (by omega) (by simp) (λ_ h=>by simp at h) rfl⟩
def MNm(U:List Uq):Tr AV:=
 let V:=aU.list U.length (aU.el U)
 let W:=aU.list V.length (aU.el V)
 let X:=aU.list W.length (aU.el W)
 let A:=iF X
 let B:=aU.list A.length (aU.el A)
 let N:=PK B
 Tr.need (aU.oks U.length (aU.el U))<| Tr.need (rO V)<| Tr.need (qp V)<| Tr.need (decide (V.length≤19))<|
  Tr.need (aU.oks V.length (aU.el V))<| Tr.need (Nn ((),W,(V.length:Int),0,()))<|
   Tr.need (aU.oks W.length (aU.el W))<| Tr.need (decide (X.length≤100000))<| Tr.need (aU.oks W.length (aU.el W))<| Tr.need (aU.oks A.length (aU.el A))<| Tr.need (aU.oks A.length (aU.el A))<| Tr.need true<|
    Tr.need (Nq (((),X,0,B,B,(A.length:Int),0,()),(aU.list 0 (λ_=> []),())))<| Tr.need (decide (N.length≤N.length))<|
     Tr.ret (.iC [aU.sl N,dn .i64 0])
theorem arn(U:List Uq):aI Tryz.prog ΓNm LNq 1010 Tryz.f95 [.c (.v (.iface 233 (.agg #[]))),aU.sl U]=MNm U:=by kernel_rfl
def SI(U:List Uq):List Uq:=PK (iF U)
def KNm:List AV→Option (AV×List Bool):=(F2 (nZ 233) aU.arg).K (λx=> .iC [aU.sl (SI x.2.1),dn .i64 0]) λx=> [rO x.2.1,qp x.2.1,PI x.2.1,WO (iF x.2.1),decide ((iF x.2.1).length≤300000),decide (x.2.1.length≤19)]
theorem aum:aN Tryz.prog 95 KNm:=
 (F2 (nZ 233) aU.arg).dO (N:=1010) (L:=LNq) aj ark (fn:=Tryz.f95) (c:=codeOf Tryz.f95) (by kernel_rfl) (by kernel_rfl) (by kernel_rfl) arl (λ_=>rfl) (M:=λx=>MNm x.2.1) (λx=>arn x.2.1)
  λx h=>by
   obtain⟨⟨⟩,U,⟨⟩⟩:=x;have h1:rO U=true:=h (rO U) (by simp);have h2:qp U=true:=h (qp U) (by simp);have h3:PI U=true:=h (PI U) (by simp);have h4:WO (iF U)=true:=h (WO (iF U)) (by simp);have h5:(iF U).length≤300000:=dec (h (decide ((iF U).length≤300000)) (by simp));have h6:U.length≤19:=dec (h (decide (U.length≤19)) (by simp));have c6:decide (U.length≤19)=true:=fZ h6;have c7:decide (U.length≤100000)=true:=bQ;have c8:decide ((PK (iF U)).length≤(PK (iF U)).length)=true:=fZ (Nat.le_refl _);have p1:Nn ((),U,(U.length:Int),0,())=true:=by
    simp only[Nn,h2,h3,Bool.true_and,cu,fT];exact⟨trivial,trivial,by omega⟩
   have e0:aU.list 0 (λ_=> [])=[]:=rfl;have p2:Nq (((),U,0,iF U,iF U,((iF U).length:Int),0,()),([],()))=true:=by
    simp only[Nq,h4,kG.2 rfl,Bool.true_and,cu,fT];exact⟨trivial,rfl,trivial,trivial,h5⟩
   simp only[MNm,aU.aS,aU.bH,h1,h2,c6,c7,c8,e0,p1,p2,sat_true];exact av rfl
end Go.bI
namespace Go.bI
open Go.Proofs
theorem abS{U:List Uq}(h:WO U=true):WO (iF U)=true:=by
 refine List.all_eq_true.2 λv hv=> ?_
 obtain⟨u,hu,hv⟩:=List.mem_flatMap.1 hv;have h1:=List.all_eq_true.1 h u hu;simp only[cu]at h1;obtain⟨a,b⟩:=oo h1.1;have key:v.f=u.f∧(v.i.a=u.i.a∨v.i.a=u.i.b)∧(v.i.b=u.i.a∨v.i.b=u.i.b):=by
  unfold rM at hv;revert hv;cases u.i.oa<;>cases decide (u.i.a=u.i.b)<;>cases u.i.ob<;>simp<;>intro hv<;>grind
 obtain⟨k1,k2,k3⟩:=key;rw[k1,h1.2,Bool.and_true];unfold Ah;rcases k2 with e|e<;>rcases k3 with f|f<;>rw[e,f]<;>simp[a,b]
theorem KG(U:List Uq):(iF U).length≤3*U.length:=by
 unfold iF
 induction U with
 | nil=>simp
 | cons u U ih=>
   have:=DR u;simp only[List.flatMap_cons,List.length_append,List.length_cons];omega
theorem Nt(A:List Uq): ∀(n i:Nat) (O:List Uq),(Np A n i O).length≤O.length+n
 | 0,_,_=>Nat.le_refl _
 | n+1,i,O=>by
   have h1:=Nt A n (i+1) (Fj A i O);have h2:=SH A i O
   show(Np A n (i+1) (Fj A i O)).length≤_
   omega
theorem SK(U:List Uq):(SI U).length≤3*U.length:=by
 have h1:=Nt (iF U) (iF U).length 0 [];have h2:=KG U;unfold SI PK;simp only[List.length_nil]at h1;omega
theorem aro{U:List Uq}(h:WO U=true):qp U=true:=List.all_eq_true.2 λu hu=>by
 have:=List.all_eq_true.1 h u hu;simp only[cu]at this;exact this.1
def KH(U:List Uq):Bool:=rO U&&(PI U&&(WO U&&decide (U.length≤19)))
def KMn:List AV→Option (AV×List Bool):=(F1 aU.arg).K (λx=> .iC [aU.sl (SI x.1),dn .i64 0]) λx=> [KH x.1]
def ΓMn:FuncId→Option Spec:=λf=>bif Nat.beq f 65 then some (ay KUn)else bif Nat.beq f 72 then some (ay KNu)else bif Nat.beq f 95 then some (ay KNm)else none
theorem arp: ∀f s,ΓMn f=some s→aR Tryz.prog f s:=step_ok atK.spec (step_ok atM.spec (bS aum.spec))
def MMn(U:List Uq):Tr AV:=
 let V:=aU.list U.length (aU.el U)
 let W:=aU.list V.length (aU.el V)
 let N:=SI W
 let X:=aU.list N.length (aU.el N)
 Tr.need (aU.oks U.length (aU.el U))<| Tr.need (decide (V.length≤100000))<| Tr.need (aU.oks V.length (aU.el V))<| Tr.need (rO W)<| Tr.need (qp W)<| Tr.need (PI W)<| Tr.need (WO (iF W))<| Tr.need (decide ((iF W).length≤300000))<| Tr.need (decide (W.length≤19))<|
  Tr.need (aU.oks N.length (aU.el N))<| Tr.need (decide (X.length≤100000))<| Tr.ret (.iC [aU.sl X,dn .i64 0])
theorem arq(U:List Uq):aI Tryz.prog (AQ Tryz.prog ΓMn (λ_=>false) 1010 2) bX 1010 Tryz.f46 [aU.sl U]=MMn U:=by kernel_rfl
theorem aun:aN Tryz.prog 46 KMn:=
 (F1 aU.arg).dO (N:=1010) (L:=bX) aj (l7 aj arp 2) (fn:=Tryz.f46) (c:=codeOf Tryz.f46) (by kernel_rfl) (by kernel_rfl) (by kernel_rfl) (ak _ _) (λ_=>rfl) (M:=λx=>MMn x.1) (λx=>arq x.1)
  λx h=>by
   obtain⟨U,⟨⟩⟩:=x;have h0:KH U=true:=h (KH U) (by simp);simp only[KH,cu,fT]at h0;obtain⟨h1,h2,h3,h4⟩:=h0;have h5:=aro h3;have h6:=abS h3;have l1:=KG U;have l2:=SK U;have c1:decide ((iF U).length≤300000)=true:=bQ;have c2:decide (U.length≤19)=true:=fZ h4;have c3:decide (U.length≤100000)=true:=bQ;have c4:decide ((SI U).length≤100000)=true:=bQ;simp only[MMn,aU.aS,aU.bH,h1,h2,h5,h6,c1,c2,c3,c4,sat_true];exact av rfl
def ΓDi:FuncId→Option Spec:=λf=>bif Nat.beq f 44 then some (ay KPt)else bif Nat.beq f 43 then some (ay KRf)else bif Nat.beq f 46 then some (ay KMn)else none
theorem ars: ∀f s,ΓDi f=some s→aR Tryz.prog f s:=step_ok atI.spec (step_ok atG.spec (bS aun.spec))
def MDi(A B:List Ul):Tr AV:=
 let A1:=gD.list A.length (gD.el A)
 let B1:=gD.list B.length (gD.el B)
 let A2:=gD.list A1.length (gD.el A1)
 let B2:=gD.list B1.length (gD.el B1)
 let R:=refine A2 B2
 let S:=rU.list R.length (rU.el R)
 let D:=jv S
 let E:=aU.list S.length (aU.el D)
 let N:=SI E
 Tr.need (gD.oks A.length (gD.el A))<| Tr.need (decide (A1.length≤100000))<| Tr.need (gD.oks B.length (gD.el B))<| Tr.need (decide (B1.length≤100000))<|
  Tr.need (gD.oks A1.length (gD.el A1))<| Tr.need (gD.oks B1.length (gD.el B1))<| Tr.need (Lb A2)<| Tr.need (Lb B2)<| Tr.need (decide (A2.length≤100000))<| Tr.need (decide (B2.length≤100000))<|
   Tr.need (rU.oks R.length (rU.el R))<| Tr.need true<| Tr.need (Nf ((0,S,(R.length:Int),0,()),(aU.list 0 (λ_=> []),())))<| Tr.need (decide (S.length≤D.length))<| Tr.need (aU.oks S.length (aU.el D))<| Tr.need (KH E)<|
    Tr.ret (aU.sl N)
theorem aru(A B:List Ul):aI Tryz.prog ΓDi LDc 1010 Tryz.f16 [gD.sl A,gD.sl B]=MDi A B:=by kernel_rfl
def qw(A B:List Ul):List Uq:=SI (jv (refine A B))
def KDi:List AV→Option (AV×List Bool):=(F2 gD.arg gD.arg).K (λx=>aU.sl (qw x.1 x.2.1)) λx=> [Lb x.1,Lb x.2.1,decide (x.1.length≤100),decide (x.2.1.length≤100),R6 (refine x.1 x.2.1),KH (jv (refine x.1 x.2.1))]
theorem auo:aN Tryz.prog 16 KDi:=
 (F2 gD.arg gD.arg).dO (N:=1010) (L:=LDc) aj ars (fn:=Tryz.f16) (c:=codeOf Tryz.f16) (by kernel_rfl) (by kernel_rfl) (by kernel_rfl) aqQ (λ_=>rfl) (M:=λx=>MDi x.1 x.2.1) (λx=>aru x.1 x.2.1)
  λx h=>by
   obtain⟨A,B,⟨⟩⟩:=x;have h1:Lb A=true:=h (Lb A) (by simp);have h2:Lb B=true:=h (Lb B) (by simp);have h3:A.length≤100:=dec (h (decide (A.length≤100)) (by simp));have h4:B.length≤100:=dec (h (decide (B.length≤100)) (by simp));have h5:R6 (refine A B)=true:=h (R6 (refine A B)) (by simp);have h6:KH (jv (refine A B))=true:=h (KH (jv (refine A B))) (by simp);have c1:decide (A.length≤100000)=true:=bQ;have c2:decide (B.length≤100000)=true:=bQ;have l1:=II _ A B [] (Nat.le_refl _);have l2:(refine A B).length≤300000:=by
    show(ref A B []).length≤_
    simp only[List.length_nil]at l1;omega
   have e0:aU.list 0 (λ_=> [])=[]:=rfl;have dl:(jv (refine A B)).length=(refine A B).length:=by simp[jv]
   have c3:decide ((refine A B).length≤(jv (refine A B)).length)=true:=bQ;have p1:Nf ((0,refine A B,((refine A B).length:Int),0,()),([],()))=true:=by
    simp only[Nf,h5,Bool.true_and,cu,fT];exact⟨trivial,rfl,trivial,trivial,l2⟩
   have k1:=aU.aS (jv (refine A B));have k2:=aU.bH (jv (refine A B)) (refine A B).length;rw[dl]at k1;simp only[MDi,gD.aS,gD.bH,rU.aS,rU.bH,h1,h2,c1,c2,c3,e0,p1,k1,k2,h6,sat_true];exact av rfl
end Go.bI
namespace Go.bI
open Go.Proofs
def ams(x:R3):Bool:=decide (x.r=0)&& !x.neg
theorem Zq{x:R3}(h:ams x=true):Si x:=by
 simp only[ams,cu,fT,Bool.not_eq_true']at h;exact h
def okU(u:Ul):Bool:=ams u.i.a&&(ams u.i.b&&(Ah 100000 u.i&&(Pp 10000 u.f&&rJ u.i)))
def abT:List Ul→Bool
 | x::y::l=>G8 x.i y.i&&abT (y::l)
 | _=>true
def yM(A:List Ul):Bool:=A.all okU&&(abT A&&decide (A.length≤9))
theorem vH{u:Ul}(h:okU u=true):nX u.i∧abG u.i∧Ah 100000 u.i=true∧Pp 10000 u.f=true:=by
 simp only[okU,cu]at h;obtain⟨h1,h2,h3,h4,h5⟩:=h;have hk:nX u.i:=⟨Zq h1,Zq h2⟩
 exact⟨hk,(Fe hk).1 h5,h3,h4⟩
theorem WV{i:Ig}(h:nX i)(hv:abG i):nW (Eb i) (lsB i):=by
 rcases Wz h.f h.l with k|k
 ·exact k
 ·exact absurd k hv
theorem Zr: ∀{A:List Ul},(∀u∈A,okU u=true)→abT A=true→vG A
 | [],_,_=>⟨λ_ h=>by simp at h,λ_ h=>by simp at h,.nil⟩
 | [x],h,_=>by
   obtain⟨h1,h2,_⟩:=vH (h x (by simp));exact⟨λu hu=>by simp only[List.mem_singleton]at hu;subst hu;exact h1,λu hu=>by simp only[List.mem_singleton]at hu;subst hu;exact h2,List.pairwise_singleton _ _⟩
 | x::y::l,h,ha=>by
   simp only[abT,cu]at ha;have ih:=Zr (A:=y::l) (λu hu=>h u (.tail _ hu)) ha.2;obtain⟨h1,h2,_⟩:=vH (h x (by simp));have hy:=ih.ok y (by simp);have vy:=WV hy (ih.vd y (by simp));have a1:=(Zh _ _).1 ha.1;refine⟨λu hu=> ?_,λu hu=> ?_,List.pairwise_cons.2 ⟨λu hu=> ?_,ih.pw⟩⟩
   ·rcases List.mem_cons.1 hu with e|e
    ·rw[e];exact h1
    ·exact ih.ok u e
   ·rcases List.mem_cons.1 hu with e|e
    ·rw[e];exact h2
    ·exact ih.vd u e
   ·rcases List.mem_cons.1 hu with e|e
    ·rw[e];exact a1
    ·have hu:=ih.ok u (.tail _ e)
     exact jB h1.l hy.f hu.f a1 (jB hy.f hy.l hu.f vy ((List.pairwise_cons.1 ih.pw).1 u e))
theorem wT{A:List Ul}(h:yM A=true):vG A∧A.length≤9∧ ∀u∈A,okU u=true:=by
 simp only[yM,cu,fT]at h;have:=List.all_eq_true.1 h.1;exact⟨Zr this h.2.1,h.2.2,this⟩
theorem WW(o:List Ub):jv (o.map swU)=jv o:=by
 unfold jv;rw[List.map_map];refine List.map_congr_left λu _=> ?_
 show(⟨u.i,qb u.g u.f⟩:Uq)=⟨u.i,qb u.f u.g⟩
 rw[V4]
theorem abU{A B:List Ul}(hA:yM A=true)(hB:yM B=true):qw B A=qw A B:=by
 unfold qw;rw[Sl (wT hA).1 (wT hB).1,WW]
theorem agF{f g:L4}(hf:Pp 10000 f=true)(hg:Pp 10000 g=true):Ki 1000000 (qb f g):=by
 obtain⟨a0,a1,a2,a3⟩:=IC hf;obtain⟨b0,b1,b2,b3⟩:=IC hg;have z:=Bt.zero 0;have s0:=a0.sub b0;have s1:=a1.sub b1;have s2:=a2.sub b2;have s3:=a3.sub b3;have sz:=z.sub z;exact⟨((s0.mul s0).add (s2.mul s2)).mono (by decide),(((s0.mul s1).add (s1.mul s0)).add ((s2.mul s3).add (s3.mul s2))).mono (by decide),((((s0.mul sz).add (sz.mul s0)).add (s1.mul s1)).add (((s2.mul sz).add (sz.mul s2)).add (s3.mul s3))).mono (by decide)⟩
theorem arv{u v:Uq}(hu:nX u.i)(hv:nX v.i)(h1:nW (Eb v.i) (Eb u.i))(h2:nW (lsB v.i) (lsB u.i)): ¬Ws u v<0:=by
 unfold Ws iX iX iX iX;have s1:=lV hv.a hu.a;have s2:=lV hv.b hu.b;unfold nW Eb at h1;unfold nW lsB at h2;dsimp only at h1 h2;have h3:iO v.i.b u.i.b≤0:=by rcases h2 with h2|h2<;>omega
 rcases h1 with h1|⟨h1,h4⟩
 ·rw[if_neg (by omega)];omega
 ·rw[if_pos (by omega)]
  unfold gW Sb;cases ho:v.i.oa with
  | true=>
    rw[h4 ho];rw[if_pos (by decide)]
    split<;>omega
  | false=>
    cases hp:u.i.oa with
    | true=>rw[if_neg (by decide)];decide
    | false=>
      rw[if_pos (by decide)]
      split<;>omega
theorem Aq(R:List Ub){k:Nat}(hk:k<R.length):(jv R).getD k aU.d=⟨R[k].i,qb R[k].f R[k].g⟩:=by
 have:k<(jv R).length:=by simpa[jv]using hk
 simp[jv,dR,hk]
theorem agG{R:List Ub}(h:Ni R):rO (jv R)=true:=by
 refine List.all_eq_true.2 λk hk=> ?_
 have hk:=List.mem_range.1 hk;have hl:(jv R).length=R.length:=by simp[jv]
 rw[hl]at hk;rw[Aq R (show k<R.length by omega),Aq R (show k+1<R.length by omega)];have p:=List.pairwise_iff_getElem.1 h.pw k (k+1) (by omega) (by omega) (by omega);have o1:=h.ok _ (List.getElem_mem (show k<R.length by omega));have o2:=h.ok _ (List.getElem_mem (show k+1<R.length by omega));have v1:=WV o1 (h.vd _ (List.getElem_mem (show k<R.length by omega)));have v2:=WV o2 (h.vd _ (List.getElem_mem (show k+1<R.length by omega)));rw[jK (arv (u:=⟨R[k+1].i,_⟩) (v:=⟨R[k].i,_⟩) o2 o1 (jB o1.f o1.l o2.f v1 p) (jB o1.l o2.f o2.l p v2))];rfl
theorem agH{R:List Ub}(h:Ni R):PI (jv R)=true:=by
 refine List.all_eq_true.2 λk hk=> ?_
 have hk:=List.mem_range.1 hk;have hl:(jv R).length=R.length:=by simp[jv]
 rw[hl]at hk;rw[Aq R (show k<R.length by omega),Aq R (show k+1<R.length by omega)];exact(Zh _ _).2 (List.pairwise_iff_getElem.1 h.pw k (k+1) (by omega) (by omega) (by omega))
theorem arw{i j:Ig}(hi:Ah 100000 i=true)(hj:Ah 100000 j=true):Ah 100000 (jF i j)=true:=by
 obtain⟨a1,b1⟩:=oo hi;obtain⟨a2,b2⟩:=oo hj;unfold Ah jF;dsimp only;rw[cu];constructor<;>split<;>assumption
theorem SL{A B:List Ul}(hA:yM A=true)(hB:yM B=true):Lb A=true∧Lb B=true∧R6 (refine A B)=true∧KH (jv (refine A B))=true:=by
 obtain⟨gA,lA,uA⟩:=wT hA;obtain⟨gB,lB,uB⟩:=wT hB;have g:=Sn gA gB;refine⟨List.all_eq_true.2 λu hu=>(vH (uA u hu)).2.2.1,List.all_eq_true.2 λu hu=>(vH (uB u hu)).2.2.1,List.all_eq_true.2 λp hp=> ?_,?_⟩
 ·obtain⟨x,hx,y,hy,rfl⟩:=Kw hp
  show(Pp 10000 x.f&&Pp 10000 y.f)=true
  rw[(vH (uA x hx)).2.2.2,(vH (uB y hy)).2.2.2];rfl
 ·simp only[KH,cu,fT]
  refine⟨agG g,agH g,List.all_eq_true.2 λu hu=> ?_,?_⟩
  ·obtain⟨p,hp,rfl⟩:=List.mem_map.1 hu
   obtain⟨x,hx,y,hy,rfl⟩:=Kw hp;obtain⟨_,_,b1,c1⟩:=vH (uA x hx);obtain⟨_,_,b2,c2⟩:=vH (uB y hy);rw[cu];exact⟨arw b1 b2,mg.2 (agF c1 c2)⟩
  ·have l1:=II _ A B [] (Nat.le_refl _)
   simp only[List.length_nil]at l1;have:(jv (refine A B)).length=(ref A B []).length:=by unfold jv;rw[List.length_map];rfl
   omega
def KDp:List AV→Option (AV×List Bool):=(F2 gD.arg gD.arg).K (λx=>aU.sl (qw x.1 x.2.1)) λx=> [yM x.1,yM x.2.1]
theorem agI:aN Tryz.prog 16 KDp:=
 Form.weaken _ auo (λ_=>rfl) λx h=>by
  obtain⟨A,B,⟨⟩⟩:=x;have hA:yM A=true:=h (yM A) (by simp);have hB:yM B=true:=h (yM B) (by simp);obtain⟨h1,h2,h3,h4⟩:=SL hA hB;have lA:=(wT hA).2.1;have lB:=(wT hB).2.1;refine⟨_,_,rfl,?_,?_⟩
  ·simp only[gD.aS,gD.bH,h1,h2,h3,h4,fZ (show A.length≤100 by omega),fZ (show B.length≤100 by omega)]
   simp
  ·simp only[gD.aS]
end Go.bI
namespace Go.bI
open Go.Proofs
def Un.iv(u:Un):Iv:=⟨u.a,u.b,u.oa,u.ob⟩
def Nu(b:Nat):Arg Nat where
 get:=λa=>match a with | .iP b' n 36=>bif Nat.beq b b' then some (n,[])else none | _=>none
 put:=λn=> .iP b n 36
 ok:=by
  intro a x cs h hc
  split at h
  ·rename_i b' n
   cases hb:Nat.beq b b' with
   | false=>rw[hb]at h;cases h
   | true=>
     obtain rfl:b=b':=by simpa using hb
     rw[hb]at h;simp only[cond_true,fK,Prod.mk.injEq]at h;obtain⟨rfl,_⟩:=h;exact bM.refl _
  ·cases h
def aup:nJ (List Un) where
 parse:=λe=>match e with | [some (.arr m 36 el 185)]=>some (cB m el,[eH m el]) | _=>none
 ents:=λU=> [some (.arr U.length 36 (bZ U) 185)]
 ok:=by
  intro e x cs h hc
  split at h
  ·simp only[fK,Prod.mk.injEq]at h
   obtain⟨rfl,rfl⟩:=h;rename_i m el;have:=wQ (n:=m) (el:=el) (hc _ (by simp));rw[tq];exact .cons (.arr _ _ _ _ _ this) .nil
  ·cases h
def Γn:FuncId→Option Spec:=λf=>bif Nat.beq f 130 then some (ay K48)else bif Nat.beq f 142 then some (ay aqt)else bif Nat.beq f 171 then some (ay atn)else bif Nat.beq f 354 then some (ay an7)else bif Nat.beq f 355 then some (ay an6)else bif Nat.beq f 356 then some (ay an5)else bif Nat.beq f 169 then some (ay at0)else bif Nat.beq f 170 then some (ay aua)else none
abbrev WX:=Unit×List Un×Int×Int×Unit
abbrev avM:Form WX:= .cons (nZ 223) (.cons l9 (.cons bK (.cons bK .nil)))
def apB(U:List Un):Bool:=(List.range (U.length-1)).all λk=>EU (U.getD k u0).iv (U.getD (k+1) u0).iv
def Fw(x:WX):Bool:=apB x.2.1&&(qc x.2.1&&(decide (x.2.2.1=(x.2.1.length:Nat))&&(decide (0≤x.2.2.2.1)&&(decide (x.2.2.2.1≤(x.2.1.length:Nat))&&decide (x.2.1.length≤1000)))))
def KI:aZ WX (Unit×List Un×Unit):=yA {nt:=219,live:=[0,1,17,18]} {nt:=219,live:=[0,1]} (fJ.pure avM) (fJ.pure (F2 (nZ 223) l9)) (λx=>((),x.2.1,())) Fw
theorem WY:KI.gI:=eG _ _ _ _ _ _
def eqU(u v:Un):Bool:=decide (u.a=v.a)&&(decide (u.b=v.b)&&(decide (u.oa=v.oa)&&(decide (u.ob=v.ob)&&Pk u.f v.f)))
theorem amt{u v:Un}:eqU u v=true↔u=v:=by
 obtain⟨a,b,c,d,e⟩:=u;obtain⟨a',b',c',d',e'⟩:=v;simp only[eqU,cu,fT,IJ,Un.mk.injEq]
def SN:List Un→List Un→Bool
 | [],[]=>true
 | u::l,v::m=>eqU u v&&SN l m
 | _,_=>false
theorem KJ: ∀{l m:List Un},SN l m=true↔l=m
 | [],[]=>by simp[SN]
 | [],_::_=>by simp[SN]
 | _::_,[]=>by simp[SN]
 | u::l,v::m=>by simp only[SN,cu,amt,KJ,List.cons.injEq]
abbrev uM:=(Unit×List Un×Nat×List Un×List Un×Int×Int×Unit)×List Un
abbrev avN:Form (Unit×List Un×Nat×List Un×List Un×Int×Int×Unit):= .cons (nZ 223) (.cons l9 (.cons (Nu 0) (.cons l9 (.cons l9 (.cons bK (.cons bK .nil))))))
def Fx(x:uM):Bool:=mI x.1.2.1&&(decide (x.1.2.2.1=0)&&(decide (x.2.length=0)&&(SN x.1.2.2.2.1 (dL x.1.2.1)&&(SN x.1.2.2.2.2.1 (dL x.1.2.1)&&(decide (x.1.2.2.2.2.2.1=((dL x.1.2.1).length:Nat))&&(decide (x.1.2.2.2.2.2.2.1=0)&&decide (x.1.2.1.length≤300)))))))
def KL:aZ uM ((Nat×Unit)×List Un):=yA {nt:=219,live:=[0,1,7,8,41,42,43],lifts:=[(7,36,185)]} {nt:=219,live:=[7],lifts:=[(7,36,185)]} (fJ.with aup avN) (fJ.with aup (F1 (Nu 0))) (λx=>(((mJ x.1.2.1).length,()),mJ x.1.2.1)) Fx
theorem WZ:KL.gI:=eG _ _ _ _ _ _
def L49:Nat→Option (St→Tr (Ex×St)):=λid=>bif Nat.beq id 0 then some (KI.g 0)else bif Nat.beq id 2 then some (KL.g 0)else none
theorem agJ: ∀f s,Γn f=some s→aR Tryz.prog f s:=step_ok aqs.spec (step_ok Y6.spec (step_ok ala.spec (step_ok ags.spec (step_ok agr.spec (step_ok agq.spec (step_ok al5.spec (bS ame.spec)))))))
def xV(U:List Un)(n:Int)(i:Int):Tr (WX ⊕ Unit×List Un×Unit):=
 let x1:Bool:=decide (i>0)
 let x2:Int:=IntKind.i64.wrap (i-1)
 let x3:Int:= ↑U.length
 let x4:Int:=(U.getD x2.toNat u0).a
 let x5:Int:=(U.getD x2.toNat u0).b
 let x6:List AV:=[.c (.v (.bool (decide (x4<0)))),.c (.v (.string ⟨⟨aA x4.natAbs⟩⟩)),.c (.v (.bool false)),.c (.v (.string ⟨⟨aH 1⟩⟩)),.c (.v (.bool false)),.c (.v (.string ⟨⟨[]⟩⟩)),.c (.v (.bool false)),.c (.v (.string ⟨⟨[]⟩⟩)),.c (.v (.bool false)),.c (.v (.bool (decide (x5<0)))),.c (.v (.string ⟨⟨aA x5.natAbs⟩⟩)),.c (.v (.bool false)),.c (.v (.string ⟨⟨aH 1⟩⟩)),.c (.v (.bool false)),.c (.v (.string ⟨⟨[]⟩⟩)),.c (.v (.bool false)),.c (.v (.string ⟨⟨[]⟩⟩)),.c (.v (.bool false)),.c (.v (.bool (U.getD x2.toNat u0).oa)),.c (.v (.bool (U.getD x2.toNat u0).ob))]
 let x7:Int:=(U.getD i.toNat u0).a
 let x8:Int:=(U.getD i.toNat u0).b
 let x9:List AV:=[.c (.v (.bool (decide (x7<0)))),.c (.v (.string ⟨⟨aA x7.natAbs⟩⟩)),.c (.v (.bool false)),.c (.v (.string ⟨⟨aH 1⟩⟩)),.c (.v (.bool false)),.c (.v (.string ⟨⟨[]⟩⟩)),.c (.v (.bool false)),.c (.v (.string ⟨⟨[]⟩⟩)),.c (.v (.bool false)),.c (.v (.bool (decide (x8<0)))),.c (.v (.string ⟨⟨aA x8.natAbs⟩⟩)),.c (.v (.bool false)),.c (.v (.string ⟨⟨aH 1⟩⟩)),.c (.v (.bool false)),.c (.v (.string ⟨⟨[]⟩⟩)),.c (.v (.bool false)),.c (.v (.string ⟨⟨[]⟩⟩)),.c (.v (.bool false)),.c (.v (.bool (U.getD i.toNat u0).oa)),.c (.v (.bool (U.getD i.toNat u0).ob))]
 let x10:Bool:=eH U.length (bZ U)
 let fI:List Un:=cB U.length (bZ U)
 .ite (decide (i<n)) (.need (bif x1 then decide (0≤x2∧x2<x3)&&(decide (0≤i∧i<x3)&&(DJ x6&&(DJ x9&&(Ag (xP (List.take 9 (List.drop 9 x6)))&&(Ag (xP (List.take 9 x9))&&true)))))else true) (.ite (bif x1 then bif true then !EU (ivV x6) (ivV x9)else false else false) (.fail "out") (.need x10 (.ret (Sum.inl ((),fI,n,IntKind.i64.wrap (i+1),())))))) (.need x10 (.ret (Sum.inr ((),fI,()))))
def jr(U:List Un)(m:Nat)(A:List Un)(B:List Un)(n:Int)(i:Int)(O:List Un):Tr (uM ⊕ (Nat×Unit)×List Un):=
 let x1:Int:= ↑B.length
 let x2:Int:= ↑m
 let x3:Bool:=decide (x2>0)
 let x4:Int:=IntKind.i64.wrap (x2-1)
 let x5:Bool:=decide (0≤x4∧x4<x2)
 let x6:Nat:=x4.toNat
 let x7:Bool:=decide (x6<O.length)
 let x8:Bool:=false==false
 let x9:List Bool:=[x8]
 let x10:Bool:=bA ((([]:List UInt8)==[])::x9).reverse
 let fI:Bool:=bA [x10,x10].reverse
 let fU:List UInt8:=aH 1
 let iM:Bool:=bA ((fU==fU)::x9).reverse
 let iR:Int:=(O.getD x6 u0).b
 let jH:List UInt8:=aA iR.natAbs
 let kE:Int:=(B.getD i.toNat u0).a
 let jD:List UInt8:=aA kE.natAbs
 let x18:Bool:=decide (iR<0)
 let lW:Bool:=decide (kE<0)
 let x20:Bool:=bif true then bA [x8,fI,bA [iM,bA [jH==jD,x18==lW].reverse].reverse].reverse else false
 let x21:Int:=(O.getD x6 u0).a
 let lZ:IV:=IV.v (.string ⟨⟨fU⟩⟩)
 let x23:IV:=IV.v (.string ⟨⟨[]⟩⟩)
 let x24:Bool:=(O.getD x6 u0).ob
 let x25:List AV:=[.c (.v (.bool (decide (x21<0)))),.c (.v (.string ⟨⟨aA x21.natAbs⟩⟩)),.c (.v (.bool false)),AV.c lZ,.c (.v (.bool false)),AV.c x23,.c (.v (.bool false)),AV.c x23,.c (.v (.bool false)),.c (.v (.bool x18)),.c (.v (.string ⟨⟨jH⟩⟩)),.c (.v (.bool false)),AV.c lZ,.c (.v (.bool false)),AV.c x23,.c (.v (.bool false)),AV.c x23,.c (.v (.bool false)),.c (.v (.bool (O.getD x6 u0).oa)),.c (.v (.bool x24))]
 let rY:Bool:=x5&&(x7&&(DJ x25&&true))
 let x27:Int:=xP (List.take 9 x25)
 let x28:Int:=xP (List.take 9 (List.drop 9 x25))
 let x29:Bool:=bif true then !decide (x27=x28)else false
 let x30:IV:=IV.v (.bool lW)
 let x31:IV:=IV.v (.string ⟨⟨jD⟩⟩)
 let x32:Int:=(B.getD i.toNat u0).b
 let pV:IV:=IV.v (.bool (decide (x32<0)))
 let x34:IV:=IV.v (.string ⟨⟨aA x32.natAbs⟩⟩)
 let yF:IV:=IV.v (.bool (B.getD i.toNat u0).oa)
 let vk:IV:=IV.v (.bool (B.getD i.toNat u0).ob)
 let r9:List AV:=[AV.c x30,AV.c x31,.c (.v (.bool false)),AV.c lZ,.c (.v (.bool false)),AV.c x23,.c (.v (.bool false)),AV.c x23,.c (.v (.bool false)),AV.c pV,AV.c x34,.c (.v (.bool false)),AV.c lZ,.c (.v (.bool false)),AV.c x23,.c (.v (.bool false)),AV.c x23,.c (.v (.bool false)),AV.c yF,AV.c vk]
 let x38:Bool:=DJ r9
 let x39:Int:=xP (List.take 9 r9)
 let x40:Int:=xP (List.take 9 (List.drop 9 r9))
 let x41:Bool:= !decide (x39=x40)
 let GU:Bool:=bif true then !x24 else false
 let x43:Int:=(O.getD x6 u0).f.x0.num
 let Gs:Int:=(O.getD x6 u0).f.x1.num
 let GV:Int:=(O.getD x6 u0).f.y0.num
 let Iq:Int:=(O.getD x6 u0).f.y1.num
 let Ea:List AV:=[.c (.v (.bool (decide (x43<0)))),.c (.v (.string ⟨⟨aA x43.natAbs⟩⟩)),.c (.v (.bool false)),.c (.v (.string ⟨⟨aH (O.getD x6 u0).f.x0.den⟩⟩)),.c (.v (.bool (decide (Gs<0)))),.c (.v (.string ⟨⟨aA Gs.natAbs⟩⟩)),.c (.v (.bool false)),.c (.v (.string ⟨⟨aH (O.getD x6 u0).f.x1.den⟩⟩)),.c (.v (.bool (decide (GV<0)))),.c (.v (.string ⟨⟨aA GV.natAbs⟩⟩)),.c (.v (.bool false)),.c (.v (.string ⟨⟨aH (O.getD x6 u0).f.y0.den⟩⟩)),.c (.v (.bool (decide (Iq<0)))),.c (.v (.string ⟨⟨aA Iq.natAbs⟩⟩)),.c (.v (.bool false)),.c (.v (.string ⟨⟨aH (O.getD x6 u0).f.y1.den⟩⟩))]
 let La:Bool:=gL Ea
 let J5:Int:=(B.getD i.toNat u0).f.x0.num
 let Ca:IV:=IV.v (.bool (decide (J5<0)))
 let Bl:IV:=IV.v (.string ⟨⟨aA J5.natAbs⟩⟩)
 let EO:IV:=IV.v (.string ⟨⟨aH (B.getD i.toNat u0).f.x0.den⟩⟩)
 let x53:Int:=(B.getD i.toNat u0).f.x1.num
 let x54:IV:=IV.v (.bool (decide (x53<0)))
 let x55:IV:=IV.v (.string ⟨⟨aA x53.natAbs⟩⟩)
 let Nv:IV:=IV.v (.string ⟨⟨aH (B.getD i.toNat u0).f.x1.den⟩⟩)
 let Zt:Int:=(B.getD i.toNat u0).f.y0.num
 let Qj:IV:=IV.v (.bool (decide (Zt<0)))
 let SQ:IV:=IV.v (.string ⟨⟨aA Zt.natAbs⟩⟩)
 let PO:IV:=IV.v (.string ⟨⟨aH (B.getD i.toNat u0).f.y0.den⟩⟩)
 let x61:Int:=(B.getD i.toNat u0).f.y1.num
 let SE:IV:=IV.v (.bool (decide (x61<0)))
 let Zu:IV:=IV.v (.string ⟨⟨aA x61.natAbs⟩⟩)
 let Zv:IV:=IV.v (.string ⟨⟨aH (B.getD i.toNat u0).f.y1.den⟩⟩)
 let x65:List AV:=[AV.c SE,AV.c Zu,.c (.v (.bool false)),AV.c Zv]
 let x66:List AV:=AV.c Ca::AV.c Bl:: .c (.v (.bool false))::AV.c EO::AV.c x54::AV.c x55:: .c (.v (.bool false))::AV.c Nv::AV.c Qj::AV.c SQ:: .c (.v (.bool false))::AV.c PO::x65
 let x67:Bool:=gL x66
 let x68:Bool:=x7&&(La&&(x67&&true))
 let x69:Bool:=Pk (fA Ea) (fA x66)
 let x70:Bool:=bif true then x69 else false
 let W9:Bool:=eH U.length (bZ U)
 let Xa:Bool:=eH A.length (bZ A)
 let x73:Bool:=eH B.length (bZ B)
 let x74:Nat:=0+0
 let x75:Nat:=x74+19
 let x76:List Un:=cB U.length (bZ U)
 let Lc:Int:=IntKind.i64.wrap (i+1)
 let x78:Bool:=decide (i>0)
 let x79:Int:=IntKind.i64.wrap (i-1)
 let x80:Int:= ↑A.length
 let x81:Bool:=decide (0≤x79∧x79<x80)
 let x82:Int:=(A.getD x79.toNat u0).a
 let x83:Bool:=decide (x82<0)
 let x84:List UInt8:=aA x82.natAbs
 let x85:Int:=(A.getD x79.toNat u0).b
 let x86:List AV:=[.c (.v (.bool x83)),.c (.v (.string ⟨⟨x84⟩⟩)),.c (.v (.bool false)),AV.c lZ,.c (.v (.bool false)),AV.c x23,.c (.v (.bool false)),AV.c x23,.c (.v (.bool false)),.c (.v (.bool (decide (x85<0)))),.c (.v (.string ⟨⟨aA x85.natAbs⟩⟩)),.c (.v (.bool false)),AV.c lZ,.c (.v (.bool false)),AV.c x23,.c (.v (.bool false)),AV.c x23,.c (.v (.bool false)),.c (.v (.bool (A.getD x79.toNat u0).oa)),.c (.v (.bool (A.getD x79.toNat u0).ob))]
 let x87:Int:=xP (List.take 9 x86)
 let x88:Int:=xP (List.take 9 (List.drop 9 x86))
 let x89:Bool:=bif true then decide (x87=x88)else false
 let x90:Bool:=bif true then bA [x8,fI,bA [iM,bA [x84==jD,x83==lW].reverse].reverse].reverse else false
 let x91:Bool:=decide (m≤O.length)
 let x92:List AV:=[AV.c x30,AV.c x31,.c (.v (.bool false)),AV.c lZ,.c (.v (.bool false)),AV.c x23,.c (.v (.bool false)),AV.c x23,.c (.v (.bool false))]
 let x93:Bool:=vV x92
 let x94:List Un:=cB m (bZ O)
 let x95:Bool:=x91&&(eH m (bZ O)&&(x93&&(decide (x94.length≤1000)&&true)))
 let x96:Bool:=x81&&bif x90 then x95 else true
 let x97:Bool:=bif false then x95 else true
 let x98:Int:=xP x92
 let x99:Bool:=bif true then !Bo x94 x98 else false
 let x100:Bool:=bif x90 then x99 else false
 let x101:Bool:=bif false then x99 else false
 let x102:Nat:=m+1
 let x103:Bool:=decide (x102≤9223372036854775807)
 let x104:Nat:=x102*408
 let x105:Bool:=decide (x104≤140737488355328)
 let sM:Nat:=35+1
 let x107:List IV:=[IV.v (.bool false),x23,IV.v (.bool false),x23,IV.v (.bool false),lZ,IV.v (.bool false),x34,pV,IV.v (.bool false),x23,IV.v (.bool false),x23,IV.v (.bool false),lZ,IV.v (.bool false),x31,x30]
 let SS:List IV:=vk::yF::x107
 let arx:Bool:=PG x98
 let auq:Bool:=arx&&true
 let amu:Bool:=decide (Lc<x80)
 let x112:Bool:=decide (0≤Lc∧Lc<x80)
 let x113:Int:=(A.getD Lc.toNat u0).a
 let x114:Bool:=bif true then bA [x8,fI,bA [iM,bA [aA x113.natAbs==jD,decide (x113<0)==lW].reverse].reverse].reverse else false
 let x115:Int:=(A.getD Lc.toNat u0).f.x0.num
 let agz:Int:=(A.getD Lc.toNat u0).f.x1.num
 let agy:Int:=(A.getD Lc.toNat u0).f.y0.num
 let aur:Int:=(A.getD Lc.toNat u0).f.y1.num
 let arz:List AV:=[.c (.v (.bool (decide (x115<0)))),.c (.v (.string ⟨⟨aA x115.natAbs⟩⟩)),.c (.v (.bool false)),.c (.v (.string ⟨⟨aH (A.getD Lc.toNat u0).f.x0.den⟩⟩)),.c (.v (.bool (decide (agz<0)))),.c (.v (.string ⟨⟨aA agz.natAbs⟩⟩)),.c (.v (.bool false)),.c (.v (.string ⟨⟨aH (A.getD Lc.toNat u0).f.x1.den⟩⟩)),.c (.v (.bool (decide (agy<0)))),.c (.v (.string ⟨⟨aA agy.natAbs⟩⟩)),.c (.v (.bool false)),.c (.v (.string ⟨⟨aH (A.getD Lc.toNat u0).f.y0.den⟩⟩)),.c (.v (.bool (decide (aur<0)))),.c (.v (.string ⟨⟨aA aur.natAbs⟩⟩)),.c (.v (.bool false)),.c (.v (.string ⟨⟨aH (A.getD Lc.toNat u0).f.y1.den⟩⟩))]
 let amv:Bool:=x112&&(gL arz&&(x67&&(x93&&(Pk (fA arz) (fA x66)&&(uL (fA arz)&&auq)))))
 let amw:Bool:=bif true then true else false
 let abM:Bool:=eH O.length (bZ O)
 let abN:List Un:=cB O.length (bZ O)
 let KA:Int:=(aB x65).num
 let KC:Int:=(aB [AV.c Qj,AV.c SQ,.c (.v (.bool false)),AV.c PO]).num
 let KD:Int:=(aB [AV.c x54,AV.c x55,.c (.v (.bool false)),AV.c Nv]).num
 let KE:Int:=(aB [AV.c Ca,AV.c Bl,.c (.v (.bool false)),AV.c EO]).num
 .ite (decide (i<n)) (.need (decide (0≤i∧i<x1)) (.need (bif x3 then x5&&(x7&&bif x20 then rY else true)else bif false then rY else true) (.ite (bif x3 then bif x20 then x29 else false else bif false then x29 else false) (.need x5 (.need x38 (.ite x41 (.need (bif !false then x7&&bif GU then x68 else true else bif false then x68 else true) (.ite (bif !false then bif GU then x70 else false else bif false then x70 else false) (.need x7 (.need x7 (.need W9 (.need Xa (.need x73 (.need (eH O.length (aP (aP (bZ O) x6 (x74+9) [IV.v (.bool false),x23,IV.v (.bool false),x23,IV.v (.bool false),lZ,IV.v (.bool false),x34,pV].reverse) x6 x75 [IV.v (.bool true)].reverse)) (.ret (Sum.inl (((),x76,m,cB A.length (bZ A),cB B.length (bZ B),n,Lc,()),cB O.length (aP (aP (bZ O) x6 (x74+9) [IV.v (.bool false),x23,IV.v (.bool false),x23,IV.v (.bool false),lZ,IV.v (.bool false),x34,pV].reverse) x6 x75 [IV.v (.bool true)].reverse)))))))))) (.need (bif x78 then x81&&(DJ x86&&bif x89 then x96 else x97)else bif false then x96 else x97) (.ite (bif x78 then bif x89 then x100 else x101 else bif false then x100 else x101) (.need x91 (.need true (.need x103 (.need x105 (.need W9 (.need Xa (.need x73 (.need (eH x102 (bN m (bZ O) λk=>List.take sM (List.drop (k*sM) (Zv::IV.v (.bool false)::Zu::SE::PO::IV.v (.bool false)::SQ::Qj::Nv::IV.v (.bool false)::x55::x54::EO::IV.v (.bool false)::Bl::Ca::vk::IV.v (.bool false)::x107).reverse))) (.ret (Sum.inl (((),x76,x102,cB A.length (bZ A),cB B.length (bZ B),n,Lc,()),cB x102 (bN m (bZ O) λk=>List.take sM (List.drop (k*sM) (Zv::IV.v (.bool false)::Zu::SE::PO::IV.v (.bool false)::SQ::Qj::Nv::IV.v (.bool false)::x55::x54::EO::IV.v (.bool false)::Bl::Ca::vk::IV.v (.bool false)::x107).reverse))))))))))))) (.need x91 (.need true (.need x103 (.need x105 (.need W9 (.need Xa (.need x73 (.need (eH x102 (bN m (bZ O) λk=>List.take sM (List.drop (k*sM) (Zv::IV.v (.bool false)::Zu::SE::PO::IV.v (.bool false)::SQ::Qj::Nv::IV.v (.bool false)::x55::x54::EO::IV.v (.bool false)::Bl::Ca::SS).reverse))) (.ret (Sum.inl (((),x76,x102,cB A.length (bZ A),cB B.length (bZ B),n,Lc,()),cB x102 (bN m (bZ O) λk=>List.take sM (List.drop (k*sM) (Zv::IV.v (.bool false)::Zu::SE::PO::IV.v (.bool false)::SQ::Qj::Nv::IV.v (.bool false)::x55::x54::EO::IV.v (.bool false)::Bl::Ca::SS).reverse))))))))))))))))) (.need (bif !false then x7&&(La&&(x67&&(x93&&(x69&&(uL (fA Ea)&&auq)))))else true) (.ite true (.need x7 (.need W9 (.need Xa (.need x73 (.need (eH O.length (aP (bZ O) x6 x75 [IV.v (.bool false)].reverse)) (.ret (Sum.inl (((),x76,m,cB A.length (bZ A),cB B.length (bZ B),n,Lc,()),cB O.length (aP (bZ O) x6 x75 [IV.v (.bool false)].reverse))))))))) (.need (bif amu then x112&&bif x114 then amv else true else bif false then amv else true) (.ite (bif amu then bif x114 then amw else false else bif false then amw else false) (.need W9 (.need Xa (.need x73 (.need abM (.ret (Sum.inl (((),x76,m,cB A.length (bZ A),cB B.length (bZ B),n,Lc,()),abN))))))) (.need x67 (.need x93 (.need (decide (aB [AV.c x54,AV.c x55,.c (.v (.bool false)),AV.c Nv]=0)) (.need (decide (aB x65=0)) (.need (uL (fA x66)) (.need arx (.need x91 (.need true (.need x103 (.need x105 (.need W9 (.need Xa (.need x73 (.need (eH x102 (bN m (bZ O) λk=>List.take sM (List.drop (k*sM) (IV.v (.string ⟨⟨aH (aB x65).den⟩⟩)::IV.v (.bool false)::IV.v (.string ⟨⟨aA KA.natAbs⟩⟩)::IV.v (.bool (decide (KA<0)))::IV.v (.string ⟨⟨aH (aB [AV.c Qj,AV.c SQ,.c (.v (.bool false)),AV.c PO]).den⟩⟩)::IV.v (.bool false)::IV.v (.string ⟨⟨aA KC.natAbs⟩⟩)::IV.v (.bool (decide (KC<0)))::IV.v (.string ⟨⟨aH (aB [AV.c x54,AV.c x55,.c (.v (.bool false)),AV.c Nv]).den⟩⟩)::IV.v (.bool false)::IV.v (.string ⟨⟨aA KD.natAbs⟩⟩)::IV.v (.bool (decide (KD<0)))::IV.v (.string ⟨⟨aH (aB [AV.c Ca,AV.c Bl,.c (.v (.bool false)),AV.c EO]).den⟩⟩)::IV.v (.bool false)::IV.v (.string ⟨⟨aA KE.natAbs⟩⟩)::IV.v (.bool (decide (KE<0)))::SS).reverse))) (.ret (Sum.inl (((),x76,x102,cB A.length (bZ A),cB B.length (bZ B),n,Lc,()),cB x102 (bN m (bZ O) λk=>List.take sM (List.drop (k*sM) (IV.v (.string ⟨⟨aH (aB x65).den⟩⟩)::IV.v (.bool false)::IV.v (.string ⟨⟨aA KA.natAbs⟩⟩)::IV.v (.bool (decide (KA<0)))::IV.v (.string ⟨⟨aH (aB [AV.c Qj,AV.c SQ,.c (.v (.bool false)),AV.c PO]).den⟩⟩)::IV.v (.bool false)::IV.v (.string ⟨⟨aA KC.natAbs⟩⟩)::IV.v (.bool (decide (KC<0)))::IV.v (.string ⟨⟨aH (aB [AV.c x54,AV.c x55,.c (.v (.bool false)),AV.c Nv]).den⟩⟩)::IV.v (.bool false)::IV.v (.string ⟨⟨aA KD.natAbs⟩⟩)::IV.v (.bool (decide (KD<0)))::IV.v (.string ⟨⟨aH (aB [AV.c Ca,AV.c Bl,.c (.v (.bool false)),AV.c EO]).den⟩⟩)::IV.v (.bool false)::IV.v (.string ⟨⟨aA KE.natAbs⟩⟩)::IV.v (.bool (decide (KE<0)))::SS).reverse)))))))))))))))))))))))))) (.need x38 (.ite x41 (.ite false (.fail "pieces.go:171") (.ite false (.fail "pieces.go:171") (.ite false (.fail "pieces.go:172") (.need (bif x78 then x81&&(DJ x86&&bif x89 then x96 else x97)else bif false then x96 else x97) (.ite (bif x78 then bif x89 then x100 else x101 else bif false then x100 else x101) (.need x91 (.need true (.need x103 (.need x105 (.need W9 (.need Xa (.need x73 (.need (eH x102 (bN m (bZ O) λk=>List.take sM (List.drop (k*sM) (Zv::IV.v (.bool false)::Zu::SE::PO::IV.v (.bool false)::SQ::Qj::Nv::IV.v (.bool false)::x55::x54::EO::IV.v (.bool false)::Bl::Ca::vk::IV.v (.bool false)::x107).reverse))) (.ret (Sum.inl (((),x76,x102,cB A.length (bZ A),cB B.length (bZ B),n,Lc,()),cB x102 (bN m (bZ O) λk=>List.take sM (List.drop (k*sM) (Zv::IV.v (.bool false)::Zu::SE::PO::IV.v (.bool false)::SQ::Qj::Nv::IV.v (.bool false)::x55::x54::EO::IV.v (.bool false)::Bl::Ca::vk::IV.v (.bool false)::x107).reverse))))))))))))) (.need x91 (.need true (.need x103 (.need x105 (.need W9 (.need Xa (.need x73 (.need (eH x102 (bN m (bZ O) λk=>List.take sM (List.drop (k*sM) (Zv::IV.v (.bool false)::Zu::SE::PO::IV.v (.bool false)::SQ::Qj::Nv::IV.v (.bool false)::x55::x54::EO::IV.v (.bool false)::Bl::Ca::SS).reverse))) (.ret (Sum.inl (((),x76,x102,cB A.length (bZ A),cB B.length (bZ B),n,Lc,()),cB x102 (bN m (bZ O) λk=>List.take sM (List.drop (k*sM) (Zv::IV.v (.bool false)::Zu::SE::PO::IV.v (.bool false)::SQ::Qj::Nv::IV.v (.bool false)::x55::x54::EO::IV.v (.bool false)::Bl::Ca::SS).reverse)))))))))))))))))) (.ite false (.fail "pieces.go:180") (.ite false (.fail "pieces.go:181") (.need (bif amu then x112&&bif x114 then amv else true else bif false then amv else true) (.ite (bif amu then bif x114 then amw else false else bif false then amw else false) (.need W9 (.need Xa (.need x73 (.need abM (.ret (Sum.inl (((),x76,m,cB A.length (bZ A),cB B.length (bZ B),n,Lc,()),abN))))))) (.need x67 (.need x93 (.need (decide (aB [AV.c x54,AV.c x55,.c (.v (.bool false)),AV.c Nv]=0)) (.need (decide (aB x65=0)) (.need (uL (fA x66)) (.need arx (.need x91 (.need true (.need x103 (.need x105 (.need W9 (.need Xa (.need x73 (.need (eH x102 (bN m (bZ O) λk=>List.take sM (List.drop (k*sM) (IV.v (.string ⟨⟨aH (aB x65).den⟩⟩)::IV.v (.bool false)::IV.v (.string ⟨⟨aA KA.natAbs⟩⟩)::IV.v (.bool (decide (KA<0)))::IV.v (.string ⟨⟨aH (aB [AV.c Qj,AV.c SQ,.c (.v (.bool false)),AV.c PO]).den⟩⟩)::IV.v (.bool false)::IV.v (.string ⟨⟨aA KC.natAbs⟩⟩)::IV.v (.bool (decide (KC<0)))::IV.v (.string ⟨⟨aH (aB [AV.c x54,AV.c x55,.c (.v (.bool false)),AV.c Nv]).den⟩⟩)::IV.v (.bool false)::IV.v (.string ⟨⟨aA KD.natAbs⟩⟩)::IV.v (.bool (decide (KD<0)))::IV.v (.string ⟨⟨aH (aB [AV.c Ca,AV.c Bl,.c (.v (.bool false)),AV.c EO]).den⟩⟩)::IV.v (.bool false)::IV.v (.string ⟨⟨aA KE.natAbs⟩⟩)::IV.v (.bool (decide (KE<0)))::SS).reverse))) (.ret (Sum.inl (((),x76,x102,cB A.length (bZ A),cB B.length (bZ B),n,Lc,()),cB x102 (bN m (bZ O) λk=>List.take sM (List.drop (k*sM) (IV.v (.string ⟨⟨aH (aB x65).den⟩⟩)::IV.v (.bool false)::IV.v (.string ⟨⟨aA KA.natAbs⟩⟩)::IV.v (.bool (decide (KA<0)))::IV.v (.string ⟨⟨aH (aB [AV.c Qj,AV.c SQ,.c (.v (.bool false)),AV.c PO]).den⟩⟩)::IV.v (.bool false)::IV.v (.string ⟨⟨aA KC.natAbs⟩⟩)::IV.v (.bool (decide (KC<0)))::IV.v (.string ⟨⟨aH (aB [AV.c x54,AV.c x55,.c (.v (.bool false)),AV.c Nv]).den⟩⟩)::IV.v (.bool false)::IV.v (.string ⟨⟨aA KD.natAbs⟩⟩)::IV.v (.bool (decide (KD<0)))::IV.v (.string ⟨⟨aH (aB [AV.c Ca,AV.c Bl,.c (.v (.bool false)),AV.c EO]).den⟩⟩)::IV.v (.bool false)::IV.v (.string ⟨⟨aA KE.natAbs⟩⟩)::IV.v (.bool (decide (KE<0)))::SS).reverse)))))))))))))))))))))))))))) (.need abM (.ret (Sum.inr ((m,()),abN))))
def M49(U:List Un):Tr AV:=
 let x1:List Un:=cB U.length (bZ U)
 let x2:Nat:=x1.length
 let x3:List Un:=cB x2 (bZ x1)
 let x4:Nat:=x3.length
 let x5:Bool:=eH x4 (bZ x3)
 let x6:List Un:=cB x4 (bZ x3)
 let x7:Nat:=x6.length
 let x8:List Un:=dL x6
 let x9:Nat:=x8.length
 let x10:Bool:=eH x9 (bZ x8)
 let fI:List Un:=cB x9 (bZ x8)
 let fU:List Un:=mJ x6
 let iM:Nat:=fU.length
 .need (eH U.length (bZ U)) (.need (Ce x1) (.need (qc x1) (.need (decide (1≤x2)) (.need (decide (x2≤19)) (.need (eH x2 (bZ x1)) (.need (Fw ((),x3, ↑x2,0,())) (.need x5 (.need (decide (x7≤333)) (.need x5 (.need x10 (.need x10 (.need true (.need (Fx (((),x6,0,fI,fI, ↑x9,0,()),cB 0 λx=> [])) (.need (decide (iM≤iM)) (.ret (AV.iC [AV.c (IV.sl iM 36 (bZ fU)),.c (.v (.int IntKind.i64 0))]))))))))))))))))
theorem Xb(x:WX):(exec Tryz.prog Γn bX 1010 (bn 0 (codeOf Tryz.f115)) (iQ KI.nIn (KI.head x))).bind (KI.fin 0 0)=xV x.2.1 x.2.2.1 x.2.2.2.1:=by
 obtain⟨⟨⟩,U,n,i,⟨⟩⟩:=x
 kernel_rfl
theorem Xc(x:uM):(exec Tryz.prog Γn bX 1010 (bn 2 (codeOf Tryz.f115)) (iQ KL.nIn (KL.head x))).bind (KL.fin 0 2)=jr x.1.2.1 x.1.2.2.1 x.1.2.2.2.1 x.1.2.2.2.2.1 x.1.2.2.2.2.2.1 x.1.2.2.2.2.2.2.1 x.2:=by
 obtain⟨⟨⟨⟩,U,m,A,B,n,i,⟨⟩⟩,O⟩:=x
 kernel_rfl
theorem arA(U:List Un):aI Tryz.prog Γn L49 1010 Tryz.f115 [.c (.v (.iface 223 (.agg #[]))),GZ U]=M49 U:=by kernel_rfl
end Go.bI
namespace Go.bI
open Go.Proofs
theorem xW(n:Int):List.reverse [IV.v (.bool false),IV.v (.string ⟨⟨[]⟩⟩),IV.v (.bool false),IV.v (.string ⟨⟨[]⟩⟩),IV.v (.bool false),IV.v (.string ⟨⟨aH 1⟩⟩),IV.v (.bool false),IV.v (.string ⟨⟨aA n.natAbs⟩⟩),IV.v (.bool (decide (n<0)))]=LG n:=rfl
theorem DV(b:Bool):List.reverse [IV.v (.bool b)]=[IV.v (.bool b)]:=rfl
theorem aus(O:List Un)(i:Nat)(hi:i<O.length)(b:Bool):cB O.length (aP (bZ O) i (0+0+19) [IV.v (.bool b)])=O.set i {O.getD i u0 with ob:=b}:=(Y3 O i hi _ _ _ rfl).1
theorem arB(O:List Un)(i:Nat)(hi:i<O.length)(b:Bool):eH O.length (aP (bZ O) i (0+0+19) [IV.v (.bool b)])=true:=(Y3 O i hi _ _ {O.getD i u0 with ob:=b} rfl).2
theorem aut(U:List Un)(i:Nat)(j j':Nat)(c c':List IV)(u:Un)(he:((zA (U.getD i u0)).take j++c++(zA (U.getD i u0)).drop (j+c.length)).take j'++c'++((zA (U.getD i u0)).take j++c++(zA (U.getD i u0)).drop (j+c.length)).drop (j'+c'.length)=zA u)(k:Nat)(hk:k<U.length):
  aP (aP (bZ U) i j c) i j' c' k=bZ (U.set i u) k:=by
 unfold aP;by_cases hk2:k=i
 ·subst hk2
  simp only[if_true];unfold bZ;rw[he];simp[dR,hk]
 ·simp only[hk2,if_false]
  unfold bZ;simp[dR,List.getElem?_set_ne (Ne.symm hk2)]
theorem auu(O:List Un)(i:Nat)(hi:i<O.length)(t:Int)(b:Bool):cB O.length (aP (aP (bZ O) i (0+0+9) (LG t)) i (0+0+19) [IV.v (.bool b)])=O.set i {O.getD i u0 with b:=t,ob:=b}:=by
 rw[Gt (aut O i _ _ _ _ {O.getD i u0 with b:=t,ob:=b} rfl)];have:=dQ (O.set i {O.getD i u0 with b:=t,ob:=b});rw[List.length_set]at this;exact this
theorem arC(O:List Un)(i:Nat)(hi:i<O.length)(t:Int)(b:Bool):eH O.length (aP (aP (bZ O) i (0+0+9) (LG t)) i (0+0+19) [IV.v (.bool b)])=true:=by
 rw[Gu (aut O i _ _ _ _ {O.getD i u0 with b:=t,ob:=b} rfl)];have:=bT (O.set i {O.getD i u0 with b:=t,ob:=b});rw[List.length_set]at this;exact this
theorem s1e(U A O:List Un)(i:Nat)(hi:i<A.length)(hA:A.length≤2000)(hO:O.length≤1000)(h0:O.length=0)(f:L4)(hf:uL f=true)(t:Int)(hx:A.getD i u0=⟨t,t,false,false,f⟩)(ht:PG t=true)(b:Int)(hi1:i+1<A.length)(hn:A.getD (i+1) u0=⟨t,b,true,true,f⟩)(hff:Pk f f=true)(Q:uM ⊕ (Nat×Unit)×List Un→Prop)(hq:Q (.inl (((),U,O.length,A,A,(A.length:Nat),((i+1:Nat):Int),()),O))):
  (jr U O.length A A (A.length:Nat) (i:Nat) O).sat Q:=by
 have hw1:IntKind.i64.wrap ((i:Int)+1)=((i+1:Nat):Int):=jR;have c1:decide ((0:Int)≤(i:Int)∧(i:Int)<(A.length:Int))=true:=bQ;have c2:decide ((i:Int)<(A.length:Int))=true:=bQ;have d1:decide (O.length+1≤9223372036854775807)=true:=bQ;have d2:decide ((O.length+1)*408≤140737488355328)=true:=bQ;have d3:decide (O.length≤1000)=true:=fZ hO;have e1:decide (((O.length:Nat):Int)>0)=false:=jK (by omega);have n1:decide (((i+1:Nat):Int)<((A.length:Nat):Int))=true:=bQ;have n2:decide ((0:Int)≤((i+1:Nat):Int)∧((i+1:Nat):Int)<((A.length:Nat):Int))=true:=bQ;simp only[jr,hw1,c1,c2,Int.toNat_natCast,hx,hn];simp only[↓fC, ↓fD, ↓fE, ↓fF,iA,iB,dY,dZ,d9,eu,dw,bY,dG,dh,fB,dS,bD,bE,dQ,bT,sat_true,iG,gF,kC,jq,eT,eU,Bool.and_true,eq_self,decide_true,Nat.le_refl,p9, ↓xW,DV,dP,dB,hw1,c1,c2,d1,d2,d3,Bool.and_true,Bool.true_and,Bool.and_false,Bool.false_and,cond_true,cond_false,Bool.not_true,Bool.not_false,e1,n1,n2,hf,ht,hff]
 repeat first
  | refine ah rfl ?_
  | refine au (λh=>Bool.noConfusion h) (λ_=> ?_)
  | refine au (λ_=> ?_) (λh=>Bool.noConfusion h)
 refine av ?_;exact hq
theorem s1f(U A O:List Un)(i:Nat)(hi:i<A.length)(hA:A.length≤2000)(hO:O.length≤1000)(h0:0<O.length)(f:L4)(hf:uL f=true)(t:Int)(hx:A.getD i u0=⟨t,t,false,false,f⟩)(ht:PG t=true)(b:Int)(hi1:i+1<A.length)(hn:A.getD (i+1) u0=⟨t,b,true,true,f⟩)(hff:Pk f f=true)(hb:decide ((O.getD (O.length-1) u0).b=t)=false)(Q:uM ⊕ (Nat×Unit)×List Un→Prop)(hq:Q (.inl (((),U,O.length,A,A,(A.length:Nat),((i+1:Nat):Int),()),O))):
  (jr U O.length A A (A.length:Nat) (i:Nat) O).sat Q:=by
 have hw1:IntKind.i64.wrap ((i:Int)+1)=((i+1:Nat):Int):=jR;have c1:decide ((0:Int)≤(i:Int)∧(i:Int)<(A.length:Int))=true:=bQ;have c2:decide ((i:Int)<(A.length:Int))=true:=bQ;have d1:decide (O.length+1≤9223372036854775807)=true:=bQ;have d2:decide ((O.length+1)*408≤140737488355328)=true:=bQ;have d3:decide (O.length≤1000)=true:=fZ hO;have hl:O.length-1<O.length:=by omega
 have hw:IntKind.i64.wrap ((O.length:Int)-1)=((O.length-1:Nat):Int):=jR;have e1:decide (((O.length:Nat):Int)>0)=true:=bQ;have e2:decide ((0:Int)≤((O.length-1:Nat):Int)∧((O.length-1:Nat):Int)<((O.length:Nat):Int))=true:=bQ;have e3:decide (O.length-1<O.length)=true:=fZ hl;have n1:decide (((i+1:Nat):Int)<((A.length:Nat):Int))=true:=bQ;have n2:decide ((0:Int)≤((i+1:Nat):Int)∧((i+1:Nat):Int)<((A.length:Nat):Int))=true:=bQ;simp only[jr,hw1,c1,c2,Int.toNat_natCast,hx,hn];simp only[↓fC, ↓fD, ↓fE, ↓fF,iA,iB,dY,dZ,d9,eu,dw,bY,dG,dh,fB,dS,bD,bE,dQ,bT,sat_true,iG,gF,kC,jq,eT,eU,Bool.and_true,eq_self,decide_true,Nat.le_refl,p9, ↓xW,DV,dP,dB,hw1,c1,c2,d1,d2,d3,Bool.and_true,Bool.true_and,Bool.and_false,Bool.false_and,cond_true,cond_false,Bool.not_true,Bool.not_false,hw,Int.toNat_natCast,e1,e2,e3,hb,n1,n2,hf,ht,hff]
 repeat first
  | refine ah rfl ?_
  | refine au (λh=>Bool.noConfusion h) (λ_=> ?_)
  | refine au (λ_=> ?_) (λh=>Bool.noConfusion h)
 refine av ?_;exact hq
theorem s2e(U A O:List Un)(i:Nat)(hi:i<A.length)(hA:A.length≤2000)(hO:O.length≤1000)(h0:O.length=0)(f:L4)(hf:uL f=true)(a b:Int)(hx:A.getD i u0=⟨a,b,true,true,f⟩)(hab:decide (a=b)=false)(g:L4)(hi0:0<i)(hp:A.getD (i-1) u0=⟨a,a,false,false,g⟩)(hh:Bo O a=false)(Q:uM ⊕ (Nat×Unit)×List Un→Prop)(hq:Q (.inl (((),U,O.length+1,A,A,(A.length:Nat),((i+1:Nat):Int),()),O++[⟨a,b,false,true,f⟩]))):
  (jr U O.length A A (A.length:Nat) (i:Nat) O).sat Q:=by
 have hw1:IntKind.i64.wrap ((i:Int)+1)=((i+1:Nat):Int):=jR;have c1:decide ((0:Int)≤(i:Int)∧(i:Int)<(A.length:Int))=true:=bQ;have c2:decide ((i:Int)<(A.length:Int))=true:=bQ;have d1:decide (O.length+1≤9223372036854775807)=true:=bQ;have d2:decide ((O.length+1)*408≤140737488355328)=true:=bQ;have d3:decide (O.length≤1000)=true:=fZ hO;have e1:decide (((O.length:Nat):Int)>0)=false:=jK (by omega);have hwp:IntKind.i64.wrap ((i:Int)-1)=((i-1:Nat):Int):=jR;have p1:decide ((i:Int)>0)=true:=bQ;have p2:decide ((0:Int)≤((i-1:Nat):Int)∧((i-1:Nat):Int)<((A.length:Nat):Int))=true:=bQ;simp only[jr,hw1,c1,c2,Int.toNat_natCast,hx,hwp,hp];simp only[↓fC, ↓fD, ↓fE, ↓fF,iA,iB,dY,dZ,d9,eu,dw,bY,dG,dh,fB,dS,bD,bE,dQ,bT,sat_true,iG,gF,kC,jq,eT,eU,Bool.and_true,eq_self,decide_true,Nat.le_refl,p9, ↓xW,DV,dP,dB,hw1,c1,c2,d1,d2,d3,Bool.and_true,Bool.true_and,Bool.and_false,Bool.false_and,cond_true,cond_false,Bool.not_true,Bool.not_false,e1,p1,p2,hab,hh,hwp,hp]
 repeat first
  | refine ah rfl ?_
  | refine au (λh=>Bool.noConfusion h) (λ_=> ?_)
  | refine au (λ_=> ?_) (λh=>Bool.noConfusion h)
 refine av ?_;exact hq
theorem s2f(U A O:List Un)(i:Nat)(hi:i<A.length)(hA:A.length≤2000)(hO:O.length≤1000)(h0:0<O.length)(f:L4)(hf:uL f=true)(a b:Int)(hx:A.getD i u0=⟨a,b,true,true,f⟩)(hab:decide (a=b)=false)(g:L4)(hi0:0<i)(hp:A.getD (i-1) u0=⟨a,a,false,false,g⟩)(hb:decide ((O.getD (O.length-1) u0).b=a)=false)(hh:Bo O a=false)(Q:uM ⊕ (Nat×Unit)×List Un→Prop)(hq:Q (.inl (((),U,O.length+1,A,A,(A.length:Nat),((i+1:Nat):Int),()),O++[⟨a,b,false,true,f⟩]))):
  (jr U O.length A A (A.length:Nat) (i:Nat) O).sat Q:=by
 have hw1:IntKind.i64.wrap ((i:Int)+1)=((i+1:Nat):Int):=jR;have c1:decide ((0:Int)≤(i:Int)∧(i:Int)<(A.length:Int))=true:=bQ;have c2:decide ((i:Int)<(A.length:Int))=true:=bQ;have d1:decide (O.length+1≤9223372036854775807)=true:=bQ;have d2:decide ((O.length+1)*408≤140737488355328)=true:=bQ;have d3:decide (O.length≤1000)=true:=fZ hO;have hl:O.length-1<O.length:=by omega
 have hw:IntKind.i64.wrap ((O.length:Int)-1)=((O.length-1:Nat):Int):=jR;have e1:decide (((O.length:Nat):Int)>0)=true:=bQ;have e2:decide ((0:Int)≤((O.length-1:Nat):Int)∧((O.length-1:Nat):Int)<((O.length:Nat):Int))=true:=bQ;have e3:decide (O.length-1<O.length)=true:=fZ hl;have hwp:IntKind.i64.wrap ((i:Int)-1)=((i-1:Nat):Int):=jR;have p1:decide ((i:Int)>0)=true:=bQ;have p2:decide ((0:Int)≤((i-1:Nat):Int)∧((i-1:Nat):Int)<((A.length:Nat):Int))=true:=bQ;simp only[jr,hw1,c1,c2,Int.toNat_natCast,hx,hwp,hp];simp only[↓fC, ↓fD, ↓fE, ↓fF,iA,iB,dY,dZ,d9,eu,dw,bY,dG,dh,fB,dS,bD,bE,dQ,bT,sat_true,iG,gF,kC,jq,eT,eU,Bool.and_true,eq_self,decide_true,Nat.le_refl,p9, ↓xW,DV,dP,dB,hw1,c1,c2,d1,d2,d3,Bool.and_true,Bool.true_and,Bool.and_false,Bool.false_and,cond_true,cond_false,Bool.not_true,Bool.not_false,hw,Int.toNat_natCast,e1,e2,e3,hb,p1,p2,hab,hh,hwp,hp]
 repeat first
  | refine ah rfl ?_
  | refine au (λh=>Bool.noConfusion h) (λ_=> ?_)
  | refine au (λ_=> ?_) (λh=>Bool.noConfusion h)
 refine av ?_;exact hq
theorem s3(U A O:List Un)(i:Nat)(hi:i<A.length)(hA:A.length≤2000)(hO:O.length≤1000)(h0:0<O.length)(f:L4)(hf:uL f=true)(t:Int)(hx:A.getD i u0=⟨t,t,false,false,f⟩)(ht:PG t=true)(hb:decide ((O.getD (O.length-1) u0).b=t)=true)(hai:decide ((O.getD (O.length-1) u0).a=(O.getD (O.length-1) u0).b)=false)(hLf:Pk (O.getD (O.length-1) u0).f f=true)(hLb:uL (O.getD (O.length-1) u0).f=true)(Q:uM ⊕ (Nat×Unit)×List Un→Prop)(hq:Q (.inl (((),U,O.length,A,A,(A.length:Nat),((i+1:Nat):Int),()),O.set (O.length-1) {O.getD (O.length-1) u0 with ob:=false}))):
  (jr U O.length A A (A.length:Nat) (i:Nat) O).sat Q:=by
 have hw1:IntKind.i64.wrap ((i:Int)+1)=((i+1:Nat):Int):=jR;have c1:decide ((0:Int)≤(i:Int)∧(i:Int)<(A.length:Int))=true:=bQ;have c2:decide ((i:Int)<(A.length:Int))=true:=bQ;have d1:decide (O.length+1≤9223372036854775807)=true:=bQ;have d2:decide ((O.length+1)*408≤140737488355328)=true:=bQ;have d3:decide (O.length≤1000)=true:=fZ hO;have hl:O.length-1<O.length:=by omega
 have hw:IntKind.i64.wrap ((O.length:Int)-1)=((O.length-1:Nat):Int):=jR;have e1:decide (((O.length:Nat):Int)>0)=true:=bQ;have e2:decide ((0:Int)≤((O.length-1:Nat):Int)∧((O.length-1:Nat):Int)<((O.length:Nat):Int))=true:=bQ;have e3:decide (O.length-1<O.length)=true:=fZ hl;simp only[jr,hw1,c1,c2,Int.toNat_natCast,hx];simp only[↓fC, ↓fD, ↓fE, ↓fF,iA,iB,dY,dZ,d9,eu,dw,bY,dG,dh,fB,dS,bD,bE,dQ,bT,sat_true,iG,gF,kC,jq,eT,eU,Bool.and_true,eq_self,decide_true,Nat.le_refl,p9, ↓xW,DV,dP,dB,hw1,c1,c2,d1,d2,d3,Bool.and_true,Bool.true_and,Bool.and_false,Bool.false_and,cond_true,cond_false,Bool.not_true,Bool.not_false,hw,Int.toNat_natCast,e1,e2,e3,hb,hai,ht,hLf,hLb,aus O (O.length-1) hl,arB O (O.length-1) hl]
 repeat first
  | refine ah rfl ?_
  | refine au (λh=>Bool.noConfusion h) (λ_=> ?_)
  | refine au (λ_=> ?_) (λh=>Bool.noConfusion h)
 refine av ?_;exact hq
theorem s4(U A O:List Un)(i:Nat)(hi:i<A.length)(hA:A.length≤2000)(hO:O.length≤1000)(h0:0<O.length)(f:L4)(hf:uL f=true)(a b:Int)(hx:A.getD i u0=⟨a,b,true,true,f⟩)(hab:decide (a=b)=false)(hb:decide ((O.getD (O.length-1) u0).b=a)=true)(hai:decide ((O.getD (O.length-1) u0).a=(O.getD (O.length-1) u0).b)=false)(uG:(O.getD (O.length-1) u0).ob=false)(hLf:Pk (O.getD (O.length-1) u0).f f=true)(Q:uM ⊕ (Nat×Unit)×List Un→Prop)(hq:Q (.inl (((),U,O.length,A,A,(A.length:Nat),((i+1:Nat):Int),()),O.set (O.length-1) {O.getD (O.length-1) u0 with b:=b,ob:=true}))):
  (jr U O.length A A (A.length:Nat) (i:Nat) O).sat Q:=by
 have hw1:IntKind.i64.wrap ((i:Int)+1)=((i+1:Nat):Int):=jR;have c1:decide ((0:Int)≤(i:Int)∧(i:Int)<(A.length:Int))=true:=bQ;have c2:decide ((i:Int)<(A.length:Int))=true:=bQ;have d1:decide (O.length+1≤9223372036854775807)=true:=bQ;have d2:decide ((O.length+1)*408≤140737488355328)=true:=bQ;have d3:decide (O.length≤1000)=true:=fZ hO;have hl:O.length-1<O.length:=by omega
 have hw:IntKind.i64.wrap ((O.length:Int)-1)=((O.length-1:Nat):Int):=jR;have e1:decide (((O.length:Nat):Int)>0)=true:=bQ;have e2:decide ((0:Int)≤((O.length-1:Nat):Int)∧((O.length-1:Nat):Int)<((O.length:Nat):Int))=true:=bQ;have e3:decide (O.length-1<O.length)=true:=fZ hl;simp only[jr,hw1,c1,c2,Int.toNat_natCast,hx];simp only[↓fC, ↓fD, ↓fE, ↓fF,iA,iB,dY,dZ,d9,eu,dw,bY,dG,dh,fB,dS,bD,bE,dQ,bT,sat_true,iG,gF,kC,jq,eT,eU,Bool.and_true,eq_self,decide_true,Nat.le_refl,p9, ↓xW,DV,dP,dB,hw1,c1,c2,d1,d2,d3,Bool.and_true,Bool.true_and,Bool.and_false,Bool.false_and,cond_true,cond_false,Bool.not_true,Bool.not_false,hw,Int.toNat_natCast,e1,e2,e3,hb,hai,hab,uG,hLf,auu O (O.length-1) hl,arC O (O.length-1) hl]
 repeat first
  | refine ah rfl ?_
  | refine au (λh=>Bool.noConfusion h) (λ_=> ?_)
  | refine au (λ_=> ?_) (λh=>Bool.noConfusion h)
 refine av ?_;exact hq
theorem s5(U A O:List Un)(i:Nat)(hi:i<A.length)(hA:A.length≤2000)(hO:O.length≤1000)(h0:0<O.length)(f:L4)(hf:uL f=true)(a b:Int)(hx:A.getD i u0=⟨a,b,true,true,f⟩)(hab:decide (a=b)=false)(g:L4)(hi0:0<i)(hp:A.getD (i-1) u0=⟨a,a,false,false,g⟩)(hb:decide ((O.getD (O.length-1) u0).b=a)=true)(hai:decide ((O.getD (O.length-1) u0).a=(O.getD (O.length-1) u0).b)=false)(uG:(O.getD (O.length-1) u0).ob=false)(hLf:Pk (O.getD (O.length-1) u0).f f=false)(hh:Bo O a=true)(Q:uM ⊕ (Nat×Unit)×List Un→Prop)(hq:Q (.inl (((),U,O.length+1,A,A,(A.length:Nat),((i+1:Nat):Int),()),O++[⟨a,b,true,true,f⟩]))):
  (jr U O.length A A (A.length:Nat) (i:Nat) O).sat Q:=by
 have hw1:IntKind.i64.wrap ((i:Int)+1)=((i+1:Nat):Int):=jR;have c1:decide ((0:Int)≤(i:Int)∧(i:Int)<(A.length:Int))=true:=bQ;have c2:decide ((i:Int)<(A.length:Int))=true:=bQ;have d1:decide (O.length+1≤9223372036854775807)=true:=bQ;have d2:decide ((O.length+1)*408≤140737488355328)=true:=bQ;have d3:decide (O.length≤1000)=true:=fZ hO;have hl:O.length-1<O.length:=by omega
 have hw:IntKind.i64.wrap ((O.length:Int)-1)=((O.length-1:Nat):Int):=jR;have e1:decide (((O.length:Nat):Int)>0)=true:=bQ;have e2:decide ((0:Int)≤((O.length-1:Nat):Int)∧((O.length-1:Nat):Int)<((O.length:Nat):Int))=true:=bQ;have e3:decide (O.length-1<O.length)=true:=fZ hl;have hwp:IntKind.i64.wrap ((i:Int)-1)=((i-1:Nat):Int):=jR;have p1:decide ((i:Int)>0)=true:=bQ;have p2:decide ((0:Int)≤((i-1:Nat):Int)∧((i-1:Nat):Int)<((A.length:Nat):Int))=true:=bQ;simp only[jr,hw1,c1,c2,Int.toNat_natCast,hx,hwp,hp];simp only[↓fC, ↓fD, ↓fE, ↓fF,iA,iB,dY,dZ,d9,eu,dw,bY,dG,dh,fB,dS,bD,bE,dQ,bT,sat_true,iG,gF,kC,jq,eT,eU,Bool.and_true,eq_self,decide_true,Nat.le_refl,p9, ↓xW,DV,dP,dB,hw1,c1,c2,d1,d2,d3,Bool.and_true,Bool.true_and,Bool.and_false,Bool.false_and,cond_true,cond_false,Bool.not_true,Bool.not_false,hw,Int.toNat_natCast,e1,e2,e3,hb,hai,hab,uG,hLf,p1,p2,hh,hwp,hp]
 repeat first
  | refine ah rfl ?_
  | refine au (λh=>Bool.noConfusion h) (λ_=> ?_)
  | refine au (λ_=> ?_) (λh=>Bool.noConfusion h)
 refine av ?_;exact hq
theorem s6e(U A O:List Un)(i:Nat)(hi:i<A.length)(hA:A.length≤2000)(hO:O.length≤1000)(h0:O.length=0)(f:L4)(hf:uL f=true)(t:Int)(hx:A.getD i u0=⟨t,t,false,false,f⟩)(ht:PG t=true)(hl1:i+1=A.length)(h1:decide (f.x1=0)=true)(h2:decide (f.y1=0)=true)(Q:uM ⊕ (Nat×Unit)×List Un→Prop)(hq:Q (.inl (((),U,O.length+1,A,A,(A.length:Nat),((i+1:Nat):Int),()),O++[⟨t,t,false,false,f⟩]))):
  (jr U O.length A A (A.length:Nat) (i:Nat) O).sat Q:=by
 have hw1:IntKind.i64.wrap ((i:Int)+1)=((i+1:Nat):Int):=jR;have c1:decide ((0:Int)≤(i:Int)∧(i:Int)<(A.length:Int))=true:=bQ;have c2:decide ((i:Int)<(A.length:Int))=true:=bQ;have d1:decide (O.length+1≤9223372036854775807)=true:=bQ;have d2:decide ((O.length+1)*408≤140737488355328)=true:=bQ;have d3:decide (O.length≤1000)=true:=fZ hO;have e1:decide (((O.length:Nat):Int)>0)=false:=jK (by omega);have n1:decide (((i+1:Nat):Int)<((A.length:Nat):Int))=false:=jK (by omega);simp only[jr,hw1,c1,c2,Int.toNat_natCast,hx];simp only[↓fC, ↓fD, ↓fE, ↓fF,iA,iB,dY,dZ,d9,eu,dw,bY,dG,dh,fB,dS,bD,bE,dQ,bT,sat_true,iG,gF,kC,jq,eT,eU,Bool.and_true,eq_self,decide_true,Nat.le_refl,p9, ↓xW,DV,dP,dB,hw1,c1,c2,d1,d2,d3,Bool.and_true,Bool.true_and,Bool.and_false,Bool.false_and,cond_true,cond_false,Bool.not_true,Bool.not_false,e1,n1,hf,ht,h1,h2]
 repeat first
  | refine ah rfl ?_
  | refine au (λh=>Bool.noConfusion h) (λ_=> ?_)
  | refine au (λ_=> ?_) (λh=>Bool.noConfusion h)
 refine av ?_;exact hq
theorem s6f(U A O:List Un)(i:Nat)(hi:i<A.length)(hA:A.length≤2000)(hO:O.length≤1000)(h0:0<O.length)(f:L4)(hf:uL f=true)(t:Int)(hx:A.getD i u0=⟨t,t,false,false,f⟩)(ht:PG t=true)(hl1:i+1=A.length)(h1:decide (f.x1=0)=true)(h2:decide (f.y1=0)=true)(hb:decide ((O.getD (O.length-1) u0).b=t)=false)(Q:uM ⊕ (Nat×Unit)×List Un→Prop)(hq:Q (.inl (((),U,O.length+1,A,A,(A.length:Nat),((i+1:Nat):Int),()),O++[⟨t,t,false,false,f⟩]))):
  (jr U O.length A A (A.length:Nat) (i:Nat) O).sat Q:=by
 have hw1:IntKind.i64.wrap ((i:Int)+1)=((i+1:Nat):Int):=jR;have c1:decide ((0:Int)≤(i:Int)∧(i:Int)<(A.length:Int))=true:=bQ;have c2:decide ((i:Int)<(A.length:Int))=true:=bQ;have d1:decide (O.length+1≤9223372036854775807)=true:=bQ;have d2:decide ((O.length+1)*408≤140737488355328)=true:=bQ;have d3:decide (O.length≤1000)=true:=fZ hO;have hl:O.length-1<O.length:=by omega
 have hw:IntKind.i64.wrap ((O.length:Int)-1)=((O.length-1:Nat):Int):=jR;have e1:decide (((O.length:Nat):Int)>0)=true:=bQ;have e2:decide ((0:Int)≤((O.length-1:Nat):Int)∧((O.length-1:Nat):Int)<((O.length:Nat):Int))=true:=bQ;have e3:decide (O.length-1<O.length)=true:=fZ hl;have n1:decide (((i+1:Nat):Int)<((A.length:Nat):Int))=false:=jK (by omega);simp only[jr,hw1,c1,c2,Int.toNat_natCast,hx];simp only[↓fC, ↓fD, ↓fE, ↓fF,iA,iB,dY,dZ,d9,eu,dw,bY,dG,dh,fB,dS,bD,bE,dQ,bT,sat_true,iG,gF,kC,jq,eT,eU,Bool.and_true,eq_self,decide_true,Nat.le_refl,p9, ↓xW,DV,dP,dB,hw1,c1,c2,d1,d2,d3,Bool.and_true,Bool.true_and,Bool.and_false,Bool.false_and,cond_true,cond_false,Bool.not_true,Bool.not_false,hw,Int.toNat_natCast,e1,e2,e3,hb,n1,hf,ht,h1,h2]
 repeat first
  | refine ah rfl ?_
  | refine au (λh=>Bool.noConfusion h) (λ_=> ?_)
  | refine au (λ_=> ?_) (λh=>Bool.noConfusion h)
 refine av ?_;exact hq
theorem s0(U A O:List Un)(Q:uM ⊕ (Nat×Unit)×List Un→Prop)(hq:Q (.inr ((O.length,()),O))):(jr U O.length A A (A.length:Nat) (A.length:Nat) O).sat Q:=by
 have c2:decide (((A.length:Nat):Int)<(A.length:Int))=false:=jK (by omega);simp only[jr,c2,bT,dQ]
 repeat first
  | refine ah rfl ?_
  | refine au (λh=>Bool.noConfusion h) (λ_=> ?_)
  | refine au (λ_=> ?_) (λh=>Bool.noConfusion h)
 exact av hq
end Go.bI
namespace Go.bI
open Go.Proofs
theorem jX(O:List Un)(p:Un):(O++[p]).getD ((O++[p]).length-1) u0=p:=by
 simp[dR]
theorem agK(O:List Un)(p q:Un):(O++[p]).set ((O++[p]).length-1) q=O++[q]:=by
 rw[List.length_append,List.length_singleton,Nat.add_sub_cancel,List.set_append_right _ _ (Nat.le_refl _),Nat.sub_self];rfl
theorem DW(P R:List Un)(x:Un):(P++x::R).getD P.length u0=x:=by
 simp[dR]
theorem abV(P R:List Un)(x y:Un):(P++x::y::R).getD (P.length+1) u0=y:=by
 simp[dR,List.getElem?_append_right]
theorem abW(P R:List Un)(x:Un):((P++[x])++R).getD ((P++[x]).length-1) u0=x:=by
 simp[dR]
theorem Nw(O:List Un)(p:Un)(t:Int):Bo (O++[p]) t=(decide (p.b=t)&& !p.ob):=by
 unfold Bo;rw[jX,fZ (show 0<(O++[p]).length by simp),Bool.true_and]
theorem PS{u:Un}(h:ql u=true):uL u.f=true∧PG u.a=true∧PG u.b=true:=by
 have hb:=um h;simp only[ql,cu]at h;obtain⟨h1,h2,h3,h4,h5,h6,h7,h8⟩:=h;refine⟨?_,?_,?_⟩
 ·simp only[uL,h4,h5,h6,h7,Bool.and_self]
 ·simp only[PG,cu,fT];omega
 ·simp only[PG,cu,fT];omega
theorem KM(f:L4):Pk f f=true:=IJ.2 rfl
abbrev SV:uM→Tr (uM ⊕ (Nat×Unit)×List Un):=λx=>jr x.1.2.1 x.1.2.2.1 x.1.2.2.2.1 x.1.2.2.2.2.1 x.1.2.2.2.2.2.1 x.1.2.2.2.2.2.2.1 x.2
abbrev stt(U A O:List Un)(i:Nat):uM:=(((),U,O.length,A,A,(A.length:Nat),(i:Nat),()),O)
theorem PU(U A O:List Un)(i:Nat)(x:Un):((((),U,O.length+1,A,A,(A.length:Nat),(i:Nat),()),O++[x]):uM)=stt U A (O++[x]) i:=by
 show _=((((),U,(O++[x]).length,A,A,(A.length:Nat),(i:Nat),()),O++[x]):uM)
 rw[List.length_append,List.length_singleton]
theorem agL(U A O:List Un)(i:Nat)(p q:Un):((((),U,(O++[p]).length,A,A,(A.length:Nat),(i:Nat),()),(O++[p]).set ((O++[p]).length-1) q):uM)=stt U A (O++[q]) i:=by
 show _=((((),U,(O++[q]).length,A,A,(A.length:Nat),(i:Nat),()),O++[q]):uM)
 rw[agK];simp only[List.length_append,List.length_singleton]
theorem Xd(v:Un)(h:v.ob=false):(⟨v.a,v.b,v.oa,false,v.f⟩:Un)=v:=by
 obtain⟨a,b,c,d,e⟩:=v;simp only at h;subst h;rfl
theorem arD(p:Un)(t:Int)(h:p.ob=false):({p with b:=t,ob:=false}:Un)={p with b:=t}:=by
 obtain⟨a,b,c,d,e⟩:=p;simp only at h;subst h;rfl
theorem close(U A P R O:List Un)(q:Un)(f:L4)(hA:A.length≤2000)(hO:O.length+1≤1000)(he:A=P++⟨q.b,q.b,false,false,f⟩::R)(hf:uL f=true)(ht:PG q.b=true)(hab:q.a<q.b)(hqf:q.f=f)
  (Q:uM ⊕ (Nat×Unit)×List Un→Prop) (hq:Q (.inl (stt U A (O++[{q with ob:=false}]) (P.length+1)))):(SV (stt U A (O++[q]) P.length)).sat Q:=by
 have hi:P.length<A.length:=by rw[he];simp
 refine s3 U A (O++[q]) P.length hi hA (by simp;omega) (by simp) f hf q.b (by rw[he,DW]) ht ?_ ?_ ?_ ?_ Q ?_
 ·rw[jX];exact fZ rfl
 ·rw[jX];exact jK (by omega)
 ·rw[jX,hqf];exact KM f
 ·rw[jX,hqf];exact hf
 ·rw[jX,agL]
  exact hq
theorem SX{v:Un}(h:ql v=true)(ho:v.oa=true):mh v=[⟨v.a,v.b,true,true,v.f⟩,⟨v.b,v.b,false,false,v.f⟩]:=by
 have h1:=Af h ho;have h2:=(um h).2.2.2;have h3:decide (v.a=v.b)=false:=jK (by omega);unfold mh;rw[ho,h2,h3];rfl
theorem KN{v:Un}(h:ql v=true)(ho:v.oa=false)(hl:v.a<v.b):mh v=[⟨v.a,v.a,false,false,v.f⟩,⟨v.a,v.b,true,true,v.f⟩,⟨v.b,v.b,false,false,v.f⟩]:=by
 have h2:=(um h).2.2.2;have h3:decide (v.a=v.b)=false:=jK (by omega);unfold mh;rw[ho,h2,h3];rfl
theorem KO{v:Un}(h:ql v=true)(hl: ¬v.a<v.b):mh v=[⟨v.a,v.a,false,false,v.f⟩]:=by
 obtain⟨h1,h2,_,_⟩:=ER h hl;unfold mh;rw[h2,fZ h1];rfl
theorem uy(P R:List Un)(x:Un):P++x::R=(P++[x])++R:=by simp
theorem Zw(U A:List Un)(hA:A.length≤2000)(Q:(Nat×Unit)×List Un→Prop): ∀(rest P O:List Un) (p g:Un),A=P++[g]++dL rest→oO (p::rest)=true→(p.a<p.b→ ∃f,g=⟨p.b,p.b,false,false,f⟩)→
  O.length+1+rest.length≤1000→Q (((O++kR p rest).length,()),O++kR p rest)→dJ SV Q ((dL rest).length+1) (stt U A (O++[p]) (P++[g]).length)
 | [],P,O,p,g,he,hr,hg,hO,hq=>by
   have hl:(P++[g]).length=A.length:=by rw[he];simp[dL]
   show(SV (stt U A (O++[p]) (P++[g]).length)).sat _
   rw[hl];exact s0 U A (O++[p]) _ hq
 | v::l,P,O,p,g,he,hr,hg,hO,hq=>by
   have hp:=nD hr;have hlk:=oJ hr;have ht:=tu hr;have hv:=nD ht;obtain⟨vf,va,vb⟩:=PS hv;obtain⟨pf,pa,pb⟩:=PS hp;have hpl:=xR hlk;have pob:=(um hp).2.2.2;have vob:=(um hv).2.2.2;simp only[List.length_cons]at hO;have hOl:(O++[p]).length≤1000:=by simp only[List.length_append,List.length_singleton];omega
   have hO1:0<(O++[p]).length:=by simp
   have hat:dL (v::l)=mh v++dL l:=by simp[dL]
   rw[hat]at he⊢;cases ho:v.oa with
   | true=>
     have hvl:=Af hv ho;obtain⟨htb,_⟩:=rH hlk ho;rw[SX hv ho]at he⊢;have he2:A=(P++[g])++⟨v.a,v.b,true,true,v.f⟩::⟨v.b,v.b,false,false,v.f⟩::dL l:=he;have hi:(P++[g]).length<A.length:=by rw[he2];simp
     have hx:A.getD (P++[g]).length u0=⟨v.a,v.b,true,true,v.f⟩:=by rw[he2,DW]
     have he3:A=((P++[g])++[⟨v.a,v.b,true,true,v.f⟩])++⟨v.b,v.b,false,false,v.f⟩::dL l:=by rw[he2,uy]
     have he4:A=(((P++[g])++[⟨v.a,v.b,true,true,v.f⟩])++[⟨v.b,v.b,false,false,v.f⟩])++dL l:=by rw[he3,uy]
     have hlen:((P++[g])++[(⟨v.a,v.b,true,true,v.f⟩:Un)]).length=(P++[g]).length+1:=by simp
     have an8:(((P++[g])++[(⟨v.a,v.b,true,true,v.f⟩:Un)])++[(⟨v.b,v.b,false,false,v.f⟩:Un)]).length=(P++[g]).length+1+1:=by simp
     have hb:decide (((O++[p]).getD ((O++[p]).length-1) u0).b=v.a)=true:=by rw[jX];exact fZ htb
     have hai:decide (((O++[p]).getD ((O++[p]).length-1) u0).a=((O++[p]).getD ((O++[p]).length-1) u0).b)=false:=by rw[jX];exact jK (by omega)
     have uG:((O++[p]).getD ((O++[p]).length-1) u0).ob=false:=by rw[jX];exact pob
     cases hE:Pk p.f v.f with
     | true=>
       have hj:uj p v=true:=by unfold uj;rw[ho,hE];rfl
       have hfe:p.f=v.f:=IJ.1 hE;rw[kR,hj]at hq;simp only[cond_true]at hq;refine s4 U A (O++[p]) (P++[g]).length hi hA hOl hO1 v.f vf v.a v.b hx (jK (by omega)) hb hai uG (by rw[jX];exact hE) _ ?_;rw[jX,agL];have key:=close U A ((P++[g])++[⟨v.a,v.b,true,true,v.f⟩]) (dL l) O {p with b:=v.b,ob:=true} v.f hA (by omega) he3 vf vb (by show p.a<v.b;omega) hfe
        (fun | .inl x'=>dJ SV Q ((dL l).length+1) x' | .inr r=>Q r)
       rw[hlen]at key;refine key ?_
       show dJ SV Q ((dL l).length+1) (stt U A (O++[{p with b:=v.b,ob:=false}]) ((P++[g]).length+1+1))
       rw[arD p v.b pob];have ih:=Zw U A hA Q l ((P++[g])++[⟨v.a,v.b,true,true,v.f⟩]) O {p with b:=v.b} ⟨v.b,v.b,false,false,v.f⟩ he4 (RP hr ho) (λ_=>⟨v.f,rfl⟩) (by omega) hq;rw[an8]at ih;exact ih
     | false=>
       have hj:uj p v=false:=by unfold uj;rw[ho,hE];rfl
       rw[kR,hj]at hq;simp only[cond_false]at hq;obtain⟨gf,hgf⟩:=hg hpl;refine s5 U A (O++[p]) (P++[g]).length hi hA hOl hO1 v.f vf v.a v.b hx (jK (by omega)) gf (by simp) (by rw[he2,abW,hgf,htb]) hb hai uG (by rw[jX];exact hE) (by rw[Nw,pob,fZ htb];rfl) _ ?_;rw[PU];have key:=close U A ((P++[g])++[⟨v.a,v.b,true,true,v.f⟩]) (dL l) (O++[p]) ⟨v.a,v.b,true,true,v.f⟩ v.f hA (by simp;omega) he3 vf vb hvl rfl
        (fun | .inl x'=>dJ SV Q ((dL l).length+1) x' | .inr r=>Q r)
       rw[hlen]at key;refine key ?_
       show dJ SV Q ((dL l).length+1) (stt U A (O++[p]++[⟨v.a,v.b,true,false,v.f⟩]) ((P++[g]).length+1+1))
       have hve:(⟨v.a,v.b,true,false,v.f⟩:Un)=v:=by rw[←ho];exact Xd v vob
       rw[hve];have ih:=Zw U A hA Q l ((P++[g])++[⟨v.a,v.b,true,true,v.f⟩]) (O++[p]) v ⟨v.b,v.b,false,false,v.f⟩ he4 ht (λ_=>⟨v.f,rfl⟩) (by simp;omega) (by simpa using hq);rw[an8]at ih;exact ih
   | false=>
     have av5:=ES hlk ho;have hj:uj p v=false:=by unfold uj;rw[ho];rfl
     rw[kR,hj]at hq;simp only[cond_false]at hq;have hb:decide (((O++[p]).getD ((O++[p]).length-1) u0).b=v.a)=false:=by rw[jX];exact jK (by omega)
     have hve:(⟨v.a,v.b,false,false,v.f⟩:Un)=v:=by
      have:=Xd v vob;rw[ho]at this;exact this
     by_cases hvl:v.a<v.b
     ·rw[KN hv ho hvl]at he⊢
      have he2:A=(P++[g])++⟨v.a,v.a,false,false,v.f⟩::⟨v.a,v.b,true,true,v.f⟩::⟨v.b,v.b,false,false,v.f⟩::dL l:=he;have he3:A=((P++[g])++[⟨v.a,v.a,false,false,v.f⟩])++⟨v.a,v.b,true,true,v.f⟩::⟨v.b,v.b,false,false,v.f⟩::dL l:=by rw[he2,uy]
      have he4:A=(((P++[g])++[⟨v.a,v.a,false,false,v.f⟩])++[⟨v.a,v.b,true,true,v.f⟩])++⟨v.b,v.b,false,false,v.f⟩::dL l:=by rw[he3,uy]
      have he5:A=((((P++[g])++[⟨v.a,v.a,false,false,v.f⟩])++[⟨v.a,v.b,true,true,v.f⟩])++[⟨v.b,v.b,false,false,v.f⟩])++dL l:=by rw[he4,uy]
      have hl1:((P++[g])++[(⟨v.a,v.a,false,false,v.f⟩:Un)]).length=(P++[g]).length+1:=by simp
      have hl2:(((P++[g])++[(⟨v.a,v.a,false,false,v.f⟩:Un)])++[(⟨v.a,v.b,true,true,v.f⟩:Un)]).length=(P++[g]).length+1+1:=by simp
      have hl3:((((P++[g])++[(⟨v.a,v.a,false,false,v.f⟩:Un)])++[(⟨v.a,v.b,true,true,v.f⟩:Un)])++[(⟨v.b,v.b,false,false,v.f⟩:Un)]).length=(P++[g]).length+1+1+1:=by simp
      have hx:A.getD (P++[g]).length u0=⟨v.a,v.a,false,false,v.f⟩:=by rw[he2,DW]
      have hn:A.getD ((P++[g]).length+1) u0=⟨v.a,v.b,true,true,v.f⟩:=by rw[he2,abV]
      have hi1:(P++[g]).length+1<A.length:=by rw[he2];simp only[List.length_append,List.length_cons];omega
      refine s1f U A (O++[p]) (P++[g]).length (by omega) hA hOl hO1 v.f vf v.a hx va v.b hi1 hn (KM _) hb _ ?_;have k2:=s2f U A (O++[p]) ((P++[g]).length+1) hi1 hA hOl hO1 v.f vf v.a v.b hn (jK (by omega)) v.f (by omega) (by rw[Nat.add_sub_cancel];exact hx) hb (by rw[Nw,jK (show¬p.b=v.a by omega)];rfl)
       (fun | .inl x'=>dJ SV Q ((dL l).length+1+1) x' | .inr r=>Q r)
      refine k2 ?_;rw[PU];have key:=close U A (((P++[g])++[⟨v.a,v.a,false,false,v.f⟩])++[⟨v.a,v.b,true,true,v.f⟩]) (dL l) (O++[p]) ⟨v.a,v.b,false,true,v.f⟩ v.f hA (by simp;omega) he4 vf vb hvl rfl
       (fun | .inl x'=>dJ SV Q ((dL l).length+1) x' | .inr r=>Q r)
      rw[hl2]at key;refine key ?_
      show dJ SV Q ((dL l).length+1) (stt U A (O++[p]++[⟨v.a,v.b,false,false,v.f⟩]) ((P++[g]).length+1+1+1))
      rw[hve];have ih:=Zw U A hA Q l (((P++[g])++[⟨v.a,v.a,false,false,v.f⟩])++[⟨v.a,v.b,true,true,v.f⟩]) (O++[p]) v ⟨v.b,v.b,false,false,v.f⟩ he5 ht (λ_=>⟨v.f,rfl⟩) (by simp;omega) (by simpa using hq);rw[hl3]at ih;exact ih
     ·have hl0:l=[]:=by
       cases l with
       | nil=>rfl
       | cons w l=>exact absurd (xR (oJ ht)) hvl
      subst hl0;obtain⟨i1,i2,i3,i4⟩:=ER hv hvl;rw[KO hv hvl]at he⊢;have he2:A=(P++[g])++⟨v.a,v.a,false,false,v.f⟩::[]:=by simpa[dL]using he
      have hx:A.getD (P++[g]).length u0=⟨v.a,v.a,false,false,v.f⟩:=by rw[he2,DW]
      have hla:(P++[g]).length+1=A.length:=by rw[he2];simp
      refine s6f U A (O++[p]) (P++[g]).length (by omega) hA hOl hO1 v.f vf v.a hx va hla (fZ i3) (fZ i4) hb _ ?_;rw[PU];have hv2:(⟨v.a,v.a,false,false,v.f⟩:Un)=v:=by
       have:(⟨v.a,v.a,false,false,v.f⟩:Un)=⟨v.a,v.b,false,false,v.f⟩:=by rw[←i1]
       rw[this];exact hve
      rw[hv2,hla]
      show(SV (stt U A (O++[p]++[v]) A.length)).sat _
      refine s0 U A (O++[p]++[v]) _ ?_;have hjn:kR v []=[v]:=rfl;rw[hjn]at hq;have ha:O++[p]++[v]=O++(p::[v]):=by simp
      rw[ha];exact hq
end Go.bI
namespace Go.bI
open Go.Proofs
theorem amx(U:List Un)(h:mI U=true)(hl:U.length≤300): ∃n,dJ SV (· =(((mJ U).length,()),mJ U)) n (stt U (dL U) [] 0):=by
 cases U with
 | nil=>exact⟨1,s0 [] [] [] _ rfl⟩
 | cons v l=>
   unfold mI at h;simp only[cu,Bool.not_eq_true']at h;obtain⟨ht,ho⟩:=h;have hv:=nD ht;obtain⟨vf,va,vb⟩:=PS hv;have vob:=(um hv).2.2.2;have hat:dL (v::l)=mh v++dL l:=by simp[dL]
   have hla:(dL (v::l)).length≤2000:=by
    have: ∀X:List Un,(dL X).length≤3*X.length:=by
     intro X
     induction X with
     | nil=>simp[dL]
     | cons x X ih=>
       have:=Gy x;have e:dL (x::X)=mh x++dL X:=by simp[dL]
       rw[e,List.length_append,List.length_cons];omega
    have:=this (v::l);omega
   simp only[List.length_cons]at hl;generalize hA:dL (v::l)=A at*;have hve:(⟨v.a,v.b,false,false,v.f⟩:Un)=v:=by
    have:=Xd v vob;rw[ho]at this;exact this
   show∃n,dJ SV (· =(((kR v l).length,()),kR v l)) n _
   by_cases hvl:v.a<v.b
   ·rw[KN hv ho hvl]at hat
    have he2:A=[]++⟨v.a,v.a,false,false,v.f⟩::⟨v.a,v.b,true,true,v.f⟩::⟨v.b,v.b,false,false,v.f⟩::dL l:=hat;have he4:A=[⟨v.a,v.a,false,false,v.f⟩,⟨v.a,v.b,true,true,v.f⟩]++⟨v.b,v.b,false,false,v.f⟩::dL l:=he2;have he5:A=[⟨v.a,v.a,false,false,v.f⟩,⟨v.a,v.b,true,true,v.f⟩]++[⟨v.b,v.b,false,false,v.f⟩]++dL l:=he2;have hx:A.getD 0 u0=⟨v.a,v.a,false,false,v.f⟩:=by rw[he2];rfl
    have hn:A.getD (0+1) u0=⟨v.a,v.b,true,true,v.f⟩:=by rw[he2];rfl
    have hi1:0+1<A.length:=by rw[he2];simp
    refine⟨(dL l).length+1+1+1+1,?_⟩;refine s1e (v::l) A [] 0 (by omega) hla (by simp) rfl v.f vf v.a hx va v.b hi1 hn (KM _) _ ?_;refine s2e (v::l) A [] 1 hi1 hla (by simp) rfl v.f vf v.a v.b hn (jK (by omega)) v.f (by omega) hx rfl
     (fun | .inl x'=>dJ SV _ ((dL l).length+1+1) x' | .inr r=>r=(((kR v l).length,()),kR v l)) ?_
    refine close (v::l) A [⟨v.a,v.a,false,false,v.f⟩,⟨v.a,v.b,true,true,v.f⟩] (dL l) [] ⟨v.a,v.b,false,true,v.f⟩ v.f hla (by simp) he4 vf vb hvl rfl
     (fun | .inl x'=>dJ SV _ ((dL l).length+1) x' | .inr r=>r=(((kR v l).length,()),kR v l)) ?_
    show dJ SV _ ((dL l).length+1) (stt (v::l) A ([]++[⟨v.a,v.b,false,false,v.f⟩]) 3)
    rw[hve];exact Zw (v::l) A hla _ l [⟨v.a,v.a,false,false,v.f⟩,⟨v.a,v.b,true,true,v.f⟩] [] v ⟨v.b,v.b,false,false,v.f⟩ he5 ht (λ_=>⟨v.f,rfl⟩) (by simp;omega) rfl
   ·have hl0:l=[]:=by
     cases l with
     | nil=>rfl
     | cons w l=>exact absurd (xR (oJ ht)) hvl
    subst hl0;obtain⟨i1,i2,i3,i4⟩:=ER hv hvl;rw[KO hv hvl]at hat;have he2:A=[⟨v.a,v.a,false,false,v.f⟩]:=hat;have hx:A.getD 0 u0=⟨v.a,v.a,false,false,v.f⟩:=by rw[he2];rfl
    have auv:0+1=A.length:=by rw[he2];rfl
    refine⟨2,?_⟩;refine s6e [v] A [] 0 (by omega) hla (by simp) rfl v.f vf v.a hx va auv (fZ i3) (fZ i4) _ ?_;have hv2:(⟨v.a,v.a,false,false,v.f⟩:Un)=v:=by
     have:(⟨v.a,v.a,false,false,v.f⟩:Un)=⟨v.a,v.b,false,false,v.f⟩:=by rw[←i1]
     rw[this];exact hve
    show dJ SV _ 1 (((),[v],([]:List Un).length+1,A,A,(A.length:Nat),((0+1:Nat):Int),()),[]++[⟨v.a,v.a,false,false,v.f⟩])
    rw[hv2,PU,auv];exact s0 [v] A [v] _ rfl
theorem Xe(U:List Un)(i:Nat)(h1:apB U=true)(h2:qc U=true)(hl:i<U.length)(hn:U.length≤1000)(Q:WX ⊕ Unit×List Un×Unit→Prop)(hq:Q (.inl ((),U,(U.length:Nat),((i+1:Nat):Int),()))):(xV U (U.length:Nat) (i:Nat)).sat Q:=by
 have hw1:IntKind.i64.wrap ((i:Int)+1)=((i+1:Nat):Int):=jR;have c1:decide ((0:Int)≤(i:Int)∧(i:Int)<(U.length:Int))=true:=bQ;have c2:decide ((i:Int)<(U.length:Int))=true:=bQ;have s1:=tC h2 hl;rw[cu]at s1;by_cases hi:0<i
 ·have hw:IntKind.i64.wrap ((i:Int)-1)=((i-1:Nat):Int):=jR
  have e1:decide ((i:Int)>0)=true:=bQ;have c3:decide ((0:Int)≤((i-1:Nat):Int)∧((i-1:Nat):Int)<(U.length:Int))=true:=bQ;have s2:=tC h2 (show i-1<U.length by omega);rw[cu]at s2;have s3:=tC h1 (show i-1<U.length-1 by omega);simp only[show i-1+1=i by omega,Un.iv]at s3;simp only[xV, ↓fC, ↓fD, ↓fE, ↓fF,iA,iB,dY,dZ,d9,eu,dw,bY,dG,dh,fB,dS,bD,bE,dQ,bT,sat_true,hw,hw1,c1,c2,c3,e1,Int.toNat_natCast,s1.1,s1.2,s2.1,s2.2,s3,Bool.and_self,cond_true,Bool.not_true]
  repeat first
   | refine ah rfl ?_
   | refine au (λh=>Bool.noConfusion h) (λ_=> ?_)
   | refine au (λ_=> ?_) (λh=>Bool.noConfusion h)
  exact av hq
 ·have e1:decide ((i:Int)>0)=false:=jK (by omega)
  simp only[xV, ↓fC, ↓fD, ↓fE, ↓fF,iA,iB,dY,dZ,d9,eu,dw,bY,dG,dh,fB,dS,bD,bE,dQ,bT,sat_true,hw1,c1,c2,e1,cond_false]
  repeat first
   | refine ah rfl ?_
   | refine au (λh=>Bool.noConfusion h) (λ_=> ?_)
   | refine au (λ_=> ?_) (λh=>Bool.noConfusion h)
  exact av hq
theorem Zx(U:List Un)(h1:apB U=true)(h2:qc U=true)(hn:U.length≤1000)(Q:Unit×List Un×Unit→Prop)(hq:Q ((),U,())): ∀(k i:Nat),i+k=U.length→dJ (λx:WX=>xV x.2.1 x.2.2.1 x.2.2.2.1) Q (k+1) ((),U,(U.length:Nat),(i:Nat),())
 | 0,i,he=>by
   obtain rfl:i=U.length:=by omega
   show(xV U (U.length:Nat) (U.length:Nat)).sat _
   have c2:decide (((U.length:Nat):Int)<(U.length:Int))=false:=jK (by omega);simp only[xV, ↓fC, ↓fD, ↓fE, ↓fF,iA,iB,dY,dZ,d9,eu,dw,bY,dG,dh,fB,dS,bD,bE,dQ,bT,sat_true,c2]
   repeat first
    | refine ah rfl ?_
    | refine au (λh=>Bool.noConfusion h) (λ_=> ?_)
    | refine au (λ_=> ?_) (λh=>Bool.noConfusion h)
   exact av hq
 | k+1,i,he=>Xe U i h1 h2 (by omega) hn _ (Zx U h1 h2 hn Q hq k (i+1) (by omega))
theorem abX:bF Tryz.prog 0 L49 (codeOf Tryz.f115):=by
 refine bG (d:=λid=>Nat.beq id 0 || Nat.beq id 2) (λid=>by unfold L49;cases Nat.beq id 0<;>cases Nat.beq id 2<;>rfl) _ ?_;have hb:bU (λid=>Nat.beq id 0 || Nat.beq id 2) (codeOf Tryz.f115)=[(0,.loop (bn 0 (codeOf Tryz.f115))),(2,.loop (bn 2 (codeOf Tryz.f115)))]:=by kernel_rfl
 rw[hb];intro p hp g hg;simp only[List.mem_cons,List.not_mem_nil,or_false]at hp;rcases hp with rfl|rfl
 ·have hh:L49 0=some (KI.g 0):=rfl
  rw[hh]at hg;obtain rfl:g=KI.g 0:=(Option.some.inj hg).symm;refine aZ.sU (N:=1010) aj agJ (L:=bX) (ak 0 _) WY (λx=>Xb x) ?_;rintro⟨⟨⟩,U,n,i,⟨⟩⟩ hx;have hx:Fw ((),U,n,i,())=true:=hx;simp only[Fw,cu,fT]at hx;have h1:n=(U.length:Nat):=hx.2.2.1;have h2:0≤i:=hx.2.2.2.1;have h3:i≤(U.length:Nat):=hx.2.2.2.2.1;have h4:U.length≤1000:=hx.2.2.2.2.2;have h5:apB U=true:=hx.1;have h6:qc U=true:=hx.2.1;clear hx;subst h1;obtain⟨i,rfl⟩: ∃m:Nat,i=m:=⟨i.toNat,by omega⟩
  exact⟨_,Zx U h5 h6 h4 (· =((),U,())) rfl (U.length-i) i (by omega)⟩
 ·have hh:L49 2=some (KL.g 0):=rfl
  rw[hh]at hg;obtain rfl:g=KL.g 0:=(Option.some.inj hg).symm;refine aZ.sU (N:=1010) aj agJ (L:=bX) (ak 0 _) WZ (λx=>Xc x) ?_;rintro⟨⟨⟨⟩,U,m,A,B,n,i,⟨⟩⟩,O⟩ hx;have hx:Fx (((),U,m,A,B,n,i,()),O)=true:=hx;simp only[Fx,cu,fT,KJ]at hx;have h1:mI U=true:=hx.1;have h2:m=0:=hx.2.1;have h3:O.length=0:=hx.2.2.1;have h4:A=dL U:=hx.2.2.2.1;have h5:B=dL U:=hx.2.2.2.2.1;have h6:n=((dL U).length:Nat):=hx.2.2.2.2.2.1;have h7:i=0:=hx.2.2.2.2.2.2.1;have h8:U.length≤300:=hx.2.2.2.2.2.2.2;clear hx;have h9:O=[]:=List.eq_nil_of_length_eq_zero h3;subst h2 h4 h5 h6 h7 h9;exact amx U h1 h8
theorem Zy: ∀{U:List Un},oO U=true→(∀k,k<U.length→ql (U.getD k u0)=true)∧ ∀k,k+1<U.length→mH (U.getD k u0) (U.getD (k+1) u0)=true
 | [],_=>⟨λk hk=>by simp at hk,λk hk=>by simp at hk⟩
 | u::l,h=>by
   obtain⟨i1,i2⟩:=Zy (tu h);refine⟨λk hk=> ?_,λk hk=> ?_⟩
   ·cases k with
    | zero=>exact nD h
    | succ k=>exact i1 k (by simpa using hk)
   ·cases k with
    | zero=>
      cases l with
      | nil=>simp at hk
      | cons v l=>exact oJ h
    | succ k=>exact i2 k (by simpa using hk)
theorem abY{U:List Un}(h:mI U=true):oO U=true:=by
 unfold mI at h;rw[cu]at h;exact h.1
theorem amy{U:List Un}(h:mI U=true):Ce U=true∧qc U=true∧apB U=true:=by
 obtain⟨h1,h2⟩:=Zy (abY h);refine⟨List.all_eq_true.2 λk hk=> ?_,List.all_eq_true.2 λk hk=> ?_,List.all_eq_true.2 λk hk=> ?_⟩
 ·have hk:=List.mem_range.1 hk
  have hl:=h2 k (by omega);have:=xR hl;have:=afo hl;exact bQ
 ·have hk:=List.mem_range.1 hk
  obtain⟨_,a,b⟩:=PS (h1 k hk);rw[agp a,agp b];rfl
 ·have hk:=List.mem_range.1 hk
  have hl:=h2 k (by omega);unfold EU;cases ho:(U.getD (k+1) u0).oa with
  | true=>
    have:=(rH hl ho).1
    show(_ || (decide ((U.getD k u0).b=(U.getD (k+1) u0).a)&&((U.getD k u0).ob || (U.getD (k+1) u0).oa)))=true
    rw[ho,fZ this];simp
  | false=>
    have:=ES hl ho
    show(decide ((U.getD k u0).b<(U.getD (k+1) u0).a) || _)=true
    rw[fZ this];rfl
theorem amz(U:List Un)(h:mI U=true)(h3:1≤U.length)(h4:U.length≤19):(M49 U).sat λr=>r= .iC [GZ (mJ U),dn .i64 0]:=by
 obtain⟨h1,h2,h5⟩:=amy h;have c3:decide (1≤U.length)=true:=fZ h3;have c4:decide (U.length≤19)=true:=fZ h4;have c5:decide (U.length≤333)=true:=bQ;have p1:Fw ((),U,(U.length:Nat),0,())=true:=by
  simp only[Fw,h2,h5,decide_true,Bool.true_and,cu,fT];omega
 have e0:cB 0 (λ_=>([]:List IV))=[]:=rfl;have p2:Fx (((),U,0,dL U,dL U,((dL U).length:Nat),0,()),[])=true:=by
  simp only[Fx,h,decide_true,Bool.true_and,KJ.2 rfl,Bool.and_true,List.length_nil,fT];omega
 simp only[M49, ↓fC, ↓fD, ↓fE, ↓fF,iA,iB,dY,dZ,d9,eu,dw,bY,dG,dh,fB,dS,bD,bE,dQ,bT,sat_true,h1,h2,c3,c4,c5,p1,e0,p2,Nat.le_refl,decide_true]
 repeat first
  | refine ah rfl ?_
  | refine au (λh=>Bool.noConfusion h) (λ_=> ?_)
  | refine au (λ_=> ?_) (λh=>Bool.noConfusion h)
 exact av rfl
def K49:List AV→Option (AV×List Bool):=(F2 (nZ 223) l9).K (λx=> .iC [GZ (mJ x.2.1),dn .i64 0]) λx=> [mI x.2.1,decide (1≤x.2.1.length),decide (x.2.1.length≤19)]
theorem arE:aN Tryz.prog 115 K49:=
 (F2 (nZ 223) l9).dO (N:=1010) (L:=L49) aj agJ (fn:=Tryz.f115) (c:=codeOf Tryz.f115) (by kernel_rfl) (by kernel_rfl) (by kernel_rfl) abX (λ_=>rfl) (M:=λx=>M49 x.2.1) (λx=>arA x.2.1)
  λx h=>amz x.2.1 (h _ (by simp)) (dec (h (decide (1≤x.2.1.length)) (by simp))) (dec (h (decide (x.2.1.length≤19)) (by simp)))
end Go.bI
namespace Go.bI
open Go.Proofs
def an9(t:Nat):nJ (List Un) where
 parse:=λe=>match e with | [some (.arr m 36 el t')]=>bif Nat.beq t t' then some (cB m el,[eH m el])else none | _=>none
 ents:=λU=> [some (.arr U.length 36 (bZ U) t)]
 ok:=by
  intro e x cs h hc
  split at h
  ·rename_i m el t'
   cases hb:Nat.beq t t' with
   | false=>rw[hb]at h;cases h
   | true=>
     obtain rfl:t=t':=by simpa using hb
     rw[hb]at h;simp only[cond_true,fK,Prod.mk.injEq]at h;obtain⟨rfl,rfl⟩:=h;have:=wQ (n:=m) (el:=el) (hc _ (by simp));rw[tq];exact .cons (.arr _ _ _ _ _ this) .nil
  ·cases h
abbrev G9:=(List Un×Nat×Int×Unit)×List Un
abbrev avO:Form (List Un×Nat×Int×Unit):= .cons l9 (.cons (Nu 0) (.cons bK .nil))
def uz(x:G9):Bool:=decide (x.1.2.1=x.2.length)&&(decide (0≤x.1.2.2.1)&&(decide (x.1.2.2.1≤(x.1.1.length:Nat))&&(decide (x.1.1.length≤1000)&&decide (x.2.length≤1000))))
def uD(t:Nat):aZ G9 ((Nat×Unit)×List Un):=yA {nt:=26,live:=[0,3,4],lifts:=[(3,36,t)]} {nt:=26,live:=[3],lifts:=[(3,36,t)]} (fJ.with (an9 t) avO) (fJ.with (an9 t) (F1 (Nu 0))) (λx=>(((x.2++x.1.1.drop x.1.2.2.1.toNat).length,()),x.2++x.1.1.drop x.1.2.2.1.toNat)) uz
theorem KP(t:Nat):(uD t).gI:=eG _ _ _ _ _ _
def L106:Nat→Option (St→Tr (Ex×St)):=λid=>bif Nat.beq id 0 then some ((uD 185).g 0)else none
def agM:Nat→Option (St→Tr (Ex×St)):=λid=>bif Nat.beq id 0 then some ((uD 148).g 0)else none
def Ar(U:List Un)(m:Nat)(i:Int)(O:List Un):Tr (G9 ⊕ (Nat×Unit)×List Un):=
 let x1:Int:= ↑U.length
 let x2:Bool:=decide (0≤i∧i<x1)
 let x3:Nat:=m+1
 let x4:Nat:=x3*408
 let x5:Nat:=35+1
 let x6:Int:=(U.getD i.toNat u0).f.y1.num
 let x7:Int:=(U.getD i.toNat u0).f.y0.num
 let x8:Int:=(U.getD i.toNat u0).f.x1.num
 let x9:Int:=(U.getD i.toNat u0).f.x0.num
 let x10:IV:=IV.v (.string ⟨⟨[]⟩⟩)
 let fI:IV:=IV.v (.string ⟨⟨aH 1⟩⟩)
 let fU:Int:=(U.getD i.toNat u0).b
 let iM:Int:=(U.getD i.toNat u0).a
 .ite (decide (i<x1)) (.need x2 (.need x2 (.need (decide (m≤O.length)) (.need true (.need (decide (x3≤9223372036854775807)) (.need (decide (x4≤140737488355328)) (.need (eH U.length (bZ U)) (.need (eH x3 (bN m (bZ O) λk=>List.take x5 (List.drop (k*x5) [IV.v (.string ⟨⟨aH (U.getD i.toNat u0).f.y1.den⟩⟩),IV.v (.bool false),IV.v (.string ⟨⟨aA x6.natAbs⟩⟩),IV.v (.bool (decide (x6<0))),IV.v (.string ⟨⟨aH (U.getD i.toNat u0).f.y0.den⟩⟩),IV.v (.bool false),IV.v (.string ⟨⟨aA x7.natAbs⟩⟩),IV.v (.bool (decide (x7<0))),IV.v (.string ⟨⟨aH (U.getD i.toNat u0).f.x1.den⟩⟩),IV.v (.bool false),IV.v (.string ⟨⟨aA x8.natAbs⟩⟩),IV.v (.bool (decide (x8<0))),IV.v (.string ⟨⟨aH (U.getD i.toNat u0).f.x0.den⟩⟩),IV.v (.bool false),IV.v (.string ⟨⟨aA x9.natAbs⟩⟩),IV.v (.bool (decide (x9<0))),IV.v (.bool (U.getD i.toNat u0).ob),IV.v (.bool (U.getD i.toNat u0).oa),IV.v (.bool false),x10,IV.v (.bool false),x10,IV.v (.bool false),fI,IV.v (.bool false),IV.v (.string ⟨⟨aA fU.natAbs⟩⟩),IV.v (.bool (decide (fU<0))),IV.v (.bool false),x10,IV.v (.bool false),x10,IV.v (.bool false),fI,IV.v (.bool false),IV.v (.string ⟨⟨aA iM.natAbs⟩⟩),IV.v (.bool (decide (iM<0)))].reverse))) (.ret (Sum.inl ((cB U.length (bZ U),x3,IntKind.i64.wrap (i+1),()),cB x3 (bN m (bZ O) λk=>List.take x5 (List.drop (k*x5) [IV.v (.string ⟨⟨aH (U.getD i.toNat u0).f.y1.den⟩⟩),IV.v (.bool false),IV.v (.string ⟨⟨aA x6.natAbs⟩⟩),IV.v (.bool (decide (x6<0))),IV.v (.string ⟨⟨aH (U.getD i.toNat u0).f.y0.den⟩⟩),IV.v (.bool false),IV.v (.string ⟨⟨aA x7.natAbs⟩⟩),IV.v (.bool (decide (x7<0))),IV.v (.string ⟨⟨aH (U.getD i.toNat u0).f.x1.den⟩⟩),IV.v (.bool false),IV.v (.string ⟨⟨aA x8.natAbs⟩⟩),IV.v (.bool (decide (x8<0))),IV.v (.string ⟨⟨aH (U.getD i.toNat u0).f.x0.den⟩⟩),IV.v (.bool false),IV.v (.string ⟨⟨aA x9.natAbs⟩⟩),IV.v (.bool (decide (x9<0))),IV.v (.bool (U.getD i.toNat u0).ob),IV.v (.bool (U.getD i.toNat u0).oa),IV.v (.bool false),x10,IV.v (.bool false),x10,IV.v (.bool false),fI,IV.v (.bool false),IV.v (.string ⟨⟨aA fU.natAbs⟩⟩),IV.v (.bool (decide (fU<0))),IV.v (.bool false),x10,IV.v (.bool false),x10,IV.v (.bool false),fI,IV.v (.bool false),IV.v (.string ⟨⟨aA iM.natAbs⟩⟩),IV.v (.bool (decide (iM<0)))].reverse))))))))))))) (.need (eH O.length (bZ O)) (.ret (Sum.inr ((m,()),cB O.length (bZ O)))))
def Au(U:List Un)(m:Nat)(i:Int)(O:List Un):Tr (G9 ⊕ (Nat×Unit)×List Un):=
 let x1:Int:= ↑U.length
 let x2:Bool:=decide (0≤i∧i<x1)
 let x3:Nat:=m+1
 let x4:Nat:=x3*408
 let x5:Nat:=35+1
 let x6:Int:=(U.getD i.toNat u0).f.y1.num
 let x7:Int:=(U.getD i.toNat u0).f.y0.num
 let x8:Int:=(U.getD i.toNat u0).f.x1.num
 let x9:Int:=(U.getD i.toNat u0).f.x0.num
 let x10:IV:=IV.v (.string ⟨⟨[]⟩⟩)
 let fI:IV:=IV.v (.string ⟨⟨aH 1⟩⟩)
 let fU:Int:=(U.getD i.toNat u0).b
 let iM:Int:=(U.getD i.toNat u0).a
 .ite (decide (i<x1)) (.need x2 (.need x2 (.need (decide (m≤O.length)) (.need true (.need (decide (x3≤9223372036854775807)) (.need (decide (x4≤140737488355328)) (.need (eH U.length (bZ U)) (.need (eH x3 (bN m (bZ O) λk=>List.take x5 (List.drop (k*x5) [IV.v (.string ⟨⟨aH (U.getD i.toNat u0).f.y1.den⟩⟩),IV.v (.bool false),IV.v (.string ⟨⟨aA x6.natAbs⟩⟩),IV.v (.bool (decide (x6<0))),IV.v (.string ⟨⟨aH (U.getD i.toNat u0).f.y0.den⟩⟩),IV.v (.bool false),IV.v (.string ⟨⟨aA x7.natAbs⟩⟩),IV.v (.bool (decide (x7<0))),IV.v (.string ⟨⟨aH (U.getD i.toNat u0).f.x1.den⟩⟩),IV.v (.bool false),IV.v (.string ⟨⟨aA x8.natAbs⟩⟩),IV.v (.bool (decide (x8<0))),IV.v (.string ⟨⟨aH (U.getD i.toNat u0).f.x0.den⟩⟩),IV.v (.bool false),IV.v (.string ⟨⟨aA x9.natAbs⟩⟩),IV.v (.bool (decide (x9<0))),IV.v (.bool (U.getD i.toNat u0).ob),IV.v (.bool (U.getD i.toNat u0).oa),IV.v (.bool false),x10,IV.v (.bool false),x10,IV.v (.bool false),fI,IV.v (.bool false),IV.v (.string ⟨⟨aA fU.natAbs⟩⟩),IV.v (.bool (decide (fU<0))),IV.v (.bool false),x10,IV.v (.bool false),x10,IV.v (.bool false),fI,IV.v (.bool false),IV.v (.string ⟨⟨aA iM.natAbs⟩⟩),IV.v (.bool (decide (iM<0)))].reverse))) (.ret (Sum.inl ((cB U.length (bZ U),x3,IntKind.i64.wrap (i+1),()),cB x3 (bN m (bZ O) λk=>List.take x5 (List.drop (k*x5) [IV.v (.string ⟨⟨aH (U.getD i.toNat u0).f.y1.den⟩⟩),IV.v (.bool false),IV.v (.string ⟨⟨aA x6.natAbs⟩⟩),IV.v (.bool (decide (x6<0))),IV.v (.string ⟨⟨aH (U.getD i.toNat u0).f.y0.den⟩⟩),IV.v (.bool false),IV.v (.string ⟨⟨aA x7.natAbs⟩⟩),IV.v (.bool (decide (x7<0))),IV.v (.string ⟨⟨aH (U.getD i.toNat u0).f.x1.den⟩⟩),IV.v (.bool false),IV.v (.string ⟨⟨aA x8.natAbs⟩⟩),IV.v (.bool (decide (x8<0))),IV.v (.string ⟨⟨aH (U.getD i.toNat u0).f.x0.den⟩⟩),IV.v (.bool false),IV.v (.string ⟨⟨aA x9.natAbs⟩⟩),IV.v (.bool (decide (x9<0))),IV.v (.bool (U.getD i.toNat u0).ob),IV.v (.bool (U.getD i.toNat u0).oa),IV.v (.bool false),x10,IV.v (.bool false),x10,IV.v (.bool false),fI,IV.v (.bool false),IV.v (.string ⟨⟨aA fU.natAbs⟩⟩),IV.v (.bool (decide (fU<0))),IV.v (.bool false),x10,IV.v (.bool false),x10,IV.v (.bool false),fI,IV.v (.bool false),IV.v (.string ⟨⟨aA iM.natAbs⟩⟩),IV.v (.bool (decide (iM<0)))].reverse))))))))))))) (.need (eH O.length (bZ O)) (.ret (Sum.inr ((m,()),cB O.length (bZ O)))))
def amA(U:List Un):Tr AV:=
 let x1:List Un:=cB U.length (bZ U)
 let x2:List Un:=cB 0 λx=> []
 let x3:List Un:=x2++List.drop (Int.toNat 0) x1
 let x4:Nat:=x3.length
 .need (eH U.length (bZ U)) (.need true (.need (uz ((x1,0,0,()),x2)) (.need (decide (x4≤x4)) (.ret (AV.c (IV.sl x4 36 (bZ x3)))))))
def amB(U:List Un):Tr AV:=
 let x1:List Un:=cB U.length (bZ U)
 let x2:List Un:=cB 0 λx=> []
 let x3:List Un:=x2++List.drop (Int.toNat 0) x1
 let x4:Nat:=x3.length
 .need (eH U.length (bZ U)) (.need true (.need (uz ((x1,0,0,()),x2)) (.need (decide (x4≤x4)) (.ret (AV.c (IV.sl x4 36 (bZ x3)))))))
theorem amC(U:List Un):aI Tryz.prog (λ_=>none) L106 1010 Tryz.f116 [GZ U]=amA U:=by kernel_rfl
theorem amD(U:List Un):aI Tryz.prog (λ_=>none) agM 1010 Tryz.f117 [GZ U]=amB U:=by kernel_rfl
theorem Xf(x:G9):(exec Tryz.prog (λ_=>none) bX 1010 (bn 0 (codeOf Tryz.f116)) (iQ (uD 185).nIn ((uD 185).head x))).bind ((uD 185).fin 0 0)=Ar x.1.1 x.1.2.1 x.1.2.2.1 x.2:=by
 obtain⟨⟨U,m,i,⟨⟩⟩,O⟩:=x
 kernel_rfl
theorem Xg(x:G9):(exec Tryz.prog (λ_=>none) bX 1010 (bn 0 (codeOf Tryz.f117)) (iQ (uD 148).nIn ((uD 148).head x))).bind ((uD 148).fin 0 0)=Au x.1.1 x.1.2.1 x.1.2.2.1 x.2:=by
 obtain⟨⟨U,m,i,⟨⟩⟩,O⟩:=x
 kernel_rfl
theorem Xh(U O:List Un)(i:Nat)(hl:i<U.length)(hn:U.length≤1000)(hO:O.length≤2000)(Q:G9 ⊕ (Nat×Unit)×List Un→Prop)(hq:Q (.inl ((U,O.length+1,((i+1:Nat):Int),()),O++[U.getD i u0]))):(Ar U O.length (i:Nat) O).sat Q:=by
 have hw1:IntKind.i64.wrap ((i:Int)+1)=((i+1:Nat):Int):=jR;have c1:decide ((0:Int)≤(i:Int)∧(i:Int)<(U.length:Int))=true:=bQ;have c2:decide ((i:Int)<(U.length:Int))=true:=bQ;have d1:decide (O.length+1≤9223372036854775807)=true:=bQ;have d2:decide ((O.length+1)*408≤140737488355328)=true:=bQ;have d3:decide (O.length≤1000)=true∨True:= .inr trivial;simp only[Ar, ↓fC, ↓fD, ↓fE, ↓fF,iA,iB,dY,dZ,d9,eu,dw,bY,dG,dh,fB,dS,bD,bE,dQ,bT,sat_true,iG,gF,kC,jq,eT,eU,Bool.and_true,eq_self,decide_true,Nat.le_refl,hw1,c1,c2,d1,d2,Int.toNat_natCast,Bool.and_self]
 repeat first
  | refine ah rfl ?_
  | refine au (λh=>Bool.noConfusion h) (λ_=> ?_)
  | refine au (λ_=> ?_) (λh=>Bool.noConfusion h)
 refine av ?_;exact hq
theorem SY(U O:List Un)(hO:O.length≤2000)(Q:G9 ⊕ (Nat×Unit)×List Un→Prop)(hq:Q (.inr ((O.length,()),O))):(Ar U O.length (U.length:Nat) O).sat Q:=by
 have c2:decide (((U.length:Nat):Int)<(U.length:Int))=false:=jK (by omega);simp only[Ar, ↓fC, ↓fD, ↓fE, ↓fF,iA,iB,dY,dZ,d9,eu,dw,bY,dG,dh,fB,dS,bD,bE,dQ,bT,sat_true,iG,gF,kC,jq,eT,eU,Bool.and_true,eq_self,decide_true,Nat.le_refl,c2]
 repeat first
  | refine ah rfl ?_
  | refine au (λh=>Bool.noConfusion h) (λ_=> ?_)
  | refine au (λ_=> ?_) (λh=>Bool.noConfusion h)
 exact av hq
theorem Zz(U:List Un)(hn:U.length≤1000)(Q:(Nat×Unit)×List Un→Prop): ∀(k i:Nat) (O:List Un),i+k=U.length→O.length+k≤2000→Q (((O++U.drop i).length,()),O++U.drop i)→dJ (λx:G9=>Ar x.1.1 x.1.2.1 x.1.2.2.1 x.2) Q (k+1) ((U,O.length,(i:Nat),()),O)
 | 0,i,O,he,hO,hq=>by
   obtain rfl:i=U.length:=by omega
   rw[List.drop_length,List.append_nil]at hq;exact SY U O (by omega) _ hq
 | k+1,i,O,he,hO,hq=>by
   have hl:i<U.length:=by omega
   refine Xh U O i hl hn (by omega) _ ?_;have hu:U.getD i u0=U[i]:=by simp[dR,hl]
   rw[List.drop_eq_getElem_cons hl]at hq;have h1:=Zz U hn Q k (i+1) (O++[U.getD i u0]) (by omega) (by simp;omega) (by rw[hu];simpa using hq);simp only[List.length_append,List.length_singleton]at h1;exact h1
theorem Xi:bF Tryz.prog 0 L106 (codeOf Tryz.f116):=by
 refine bG (d:=λid=>Nat.beq id 0) (λid=>by unfold L106;cases Nat.beq id 0<;>rfl) _ ?_;have hb:bU (λid=>Nat.beq id 0) (codeOf Tryz.f116)=[(0,.loop (bn 0 (codeOf Tryz.f116)))]:=by kernel_rfl
 rw[hb];intro p hp g hg;simp only[List.mem_singleton]at hp;subst hp;have hh:L106 0=some (((uD 185)).g 0):=rfl;rw[hh]at hg;obtain rfl:g=((uD 185)).g 0:=(Option.some.inj hg).symm;refine aZ.sU (N:=1010) aj eP (L:=bX) (ak 0 _) (KP 185) (λx=>Xf x) ?_;rintro⟨⟨U,m,i,⟨⟩⟩,O⟩ hx;have hx:uz ((U,m,i,()),O)=true:=hx;simp only[uz,cu,fT]at hx;have h1:m=O.length:=hx.1;have h2:0≤i:=hx.2.1;have h3:i≤(U.length:Nat):=hx.2.2.1;have h4:U.length≤1000:=hx.2.2.2.1;have h5:O.length≤1000:=hx.2.2.2.2;clear hx;subst h1;obtain⟨i,rfl⟩: ∃m:Nat,i=m:=⟨i.toNat,by omega⟩
 exact⟨_,Zz U h4 (· =(uD 185).res ((U,O.length,(i:Nat),()),O)) (U.length-i) i O (by omega) (by omega) rfl⟩
theorem agN(U:List Un)(h:U.length≤1000):(amA U).sat λr=>r=GZ U:=by
 have e0:cB 0 (λ_=>([]:List IV))=[]:=rfl;have hp:uz ((U,0,0,()),[])=true:=by
  simp only[uz,decide_true,Bool.true_and,cu,fT,List.length_nil];omega
 have d0: ∀X:List Un,List.drop (Int.toNat 0) X=X:=λX=>rfl
 simp only[amA, ↓fC, ↓fD, ↓fE, ↓fF,iA,iB,dY,dZ,d9,eu,dw,bY,dG,dh,fB,dS,bD,bE,dQ,bT,sat_true,e0,hp,d0,List.nil_append,Nat.le_refl,decide_true]
 repeat first
  | refine ah rfl ?_
  | refine au (λh=>Bool.noConfusion h) (λ_=> ?_)
  | refine au (λ_=> ?_) (λh=>Bool.noConfusion h)
 exact av rfl
theorem Xj(U O:List Un)(i:Nat)(hl:i<U.length)(hn:U.length≤1000)(hO:O.length≤2000)(Q:G9 ⊕ (Nat×Unit)×List Un→Prop)(hq:Q (.inl ((U,O.length+1,((i+1:Nat):Int),()),O++[U.getD i u0]))):(Au U O.length (i:Nat) O).sat Q:=by
 have hw1:IntKind.i64.wrap ((i:Int)+1)=((i+1:Nat):Int):=jR;have c1:decide ((0:Int)≤(i:Int)∧(i:Int)<(U.length:Int))=true:=bQ;have c2:decide ((i:Int)<(U.length:Int))=true:=bQ;have d1:decide (O.length+1≤9223372036854775807)=true:=bQ;have d2:decide ((O.length+1)*408≤140737488355328)=true:=bQ;have d3:decide (O.length≤1000)=true∨True:= .inr trivial;simp only[Au, ↓fC, ↓fD, ↓fE, ↓fF,iA,iB,dY,dZ,d9,eu,dw,bY,dG,dh,fB,dS,bD,bE,dQ,bT,sat_true,iG,gF,kC,jq,eT,eU,Bool.and_true,eq_self,decide_true,Nat.le_refl,hw1,c1,c2,d1,d2,Int.toNat_natCast,Bool.and_self]
 repeat first
  | refine ah rfl ?_
  | refine au (λh=>Bool.noConfusion h) (λ_=> ?_)
  | refine au (λ_=> ?_) (λh=>Bool.noConfusion h)
 refine av ?_;exact hq
theorem S9(U O:List Un)(hO:O.length≤2000)(Q:G9 ⊕ (Nat×Unit)×List Un→Prop)(hq:Q (.inr ((O.length,()),O))):(Au U O.length (U.length:Nat) O).sat Q:=by
 have c2:decide (((U.length:Nat):Int)<(U.length:Int))=false:=jK (by omega);simp only[Au, ↓fC, ↓fD, ↓fE, ↓fF,iA,iB,dY,dZ,d9,eu,dw,bY,dG,dh,fB,dS,bD,bE,dQ,bT,sat_true,iG,gF,kC,jq,eT,eU,Bool.and_true,eq_self,decide_true,Nat.le_refl,c2]
 repeat first
  | refine ah rfl ?_
  | refine au (λh=>Bool.noConfusion h) (λ_=> ?_)
  | refine au (λ_=> ?_) (λh=>Bool.noConfusion h)
 exact av hq
theorem ZA(U:List Un)(hn:U.length≤1000)(Q:(Nat×Unit)×List Un→Prop): ∀(k i:Nat) (O:List Un),i+k=U.length→O.length+k≤2000→Q (((O++U.drop i).length,()),O++U.drop i)→dJ (λx:G9=>Au x.1.1 x.1.2.1 x.1.2.2.1 x.2) Q (k+1) ((U,O.length,(i:Nat),()),O)
 | 0,i,O,he,hO,hq=>by
   obtain rfl:i=U.length:=by omega
   rw[List.drop_length,List.append_nil]at hq;exact S9 U O (by omega) _ hq
 | k+1,i,O,he,hO,hq=>by
   have hl:i<U.length:=by omega
   refine Xj U O i hl hn (by omega) _ ?_;have hu:U.getD i u0=U[i]:=by simp[dR,hl]
   rw[List.drop_eq_getElem_cons hl]at hq;have h1:=ZA U hn Q k (i+1) (O++[U.getD i u0]) (by omega) (by simp;omega) (by rw[hu];simpa using hq);simp only[List.length_append,List.length_singleton]at h1;exact h1
theorem Xk:bF Tryz.prog 0 agM (codeOf Tryz.f117):=by
 refine bG (d:=λid=>Nat.beq id 0) (λid=>by unfold agM;cases Nat.beq id 0<;>rfl) _ ?_;have hb:bU (λid=>Nat.beq id 0) (codeOf Tryz.f117)=[(0,.loop (bn 0 (codeOf Tryz.f117)))]:=by kernel_rfl
 rw[hb];intro p hp g hg;simp only[List.mem_singleton]at hp;subst hp;have hh:agM 0=some (((uD 148)).g 0):=rfl;rw[hh]at hg;obtain rfl:g=((uD 148)).g 0:=(Option.some.inj hg).symm;refine aZ.sU (N:=1010) aj eP (L:=bX) (ak 0 _) (KP 148) (λx=>Xg x) ?_;rintro⟨⟨U,m,i,⟨⟩⟩,O⟩ hx;have hx:uz ((U,m,i,()),O)=true:=hx;simp only[uz,cu,fT]at hx;have h1:m=O.length:=hx.1;have h2:0≤i:=hx.2.1;have h3:i≤(U.length:Nat):=hx.2.2.1;have h4:U.length≤1000:=hx.2.2.2.1;have h5:O.length≤1000:=hx.2.2.2.2;clear hx;subst h1;obtain⟨i,rfl⟩: ∃m:Nat,i=m:=⟨i.toNat,by omega⟩
 exact⟨_,ZA U h4 (· =(uD 148).res ((U,O.length,(i:Nat),()),O)) (U.length-i) i O (by omega) (by omega) rfl⟩
theorem agO(U:List Un)(h:U.length≤1000):(amB U).sat λr=>r=GZ U:=by
 have e0:cB 0 (λ_=>([]:List IV))=[]:=rfl;have hp:uz ((U,0,0,()),[])=true:=by
  simp only[uz,decide_true,Bool.true_and,cu,fT,List.length_nil];omega
 have d0: ∀X:List Un,List.drop (Int.toNat 0) X=X:=λX=>rfl
 simp only[amB, ↓fC, ↓fD, ↓fE, ↓fF,iA,iB,dY,dZ,d9,eu,dw,bY,dG,dh,fB,dS,bD,bE,dQ,bT,sat_true,e0,hp,d0,List.nil_append,Nat.le_refl,decide_true]
 repeat first
  | refine ah rfl ?_
  | refine au (λh=>Bool.noConfusion h) (λ_=> ?_)
  | refine au (λ_=> ?_) (λh=>Bool.noConfusion h)
 exact av rfl
def auw:List AV→Option (AV×List Bool):=(F1 l9).K (λx=>GZ x.1) λx=> [decide (x.1.length≤1000)]
theorem amE:aN Tryz.prog 116 auw:=
 (F1 l9).dO (N:=1010) (L:=L106) aj eP (fn:=Tryz.f116) (c:=codeOf Tryz.f116) (by kernel_rfl) (by kernel_rfl) (by kernel_rfl) Xi (λ_=>rfl) (M:=λx=>amA x.1) (λx=>amC x.1)
  λx h=>agN x.1 (dec (h (decide (x.1.length≤1000)) (by simp)))
def auy:List AV→Option (AV×List Bool):=(F1 l9).K (λx=>GZ x.1) λx=> [decide (x.1.length≤1000)]
theorem amF:aN Tryz.prog 117 auy:=
 (F1 l9).dO (N:=1010) (L:=agM) aj eP (fn:=Tryz.f117) (c:=codeOf Tryz.f117) (by kernel_rfl) (by kernel_rfl) (by kernel_rfl) Xk (λ_=>rfl) (M:=λx=>amB x.1) (λx=>amD x.1)
  λx h=>agO x.1 (dec (h (decide (x.1.length≤1000)) (by simp)))
end Go.bI
namespace Go.bI
open Go.Proofs
def Γ35:FuncId→Option Spec:=λf=>bif Nat.beq f 116 then some (ay auw)else bif Nat.beq f 115 then some (ay K49)else bif Nat.beq f 117 then some (ay auy)else none
theorem arF: ∀f s,Γ35 f=some s→aR Tryz.prog f s:=step_ok amE.spec (step_ok arE.spec (bS amF.spec))
def M35(U:List Un):Tr AV:=
 let x1:List Un:=cB U.length (bZ U)
 let x2:Nat:=x1.length
 let x3:List Un:=cB x2 (bZ x1)
 let x4:Nat:=x3.length
 let x5:List Un:=mJ x3
 let x6:Nat:=x5.length
 let x7:List Un:=cB x6 (bZ x5)
 let x8:Nat:=x7.length
 .need (eH U.length (bZ U)) (.need (decide (x2≤1000)) (.need (eH x2 (bZ x1)) (.need (mI x3) (.need (decide (1≤x4)) (.need (decide (x4≤19)) (.need (eH x6 (bZ x5)) (.need (decide (x8≤1000)) (.ret (AV.iC [AV.c (IV.sl x8 36 (bZ x7)),.c (.v (.int IntKind.i64 0))])))))))))
theorem arG(U:List Un):aI Tryz.prog Γ35 bX 1010 Tryz.f63 [GZ U]=M35 U:=by kernel_rfl
theorem amG(U:List Un)(h:mI U=true)(h1:1≤U.length)(h2:U.length≤19):(M35 U).sat λr=>r= .iC [GZ (mJ U),dn .i64 0]:=by
 have hm:=(Kh U).1;have c1:decide (U.length≤1000)=true:=bQ;have c2:decide ((mJ U).length≤1000)=true:=bQ;simp only[M35, ↓fC, ↓fD, ↓fE, ↓fF,iA,iB,dY,dZ,d9,eu,dw,bY,dG,dh,fB,dS,bD,bE,dQ,bT,sat_true,h,c1,c2,fZ h1,fZ h2]
 repeat first
  | refine ah rfl ?_
  | refine au (λh=>Bool.noConfusion h) (λ_=> ?_)
  | refine au (λ_=> ?_) (λh=>Bool.noConfusion h)
 exact av rfl
def K35:List AV→Option (AV×List Bool):=(F1 l9).K (λx=> .iC [GZ (mJ x.1),dn .i64 0]) λx=> [mI x.1,decide (1≤x.1.length),decide (x.1.length≤19)]
theorem arH:aN Tryz.prog 63 K35:=
 (F1 l9).dO (N:=1010) (L:=bX) aj arF (fn:=Tryz.f63) (c:=codeOf Tryz.f63) (by kernel_rfl) (by kernel_rfl) (by kernel_rfl) (ak _ _) (λ_=>rfl) (M:=λx=>M35 x.1) (λx=>arG x.1)
  λx h=>amG x.1 (h _ (by simp)) (dec (h (decide (1≤x.1.length)) (by simp))) (dec (h (decide (x.1.length≤19)) (by simp)))
end Go.bI
namespace Go.bI
open Go.Proofs
structure Sm where
 t:Int
 x:Int
 y:Int
def sN(s:Sm):List AV:=aC (s.t:Rat)++(aC (s.x:Rat)++aC (s.y:Rat))
def vZ(l:List AV):Bool:=aK l&&decide ((aB l).den=1)
def qQ(l:List AV):Int:=(aB l).num
def ru(l:List AV):Sm:=⟨qQ (l.take 4),qQ ((l.drop 4).take 4),qQ (l.drop 8)⟩
def LJ(l:List AV):Bool:=vZ (l.take 4)&&(vZ ((l.drop 4).take 4)&&vZ (l.drop 8))
theorem Fy{l:List AV}(h:vZ l=true):l=aC ((qQ l:Int):Rat):=by
 simp only[vZ,cu,fT]at h;unfold qQ;rw[Ke h.2];exact dX h.1
theorem PV{l:List AV}(h:LJ l=true):l=sN (ru l):=by
 simp only[LJ,cu]at h;obtain⟨h1,h2,h3⟩:=h;have e1:=Fy h1;have e2:=Fy h2;have e3:=Fy h3
 show l=aC ((qQ (l.take 4):Int):Rat)++(aC ((qQ ((l.drop 4).take 4):Int):Rat)++aC ((qQ (l.drop 8):Int):Rat))
 rw[←e1, ←e2, ←e3];have:=List.take_append_drop 4 (l.drop 4);rw[List.drop_drop]at this;rw[this,List.take_append_drop]
theorem xX(n:Int):qQ (aC (n:Rat))=n:=by unfold qQ;rw[dK];rfl
theorem xY(n:Int):vZ (aC (n:Rat))=true:=by
 unfold vZ;rw[iw,dK];rfl
theorem qR(s:Sm):ru (sN s)=s:=by
 show Sm.mk (qQ (aC (s.t:Rat))) (qQ (aC (s.x:Rat))) (qQ (aC (s.y:Rat)))=s
 rw[xX,xX,xX]
theorem oC(s:Sm):LJ (sN s)=true:=by
 show(vZ (aC (s.t:Rat))&&(vZ (aC (s.x:Rat))&&vZ (aC (s.y:Rat))))=true
 rw[xY,xY,xY];rfl
def ZB:Arg Sm where
 get:=λa=>match a with | .agg l=>some (ru l,[LJ l]) | _=>none
 put:=λs=> .agg (sN s)
 ok:=by
  intro a x cs h hc
  split at h
  ·rename_i l
   simp only[fK,Prod.mk.injEq]at h;obtain⟨rfl,rfl⟩:=h;have:=PV (l:=l) (hc _ (by simp));rw[←this];exact bM.refl _
  ·cases h
def auz:Arg Int where
 get:=λa=>match a with | .agg [.c (.v (.bool p)),.c (.v (.string s))]=>some (iv p s,[iL p s]) | _=>none
 put:=dD
 ok:=by
  intro a x cs h hc
  split at h
  ·rename_i p s
   simp only[fK,Prod.mk.injEq]at h;obtain⟨rfl,rfl⟩:=h;exact bM.of_eq (zT (hc _ (by simp)))
  ·cases h
def nL(a b:Sm):L4:=⟨hold ((a.x:Rat)-jJ a.t a.x b.t b.x*(a.t:Rat)),hold (jJ a.t a.x b.t b.x),hold ((a.y:Rat)-jJ a.t a.y b.t b.y*(a.t:Rat)),hold (jJ a.t a.y b.t b.y)⟩
def yJ(s:Sm):Bool:=decide (0≤s.t)&&(decide (s.t≤63)&&(decide (0≤s.x)&&(decide (s.x≤63)&&(decide (0≤s.y)&&decide (s.y≤63)))))
def Γ31:FuncId→Option Spec:=λf=>bif Nat.beq f 113 then some (ay adq)else none
theorem arI: ∀f s,Γ31 f=some s→aR Tryz.prog f s:=bS Yk.spec
def Γ33:FuncId→Option Spec:=λf=>bif Nat.beq f 114 then some (ay akD)else none
theorem arJ: ∀f s,Γ33 f=some s→aR Tryz.prog f s:=bS akM.spec
def M31(n:Int):Tr AV:=
 let x1:ByteArray:=⟨⟨aA n.natAbs⟩⟩
 let x2:Bool:=decide (n<0)
 let x3:Int:=iZ x1
 let x4:List AV:=[.c (.v (.bool true))]
 let x5:Bool:= !x2
 .ite (!iq x1) (.ret (AV.iC [.c (.v (.int IntKind.i64 0)),.c (.v (.bool false))])) (.need (bif x2 then true else true) (.ite (bif x2 then bif true then decide (x3≤9223372036854775808)else false else false) (.ret (AV.iC (.c (.v (.int IntKind.i64 (IntKind.i64.wrap (IntKind.u64.wrap (0-x3)))))::x4))) (.need (bif x5 then true else true) (.ite (bif x5 then bif true then decide (x3≤9223372036854775807)else false else false) (.ret (AV.iC (.c (.v (.int IntKind.i64 (IntKind.i64.wrap x3)))::x4))) (.ret (AV.iC [.c (.v (.int IntKind.i64 0)),.c (.v (.bool false))]))))))
def M33(a:Sm)(b:Sm):Tr AV:=
 let x1:List AV:=[.c (.v (.bool false)),.c (.v (.string ⟨⟨aH 1⟩⟩))]
 let x2:List AV:= .c (.v (.bool (decide (a.t<0)))):: .c (.v (.string ⟨⟨aA a.t.natAbs⟩⟩))::x1
 let x3:Bool:=aK x2
 let x4:List AV:= .c (.v (.bool (decide (a.x<0)))):: .c (.v (.string ⟨⟨aA a.x.natAbs⟩⟩))::x1
 let x5:List AV:= .c (.v (.bool (decide (b.t<0)))):: .c (.v (.string ⟨⟨aA b.t.natAbs⟩⟩))::x1
 let x6:Bool:=aK x5
 let x7:List AV:= .c (.v (.bool (decide (b.x<0)))):: .c (.v (.string ⟨⟨aA b.x.natAbs⟩⟩))::x1
 let x8:List AV:= .c (.v (.bool (decide (a.y<0)))):: .c (.v (.string ⟨⟨aA a.y.natAbs⟩⟩))::x1
 let x9:List AV:= .c (.v (.bool (decide (b.y<0)))):: .c (.v (.string ⟨⟨aA b.y.natAbs⟩⟩))::x1
 let x10:Int:=(hold (aB x4-jJ (aB x2) (aB x4) (aB x5) (aB x7)*aB x2)).num
 let fI:Int:=(hold (jJ (aB x2) (aB x4) (aB x5) (aB x7))).num
 let fU:Int:=(hold (aB x8-jJ (aB x2) (aB x8) (aB x5) (aB x9)*aB x2)).num
 let iM:Int:=(hold (jJ (aB x2) (aB x8) (aB x5) (aB x9))).num
 .need x3 (.need (aK x4) (.need x6 (.need (aK x7) (.need (uh (aB x2) (aB x4) (aB x5) (aB x7)) (.need x3 (.need (aK x8) (.need x6 (.need (aK x9) (.need (uh (aB x2) (aB x8) (aB x5) (aB x9)) (.ret (AV.agg [.c (.v (.bool (decide (x10<0)))),.c (.v (.string ⟨⟨aA x10.natAbs⟩⟩)),.c (.v (.bool false)),.c (.v (.string ⟨⟨aH (hold (aB x4-jJ (aB x2) (aB x4) (aB x5) (aB x7)*aB x2)).den⟩⟩)),.c (.v (.bool (decide (fI<0)))),.c (.v (.string ⟨⟨aA fI.natAbs⟩⟩)),.c (.v (.bool false)),.c (.v (.string ⟨⟨aH (hold (jJ (aB x2) (aB x4) (aB x5) (aB x7))).den⟩⟩)),.c (.v (.bool (decide (fU<0)))),.c (.v (.string ⟨⟨aA fU.natAbs⟩⟩)),.c (.v (.bool false)),.c (.v (.string ⟨⟨aH (hold (aB x8-jJ (aB x2) (aB x8) (aB x5) (aB x9)*aB x2)).den⟩⟩)),.c (.v (.bool (decide (iM<0)))),.c (.v (.string ⟨⟨aA iM.natAbs⟩⟩)),.c (.v (.bool false)),.c (.v (.string ⟨⟨aH (hold (jJ (aB x2) (aB x8) (aB x5) (aB x9))).den⟩⟩))])))))))))))
theorem arK(n:Int):aI Tryz.prog Γ31 bX 1010 Tryz.f59 [dD n]=M31 n:=by kernel_rfl
theorem arL(a b:Sm):aI Tryz.prog Γ33 bX 1010 Tryz.f61 [.agg (sN a),.agg (sN b)]=M33 a b:=by kernel_rfl
theorem amH(n:Int)(h0:0≤n)(h1:n≤1000000):(M31 n).sat λr=>r= .iC [dn .i64 n,bL true]:=by
 have hl:(aA n.natAbs).length≤8:=aaV (by omega);have hb:iq ⟨⟨aA n.natAbs⟩⟩=true:=fZ hl;have hv:iZ ⟨⟨aA n.natAbs⟩⟩=n:=by
  unfold iZ;rw[if_pos hl]
  show((aO (aA n.natAbs):Nat):Int)=n
  rw[jU];omega
 have hn:decide (n<0)=false:=jK (by omega);have hm:decide (n≤9223372036854775807)=true:=bQ;have hw:IntKind.i64.wrap n=n:=wrap_i64 (by omega);simp only[M31,hb,hv,hn,hm,hw,Bool.not_true,Bool.not_false,cond_true,cond_false,sat_true]
 repeat first
  | refine ah rfl ?_
  | refine au (λh=>Bool.noConfusion h) (λ_=> ?_)
  | refine au (λ_=> ?_) (λh=>Bool.noConfusion h)
 exact av rfl
theorem KQ{a b v w:Int}(hv:0≤v∧v≤63)(hw:0≤w∧w≤63)(ha:0≤a∧a≤63)(hb:a<b∧b≤a+8):
  uh a v b w=true∧jY 63 8 (jJ a v b w)∧jY 4473 8 ((v:Rat)-jJ a v b w*(a:Rat)):=by
 have ew:(w:Rat)-(v:Rat)=((w-v:Int):Rat):=by simp
 have eb:(b:Rat)-(a:Rat)=((b-a:Int):Rat):=by simp
 have n1:jY 63 1 (((w-v:Int):Rat)):=⟨by show(w-v).natAbs≤63;omega,Nat.le_refl _⟩
 have n2:jY 8 1 (((b-a:Int):Rat)):=⟨by show(b-a).natAbs≤8;omega,Nat.le_refl _⟩
 have nv:jY 63 1 ((v:Rat)):=⟨by show v.natAbs≤63;omega,Nat.le_refl _⟩
 have nw:jY 63 1 ((w:Rat)):=⟨by show w.natAbs≤63;omega,Nat.le_refl _⟩
 have na:jY 63 1 ((a:Rat)):=⟨by show a.natAbs≤63;omega,Nat.le_refl _⟩
 have nb:jY 71 1 ((b:Rat)):=⟨by show b.natAbs≤71;omega,Nat.le_refl _⟩
 have hs:jY 63 8 (jJ a v b w):=by
  unfold jJ;rw[ew,eb, ←J9];have:=jY.divInt (n:=((w-v:Int):Rat).num*(((b-a:Int):Rat).den:Int)) (d:=(((w-v:Int):Rat).den:Int)*((b-a:Int):Rat).num) (N:=63) (D:=8) (by show(0:Int)<1*(b-a);omega) (by show((w-v)*1).natAbs≤63;omega) (by show((1:Int)*(b-a)).natAbs≤8;omega);exact this
 have hne:(b:Rat)-(a:Rat)≠0:=by
  rw[eb];intro h;have:(b-a:Int)=0:=by have:=congrArg Rat.num h;exact this
  omega
 refine⟨?_,hs,(nv.sub (hs.mul na)).mono (by decide) (by decide)⟩;simp only[uh,nT,cu,fT];refine⟨⟨⟨⟨⟨nC nw nv.neg ?_ ?_ ?_ ?_ ?_ ?_,nC nb na.neg ?_ ?_ ?_ ?_ ?_ ?_⟩,?_⟩,hne⟩,sJ hs na ?_ ?_ ?_ ?_ ?_ ?_⟩,nC nv (hs.mul na).neg ?_ ?_ ?_ ?_ ?_ ?_⟩
 any_goals decide
 rw[ew,eb];exact akN n1 n2 (by decide) (by decide) (by decide) (by decide) (by decide) (by decide)
def He(a b:Sm):Bool:=yJ a&&(decide (0≤b.x)&&(decide (b.x≤63)&&(decide (0≤b.y)&&(decide (b.y≤63)&&(decide (a.t<b.t)&&decide (b.t≤a.t+8))))))
theorem Ta{a b:Sm}(h:He a b=true):uh a.t a.x b.t b.x=true∧uh a.t a.y b.t b.y=true∧uL (nL a b)=true:=by
 simp only[He,yJ,cu,fT]at h;obtain⟨⟨h1,h2,h3,h4,h5,h6⟩,h7,h8,h9,h10,h11,h12⟩:=h;obtain⟨a1,a2,a3⟩:=KQ ⟨h3,h4⟩ ⟨h7,h8⟩ ⟨h1,h2⟩ ⟨h11,h12⟩;obtain⟨b1,b2,b3⟩:=KQ ⟨h5,h6⟩ ⟨h9,h10⟩ ⟨h1,h2⟩ ⟨h11,h12⟩;refine⟨a1,b1,?_⟩;simp only[uL,nL,fV,cu,rG];exact⟨⟨a3.mono (by decide) (by decide),a2⟩,b3.mono (by decide) (by decide),b2⟩
theorem amI(a b:Sm)(h:He a b=true):(M33 a b).sat λr=>r=zu (nL a b):=by
 obtain⟨h1,h2,_⟩:=Ta h;simp only[M33,Ad,xM,h1,h2,sat_true];exact av rfl
def K31:List AV→Option (AV×List Bool):=(F1 auz).K (λx=> .iC [dn .i64 x.1,bL true]) λx=> [decide (0≤x.1),decide (x.1≤1000000)]
theorem arM:aN Tryz.prog 59 K31:=
 (F1 auz).dO (N:=1010) (L:=bX) aj arI (fn:=Tryz.f59) (c:=codeOf Tryz.f59) (by kernel_rfl) (by kernel_rfl) (by kernel_rfl) (ak _ _) (λ_=>rfl) (M:=λx=>M31 x.1) (λx=>arK x.1)
  λx h=>amH x.1 (dec (h (decide (0≤x.1)) (by simp))) (dec (h (decide (x.1≤1000000)) (by simp)))
def K33:List AV→Option (AV×List Bool):=(F2 ZB ZB).K (λx=>zu (nL x.1 x.2.1)) λx=> [He x.1 x.2.1]
theorem arN:aN Tryz.prog 61 K33:=
 (F2 ZB ZB).dO (N:=1010) (L:=bX) aj arJ (fn:=Tryz.f61) (c:=codeOf Tryz.f61) (by kernel_rfl) (by kernel_rfl) (by kernel_rfl) (ak _ _) (λ_=>rfl) (M:=λx=>M33 x.1 x.2.1) (λx=>arL x.1 x.2.1)
  λx h=>amI x.1 x.2.1 (h _ (by simp))
end Go.bI
