/- Helpers for the proof: no statement of its own. -/
import Derived.Test.YtclnfoepcemloaaGreatDoorT00
import Derived.Test.YtclnfoepcemloaaGreatDoorT03
import Derived.Sort.AssemblyPlain
set_option linter.unusedVariables false
set_option linter.unusedSimpArgs false
set_option linter.unnecessarySimpa false
set_option linter.deprecated false
set_option maxRecDepth 1000000
open Go.IntKind(i64 u64 u32)
open Nat(beq)
open Go.Proofs.Tryz(prog)
open Go.bA.Tr(need ret)
namespace Go.bA
open Go.Proofs
variable{F:Type}(J:Rl F)
def RN(x y:R3):Bool:=decide (x.p=y.p)&&(decide (x.r=y.r)&&(x.neg==y.neg))
def JU(i j:Ig):Bool:=RN i.a j.a&&(RN i.b j.b&&((i.oa==j.oa)&&(i.ob==j.ob)))
def adC(u v:Ue F):Bool:=JU u.i v.i&&J.eq u.f v.f
variable {J}
theorem JV{x y:R3}:RN x y=true↔x=y:=by
 obtain⟨a,b,c⟩:=x;obtain⟨a',b',c'⟩:=y;simp only[RN,bI,dS,beq_iff_eq,R3.mk.injEq]
theorem adD{x y:Ig}:JU x y=true↔x=y:=by
 obtain⟨a,b,c,d⟩:=x;obtain⟨a',b',c',d'⟩:=y;simp only[JU,bI,JV,beq_iff_eq,Ig.mk.injEq]
theorem adE{x y:Ue F}:adC J x y=true↔x=y:=by
 obtain⟨a,b⟩:=x;obtain⟨a',b'⟩:=y;simp only[adC,bI,adD,J.eq_iff,Ue.mk.injEq]
variable (J)
def lM:List (Ue F)→List (Ue F)→Bool
 | [],[]=>true
 | u::l,v::m=>adC J u v&&lM l m
 | _,_=>false
variable {J}
theorem rW: ∀{l m:List (Ue F)},lM J l m=true↔l=m
 | [],[]=>by simp[lM]
 | [],_::_=>by simp[lM]
 | _::_,[]=>by simp[lM]
 | u::l,v::m=>by simp only[lM,bI,adE,rW,List.cons.injEq]
variable (J)
abbrev NaX(F:Type):=Unit×List (Ue F)×Int×Int×Unit
abbrev FNa(tr:TypeId):Form (NaX F):= .cons (jH tr) (.cons J.E.unit.arg (.cons aX (.cons aX .nil)))
def JW(U:List (Ue F)):Bool:=(List.range (U.length-1)).all λk=>Bz (U.getD k J.E.unit.d).i (U.getD (k+1) J.E.unit.d).i
def MG(x:NaX F):Bool:=JW J x.2.1&&(iI x.2.1&&(decide (x.2.2.1=(x.2.1.length:Nat))&&(decide (x.2.2.2.1=0)&&decide (x.2.1.length≤100000))))
def VO(tr:TypeId):bC (NaX F) (Unit×List (Ue F)×Unit):=lD {nt:=219,live:=[0,1,17,18]} {nt:=219,live:=[0,1]} (dU.pure (FNa J tr)) (dU.pure (F2 (jH tr) J.E.unit.arg)) (λx=>((),x.2.1,())) (MG J)
variable {J}
theorem aah(tr:TypeId):(VO J tr).gH:=cZ _ _ _ _ _ _
variable (J)
def kS(i:Ig):Bool:=decide (i.a=i.b)
def Dy(A:List (Ue F))(i:Nat)(O:List (Ue F)):List (Ue F):=
 let x:=A.getD i J.E.unit.d
 let t:=x.i.a
 let l:=dV J.E O
 let bf:=decide (0<O.length)&&(decide (l.i.b=t)&& !kS l.i)
 if kS x.i then
  if bf&&J.sm l.f x.f t then O.set (O.length-1) ⟨⟨l.i.a,l.i.b,l.i.oa,false⟩,l.f⟩
  else if decide (i+1<A.length)&&(decide ((A.getD (i+1) J.E.unit.d).i.a=t)&&J.sm (A.getD (i+1) J.E.unit.d).f x.f t)then O
  else O++[⟨x.i,J.rd x.f t⟩]
 else
  if bf&&(!l.i.ob&&J.eq l.f x.f)then O.set (O.length-1) ⟨⟨l.i.a,x.i.b,l.i.oa,true⟩,l.f⟩
  else if decide (0<i)&&(kS (A.getD (i-1) J.E.unit.d).i&&(decide ((A.getD (i-1) J.E.unit.d).i.a=t)&& !yT J.E O t))then O++[⟨⟨x.i.a,x.i.b,false,x.i.ob⟩,x.f⟩]
  else O++[x]
def F8(A:List (Ue F)):Nat→Nat→List (Ue F)→List (Ue F)
 | 0,_,O=>O
 | n+1,i,O=>F8 A n (i+1) (Dy J A i O)
def OP(A:List (Ue F)):List (Ue F):=F8 J A A.length 0 []
abbrev VP(F:Type):=(Unit×List (Ue F)×Nat×List (Ue F)×List (Ue F)×Int×Int×Unit)×(List (Ue F)×Unit)
abbrev X4(F:Type):=(Nat×Unit)×(List (Ue F)×Unit)
def X5(A:List (Ue F)):Bool:=A.all λu=>EJ 100000 u.i&&J.bf u.f
def aqu(x:(VP F)):(X4 F):=match x with
 | (((),U,m,A,B,n,i,()),(O,()))=>(((OP J A).length,()),(OP J A,()))
def MH(x:(VP F)):Bool:=match x with
 | (((),U,m,A,B,n,i,()),(O,()))=>lM J A B&&(X5 J A&&(decide (m=0)&&(decide (O.length=0)&&(decide (i=0)&&(decide (n=(A.length:Int))&&decide (A.length≤300000))))))
def VQ(tr ty:TypeId):bC (VP F) (X4 F):=lD {nt:=219,live:=[0,1,7,8,41,42,43],lifts:=[(7,J.E.unit.n,ty)]} {nt:=219,live:=[7],lifts:=[(7,J.E.unit.n,ty)]} (.with (.cons (J.E.unit.ent ty) .nil) (.cons (jH tr) (.cons J.E.unit.arg (.cons (dZ 0 J.E.unit.n) (.cons J.E.unit.arg (.cons J.E.unit.arg (.cons aX (.cons aX .nil)))))))) (.with (.cons (J.E.unit.ent ty) .nil) (.cons (dZ 0 J.E.unit.n) .nil)) (aqu J) (MH J)
variable {J}
theorem aai(tr ty:TypeId):(VQ J tr ty).gH:=cZ _ _ _ _ _ _
variable (J)
def MI(U A B:List (Ue F))(n i:Int)(m len:Nat)(el:Nat→List IV):Tr ((VP F) ⊕ (X4 F)):=
 need (J.E.unit.oks U.length (J.E.unit.el U))<| need (J.E.unit.oks A.length (J.E.unit.el A))<| need (J.E.unit.oks B.length (J.E.unit.el B))<| need (J.E.unit.oks len el)<|
  ret (Sum.inl (((),J.E.unit.list U.length (J.E.unit.el U),m,J.E.unit.list A.length (J.E.unit.el A),J.E.unit.list B.length (J.E.unit.el B),n,i64.wrap (i+1),()),(J.E.unit.list len el,())))
def RO(w:Nat)(U A B:List (Ue F))(n i:Int)(m:Nat)(O:List (Ue F))(c:List IV):Tr ((VP F) ⊕ (X4 F)):=
 need (decide (m≤O.length))<| need true<| need (decide (m+1≤9223372036854775807))<| need (decide ((m+1)*w≤140737488355328))<|
  MI J U A B n i (m+1) (m+1) (dH m (J.E.unit.el O) λk=>(c.drop (k*J.E.unit.n)).take J.E.unit.n)
def X6(w:Nat)(U A B:List (Ue F))(n i:Int)(m:Nat)(O:List (Ue F))(x:Ue F):Tr ((VP F) ⊕ (X4 F)):=
 let j:=i64.wrap (i-1)
 let v:=A.getD j.toNat J.E.unit.d
 let IV':=dO v.i
 let RX:=aQ x.i.a
 let c1:=decide (0≤j∧j<(A.length:Int))
 let hO:=J.E.unit.list m (J.E.unit.el O)
 let aqv:=decide (m≤O.length)&&(J.E.unit.oks m (J.E.unit.el O)&&(dh RX&&(decide (hO.length≤400000)&&true)))
 let aqw:=bif true then KY v.i.a x.i.a else false
 let aqx:=bif true then decide ((uV IV').a=(uV IV').b)else false
 let aqy:=c1&&bif aqw then aqv else true
 let aqz:=bif false then aqv else true
 let aqA:=bif true then !yT J.E hO (bK RX)else false
 let aqB:=bif aqw then aqA else false
 let aqC:=bif false then aqA else false
 need (bif decide (i>0)then c1&&(qP IV'&&bif aqx then aqy else aqz)else bif false then aqy else aqz)<|
  Tr.ite (bif decide (i>0)then bif aqx then aqB else aqC else bif false then aqB else aqC)
   (RO J w U A B n i m O (wY ⟨x.i.a,x.i.b,false,x.i.ob⟩++J.E.iv x.f))
   (RO J w U A B n i m O (wY x.i++J.E.iv x.f))
def X7(w:Nat)(U A B:List (Ue F))(n i:Int)(m:Nat)(O:List (Ue F))(x:Ue F):Tr ((VP F) ⊕ (X4 F)):=
 let j:=i64.wrap (i+1)
 let v:=A.getD j.toNat J.E.unit.d
 let QV:=((J.E.iv v.f).map AV.c)
 let QX:=((J.E.iv x.f).map AV.c)
 let RX:=aQ x.i.a
 let c1:=decide (0≤j∧j<(A.length:Int))
 let aqD:=bif true then KY v.i.a x.i.a else false
 let x152:=c1&&(J.E.ok QV&&(J.E.ok QX&&(dh RX&&(J.bf (J.E.V QV)&&(J.bf (J.E.V QX)&&(iH 100000 (bK RX)&&true))))))
 let x153:=bif true then J.sm (J.E.V QV) (J.E.V QX) (bK RX)else false
 need (bif decide (j<(A.length:Int))then c1&&bif aqD then x152 else true else bif false then x152 else true)<|
  Tr.ite (bif decide (j<(A.length:Int))then bif aqD then x153 else false else bif false then x153 else false)
   (MI J U A B n i m O.length (J.E.unit.el O))
   (need (J.E.ok QX)<| need (dh RX)<| need (J.bf (J.E.V QX))<| need (iH 100000 (bK RX))<|
    RO J w U A B n i m O (wY x.i++J.E.iv (J.rd (J.E.V QX) (bK RX))))
def EP(w:Nat)(U:List (Ue F))(m:Nat)(A B:List (Ue F))(n i:Int)(O:List (Ue F)):Tr ((VP F) ⊕ (X4 F)):=
 let x:=B.getD i.toNat J.E.unit.d
 let l:=i64.wrap ((m:Int)-1)
 let u:=O.getD l.toNat J.E.unit.d
 let x3:=decide ((m:Int)>0)
 let x5:=decide (0≤l∧l<(m:Int))
 let x7:=decide (l.toNat<O.length)
 let IU:=dO u.i
 let IX:=dO x.i
 let QU:=((J.E.iv u.f).map AV.c)
 let QX:=((J.E.iv x.f).map AV.c)
 let RX:=aQ x.i.a
 let x31:=bif true then KY u.i.b x.i.a else false
 let Hl:=x5&&(x7&&(qP IU&&true))
 let x38:=bif true then !decide ((uV IU).a=(uV IU).b)else false
 let x61:= !decide ((uV IX).a=(uV IX).b)
 let x62:=bif true then !u.i.ob else false
 let x88:=x7&&(J.E.ok QU&&(J.E.ok QX&&true))
 let x89:=bif true then J.eq (J.E.V QU) (J.E.V QX)else false
 Tr.ite (decide (i<n))
  (need (decide (0≤i∧i<(B.length:Int)))<| need (bif x3 then x5&&(x7&&bif x31 then Hl else true)else bif false then Hl else true)<|
   Tr.ite (bif x3 then bif x31 then x38 else false else bif false then x38 else false)
    (need x5<| need (qP IX)<| Tr.ite x61
     (need (bif !false then x7&&bif x62 then x88 else true else bif false then x88 else true)<|
      Tr.ite (bif !false then bif x62 then x89 else false else bif false then x89 else false)
       (need x7<| need x7<| MI J U A B n i m O.length (aT (aT (J.E.unit.el O) l.toNat (0+0+9) (uS x.i.b)) l.toNat (0+0+19) [.v (.bool true)]))
       (X6 J w U A B n i m O x))
     (need (bif !false then x7&&(J.E.ok QU&&(J.E.ok QX&&(dh RX&&(J.bf (J.E.V QU)&&(J.bf (J.E.V QX)&&(iH 100000 (bK RX)&&true))))))else true)<|
      Tr.ite (bif !false then bif true then J.sm (J.E.V QU) (J.E.V QX) (bK RX)else false else false)
       (need x7<| MI J U A B n i m O.length (aT (J.E.unit.el O) l.toNat (0+0+19) [.v (.bool false)]))
       (X7 J w U A B n i m O x)))
    (need (qP IX)<| Tr.ite x61
     (Tr.ite false (Tr.fail "pieces.go:171")<| Tr.ite false (Tr.fail "pieces.go:171")<| Tr.ite false (Tr.fail "pieces.go:172")<| X6 J w U A B n i m O x)
     (Tr.ite false (Tr.fail "pieces.go:180")<| Tr.ite false (Tr.fail "pieces.go:181")<| X7 J w U A B n i m O x)))
  (need (J.E.unit.oks O.length (J.E.unit.el O))<| ret (Sum.inr ((m,()),(J.E.unit.list O.length (J.E.unit.el O),()))))
def ER(U:List (Ue F))(n i:Int):Tr ((NaX F) ⊕ Unit×List (Ue F)×Unit):=
 let j:=i64.wrap (i-1)
 let u:=U.getD j.toNat J.E.unit.d
 let v:=U.getD i.toNat J.E.unit.d
 let A:=dO u.i
 let B:=dO v.i
 let RA:=aQ u.i.b
 let RB:=aQ v.i.a
 Tr.ite (decide (i<n))
  (need (bif decide (i>0)then decide (0≤j∧j<(U.length:Int))&&(decide (0≤i∧i<(U.length:Int))&&(qP A&&(qP B&&(iH 100000 (bK RA)&&(iH 100000 (bK RB)&&true)))))else true)<|
   Tr.ite (bif decide (i>0)then bif true then !Bz (uV A) (uV B)else false else false) (Tr.fail "out")
    (need (J.E.unit.oks U.length (J.E.unit.el U))<| ret (Sum.inl ((),J.E.unit.list U.length (J.E.unit.el U),n,i64.wrap (i+1),()))))
  (need (J.E.unit.oks U.length (J.E.unit.el U))<| ret (Sum.inr ((),J.E.unit.list U.length (J.E.unit.el U),())))
variable {J}
theorem zO(U A:List (Ue F))(i:Nat)(hi:i<A.length)(lA:A.length≤300000)(O':List (Ue F))(m len:Nat)(el:Nat→List IV)(h1:J.E.unit.list len el=O')(h2:J.E.unit.oks len el=true)(hm:m=O'.length){R:(VP F) ⊕ (X4 F)→Prop}
  (hq:R (.inl (((),U,O'.length,A,A,(A.length:Int),((i+1:Nat):Int),()),(O',())))):(MI J U A A (A.length:Int) (i:Nat) m len el).sat R:=by
 have w1:i64.wrap ((i:Int)+1)=((i+1:Nat):Int):=kU;subst hm;simp only[MI,h1,h2,J.E.unit.aG,J.E.unit.aP,w1,sat_true];exact ak hq
theorem nO{w:Nat}(hw:w≤1000000)(U A:List (Ue F))(i:Nat)(hi:i<A.length)(lA:A.length≤300000)(O:List (Ue F))(hO:O.length≤300000)(x:Ue F)(c:List IV)(hc:c=wY x.i++J.E.iv x.f){R:(VP F) ⊕ (X4 F)→Prop}
  (hq:R (.inl (((),U,(O++[x]).length,A,A,(A.length:Int),((i+1:Nat):Int),()),(O++[x],())))):(RO J w U A A (A.length:Int) (i:Nat) O.length O c).sat R:=by
 subst hc;obtain⟨s1,s2⟩:=J.E.unit.snoc O x (λk=>((wY x.i++J.E.iv x.f).drop (k*J.E.unit.n)).take J.E.unit.n) (J.E.unit.MC x);have:=Nat.mul_le_mul (show O.length+1≤300001 by omega) hw;unfold RO;refine ah (dA) (ah rfl (ah (dA) (ah (dA) ?_)));exact zO U A i hi lA (O++[x]) _ _ _ s1 s2 (by simp) hq
variable (J)
structure asD (O:List (Ue F)):Prop where
 len:O.length≤300000
 bt: ∀u∈O,kS u.i=false→J.bf u.f=true
variable {J}
theorem OQ{A:List (Ue F)}(h:X5 J A=true){i:Nat}(hi:i<A.length):EJ 100000 (A.getD i J.E.unit.d).i=true∧J.bf (A.getD i J.E.unit.d).f=true:=by
 have:=List.all_eq_true.1 h A[i] (List.getElem_mem hi);have e:A.getD i J.E.unit.d=A[i]:=by simp[dJ,hi]
 rw[e];simpa using this
theorem BF(i:Ig):decide ((uV (dO i)).a=(uV (dO i)).b)=kS i:=by rw[jY];rfl
variable (J)
def KZ(A:List (Ue F))(i:Nat)(O:List (Ue F))(x:Ue F):List (Ue F):=
 if decide (0<i)&&(kS (A.getD (i-1) J.E.unit.d).i&&(decide ((A.getD (i-1) J.E.unit.d).i.a=x.i.a)&& !yT J.E O x.i.a))then O++[⟨⟨x.i.a,x.i.b,false,x.i.ob⟩,x.f⟩]else O++[x]
def K3(A:List (Ue F))(i:Nat)(O:List (Ue F))(x:Ue F):List (Ue F):=
 if decide (i+1<A.length)&&(decide ((A.getD (i+1) J.E.unit.d).i.a=x.i.a)&&J.sm (A.getD (i+1) J.E.unit.d).f x.f x.i.a)then O else O++[⟨x.i,J.rd x.f x.i.a⟩]
variable {J}
theorem ES{w:Nat}(hw:w≤1000000)(U A:List (Ue F))(hA:X5 J A=true)(i:Nat)(hi:i<A.length)(lA:A.length≤300000)(O:List (Ue F))(hO:O.length≤300000)(x:Ue F){R:(VP F) ⊕ (X4 F)→Prop}
  (hq:R (.inl (((),U,(KZ J A i O x).length,A,A,(A.length:Int),((i+1:Nat):Int),()),(KZ J A i O x,())))):(X6 J w U A A (A.length:Int) (i:Nat) O.length O x).sat R:=by
 have c4:decide (O.length≤O.length)=true:=dK (Nat.le_refl _);have c5:decide (O.length≤400000)=true:=dA;unfold X6;by_cases h0:0<i
 ·have w1:i64.wrap ((i:Int)-1)=((i-1:Nat):Int):=kU
  have c1:decide ((i:Int)>0)=true:=dA;have c2:decide ((0:Int)≤((i-1:Nat):Int)∧((i-1:Nat):Int)<(A.length:Int))=true:=dA;simp only[w1,c1,c2,cB,BF,iy,zN,bT,dw,J.E.unit.aG,J.E.unit.aP,c4,c5,cond_true,cond_false,Bool.true_and,Bool.and_true];unfold KZ at hq;rw[dK h0,Bool.true_and]at hq;generalize A.getD (i-1) J.E.unit.d=v at*;refine ah ?_ ?_
  ·cases kS v.i<;>cases decide (v.i.a=x.i.a)<;>rfl
  ·cases h1:kS v.i with
   | false=>
     rw[h1]at hq;exact aj (λh=>by cases h) λ_=>nO hw U A i hi lA O hO x _ rfl hq
   | true=>
     cases h2:decide (v.i.a=x.i.a)with
     | false=>
       rw[h1,h2]at hq;exact aj (λh=>by cases h) λ_=>nO hw U A i hi lA O hO x _ rfl hq
     | true=>
       rw[h1,h2]at hq;cases h3:yT J.E O x.i.a with
       | true=>
         rw[h3]at hq;exact aj (λh=>by cases h) λ_=>nO hw U A i hi lA O hO x _ rfl hq
       | false=>
         rw[h3]at hq;exact aj (λ_=>nO hw U A i hi lA O hO ⟨⟨x.i.a,x.i.b,false,x.i.ob⟩,x.f⟩ _ rfl hq) λh=>by cases h
 ·have c1:decide ((i:Int)>0)=false:=iB (by omega)
  simp only[c1,cond_false];unfold KZ at hq;rw[iB h0,Bool.false_and]at hq;exact ah rfl (aj (λh=>by cases h) λ_=>nO hw U A i hi lA O hO x _ rfl hq)
theorem ET{w:Nat}(hw:w≤1000000)(U A:List (Ue F))(hA:X5 J A=true)(i:Nat)(hi:i<A.length)(lA:A.length≤300000)(O:List (Ue F))(hO:O.length≤300000)(x:Ue F)(hx:J.bf x.f=true)(ht:iH 100000 x.i.a=true){R:(VP F) ⊕ (X4 F)→Prop}
  (hq:R (.inl (((),U,(K3 J A i O x).length,A,A,(A.length:Int),((i+1:Nat):Int),()),(K3 J A i O x,())))):(X7 J w U A A (A.length:Int) (i:Nat) O.length O x).sat R:=by
 have w1:i64.wrap ((i:Int)+1)=((i+1:Nat):Int):=kU;unfold X7;by_cases h0:i+1<A.length
 ·have c1:decide (((i+1:Nat):Int)<(A.length:Int))=true:=dA
  have c2:decide ((0:Int)≤((i+1:Nat):Int)∧((i+1:Nat):Int)<(A.length:Int))=true:=dA;have hv:=(OQ hA h0).2;simp only[w1,c1,c2,cB,J.E.pY,J.E.Dq,zN,bT,dw,J.E.unit.aP,hx,ht,hv,cond_true,cond_false,Bool.true_and,Bool.and_true,sat_true];unfold K3 at hq;rw[dK h0,Bool.true_and]at hq;generalize A.getD (i+1) J.E.unit.d=v at*;refine ah ?_ ?_
  ·cases decide (v.i.a=x.i.a)<;>rfl
  ·cases h1:decide (v.i.a=x.i.a)with
   | false=>
     rw[h1]at hq;exact aj (λh=>by cases h) λ_=>ah rfl (ah rfl (ah rfl (ah rfl (nO hw U A i hi lA O hO ⟨x.i,J.rd x.f x.i.a⟩ _ rfl hq))))
   | true=>
     rw[h1]at hq;cases h2:J.sm v.f x.f x.i.a with
     | false=>
       rw[h2]at hq;exact aj (λh=>by cases h) λ_=>ah rfl (ah rfl (ah rfl (ah rfl (nO hw U A i hi lA O hO ⟨x.i,J.rd x.f x.i.a⟩ _ rfl hq))))
     | true=>
       rw[h2]at hq;exact aj (λ_=>zO U A i hi lA O _ _ _ (J.E.unit.aG O) (J.E.unit.aP O _) rfl hq) λh=>by cases h
 ·have c1:decide (((i+1:Nat):Int)<(A.length:Int))=false:=iB (by omega)
  simp only[w1,c1,J.E.pY,J.E.Dq,bT,dw,hx,ht,cond_false,sat_true];unfold K3 at hq;rw[iB h0,Bool.false_and]at hq;exact aj (λh=>by cases h) λ_=>ah rfl (ah rfl (ah rfl (ah rfl (nO hw U A i hi lA O hO ⟨x.i,J.rd x.f x.i.a⟩ _ rfl hq))))
theorem Hw(A:List (Ue F))(i:Nat)(O:List (Ue F)):Dy J A i O=
 let x:=A.getD i J.E.unit.d
 let l:=dV J.E O
 let bf:=decide (0<O.length)&&(decide (l.i.b=x.i.a)&& !kS l.i)
 if kS x.i then(if bf&&J.sm l.f x.f x.i.a then O.set (O.length-1) ⟨⟨l.i.a,l.i.b,l.i.oa,false⟩,l.f⟩else K3 J A i O x)
 else(if bf&&(!l.i.ob&&J.eq l.f x.f)then O.set (O.length-1) ⟨⟨l.i.a,x.i.b,l.i.oa,true⟩,l.f⟩else KZ J A i O x):=rfl
theorem anF(O:List (Ue F))(h:O.length-1<O.length)(b:Bool):J.E.unit.list O.length (aT (J.E.unit.el O) (O.length-1) (0+0+19) [.v (.bool b)])=O.set (O.length-1) ⟨⟨(dV J.E O).i.a,(dV J.E O).i.b,(dV J.E O).i.oa,b⟩,(dV J.E O).f⟩∧J.E.unit.oks O.length (aT (J.E.unit.el O) (O.length-1) (0+0+19) [.v (.bool b)])=true:=
 J.E.unit.set O (O.length-1) h (0+0+19) [.v (.bool b)] ⟨⟨(dV J.E O).i.a,(dV J.E O).i.b,(dV J.E O).i.oa,b⟩,(dV J.E O).f⟩ rfl
theorem aqE{X:Type}(E:kZ X)(U:List X)(i:Nat)(j j':Nat)(c c':List IV)(u:X)(he:((E.iv (U.getD i E.d)).take j++c++(E.iv (U.getD i E.d)).drop (j+c.length)).take j'++c'++((E.iv (U.getD i E.d)).take j++c++(E.iv (U.getD i E.d)).drop (j+c.length)).drop (j'+c'.length)=E.iv u)(k:Nat)(hk:k<U.length):
  aT (aT (E.el U) i j c) i j' c' k=E.el (U.set i u) k:=by
 unfold aT;by_cases hk2:k=i
 ·subst hk2
  simp only[if_true];unfold kZ.el;rw[he];simp[dJ,hk]
 ·simp only[hk2,if_false]
  unfold kZ.el;simp[dJ,List.getElem?_set_ne (Ne.symm hk2)]
theorem anG(O:List (Ue F))(b:R3):J.E.unit.list O.length (aT (aT (J.E.unit.el O) (O.length-1) (0+0+9) (uS b)) (O.length-1) (0+0+19) [.v (.bool true)])=O.set (O.length-1) ⟨⟨(dV J.E O).i.a,b,(dV J.E O).i.oa,true⟩,(dV J.E O).f⟩∧J.E.unit.oks O.length (aT (aT (J.E.unit.el O) (O.length-1) (0+0+9) (uS b)) (O.length-1) (0+0+19) [.v (.bool true)])=true:=by
 have key:=aqE J.E.unit O (O.length-1) (0+0+9) (0+0+19) (uS b) [.v (.bool true)] ⟨⟨(dV J.E O).i.a,b,(dV J.E O).i.oa,true⟩,(dV J.E O).f⟩ rfl;rw[J.E.unit.kK key,J.E.unit.mF key];refine⟨?_,J.E.unit.aP _ _⟩;have:=J.E.unit.aG (O.set (O.length-1) (⟨⟨(dV J.E O).i.a,b,(dV J.E O).i.oa,true⟩,(dV J.E O).f⟩:Ue F));rw[List.length_set]at this;exact this
theorem EU{O:List (Ue F)}(h:0<O.length):dV J.E O∈O:=by
 have e:dV J.E O=O[O.length-1]:=by simp[dV,dJ,show O.length-1<O.length by omega]
 rw[e];exact List.getElem_mem _
theorem aaj{w:Nat}(hw:w≤1000000)(U A:List (Ue F))(hA:X5 J A=true)(i:Nat)(hi:i<A.length)(lA:A.length≤300000)(O:List (Ue F))(hO:asD J O){R:(VP F) ⊕ (X4 F)→Prop}
  (hq:R (.inl (((),U,(Dy J A i O).length,A,A,(A.length:Int),((i+1:Nat):Int),()),(Dy J A i O,())))):(EP J w U O.length A A (A.length:Int) (i:Nat) O).sat R:=by
 obtain⟨lO,bO⟩:=hO;obtain⟨xi,xf⟩:=OQ hA hi;have xa:=(rF xi).1;have c1:decide ((i:Int)<(A.length:Int))=true:=dA;have c2:decide ((0:Int)≤(i:Int)∧(i:Int)<(A.length:Int))=true:=dA;rw[Hw]at hq;dsimp only at hq;unfold EP;by_cases h0:0<O.length
 ·have w1:i64.wrap ((O.length:Int)-1)=((O.length-1:Nat):Int):=kU
  have c3:decide ((O.length:Int)>0)=true:=dA;have c4:decide ((0:Int)≤((O.length-1:Nat):Int)∧((O.length-1:Nat):Int)<(O.length:Int))=true:=dA;have c5:decide (O.length-1<O.length)=true:=dA;have hl:O.getD (O.length-1) J.E.unit.d=dV J.E O:=rfl;have bl:=bO (dV J.E O) (EU h0);rw[dK h0,Bool.true_and]at hq;simp only[c1,c2,c3,c4,c5,w1,hl,cB,BF,iy,J.E.pY,J.E.Dq,zN,bT,dw,xf,xa,cond_true,cond_false,Bool.true_and,Bool.and_true,Bool.not_false,sat_true];generalize hx:A.getD i J.E.unit.d=x at*;refine aj (λ_=> ?_) (λh=>by cases h);refine ah rfl (ah ?_ ?_)
  ·cases decide ((dV J.E O).i.b=x.i.a)<;>rfl
  ·cases h1:decide ((dV J.E O).i.b=x.i.a)&& !kS (dV J.E O).i with
   | true=>
     have h1':=Bool.and_eq_true_iff.1 h1;have bq:J.bf (dV J.E O).f=true:=bl (by simpa using h1'.2);rw[h1,Bool.true_and,Bool.true_and]at hq;refine aj (λ_=> ?_) (λh=>by rw[h1'.1,h1'.2]at h;cases h);simp only[bq,cond_true,Bool.true_and,Bool.and_true]
     repeat refine ah rfl ?_
     cases h2:kS x.i with
     | true=>
       rw[h2,if_pos rfl]at hq;refine aj (λh=>by cases h) (λ_=> ?_);refine ah rfl ?_;cases h3:J.sm (dV J.E O).f x.f x.i.a with
       | true=>
         rw[h3,if_pos rfl]at hq;refine aj (λ_=> ?_) (λh=>by cases h);obtain⟨s1,s2⟩:=anF O (by omega) false
         repeat refine ah rfl ?_
         exact zO U A i hi lA _ _ _ _ s1 s2 (by simp) hq
       | false=>
         rw[h3]at hq;refine aj (λh=>by cases h) (λ_=> ?_);exact ET hw U A hA i hi lA O lO x xf xa hq
     | false=>
       rw[h2]at hq;refine aj (λ_=> ?_) (λh=>by cases h);refine ah (by cases (dV J.E O).i.ob<;>rfl) ?_;cases h3: !(dV J.E O).i.ob&&J.eq (dV J.E O).f x.f with
       | true=>
         rw[h3,if_pos rfl]at hq;have h3':=Bool.and_eq_true_iff.1 h3;refine aj (λ_=> ?_) (λh=>by rw[h3'.1,h3'.2]at h;cases h);obtain⟨s1,s2⟩:=anG O x.i.b
         repeat refine ah rfl ?_
         exact zO U A i hi lA _ _ _ _ s1 s2 (by simp) hq
       | false=>
         rw[h3]at hq;refine aj (λh=>by revert h h3;cases (dV J.E O).i.ob<;>cases J.eq (dV J.E O).f x.f<;>simp) (λ_=> ?_);exact ES hw U A hA i hi lA O lO x hq
   | false=>
     rw[h1,Bool.false_and,Bool.false_and]at hq;refine aj (λh=>by revert h h1;cases decide ((dV J.E O).i.b=x.i.a)<;>cases kS (dV J.E O).i<;>simp) (λ_=> ?_)
     repeat refine ah rfl ?_
     cases h2:kS x.i with
     | true=>
       rw[h2,if_pos rfl]at hq;refine aj (λh=>by cases h) (λ_=>aj (λh=>by cases h) (λ_=>aj (λh=>by cases h) (λ_=> ?_)));exact ET hw U A hA i hi lA O lO x xf xa hq
     | false=>
       rw[h2]at hq;refine aj (λ_=>aj (λh=>by cases h) (λ_=>aj (λh=>by cases h) (λ_=>aj (λh=>by cases h) (λ_=> ?_)))) (λh=>by cases h);exact ES hw U A hA i hi lA O lO x hq
 ·have c3:decide ((O.length:Int)>0)=false:=iB (by omega)
  rw[iB h0,Bool.false_and]at hq;simp only[c1,c2,c3,BF,iy,cB,xf,xa,cond_true,cond_false,sat_true];generalize hx:A.getD i J.E.unit.d=x at*;refine aj (λ_=> ?_) (λh=>by cases h);refine ah rfl (ah rfl (aj (λh=>by cases h) (λ_=> ?_)));rw[Bool.false_and,Bool.false_and]at hq
  repeat refine ah rfl ?_
  cases h2:kS x.i with
  | true=>
    rw[h2,if_pos rfl]at hq;refine aj (λh=>by cases h) (λ_=>aj (λh=>by cases h) (λ_=>aj (λh=>by cases h) (λ_=> ?_)));exact ET hw U A hA i hi lA O lO x xf xa hq
  | false=>
    rw[h2]at hq;refine aj (λ_=>aj (λh=>by cases h) (λ_=>aj (λh=>by cases h) (λ_=>aj (λh=>by cases h) (λ_=> ?_)))) (λh=>by cases h);exact ES hw U A hA i hi lA O lO x hq
theorem aak(U:List (Ue F))(h1:JW J U=true)(h2:iI U=true)(hn:U.length≤100000)(i:Nat)(hi:i<U.length){R:(NaX F) ⊕ Unit×List (Ue F)×Unit→Prop}(hq:R (.inl ((),U,(U.length:Int),((i+1:Nat):Int),()))):(ER J U (U.length:Int) (i:Nat)).sat R:=by
 have w1:i64.wrap ((i:Int)+1)=((i+1:Nat):Int):=kU;have c1:decide ((i:Int)<(U.length:Int))=true:=dA;have c2:decide ((0:Int)≤(i:Int)∧(i:Int)<(U.length:Int))=true:=dA;unfold ER;by_cases h0:0<i
 ·have w2:i64.wrap ((i:Int)-1)=((i-1:Nat):Int):=kU
  have c3:decide ((i:Int)>0)=true:=dA;have c4:decide ((0:Int)≤((i-1:Nat):Int)∧((i-1:Nat):Int)<(U.length:Int))=true:=dA;have ha:Bz (U.getD (i-1) J.E.unit.d).i (U.getD i J.E.unit.d).i=true:=by
   have:=List.all_eq_true.1 h1 (i-1) (List.mem_range.2 (by omega));rw[show i-1+1=i by omega]at this;exact this
  have b1:EJ 100000 (U.getD (i-1) J.E.unit.d).i=true:=by
   have e:U.getD (i-1) J.E.unit.d=U[i-1]:=by simp[dJ,show i-1<U.length by omega]
   rw[e];exact List.all_eq_true.1 h2 _ (List.getElem_mem _)
  have b2:EJ 100000 (U.getD i J.E.unit.d).i=true:=by
   have e:U.getD i J.E.unit.d=U[i]:=by simp[dJ,hi]
   rw[e];exact List.all_eq_true.1 h2 _ (List.getElem_mem _)
  have b3:=(rF b1).2;have b4:=(rF b2).1;simp only[w1,w2,c1,c2,c3,c4,cB,jY,iy,bT,dw,b3,b4,ha,J.E.unit.aG,J.E.unit.aP,cond_true,Bool.true_and,Bool.not_true,sat_true];exact aj (λ_=>ah rfl (aj (λh=>by cases h) (λ_=>ah rfl (ak hq)))) (λh=>by cases h)
 ·have c3:decide ((i:Int)>0)=false:=iB (by omega)
  simp only[w1,c1,c3,J.E.unit.aG,J.E.unit.aP,cond_false,sat_true];exact aj (λ_=>ah rfl (aj (λh=>by cases h) (λ_=>ah rfl (ak hq)))) (λh=>by cases h)
theorem VR(U:List (Ue F))(i:Nat)(hi: ¬i<U.length){R:(NaX F) ⊕ Unit×List (Ue F)×Unit→Prop}(hq:R (.inr ((),U,()))):(ER J U (U.length:Int) (i:Nat)).sat R:=by
 have c1:decide ((i:Int)<(U.length:Int))=false:=iB (by omega);unfold ER;simp only[c1,J.E.unit.aG,J.E.unit.aP];exact aj (λh=>by cases h) (λ_=>ah rfl (ak hq))
theorem adF(U:List (Ue F))(h1:JW J U=true)(h2:iI U=true)(hn:U.length≤100000)(Q:Unit×List (Ue F)×Unit→Prop)(hq:Q ((),U,())): ∀(k i:Nat),i+k=U.length→aS (λx:(NaX F)=>ER J x.2.1 x.2.2.1 x.2.2.2.1) Q (k+1) ((),U,(U.length:Nat),(i:Nat),())
 | 0,i,he=>VR U i (by omega) hq
 | k+1,i,he=>aak U h1 h2 hn i (by omega) (adF U h1 h2 hn Q hq k (i+1) (by omega))
theorem VT{w:Nat}(hw:w≤1000000)(U A:List (Ue F))(i:Nat)(hi: ¬i<A.length)(O:List (Ue F)){R:(VP F) ⊕ (X4 F)→Prop}(hq:R (.inr ((O.length,()),(O,())))):(EP J w U O.length A A (A.length:Int) (i:Nat) O).sat R:=by
 have c1:decide ((i:Int)<(A.length:Int))=false:=iB (by omega);unfold EP;simp only[c1,J.E.unit.aG,J.E.unit.aP];exact aj (λh=>by cases h) (λ_=>ah rfl (ak hq))
theorem VU(A:List (Ue F))(i:Nat)(O:List (Ue F))(x:Ue F):KZ J A i O x=O++[⟨⟨x.i.a,x.i.b,false,x.i.ob⟩,x.f⟩]∨KZ J A i O x=O++[x]:=by
 unfold KZ;split
 ·exact .inl rfl
 ·exact .inr rfl
theorem VW(A:List (Ue F))(i:Nat)(O:List (Ue F))(x:Ue F):K3 J A i O x=O∨K3 J A i O x=O++[⟨x.i,J.rd x.f x.i.a⟩]:=by
 unfold K3;split
 ·exact .inl rfl
 ·exact .inr rfl
theorem JX(A:List (Ue F))(i:Nat)(O:List (Ue F)):Dy J A i O=O∨(kS (A.getD i J.E.unit.d).i=true∧Dy J A i O=O++[⟨(A.getD i J.E.unit.d).i,J.rd (A.getD i J.E.unit.d).f (A.getD i J.E.unit.d).i.a⟩])∨
  (∃o:Bool,Dy J A i O=O++[⟨⟨(A.getD i J.E.unit.d).i.a,(A.getD i J.E.unit.d).i.b,o,(A.getD i J.E.unit.d).i.ob⟩,(A.getD i J.E.unit.d).f⟩])∨
  (0<O.length∧kS (dV J.E O).i=false∧ ∃b o,Dy J A i O=O.set (O.length-1) ⟨⟨(dV J.E O).i.a,b,(dV J.E O).i.oa,o⟩,(dV J.E O).f⟩):=by
 rw[Hw];dsimp only;generalize A.getD i J.E.unit.d=x;have bf: ∀c:Bool,((decide (0<O.length)&&(decide ((dV J.E O).i.b=x.i.a)&& !kS (dV J.E O).i))&&c)=true→0<O.length∧kS (dV J.E O).i=false:=by
  intro c h;simp only[bI,dS,Bool.not_eq_true']at h;exact⟨h.1.1,h.1.2.2⟩
 cases h2:kS x.i with
 | true=>
   rw[if_pos rfl]
   split
   ·rename_i h
    obtain⟨h3,h4⟩:=bf _ h;exact .inr (.inr (.inr ⟨h3,h4,_,_,rfl⟩))
   ·rcases VW A i O x with h|h<;>rw[h]
    ·exact .inl rfl
    ·exact .inr (.inl ⟨rfl,rfl⟩)
 | false=>
   rw[if_neg (by decide)]
   split
   ·rename_i h
    obtain⟨h3,h4⟩:=bf _ h;exact .inr (.inr (.inr ⟨h3,h4,_,_,rfl⟩))
   ·rcases VU A i O x with h|h<;>rw[h]
    ·exact .inr (.inr (.inl ⟨false,rfl⟩))
    ·exact .inr (.inr (.inl ⟨x.i.oa,rfl⟩))
theorem RP(A:List (Ue F))(i:Nat)(O:List (Ue F)):(Dy J A i O).length≤O.length+1:=by
 rcases JX A i O with h|⟨_,h⟩|⟨_,h⟩|⟨_,_,_,_,h⟩<;>rw[h]<;>simp
theorem adG(A:List (Ue F))(hA:X5 J A=true)(i:Nat)(hi:i<A.length)(O:List (Ue F))(h: ∀u∈O,kS u.i=false→J.bf u.f=true): ∀u∈Dy J A i O,kS u.i=false→J.bf u.f=true:=by
 have hx:=(OQ hA hi).2;intro u hu hn;rcases JX A i O with e|⟨k,e⟩|⟨_,e⟩|⟨h0,h1,_,_,e⟩<;>rw[e]at hu
 ·exact h u hu hn
 ·rcases List.mem_append.1 hu with hu|hu
  ·exact h u hu hn
  ·simp only[List.mem_singleton]at hu
   subst hu;rw[k]at hn;cases hn
 ·rcases List.mem_append.1 hu with hu|hu
  ·exact h u hu hn
  ·simp only[List.mem_singleton]at hu
   subst hu;exact hx
 ·rcases List.mem_or_eq_of_mem_set hu with hu|hu
  ·exact h u hu hn
  ·subst hu
   exact(show J.bf (dV J.E O).f=true from h (dV J.E O) (EU h0) h1)
theorem adH{w:Nat}(hw:w≤1000000)(U A:List (Ue F))(hA:X5 J A=true)(lA:A.length≤300000)(Q:(X4 F)→Prop): ∀(n i:Nat) (O:List (Ue F)),i+n=A.length→O.length≤i→(∀u∈O,kS u.i=false→J.bf u.f=true)→Q (((F8 J A n i O).length,()),(F8 J A n i O,()))→
  aS (λx:(VP F)=>EP J w x.1.2.1 x.1.2.2.1 x.1.2.2.2.1 x.1.2.2.2.2.1 x.1.2.2.2.2.2.1 x.1.2.2.2.2.2.2.1 x.2.1) Q (n+1) (((),U,O.length,A,A,(A.length:Nat),(i:Nat),()),(O,()))
 | 0,i,O,he,hl,hO,hq=>VT hw U A i (by omega) O hq
 | n+1,i,O,he,hl,hO,hq=>by
   have hl2:=RP (J:=J) A i O;refine aaj hw U A hA i (by omega) lA O ⟨by omega,hO⟩ ?_;exact adH hw U A hA lA Q n (i+1) (Dy J A i O) (by omega) (by omega) (adG A hA i (by omega) O hO) hq
variable (J)
def LNq(tr ty:TypeId):Nat→Option (St→Tr (Ex×St)):=λid=>bif beq id 0 then some ((VO J tr).g 0)else bif beq id 2 then some ((VQ J tr ty).g 0)else none
def MNm(U:List (Ue F)):Tr AV:=
 let V:=J.E.unit.list U.length (J.E.unit.el U)
 let W:=J.E.unit.list V.length (J.E.unit.el V)
 let X:=J.E.unit.list W.length (J.E.unit.el W)
 let A:=dM X
 let B:=J.E.unit.list A.length (J.E.unit.el A)
 let N:=OP J B
 need (J.E.unit.oks U.length (J.E.unit.el U))<| need (qQ J.E V)<| need (iI V)<| need (decide (V.length≤19))<|
  need (J.E.unit.oks V.length (J.E.unit.el V))<| need (MG J ((),W,(V.length:Int),0,()))<|
   need (J.E.unit.oks W.length (J.E.unit.el W))<| need (decide (X.length≤100000))<| need (J.E.unit.oks W.length (J.E.unit.el W))<| need (J.E.unit.oks A.length (J.E.unit.el A))<| need (J.E.unit.oks A.length (J.E.unit.el A))<| need true<|
    need (MH J (((),X,0,B,B,(A.length:Int),0,()),(J.E.unit.list 0 (λ_=> []),())))<| need (decide (N.length≤N.length))<|
     ret (.fG [J.E.unit.sl N,bR .i64 0])
def mH(U:List (Ue F)):List (Ue F):=OP J (dM U)
def kNm(tr:TypeId):List AV→Option (AV×List Bool):=(F2 (jH tr) J.E.unit.arg).K (λx=> .fG [J.E.unit.sl (mH J x.2.1),bR .i64 0]) λx=> [qQ J.E x.2.1,iI x.2.1,JW J x.2.1,X5 J (dM x.2.1),decide ((dM x.2.1).length≤300000),decide (x.2.1.length≤19)]
theorem ak1{f:FuncId}{fn:Func}{tr ty:TypeId}{w:Nat}{Γ Γ2:FuncId→Option Spec}(hΓ: ∀f s,Γ f=some s→aH prog f s)(hΓ2: ∀f s,Γ2 f=some s→aH prog f s)
  (ha: ∀x,(exec prog Γ dn 1010 (aR 0 (codeOf fn)) (eY (VO J tr).nIn ((VO J tr).head x))).bind ((VO J tr).fin 0 0)=ER J x.2.1 x.2.2.1 x.2.2.2.1)
  (hs: ∀x,(exec prog Γ dn 1010 (aR 2 (codeOf fn)) (eY (VQ J tr ty).nIn ((VQ J tr ty).head x))).bind ((VQ J tr ty).fin 0 2)=EP J w x.1.2.1 x.1.2.2.1 x.1.2.2.2.1 x.1.2.2.2.2.1 x.1.2.2.2.2.2.1 x.1.2.2.2.2.2.2.1 x.2.1)
  (hM: ∀U,aN prog Γ2 (LNq J tr ty) 1010 fn [.c (.v (.iface tr (.agg #[]))),J.E.unit.sl U]=MNm J U) (hw:w≤1000000)
  (hf:prog.funcs[f]? =some fn:=by kernel_rfl) (hb:fn.body=some (codeOf fn):=by kernel_rfl) (hn:dz fn=true:=by kernel_rfl)
  (hl:bW (λid=>beq id 0 || beq id 2) (codeOf fn)=[(0,.loop (aR 0 (codeOf fn))),(2,.loop (aR 2 (codeOf fn)))]:=by kernel_rfl):aF prog f (kNm J tr):=by
 have hL:bB prog 0 (LNq J tr ty) (codeOf fn):=by
  refine eP (d:=λid=>beq id 0 || beq id 2) (λid=>by unfold LNq;cases beq id 0<;>cases beq id 2<;>rfl) _ ?_;rw[hl];intro p hp g hg;simp only[List.mem_cons,List.not_mem_nil,or_false]at hp;rcases hp with rfl|rfl
  ·have hh:LNq J tr ty 0=some ((VO J tr).g 0):=rfl
   rw[hh]at hg;obtain rfl:g=(VO J tr).g 0:=(Option.some.inj hg).symm;refine bC.PO (N:=1010) aI hΓ (L:=dn) (aA 0 _) (aah tr) ha ?_;rintro⟨⟨⟩,U,n,i,⟨⟩⟩ hx;have hx:MG J ((),U,n,i,())=true:=hx;simp only[MG,bI,dS]at hx;obtain⟨h1,h2,rfl,rfl,h5⟩:=hx;exact⟨_,adF U h1 h2 h5 (λr=>r=((),U,())) rfl U.length 0 (by omega)⟩
  ·have hh:LNq J tr ty 2=some ((VQ J tr ty).g 0):=rfl
   rw[hh]at hg;obtain rfl:g=(VQ J tr ty).g 0:=(Option.some.inj hg).symm;refine bC.PO (N:=1010) aI hΓ (L:=dn) (aA 0 _) (aai tr ty) hs ?_;rintro⟨⟨⟨⟩,U,m,A,B,n,i,⟨⟩⟩,⟨O,⟨⟩⟩⟩ hx;have hx:MH J (((),U,m,A,B,n,i,()),(O,()))=true:=hx;simp only[MH,bI,dS,rW]at hx;obtain⟨rfl,h2,rfl,h4,rfl,rfl,h7⟩:=hx;obtain rfl:O=[]:=List.length_eq_zero_iff.1 h4;exact⟨_,adH hw U A h2 h7 (λr=>r=(((OP J A).length,()),(OP J A,()))) A.length 0 [] (by omega) (by simp) (λ_ h=>by simp at h) rfl⟩
 exact(F2 (jH tr) J.E.unit.arg).ji (N:=1010) (L:=LNq J tr ty) aI hΓ2 (fn:=fn) (c:=codeOf fn) hf hb hn hL (λ_=>rfl) (M:=λx=>MNm J x.2.1) (λx=>hM x.2.1)
  λx h=>by
   obtain⟨⟨⟩,U,⟨⟩⟩:=x;have h1:qQ J.E U=true:=h (qQ J.E U) (by simp);have h2:iI U=true:=h (iI U) (by simp);have h3:JW J U=true:=h (JW J U) (by simp);have h4:X5 J (dM U)=true:=h (X5 J (dM U)) (by simp);have h5:(dM U).length≤300000:=dec (h (decide ((dM U).length≤300000)) (by simp));have h6:U.length≤19:=dec (h (decide (U.length≤19)) (by simp));have c7:decide (U.length≤100000)=true:=dA;have c8:decide ((OP J (dM U)).length≤(OP J (dM U)).length)=true:=dK (Nat.le_refl _);have p1:MG J ((),U,(U.length:Int),0,())=true:=by
    simp only[MG,h2,h3,Bool.true_and,bI,dS];exact⟨trivial,trivial,by omega⟩
   have p2:MH J (((),U,0,dM U,dM U,((dM U).length:Int),0,()),([],()))=true:=by
    simp only[MH,h4,rW.2 rfl,Bool.true_and,bI,dS];exact⟨trivial,rfl,trivial,trivial,h5⟩
   simp only[MNm,J.E.unit.aG,J.E.unit.aP,h1,h2,dK h6,c7,c8,J.E.unit.JJ,p1,p2,sat_true];exact ak rfl
end Go.bA
namespace Go.bA
open Go.Proofs
def eqQ(p q:Q3):Bool:=decide (p.c0=q.c0)&&(decide (p.c1=q.c1)&&decide (p.c2=q.c2))
theorem aiY{p q:Q3}:eqQ p q=true↔p=q:=by
 obtain⟨a,b,c⟩:=p;obtain⟨a',b',c'⟩:=q;simp only[eqQ,bI,dS,Q3.mk.injEq]
def w9(q:Q3)(t:R3):Q3:=⟨tH q t,tJ q t,0⟩
theorem VX{k l:Nat}{q:Q3}{t:Rat}(h:sN k q)(ht:Bt l t)(hk:3*k+2*l+2<8000000):qo q t=true:=by
 have m1:=ht.mul h.c2;have a1:=h.c1.add m1;have m2:=ht.mul a1;simp only[qo,bI];exact⟨⟨⟨jJ ht h.c2 (by omega),kI h.c1 m1 (by omega)⟩,jJ ht a1 (by omega)⟩,kI h.c0 m2 (by omega)⟩
theorem RQ{k l:Nat}{q:Q3}{t:Rat}(h:sN k q)(ht:Bt l t)(hk:3*k+l+2<8000000):mY q t=true:=by
 have a1:=h.c2.add h.c2;have m1:=a1.mul ht;simp only[mY,bI];exact⟨⟨kI h.c2 h.c2 (by omega),jJ a1 ht (by omega)⟩,kI h.c1 m1 (by omega)⟩
theorem zP{k l:Nat}{x y:Rat}(h:Bt k x)(h':Bt l y)(hk:k+l+1<8000000):qO x y=true:=kI h h'.neg hk
theorem BG{k l:Nat}{p q:Q3}(h:sN k p)(h':sN l q)(hk:k+l+1<8000000):kH p q=true:=by
 simp only[kH,bI];exact⟨⟨zP h.c0 h'.c0 hk,zP h.c1 h'.c1 hk⟩,zP h.c2 h'.c2 hk⟩
theorem sN.sub{k l:Nat}{p q:Q3}(h:sN k p)(h':sN l q):sN (k+l+1) (uR p q):=⟨h.c0.sub h'.c0,h.c1.sub h'.c1,h.c2.sub h'.c2⟩
theorem sN.mono{k l:Nat}{p:Q3}(h:sN k p)(hl:k≤l):sN l p:=⟨h.c0.mono hl,h.c1.mono hl,h.c2.mono hl⟩
theorem p9{k l:Nat}{q:Q3}{t:R3}(h:sN k q)(ht:iH l t=true)(hk:3*k+3*l+3<8000000):jX q t=true:=by
 obtain⟨t1,t2⟩:=OD ht;unfold jX;cases decide (t.r=0)with
 | true=>rw[cond_true];exact VX h t1 (by omega)
 | false=>
   have m1:=t1.mul t1;have s1:=t2.sub m1;have m2:=h.c2.mul s1;simp only[cond_false,bI];exact⟨⟨⟨⟨jJ t1 t1 (by omega),zP t2 m1 (by omega)⟩,jJ h.c2 s1 (by omega)⟩,kI h.c0 m2 (by omega)⟩,RQ h t1 (by omega)⟩
theorem xk:Dk=av 0:=EI.symm
def rQ:Rl Q3:=⟨Aw,eqQ,vP,w9,qI 1000000,aiY⟩
def anH:FuncId→Option Spec:=λf=>bif beq f 67 then some (au acZ)else none
def anI:FuncId→Option Spec:=λf=>bif beq f 358 then some (au aic)else none
theorem X8: ∀f s,anH f=some s→aH prog f s:=bM Ow.spec
theorem X9: ∀f s,anI f=some s→aH prog f s:=bM air.spec
def aiZ(q:Q3)(t:R3):Tr AV:=
 let Q:=bD q
 let R:=aQ t
 need (dB Q)<| need (dh R)<| need (jX (bH Q) (bK R))<| ret (.agg (av (hold (tH (bH Q) (bK R)))++(av (hold (tJ (bH Q) (bK R)))++Dk)))
theorem ai0(q:Q3)(t:R3):aN prog anH dn 1010 Tryz.f361 [.agg [],oL q,yJ t]=aiZ q t:=by kernel_rfl
theorem adI(q:Q3)(t:R3)(h1:qI 1000000 q=true)(h2:iH 100000 t=true):(aiZ q t).sat λr=>r=oL (w9 q t):=by
 have f:=p9 (dG.1 h1) h2 (by decide);simp only[aiZ,dQ,fq,bT,dw,f,sat_true,fU,xk];exact ak rfl
theorem anJ:aF prog 361 (kRd rQ):=
 Form.pk _ X8 (fn:=Tryz.f361) (M:=λx=>aiZ x.2.1 x.2.2.1) (λx=>ai0 x.2.1 x.2.2.1)
  λx h=>adI x.2.1 x.2.2.1 (h (rQ.bf x.2.1) (by simp)) (h (iH 100000 x.2.2.1) (by simp))
def ai1(p q:Q3)(t:R3):Tr AV:=
 let A:=bD p
 let B:=bD q
 let R:=aQ t
 need (dB A)<| need (dB B)<| need (dh R)<| need (kH (bH A) (bH B))<| need (jX (uR (bH A) (bH B)) (bK R))<|
  ret (bJ (decide (tH (uR (bH A) (bH B)) (bK R)=0)&&decide (tJ (uR (bH A) (bH B)) (bK R)=0)))
theorem ai2(p q:Q3)(t:R3):aN prog anI dn 1010 Tryz.f362 [.agg [],oL p,oL q,yJ t]=ai1 p q t:=by kernel_rfl
theorem adJ(p q:Q3)(t:R3)(h1:qI 1000000 p=true)(h2:qI 1000000 q=true)(h3:iH 100000 t=true):(ai1 p q t).sat λr=>r=bJ (vP p q t):=by
 have b1:=dG.1 h1;have b2:=dG.1 h2;have f0:=BG b1 b2 (by decide);have f:=p9 (b1.sub b2) h3 (by decide);simp only[ai1,dQ,fq,bT,dw,f0,f,sat_true];exact ak rfl
theorem anK:aF prog 362 (kSm rQ):=
 Form.pk _ X9 (fn:=Tryz.f362) (M:=λx=>ai1 x.2.1 x.2.2.1 x.2.2.2.1) (λx=>ai2 x.2.1 x.2.2.1 x.2.2.2.1)
  λx h=>adJ x.2.1 x.2.2.1 x.2.2.2.1 (h (rQ.bf x.2.1) (by simp)) (h (rQ.bf x.2.2.1) (by simp)) (h (iH 100000 x.2.2.2.1) (by simp))
def ai3(p q:Q3):Bool:=cu [uT p.c2 q.c2,uT p.c1 q.c1,uT p.c0 q.c0].reverse
theorem ai4(p q:Q3):ai3 p q=eqQ p q:=by
 simp only[ai3,EL];unfold eqQ;cases decide (p.c0=q.c0)<;>cases decide (p.c1=q.c1)<;>cases decide (p.c2=q.c2)<;>rfl
theorem ai5(p q:Q3):aN prog Γ00 dn 1010 Tryz.f360 [.agg [],oL p,oL q]=ret (bJ (ai3 p q)):=by kernel_rfl
theorem adK:aF prog 360 (kEq rQ):=
 Form.pk _ nD (fn:=Tryz.f360) (M:=λx=>ret (bJ (ai3 x.2.1 x.2.2.1))) (λx=>ai5 x.2.1 x.2.2.1)
  λx h=>ak (by rw[ai4];rfl)
theorem iE{Γ:FuncId→Option Spec}(h: ∀f s,Γ f=some s→aH prog f s): ∀f s,Js prog Γ (λ_=>false) 1010 2 f=some s→aH prog f s:=zD aI h 2
theorem RS{X:Type}{E:kZ X}{f:FuncId}{fn:Func}{Γ:FuncId→Option Spec}{nt o:Nat}{ty:TypeId}{live:List Nat}{w:Nat}
  (hΓ: ∀f s,Γ f=some s→aH prog f s)
  (hs: ∀x,(exec prog Γ dn 1010 (aR 0 (codeOf fn)) (eY (qX E E 0 Form.nil (.cons (E.ent ty) .nil) (λ_ _ a=>a) (λ_ _ _=>true) ty nt o live []).nIn ((qX E E 0 Form.nil (.cons (E.ent ty) .nil) (λ_ _ a=>a) (λ_ _ _=>true) ty nt o live []).head x))).bind ((qX E E 0 Form.nil (.cons (E.ent ty) .nil) (λ_ _ a=>a) (λ_ _ _=>true) ty nt o live []).fin 0 0)=mapStep E E (λ_=> []) (λz=>z) (λ_=> []) (λz=>z) w (λ_ _ a=>ret (E.iv a)) x)
  (hM: ∀A,aN prog Γ (qK 0 (qX E E 0 Form.nil (.cons (E.ent ty) .nil) (λ_ _ a=>a) (λ_ _ _=>true) ty nt o live [])) 1010 fn [E.sl A]=Z8 E E (λa=>a) (λ_=>true) A)
  (hw:w≤1000000) (hf:prog.funcs[f]? =some fn:=by kernel_rfl) (hb:fn.body=some (codeOf fn):=by kernel_rfl) (hn:dz fn=true:=by kernel_rfl)
  (hl:bW (λi=>beq i 0) (codeOf fn)=[(0,.loop (aR 0 (codeOf fn)))]:=by kernel_rfl):aF prog f (OO E):=
 (F1 E.arg).ji (N:=1010) aI hΓ (fn:=fn) (c:=codeOf fn) hf hb hn (Dt (w:=w) (pr:=λ_ _ a=>ret (E.iv a)) hΓ hs sP.none sP.none hw (λ_ _ _ _=>ak rfl) hl) (λ_=>rfl)
  (M:=λx=>Z8 E E (λa=>a) (λ_=>true) x.1) (λx=>hM x.1) λx hx=>by
   have h1:x.1.length≤100000:=dec (hx (decide (x.1.length≤100000)) (by simp));have h2:(x.1.all λ_=>true)=true:=List.all_eq_true.2 λ_ _=>rfl
   simp only[Z8,E.aG,E.aP,h2,dK h1,decide_true,Bool.and_true,sat_true,List.map_id'];exact ah (dK (Nat.le_refl _)) (ak rfl)
theorem RU:aF prog 65 (OO bP):=
 RS (ty:=206) (nt:=22) (o:=3) (live:=[3,6,7,8]) (w:=360) (fn:=Tryz.f65) nD (λx=>by obtain⟨⟨n,A,l,i,⟨⟩⟩,⟨O,⟨⟩⟩⟩:=x;kernel_rfl) (λA=>by kernel_rfl) (by decide)
theorem ak2:aF prog 72 (OO bP):=
 RS (ty:=42) (nt:=22) (o:=3) (live:=[3,6,7,8]) (w:=360) (fn:=Tryz.f72) nD (λx=>by obtain⟨⟨n,A,l,i,⟨⟩⟩,⟨O,⟨⟩⟩⟩:=x;kernel_rfl) (λA=>by kernel_rfl) (by decide)
theorem anL:aF prog 143 (kHe Aw):=akY Aw (fn:=Tryz.f143) (λA t=>by kernel_rfl)
def ΓAt:FuncId→Option Spec:=λf=>bif beq f 142 then some (au anr)else none
theorem adL: ∀f s,ΓAt f=some s→aH prog f s:=bM adr.spec
theorem anM:aF prog 141 (kAt Aw):=
 akZ Aw (fn:=Tryz.f141) (fc:=186) (tl:=154) (ty:=206) (w:=360) (iE adL) (λx=>by obtain⟨⟨⟨⟩,⟨⟩,U,n,i,⟨⟩⟩,A⟩:=x;kernel_rfl) (λA=>by kernel_rfl) (by decide)
theorem anN:aF prog 182 (OO bP):=RJ bP (fn:=Tryz.f182) (w:=360) (by kernel_rfl) (λa c=>by kernel_rfl) (λU=>by kernel_rfl) (by decide)
theorem anO:aF prog 185 adu:=adv (fn:=Tryz.f185) (λi=>by kernel_rfl)
def asE(fo:FuncId):FuncId→Option Spec:=λf=>bif beq f 101 then some (au anq)else bif beq f fo then some (au adu)else bif beq f 109 then some (au abh)else bif beq f 111 then some (au Y7)else none
theorem Ya{fo:FuncId}(h:aF prog fo adu): ∀f s,asE fo f=some s→aH prog f s:=step_ok VA.spec (step_ok h.spec (step_ok Xf.spec (bM NU.spec)))
theorem anP:aF prog 184 (anD Aw):=adx Aw (fn:=Tryz.f184) (Ya anO) (λu v=>by kernel_rfl)
def Γ1(f:FuncId)(K:List AV→Option (AV×List Bool)):FuncId→Option Spec:=λg=>bif beq g f then some (au K)else none
def Γ2(f:FuncId)(K:List AV→Option (AV×List Bool))(g:FuncId)(M:List AV→Option (AV×List Bool)):FuncId→Option Spec:=λh=>bif beq h f then some (au K)else bif beq h g then some (au M)else none
theorem pz{f:FuncId}{K:List AV→Option (AV×List Bool)}(h:aF prog f K): ∀g s,Γ1 f K g=some s→aH prog g s:=bM h.spec
theorem JY{f g:FuncId}{K M:List AV→Option (AV×List Bool)}(h:aF prog f K)(k:aF prog g M): ∀i s,Γ2 f K g M i=some s→aH prog i s:=step_ok h.spec (bM k.spec)
theorem anQ:aF prog 265 (kIs Aw 184):=ak0 Aw (fn:=Tryz.f265) (pz anP) (λx=>by obtain⟨U,a,b,⟨⟩,i,⟨⟩⟩:=x;kernel_rfl) (λU a b=>by kernel_rfl)
theorem anR:aF prog 231 (anE Aw 184):=adB Aw (fn:=Tryz.f231) (pz anQ) (λU n=>by kernel_rfl)
theorem anS:aF prog 140 (kSo Aw):=X3 Aw (fn:=Tryz.f140) (iE (JY anN anR)) (λU=>by kernel_rfl)
def ΓNq{F:Type}(J:Rl F)(he eq rd sm:FuncId):FuncId→Option Spec:=λf=>bif beq f 130 then some (au ant)else bif beq f 142 then some (au anr)else bif beq f he then some (au (kHe J.E))else bif beq f eq then some (au (kEq J))else bif beq f rd then some (au (kRd J))else bif beq f sm then some (au (kSm J))else none
theorem adM{F:Type}{J:Rl F}{he eq rd sm:FuncId}(h1:aF prog he (kHe J.E))(h2:aF prog eq (kEq J))(h3:aF prog rd (kRd J))(h4:aF prog sm (kSm J)): ∀f s,ΓNq J he eq rd sm f=some s→aH prog f s:=
 step_ok adq.spec (step_ok adr.spec (step_ok h1.spec (step_ok h2.spec (step_ok h3.spec (bM h4.spec)))))
theorem VY:aF prog 95 (kNm rQ 233):=
 ak1 rQ (fn:=Tryz.f95) (tr:=233) (ty:=206) (w:=360) (adM anL adK anJ anK) (JY anS anM) (λx=>by obtain⟨⟨⟩,U,n,i,⟨⟩⟩:=x;kernel_rfl) (λx=>by obtain⟨⟨⟨⟩,U,m,A,B,n,i,⟨⟩⟩,⟨O,⟨⟩⟩⟩:=x;kernel_rfl) (λU=>by kernel_rfl) (by decide)
end Go.bA
namespace Go.bA
variable{F:Type}
theorem adN{i:Ig}(h:nE i)(hv:KX i):jC (mU i) (lsB i):=by
 rcases VJ h.f h.l with k|k
 ·exact k
 ·exact absurd k hv
theorem VZ{i:Ig}(h:nE i)(hv:KX i)(hn:i.a≠i.b):fV i.a i.b<0:=by
 have:=(rV h).2 hv;simp only[qJ,Bool.or_eq_true,bI,dS,beq_iff_eq]at this;rcases this with h1|h1
 ·exact h1
 ·exact absurd ((j4 h.a h.b).1 h1.1) hn
theorem Yb{t:R3}(h:F7 t):KX ⟨t,t,false,false⟩:=(rV ⟨h,h⟩).1 (by
 simp only[qJ,Bool.or_eq_true,bI,dS,beq_iff_eq];exact .inr ⟨(j4 h h).2 rfl,rfl,rfl⟩)
theorem Hy{i:Ig}(h:nE i)(hc:fV i.a i.b<0):KX i:=(rV h).1 (by
 simp only[qJ,Bool.or_eq_true,dS];exact .inl hc)
theorem qc{t:R3}(h:F7 t){k l:Bool}(hk:k=true→l=true):jC ⟨t,k⟩ ⟨t,l⟩:= .inr ⟨(j4 h h).2 rfl,hk⟩
theorem Hz{x y:DW}(h:fV x.t y.t<0):jC x y:= .inl h
def MJ(i:Ig):Prop:=(i.a=i.b∧i.oa=false∧i.ob=false)∨(fV i.a i.b<0∧i.oa=true∧i.ob=true)
theorem ai6{a b:R3}{oa ob:Bool}{f:F}{x:Ue F}(hx:x∈(bif oa then []else [(⟨⟨a,a,false,false⟩,f⟩:Ue F)])++⟨⟨a,b,true,true⟩,f⟩::(bif ob then []else [⟨⟨b,b,false,false⟩,f⟩])):
  (oa=false∧x=⟨⟨a,a,false,false⟩,f⟩)∨x=⟨⟨a,b,true,true⟩,f⟩∨(ob=false∧x=⟨⟨b,b,false,false⟩,f⟩):=by
 rcases List.mem_append.1 hx with h|h
 ·cases oa with
  | true=>cases h
  | false=>exact .inl ⟨rfl,List.mem_singleton.1 h⟩
 ·rcases List.mem_cons.1 h with h|h
  ·exact .inr (.inl h)
  ·cases ob with
   | true=>cases h
   | false=>exact .inr (.inr ⟨rfl,List.mem_singleton.1 h⟩)
theorem V3{u:Ue F}(h:nE u.i)(hv:KX u.i):jK (jk u)∧ ∀x∈jk u,MJ x.i∧jC (mU u.i) (mU x.i)∧jC (lsB x.i) (lsB u.i)∧x.f=u.f∧(x.i.a=u.i.a∨x.i.a=u.i.b)∧(x.i.b=u.i.a∨x.i.b=u.i.b):=by
 obtain⟨⟨a,b,oa,ob⟩,f⟩:=u;have ha:F7 a:=h.a;have hb:F7 b:=h.b;have ra:=qc ha (k:=false) (l:=false) id;by_cases hn:a=b
 ·subst hn
  have hm:=(rV h).2 hv;simp only[qJ,(j4 ha ha).2 rfl,Bool.or_eq_true,bI,dS,beq_iff_eq,Bool.not_eq_true']at hm;obtain⟨rfl,rfl⟩:oa=false∧ob=false:=by
   rcases hm with hm|hm
   ·omega
   ·exact hm.2
  have e:jk (⟨⟨a,a,false,false⟩,f⟩:Ue F)=[⟨⟨a,a,false,false⟩,f⟩]:=by simp[jk]
  rw[e];refine⟨⟨λx hx=> ?_,λx hx=> ?_,List.pairwise_singleton _ _⟩,λx hx=> ?_⟩<;>simp only[List.mem_singleton]at hx<;>subst hx
  ·exact h
  ·exact hv
  ·refine⟨.inl ⟨rfl,rfl,rfl⟩,?_,?_,rfl,.inl rfl,.inr rfl⟩
   ·exact ra
   ·exact yS (x:=lsB ⟨a,a,false,false⟩) ha
 ·have hc:fV a b<0:=VZ (i:=⟨a,b,oa,ob⟩) h hv hn
  have e:jk (⟨⟨a,b,oa,ob⟩,f⟩:Ue F)=(bif oa then []else [⟨⟨a,a,false,false⟩,f⟩])++⟨⟨a,b,true,true⟩,f⟩::(bif ob then []else [⟨⟨b,b,false,false⟩,f⟩]):=by
   simp[jk,hn]
  rw[e];have hm:=λx hx=>ai6 (F:=F) (a:=a) (b:=b) (oa:=oa) (ob:=ob) (f:=f) (x:=x) hx
  have hab:=Hz (x:=⟨a,true⟩) (y:=⟨b,false⟩) hc;refine⟨⟨λx hx=> ?_,λx hx=> ?_,?_⟩,λx hx=> ?_⟩
  ·rcases hm x hx with⟨_,rfl⟩|rfl|⟨_,rfl⟩
   ·exact⟨ha,ha⟩
   ·exact⟨ha,hb⟩
   ·exact⟨hb,hb⟩
  ·rcases hm x hx with⟨_,rfl⟩|rfl|⟨_,rfl⟩
   ·exact Yb ha
   ·exact Hy ⟨ha,hb⟩ hc
   ·exact Yb hb
  ·have r1:jC (lsB ⟨a,a,false,false⟩) (mU ⟨a,b,true,true⟩):=qc ha id
   have r2:jC (lsB ⟨a,b,true,true⟩) (mU ⟨b,b,false,false⟩):=qc hb id;have r3:jC (lsB ⟨a,a,false,false⟩) (mU ⟨b,b,false,false⟩):=Hz hc;cases oa<;>cases ob<;>simp[r1,r2,r3]
  ·rcases hm x hx with⟨ho,rfl⟩|rfl|⟨ho,rfl⟩
   ·subst ho
    exact⟨.inl ⟨rfl,rfl,rfl⟩,qc ha id,Hz hc,rfl,.inl rfl,.inl rfl⟩
   ·exact⟨.inr ⟨hc,rfl,rfl⟩,qc ha λ_=>rfl,qc hb (λh=>Bool.noConfusion h),rfl,.inl rfl,.inr rfl⟩
   ·subst ho
    exact⟨.inl ⟨rfl,rfl,rfl⟩,Hz hc,qc hb id,rfl,.inr rfl,.inr rfl⟩
theorem RV{A B:List (Ue F)}(hA:jK A)(hB:jK B)(h: ∀x∈A, ∀y∈B,jC (lsB x.i) (mU y.i)):jK (A++B):=
 ⟨λu hu=>(List.mem_append.1 hu).elim (hA.ok u) (hB.ok u),λu hu=>(List.mem_append.1 hu).elim (hA.vd u) (hB.vd u),List.pairwise_append.2 ⟨hA.pw,hB.pw,h⟩⟩
theorem EW{U:List (Ue F)}(hU:jK U){x:Ue F}(hx:x∈dM U):MJ x.i∧ ∃u∈U,x.f=u.f∧(x.i.a=u.i.a∨x.i.a=u.i.b)∧(x.i.b=u.i.a∨x.i.b=u.i.b):=by
 obtain⟨u,hu,hx⟩:=List.mem_flatMap.1 hx;obtain⟨h1,_,_,h4⟩:=(V3 (hU.ok u hu) (hU.vd u hu)).2 x hx;exact⟨h1,u,hu,h4⟩
theorem JZ: ∀{U:List (Ue F)},jK U→jK (dM U)
 | [],_=>⟨λ_ h=>by simp[dM]at h,λ_ h=>by simp[dM]at h,by simp[dM]⟩
 | u::U,h=>by
   have h1:=V3 (h.ok u (by simp)) (h.vd u (by simp));have ih:=JZ h.tail;have e:dM (u::U)=jk u++dM U:=by simp[dM]
   rw[e];refine RV h1.1 ih λx hx y hy=> ?_
   obtain⟨v,hv,hy'⟩:=List.mem_flatMap.1 hy;have hv0:=h.ok v (.tail _ hv);obtain⟨_,b1,_⟩:=(V3 hv0 (h.vd v (.tail _ hv))).2 y hy';obtain⟨_,_,b2,_⟩:=h1.2 x hx;have ox:=h1.1.ok x hx;have oy:=ih.ok y hy;have hu0:=h.ok u (by simp);exact lK ox.l hu0.l oy.f b2 (lK hu0.l hv0.f oy.f ((List.pairwise_cons.1 h.pw).1 v hv) b1)
variable{J:Rl F}
structure adO (J:Rl F) (A:List (Ue F)) (i:Nat) (O:List (Ue F)):Prop where
 good:jK O
 le: ∀u∈O, ∀j,i≤j→j<A.length→jC (lsB u.i) (mU (A.getD j J.E.unit.d).i)
 held:0<i→kS (A.getD (i-1) J.E.unit.d).i=true→yT J.E O (A.getD (i-1) J.E.unit.d).i.a=false→ ∀u∈O,jC (lsB u.i) ⟨(A.getD (i-1) J.E.unit.d).i.a,false⟩
theorem oN{X:Type}{A:List X}(d:X){i:Nat}(hi:i<A.length):A.getD i d∈A:=by
 have e:A.getD i d=A[i]:=by simp[dJ,hi]
 rw[e];exact List.getElem_mem hi
theorem OT{X:Type}{A:List X}{r:X→X→Prop}(h:A.Pairwise r)(d:X){i j:Nat}(hij:i<j)(hj:j<A.length):r (A.getD i d) (A.getD j d):=by
 have e1:A.getD i d=A[i]:=by simp[dJ,show i<A.length by omega]
 have e2:A.getD j d=A[j]:=by simp[dJ,hj]
 rw[e1,e2];exact List.pairwise_iff_getElem.1 h i j (by omega) hj hij
theorem J2(O:List (Ue F))(x:Ue F):dV J.E (O++[x])=x:=by
 unfold dV;simp[dJ]
theorem J3{O:List (Ue F)}(h:0<O.length): ∃P,O=P++[dV J.E O]∧ ∀v,O.set (O.length-1) v=P++[v]:=by
 rcases List.eq_nil_or_concat O with rfl|⟨P,x,rfl⟩
 ·simp at h
 ·rw[List.concat_eq_append,J2]
  exact⟨P,rfl,λv=>by simp⟩
end Go.bA
namespace Go.bA
variable{F:Type}{J:Rl F}
theorem RY{i:Ig}(ho:nE i)(h:MJ i)(hi:kS i=true):i.a=i.b∧i.oa=false∧i.ob=false:=by
 rcases h with h|h
 ·exact h
 ·simp only[kS,dS]at hi
  have:=(j4 ho.a ho.a).2 rfl;rw[←hi]at h;omega
theorem adP{i:Ig}(h:MJ i)(hi:kS i=false):fV i.a i.b<0∧i.oa=true∧i.ob=true:=by
 rcases h with h|h
 ·simp only[kS,decide_eq_false_iff_not]at hi
  exact absurd h.1 hi
 ·exact h
theorem aal(P:List (Ue F))(x:Ue F)(t:R3):yT J.E (P++[x]) t=(decide (x.i.b=t)&& !x.i.ob):=by
 unfold yT;rw[J2];simp
theorem ai7{A:List (Ue F)}(hA:jK A){i:Nat}(hi:i<A.length){P:List (Ue F)}{x:Ue F}(hP:jK P)(hk:nE x.i)(hv:KX x.i)(hl: ∀u∈P,jC (lsB u.i) (mU x.i))(hp: ∀u∈P, ∀j,i+1≤j→j<A.length→jC (lsB u.i) (mU (A.getD j J.E.unit.d).i))
  (he:lsB x.i=lsB (A.getD i J.E.unit.d).i) (hh:kS (A.getD i J.E.unit.d).i=true→x.i.b=(A.getD i J.E.unit.d).i.a∧x.i.ob=false):adO J A (i+1) (P++[x]):=by
 refine⟨RV hP ⟨λu hu=> ?_,λu hu=> ?_,List.pairwise_singleton _ _⟩ λu hu v hv=> ?_,λu hu j hj hjl=> ?_,λ_ hins adQ u hu=> ?_⟩
 ·rw[List.mem_singleton.1 hu];exact hk
 ·rw[List.mem_singleton.1 hu];exact hv
 ·rw[List.mem_singleton.1 hv];exact hl u hu
 ·rcases List.mem_append.1 hu with h|h
  ·exact hp u h j hj hjl
  ·rw[List.mem_singleton.1 h,he]
   exact OT hA.pw J.E.unit.d (show i<j by omega) hjl
 ·rw[Nat.add_sub_cancel]at hins adQ
  rw[aal,(hh hins).1,(hh hins).2]at adQ;simp at adQ
theorem aam{A:List (Ue F)}(hA:jK A)(hat: ∀x∈A,MJ x.i){i:Nat}(hi:i<A.length){O:List (Ue F)}(h:adO J A i O):adO J A (i+1) (Dy J A i O):=by
 have hx:=oN J.E.unit.d hi;have hle:=λu hu=>h.le u hu i (Nat.le_refl _) hi
 have hlj: ∀u∈O, ∀j,i+1≤j→j<A.length→jC (lsB u.i) (mU (A.getD j J.E.unit.d).i):=λu hu j hj hjl=>h.le u hu j (by omega) hjl
 have ok:=hA.ok _ hx;have vd:=hA.vd _ hx;have at0:=hat _ hx;have ne: ∀{c:Bool},((decide (0<O.length)&&(decide ((dV J.E O).i.b=(A.getD i J.E.unit.d).i.a)&& !kS (dV J.E O).i))&&c)=true→0<O.length∧(dV J.E O).i.b=(A.getD i J.E.unit.d).i.a∧kS (dV J.E O).i=false:=by
  intro c hc;simp only[bI,dS,Bool.not_eq_true']at hc;exact⟨hc.1.1,hc.1.2⟩
 have new:=λP x=> @ai7 F J A hA i hi P x
 have held:=h.held;have stay:kS (A.getD i J.E.unit.d).i=true→adO J A (i+1) O:=λhin=>⟨h.good,hlj,λ_ _ _ u hu=>by
  have:=hle u hu;rw[Nat.add_sub_cancel];have e:mU (A.getD i J.E.unit.d).i=⟨(A.getD i J.E.unit.d).i.a,false⟩:=by unfold mU;rw[(RY ok at0 hin).2.1]
  rw[←e];exact this⟩
 rw[Hw];dsimp only;generalize A.getD i J.E.unit.d=x at*;by_cases hin:kS x.i=true
 ·obtain⟨e1,e2,e3⟩:=RY ok at0 hin
  rw[if_pos hin]
  split
  ·rename_i hc
   obtain⟨h0,h1,h2⟩:=ne hc;obtain⟨P,hP,hs⟩:=J3 (J:=J) h0;rw[hs];generalize dV J.E O=l at*;subst hP;have ol:=h.good.ok l (by simp);have vl:=h.good.vd l (by simp);have pw:=List.pairwise_append.1 h.good.pw;have ob:F7 x.i.a:=ok.a;refine new P ⟨⟨l.i.a,l.i.b,l.i.oa,false⟩,l.f⟩ ⟨λu hu=>h.good.ok u (by simp[hu]),λu hu=>h.good.vd u (by simp[hu]),pw.1⟩ ⟨ol.a,ol.b⟩ ?_ (λu hu=>pw.2.2 u hu l (by simp)) (λu hu=>hlj u (by simp[hu])) ?_ λ_=>⟨h1,rfl⟩
   ·exact Hy (i:=⟨l.i.a,l.i.b,l.i.oa,false⟩) ⟨ol.a,ol.b⟩ (show fV l.i.a l.i.b<0 from VZ ol vl (by simpa[kS]using h2))
   ·unfold lsB
    dsimp only;rw[h1,e1,e3]
  ·unfold K3
   split
   ·exact stay hin
   ·exact new O ⟨x.i,J.rd x.f x.i.a⟩ h.good ok vd hle hlj rfl λ_=>⟨e1.symm,e3⟩
 ·have hin':kS x.i=false:=by simpa using hin
  obtain⟨c1,e2,e3⟩:=adP at0 hin';rw[if_neg hin]
  split
  ·rename_i hc
   obtain⟨h0,h1,h2⟩:=ne hc;obtain⟨P,hP,hs⟩:=J3 (J:=J) h0;rw[hs];generalize dV J.E O=l at*;subst hP;have ol:=h.good.ok l (by simp);have vl:=h.good.vd l (by simp);have pw:=List.pairwise_append.1 h.good.pw;refine new P ⟨⟨l.i.a,x.i.b,l.i.oa,true⟩,l.f⟩ ⟨λu hu=>h.good.ok u (by simp[hu]),λu hu=>h.good.vd u (by simp[hu]),pw.1⟩ ⟨ol.a,ok.b⟩ ?_ (λu hu=>pw.2.2 u hu l (by simp)) (λu hu=>hlj u (by simp[hu])) ?_ λk=>by rw[hin']at k;cases k
   ·refine Hy (i:=⟨l.i.a,x.i.b,l.i.oa,true⟩) ⟨ol.a,ok.b⟩ ?_
    have c0:=VZ ol vl (by simpa[kS]using h2);have s0:=mG ol.a ol.b;rw[h1]at c0 s0;have tr:=JL ol.a ok.a ok.b (by omega) (by omega);have z:=j4 ol.a ok.b;by_cases hz:fV l.i.a x.i.b=0
    ·rw[←z.1 hz]at c1;omega
    ·show fV l.i.a x.i.b<0
     omega
   ·unfold lsB
    dsimp only;rw[e3]
  ·unfold KZ
   split
   ·rename_i hp
    simp only[bI,dS,Bool.not_eq_true']at hp;obtain⟨p1,p2,p3,p4⟩:=hp;rw[p3]at held;exact new O ⟨⟨x.i.a,x.i.b,false,x.i.ob⟩,x.f⟩ h.good ⟨ok.a,ok.b⟩ (Hy (i:=⟨x.i.a,x.i.b,false,x.i.ob⟩) ⟨ok.a,ok.b⟩ c1) (held p1 p2 p4) hlj rfl λk=>by rw[hin']at k;cases k
   ·exact new O x h.good ok vd hle hlj rfl λk=>by rw[hin']at k;cases k
theorem J4{A:List (Ue F)}(hA:jK A)(hat: ∀x∈A,MJ x.i): ∀(n i:Nat) {O:List (Ue F)},i+n=A.length→adO J A i O→jK (F8 J A n i O)
 | 0,i,O,_,h=>h.good
 | n+1,i,O,hn,h=>J4 hA hat n (i+1) (by omega) (aam hA hat (by omega) h)
theorem adR{U:List (Ue F)}(h:jK U):jK (mH J U):=
 J4 (JZ h) (λx hx=>(EW h hx).1) _ 0 (by omega) ⟨⟨λ_ h=>by simp at h,λ_ h=>by simp at h,.nil⟩,λ_ h=>by simp at h,λh=>absurd h (Nat.lt_irrefl 0)⟩
theorem J5{A:List (Ue F)}{p:F→Prop}{q:R3→Prop}(hq: ∀x∈A,q x.i.a∧q x.i.b)(hp: ∀x∈A,p x.f)(hi: ∀x∈A,kS x.i=true→p (J.rd x.f x.i.a)):
  ∀(n i:Nat) {O:List (Ue F)},i+n=A.length→(∀u∈O,p u.f∧q u.i.a∧q u.i.b)→ ∀u∈F8 J A n i O,p u.f∧q u.i.a∧q u.i.b
 | 0,i,O,_,h=>h
 | n+1,i,O,hn,h=>by
   refine J5 hq hp hi n (i+1) (by omega) λu hu=> ?_
   have hx:=oN J.E.unit.d (show i<A.length by omega);have hqx:=hq _ hx;have hpx:=hp _ hx;have app: ∀v:Ue F,p v.f∧q v.i.a∧q v.i.b→u∈O++[v]→p u.f∧q u.i.a∧q u.i.b:=λv hv hu=>by
    rcases List.mem_append.1 hu with hu|hu
    ·exact h u hu
    ·rw[List.mem_singleton.1 hu];exact hv
   have st: ∀v:Ue F,(p (dV J.E O).f∧q (dV J.E O).i.a∧q (dV J.E O).i.b→p v.f∧q v.i.a∧q v.i.b)→0<O.length→u∈O.set (O.length-1) v→p u.f∧q u.i.a∧q u.i.b:=λv hv h0 hu=>by
    rcases List.mem_or_eq_of_mem_set hu with hu|hu
    ·exact h u hu
    ·rw[hu];exact hv (h _ (EU h0))
   have ne: ∀{c:Bool},((decide (0<O.length)&&(decide ((dV J.E O).i.b=(A.getD i J.E.unit.d).i.a)&& !kS (dV J.E O).i))&&c)=true→0<O.length:=by
    intro c hc;simp only[bI,dS]at hc;exact hc.1.1
   rw[Hw]at hu;dsimp only at hu
   split at hu
   ·rename_i hin
    split at hu
    ·rename_i hc
     refine st _ ?_ (ne hc) hu;exact λk=>k
    ·unfold K3 at hu
     split at hu
     ·exact h u hu
     ·refine app _ ?_ hu;exact⟨hi _ hx hin,hqx⟩
   ·split at hu
    ·rename_i hc
     refine st _ ?_ (ne hc) hu;exact λk=>⟨k.1,k.2.1,(hq _ hx).2⟩
    ·unfold KZ at hu
     split at hu
     ·refine app _ ?_ hu;exact⟨hpx,hqx⟩
     ·refine app _ ?_ hu;exact⟨hpx,hqx⟩
theorem ai8{U:List (Ue F)}{p:F→Prop}{q:R3→Prop}(h:jK U)(hq: ∀x∈U,q x.i.a∧q x.i.b)(hp: ∀x∈U,p x.f)(hi: ∀x∈U, ∀t,q t→p (J.rd x.f t)): ∀u∈mH J U,p u.f∧q u.i.a∧q u.i.b:=by
 have key: ∀x∈dM U,(q x.i.a∧q x.i.b)∧ ∃u∈U,x.f=u.f:=λx hx=>by
  obtain⟨_,u,hu,e,h1,h2⟩:=EW h hx;obtain⟨qa,qb⟩:=hq u hu;refine⟨⟨?_,?_⟩,u,hu,e⟩
  ·rcases h1 with h1|h1<;>rw[h1]<;>assumption
  ·rcases h2 with h2|h2<;>rw[h2]<;>assumption
 refine J5 (λx hx=>(key x hx).1) (λx hx=> ?_) (λx hx _=> ?_) _ 0 (by omega) λ_ h=>by simp at h
 ·obtain⟨_,u,hu,e⟩:=key x hx
  rw[e];exact hp u hu
 ·obtain⟨⟨qa,_⟩,u,hu,e⟩:=key x hx
  rw[e];exact hi u hu _ qa
end Go.bA
namespace Go.bA
variable{F:Type}
theorem anT{u v:Ue F}(hu:nE u.i)(hv:nE v.i)(h1:jC (mU v.i) (mU u.i))(h2:jC (lsB v.i) (lsB u.i)): ¬VN u v<0:=by
 unfold VN gV gV gV gV;have s1:=mG hv.a hu.a;have s2:=mG hv.b hu.b;unfold jC mU at h1;unfold jC lsB at h2;dsimp only at h1 h2;have h3:fV v.i.b u.i.b≤0:=by rcases h2 with h2|h2<;>omega
 rcases h1 with h1|⟨h1,h4⟩
 ·rw[if_neg (by omega)];omega
 ·rw[if_pos (by omega)]
  unfold gq RI;cases ho:v.i.oa with
  | true=>
    rw[h4 ho];rw[if_pos (by decide)]
    split<;>omega
  | false=>
    cases hp:u.i.oa with
    | true=>rw[if_neg (by decide)];decide
    | false=>
      rw[if_pos (by decide)]
      split<;>omega
theorem adS(E:kZ F){U:List (Ue F)}(h:jK U):qQ E U=true:=by
 refine List.all_eq_true.2 λk hk=> ?_
 have hk:=List.mem_range.1 hk;have p:=OT h.pw E.unit.d (Nat.lt_succ_self k) (show k+1<U.length by omega);have m1:=oN E.unit.d (show k<U.length by omega);have m2:=oN E.unit.d (show k+1<U.length by omega);have o1:=h.ok _ m1;have o2:=h.ok _ m2;have v1:=adN o1 (h.vd _ m1);have v2:=adN o2 (h.vd _ m2);rw[iB (anT o2 o1 (lK o1.f o1.l o2.f v1 p) (lK o1.l o2.f o2.l p v2))];rfl
theorem adT(J:Rl F){U:List (Ue F)}(h:jK U):JW J U=true:=by
 refine List.all_eq_true.2 λk hk=> ?_
 have hk:=List.mem_range.1 hk;exact(OI _ _).2 (OT h.pw J.E.unit.d (Nat.lt_succ_self k) (show k+1<U.length by omega))
def jL(J:Rl F)(U:List (Ue F)):Bool:=qQ J.E U&&(iI U&&(JW J U&&(X5 J (dM U)&&decide (U.length≤19))))
theorem MK(U:List (Ue F)):(dM U).length≤3*U.length:=by
 induction U with
 | nil=>simp[dM]
 | cons u U ih=>
   have:=Dw u;have e:dM (u::U)=jk u++dM U:=by simp[dM]
   rw[e,List.length_append,List.length_cons];omega
theorem yU{J:Rl F}{U:List (Ue F)}(h:jL J U=true):qQ J.E U=true∧iI U=true∧JW J U=true∧X5 J (dM U)=true∧(dM U).length≤300000∧U.length≤19:=by
 simp only[jL,bI,dS]at h;have:=MK U;exact⟨h.1,h.2.1,h.2.2.1,h.2.2.2.1,by omega,h.2.2.2.2⟩
theorem Yc(J:Rl F){U:List (Ue F)}(h:jK U)(hb: ∀u∈U,J.bf u.f=true∧iH 100000 u.i.a=true∧iH 100000 u.i.b=true)(hl:U.length≤19):jL J U=true:=by
 simp only[jL,bI,dS];refine⟨adS _ h,List.all_eq_true.2 λu hu=> ?_,adT J h,List.all_eq_true.2 λx hx=> ?_,hl⟩
 ·unfold EJ
  rw[(hb u hu).2.1,(hb u hu).2.2];rfl
 ·obtain⟨_,u,hu,e,h1,h2⟩:=EW h hx
  obtain⟨b1,b2,b3⟩:=hb u hu;unfold EJ;have e1:iH 100000 x.i.a=true:=by rcases h1 with h1|h1<;>rw[h1]<;>assumption
  have e2:iH 100000 x.i.b=true:=by rcases h2 with h2|h2<;>rw[h2]<;>assumption
  rw[e1,e2,e,b1];rfl
theorem ML{X:Type}: ∀{l m:List X},l.Nodup→(∀x∈l,x∈m)→l.length≤m.length
 | [],_,_,_=>Nat.zero_le _
 | x::l,m,hn,h=>by
   obtain⟨a,b,rfl⟩:=List.append_of_mem (h x (by simp));have hx:=List.nodup_cons.1 hn;have:=ML (l:=l) (m:=a++b) hx.2 λy hy=>by
    have hy':=h y (.tail _ hy);simp only[List.mem_append,List.mem_cons]at hy'⊢;rcases hy' with k|k|k
    ·exact .inl k
    ·subst k;exact absurd hy hx.1
    ·exact .inr k
   simp only[List.length_append,List.length_cons]at this⊢;omega
theorem adU{U:List (Ue F)}(h:jK U){T:List R3}(hT: ∀u∈U,u.i.a∈T):U.length≤2*T.length:=by
 have hn:(U.map λu=>(u.i.a,u.i.oa)).Nodup:=by
  unfold List.Nodup;rw[List.pairwise_map];refine h.pw.imp_of_mem fun{u v} hu hv hp=> ?_
  intro e;simp only[Prod.mk.injEq]at e;have hf:mU u.i=mU v.i:=by unfold mU;rw[e.1,e.2]
  rw[←hf]at hp;exact h.vd u hu hp
 have hm:(T.flatMap λt=> [(t,false),(t,true)]).length=2*T.length:=by
  clear h hT hn
  induction T with
  | nil=>rfl
  | cons t T ih=>simp only[List.flatMap_cons,List.length_append,List.length_cons,ih,List.length_nil];omega
 have:=ML hn (m:=T.flatMap λt=> [(t,false),(t,true)]) λx hx=>by
  obtain⟨u,hu,rfl⟩:=List.mem_map.1 hx;refine List.mem_flatMap.2 ⟨u.i.a,hT u hu,?_⟩;cases u.i.oa<;>simp
 rw[List.length_map,hm]at this;exact this
end Go.bA
namespace Go.bA
open Go.Proofs
variable{F G:Type}(E:kZ F)(H:kZ G)
abbrev RfX(F G:Type):=(List (Ue F)×List (Ue G)×Nat×Int×Int×Unit)×(List (uW F G)×Unit)
abbrev RfR(F G:Type):=(Nat×Unit)×(List (uW F G)×Unit)
def ak3(x:RfX F G):(RfR F G):=match x with
 | ((A,B,n,i,k,()),(O,()))=>(((xM (A.length+B.length) (A.drop i.toNat) (B.drop k.toNat) O).length,()),(xM (A.length+B.length) (A.drop i.toNat) (B.drop k.toNat) O,()))
def MN(x:RfX F G):Bool:=match x with
 | ((A,B,n,i,k,()),(O,()))=>iI A&&(iI B&&(decide (n=O.length)&&(decide (O.length≤100000)&&(decide (i=0)&&(decide (k=0)&&(decide (A.length≤100000)&&decide (B.length≤100000)))))))
def adV(ty:TypeId):bC (RfX F G) (RfR F G):=lD {nt:=66,live:=[0,1,5,6,7],lifts:=[(5,(E.both H).n,ty)]} {nt:=66,live:=[5]} (.with (.cons ((E.both H).ent ty) .nil) (.cons E.unit.arg (.cons H.unit.arg (.cons (dZ 0 (E.both H).n) (.cons aX (.cons aX .nil)))))) (.with (.cons ((E.both H).ent ty) .nil) (.cons (dZ 0 (E.both H).n) .nil)) ak3 MN
theorem aan(ty:TypeId):(adV E H ty).gH:=cZ _ _ _ _ _ _
def MRf(A:List (Ue F))(B:List (Ue G)):Tr AV:=
 let x1:List (Ue F):=E.unit.list A.length (E.unit.el A)
 let x2:List (Ue G):=H.unit.list B.length (H.unit.el B)
 let x3:List (uW F G):=(E.both H).list 0 λx=> []
 let x4:List (uW F G):=xM (x1.length+x2.length) (List.drop (Int.toNat 0) x1) (List.drop (Int.toNat 0) x2) x3
 let x5:Nat:=x4.length
 need (E.unit.oks A.length (E.unit.el A))
  (need (H.unit.oks B.length (H.unit.el B))
   (need true (need (MN ((x1,x2,0,0,0,()),x3,())) (need (decide (x5≤x5)) (ret (AV.c (IV.sl x5 (E.both H).n ((E.both H).el x4))))))))
def OU(A:List (Ue F))(B:List (Ue G))(IA IB:List AV)(i k:Int)(m:Nat)(len:Nat)(el:Nat→List IV):Tr ((RfX F G) ⊕ (RfR F G)):=
 need (decide (0≤i∧i<(A.length:Int)))<| need (decide (0≤k∧k<(B.length:Int)))<| need (qP IA)<| need (qP IB)<| need (iH 100000 (uV IA).b)<| need (iH 100000 (uV IB).b)<|
  Tr.ite (yO (uV IA) (uV IB))
   (need (E.unit.oks A.length (E.unit.el A))<| need (H.unit.oks B.length (H.unit.el B))<| need ((E.both H).oks len el)<| ret (Sum.inl ((E.unit.list A.length (E.unit.el A),H.unit.list B.length (H.unit.el B),m,i64.wrap (i+1),k,()),((E.both H).list len el,()))))
   (need (E.unit.oks A.length (E.unit.el A))<| need (H.unit.oks B.length (H.unit.el B))<| need ((E.both H).oks len el)<| ret (Sum.inl ((E.unit.list A.length (E.unit.el A),H.unit.list B.length (H.unit.el B),m,i,i64.wrap (k+1),()),((E.both H).list len el,()))))
def EZ(w:Nat)(A:List (Ue F))(B:List (Ue G))(n:Nat)(i k:Int)(O:List (uW F G)):Tr ((RfX F G) ⊕ (RfR F G)):=
 let a:=A.getD i.toNat E.unit.d
 let b:=B.getD k.toNat H.unit.d
 let IA:=dO a.i
 let IB:=dO b.i
 need (bif decide (i<(A.length:Int))then true else true)<| Tr.ite (bif decide (i<(A.length:Int))then decide (k<(B.length:Int))else false)
  (need (decide (0≤i∧i<(A.length:Int)))<| need (decide (0≤k∧k<(B.length:Int)))<| need (qP IA)<| need (qP IB)<| need (EJ 100000 (uV IA))<| need (EJ 100000 (uV IB))<|
   Tr.ite (qJ (iY (uV IA) (uV IB)))
    (need (decide (0≤i∧i<(A.length:Int)))<| need (decide (0≤k∧k<(B.length:Int)))<| need (decide (n≤O.length))<| need true<| need (decide (n+1≤9223372036854775807))<| need (decide ((n+1)*w≤140737488355328))<|
     OU E H A B IA IB i k (n+1) (n+1) (dH n ((E.both H).el O) λj=>((wY (iY (uV IA) (uV IB))++(E.iv a.f++H.iv b.f)).drop (j*(E.both H).n)).take (E.both H).n))
    (OU E H A B IA IB i k n O.length ((E.both H).el O)))
  (need ((E.both H).oks O.length ((E.both H).el O))<| ret (Sum.inr ((n,()),((E.both H).list O.length ((E.both H).el O),()))))
theorem J6(A:List (Ue F))(B:List (Ue G))(i k:Nat)(hi:i<A.length)(hk:k<B.length)(hA:A.length≤100000)(hB:B.length≤100000)(a b:Ig)(ha:EJ 100000 a=true)(hb:EJ 100000 b=true)(O:List (uW F G))(len:Nat)(el:Nat→List IV)(h1:(E.both H).list len el=O)(h2:(E.both H).oks len el=true){R:(RfX F G) ⊕ (RfR F G)→Prop}
  (hq1:yO a b=true→R (.inl ((A,B,O.length,((i+1:Nat):Int),(k:Nat),()),(O,())))) (hq2:yO a b=false→R (.inl ((A,B,O.length,(i:Nat),((k+1:Nat):Int),()),(O,())))):
  (OU E H A B (dO a) (dO b) (i:Nat) (k:Nat) O.length len el).sat R:=by
 have w1:i64.wrap ((i:Int)+1)=((i+1:Nat):Int):=kU;have w2:i64.wrap ((k:Int)+1)=((k+1:Nat):Int):=kU;have a2:=(rF ha).2;have b2:=(rF hb).2;simp only[OU,jY,iy,a2,b2,h1,h2,E.unit.aG,E.unit.aP,H.unit.aG,H.unit.aP,w1,w2,sat_true];refine ah (dA) (ah (dA) ?_);simp only[sat_true];refine aj (λh=> ?_) (λh=> ?_)
 ·simp only[sat_true]
  exact ak (hq1 h)
 ·simp only[sat_true]
  exact ak (hq2 h)
theorem aao{w:Nat}(hw:w≤1000000)(A:List (Ue F))(B:List (Ue G))(hA:iI A=true)(hB:iI B=true)(lA:A.length≤100000)(lB:B.length≤100000)(i k:Nat)(hi:i<A.length)(hk:k<B.length)(O:List (uW F G))(hO:O.length≤300000){R:(RfX F G) ⊕ (RfR F G)→Prop}
  (hq1:yO (A.getD i E.unit.d).i (B.getD k H.unit.d).i=true→R (.inl ((A,B,(Hu (A.getD i E.unit.d) (B.getD k H.unit.d) O).length,((i+1:Nat):Int),(k:Nat),()),(Hu (A.getD i E.unit.d) (B.getD k H.unit.d) O,()))))
  (hq2:yO (A.getD i E.unit.d).i (B.getD k H.unit.d).i=false→R (.inl ((A,B,(Hu (A.getD i E.unit.d) (B.getD k H.unit.d) O).length,(i:Nat),((k+1:Nat):Int),()),(Hu (A.getD i E.unit.d) (B.getD k H.unit.d) O,())))):
  (EZ E H w A B O.length (i:Nat) (k:Nat) O).sat R:=by
 have ha:=Dx E hA hi;have hb:=Dx H hB hk;have c1:decide ((i:Int)<(A.length:Int))=true:=dA;have c2:decide ((k:Int)<(B.length:Int))=true:=dA;have:=Nat.mul_le_mul (show O.length+1≤300001 by omega) hw;unfold EZ;simp only[cB];generalize A.getD i E.unit.d=a at*;generalize B.getD k H.unit.d=b at*;simp only[jY,iy,ha,hb,c1,c2,sat_true];refine ah rfl (aj (λ_=> ?_) (λh=>by cases h));refine ah (dA) (ah (dA) ?_);simp only[sat_true];refine aj (λhm=> ?_) (λhm=> ?_)
 ·have e:Hu a b O=O++[⟨iY a.i b.i,a.f,b.f⟩]:=by unfold Hu;rw[if_pos hm]
  rw[e]at hq1 hq2;obtain⟨s1,s2⟩:=(E.both H).snoc O ⟨iY a.i b.i,a.f,b.f⟩ (λj=>((wY (iY a.i b.i)++(E.iv a.f++H.iv b.f)).drop (j*(E.both H).n)).take (E.both H).n) ((E.both H).MC (⟨iY a.i b.i,a.f,b.f⟩:uW F G));refine ah (dA) (ah (dA) (ah (dA) ?_));simp only[sat_true];refine ah (dA) (ah (dA) ?_)
  try simp only[sat_true]
  have hl:O.length+1=(O++[(⟨iY a.i b.i,a.f,b.f⟩:uW F G)]).length:=by simp
  have:=J6 E H A B i k hi hk lA lB a.i b.i ha hb (O++[⟨iY a.i b.i,a.f,b.f⟩]) (O.length+1) _ s1 s2 hq1 hq2;rw[←hl]at this;exact this
 ·have e:Hu a b O=O:=by unfold Hu;rw[if_neg (by rw[hm];decide)]
  rw[e]at hq1 hq2;exact J6 E H A B i k hi hk lA lB a.i b.i ha hb O O.length _ ((E.both H).aG O) ((E.both H).aP O _) hq1 hq2
theorem V4{w:Nat}(A:List (Ue F))(B:List (Ue G))(i k:Nat)(h: ¬(i<A.length∧k<B.length))(O:List (uW F G)){R:(RfX F G) ⊕ (RfR F G)→Prop}(hq:R (.inr ((O.length,()),(O,())))):(EZ E H w A B O.length (i:Nat) (k:Nat) O).sat R:=by
 have c:(bif decide ((i:Int)<(A.length:Int))then decide ((k:Int)<(B.length:Int))else false)=false:=by
  by_cases h1:i<A.length
  ·rw[dK (show(i:Int)<(A.length:Int)by omega),cond_true]
   exact iB (by omega)
  ·rw[iB (show¬(i:Int)<(A.length:Int)by omega),cond_false]
 unfold EZ;simp only[c,(E.both H).aG,(E.both H).aP];exact ah (by cases decide ((i:Int)<(A.length:Int))<;>rfl) (aj (λh=>by cases h) (λ_=>ah rfl (ak hq)))
theorem V5{w:Nat}(hw:w≤1000000)(A:List (Ue F))(B:List (Ue G))(hA:iI A=true)(hB:iI B=true)(lA:A.length≤100000)(lB:B.length≤100000)(Q:(RfR F G)→Prop): ∀(n i k:Nat) (O:List (uW F G)),(A.length-i)+(B.length-k)≤n→O.length+n≤300000→
  Q (((xM n (A.drop i) (B.drop k) O).length,()),(xM n (A.drop i) (B.drop k) O,()))→aS (λx:RfX F G=>EZ E H w x.1.1 x.1.2.1 x.1.2.2.1 x.1.2.2.2.1 x.1.2.2.2.2.1 x.2.1) Q (n+1) ((A,B,O.length,(i:Nat),(k:Nat),()),(O,()))
 | n,i,k,O,hn,hO,hq=>by
   by_cases h:i<A.length∧k<B.length
   ·obtain⟨hi,hk⟩:=h
    obtain⟨m,rfl⟩: ∃m,n=m+1:=⟨n-1,by omega⟩
    have hl:(Hu (A.getD i E.unit.d) (B.getD k H.unit.d) O).length≤O.length+1:=by
     unfold Hu
     split
     ·simp
     ·omega
    have e1:=EK A E.unit.d hi;have e2:=EK B H.unit.d hk;rw[e1,e2]at hq;refine aao E H hw A B hA hB lA lB i k hi hk O (by omega) (λhe=> ?_) (λhe=> ?_)
    ·refine V5 hw A B hA hB lA lB Q m (i+1) k _ (by omega) (by omega) ?_
     simp only[xM,he,if_true]at hq;rw[e2];exact hq
    ·refine V5 hw A B hA hB lA lB Q m i (k+1) _ (by omega) (by omega) ?_
     simp only[xM,he,if_false]at hq;rw[e1];exact hq
   ·refine V4 E H A B i k h O ?_
    have:xM n (A.drop i) (B.drop k) O=O:=by
     by_cases h1:i<A.length
     ·rw[List.drop_eq_nil_of_le (show B.length≤k by omega),zM]
     ·rw[List.drop_eq_nil_of_le (show A.length≤i by omega),zL]
    rw[this]at hq;exact hq
 termination_by n _ _ _=>n
def kRf:List AV→Option (AV×List Bool):=(F2 E.unit.arg H.unit.arg).K (λx=>(E.both H).sl (refine x.1 x.2.1)) λx=> [iI x.1,iI x.2.1,decide (x.1.length≤100000),decide (x.2.1.length≤100000)]
theorem ai9(A:List (Ue F))(B:List (Ue G))(h1:iI A=true)(h2:iI B=true)(h3:A.length≤100000)(h4:B.length≤100000):(MRf E H A B).sat λr=>r=(E.both H).sl (refine A B):=by
 have hp:MN (((A,B,0,0,0,()),([],())):RfX F G)=true:=by
  simp only[MN,bI,dS];exact⟨h1,h2,rfl,by simp,trivial,trivial,h3,h4⟩
 simp only[MRf,E.unit.aG,E.unit.aP,H.unit.aG,H.unit.aP,(E.both H).JJ,hp,sat_true];exact ah (dK (Nat.le_refl _)) (ak rfl)
theorem aqF{f:FuncId}{fn:Func}{ty:TypeId}{w:Nat}{Γ:FuncId→Option Spec}(hΓ: ∀f s,Γ f=some s→aH prog f s)
  (hs: ∀x,(exec prog Γ dn 1010 (aR 0 (codeOf fn)) (eY (adV E H ty).nIn ((adV E H ty).head x))).bind ((adV E H ty).fin 0 0)=EZ E H w x.1.1 x.1.2.1 x.1.2.2.1 x.1.2.2.2.1 x.1.2.2.2.2.1 x.2.1)
  (hM: ∀A B,aN prog Γ (qK 0 (adV E H ty)) 1010 fn [E.unit.sl A,H.unit.sl B]=MRf E H A B) (hw:w≤1000000)
  (hf:prog.funcs[f]? =some fn:=by kernel_rfl) (hb:fn.body=some (codeOf fn):=by kernel_rfl) (hn:dz fn=true:=by kernel_rfl)
  (hl:bW (λi=>beq i 0) (codeOf fn)=[(0,.loop (aR 0 (codeOf fn)))]:=by kernel_rfl):aF prog f (kRf E H):=
 (F2 E.unit.arg H.unit.arg).ji (N:=1010) aI hΓ (fn:=fn) (c:=codeOf fn) hf hb hn (nk hΓ (aan E H ty) hs (by
  rintro⟨⟨A,B,n,i,k,⟨⟩⟩,⟨O,⟨⟩⟩⟩ hx;have hx:MN (((A,B,n,i,k,()),(O,())):RfX F G)=true:=hx;simp only[MN,bI,dS]at hx;obtain⟨h1,h2,rfl,h4,rfl,rfl,h7,h8⟩:=hx;exact⟨_,V5 E H hw A B h1 h2 h7 h8 (λr=>r=ak3 (((A,B,O.length,0,0,()),(O,())):RfX F G)) (A.length+B.length) 0 0 O (by omega) (by omega) rfl⟩) hl) (λ_=>rfl) (M:=λx=>MRf E H x.1 x.2.1) (λx=>hM x.1 x.2.1)
  λx h=>ai9 E H x.1 x.2.1 (h (iI x.1) (by simp)) (h (iI x.2.1) (by simp)) (iX (h (decide (x.1.length≤100000)) (by simp))) (iX (h (decide (x.2.1.length≤100000)) (by simp)))
end Go.bA
namespace Go.bA
open Go.Proofs
abbrev eBq:kZ (uW Q3 Q3):=Aw.both Aw
theorem adW:aF prog 64 (kRf Aw Aw):=
 aqF Aw Aw (fn:=Tryz.f64) (ty:=157) (w:=504) (JY anv anu) (λx=>by obtain⟨⟨A,B,n,i,k,⟨⟩⟩,⟨O,⟨⟩⟩⟩:=x;kernel_rfl) (λA B=>by kernel_rfl) (by decide)
def ΓMn:FuncId→Option Spec:=λf=>bif beq f 65 then some (au (OO bP))else bif beq f 72 then some (au (OO bP))else bif beq f 95 then some (au (kNm rQ 233))else none
theorem anU: ∀f s,ΓMn f=some s→aH prog f s:=step_ok RU.spec (step_ok ak2.spec (bM VY.spec))
def nmC(W:List Uq)(t:Tr AV):Tr AV:=need (qQ Aw W)<| need (iI W)<| need (JW rQ W)<| need (X5 rQ (dM W))<| need (decide ((dM W).length≤300000))<| need (decide (W.length≤19)) t
theorem Yd{W:List Uq}{t:Tr AV}{Q:AV→Prop}(h:jL rQ W=true)(k:t.sat Q):(nmC W t).sat Q:=by
 obtain⟨a,b,c,d,e,f⟩:=yU h;exact ah a (ah b (ah c (ah d (ah (dK e) (ah (dK f) k)))))
def MMn(U:List Uq):Tr AV:=
 let V:=bP.list U.length (bP.el U)
 let W:=bP.list V.length (bP.el V)
 let N:=mH rQ W
 let X:=bP.list N.length (bP.el N)
 need (bP.oks U.length (bP.el U))<| need (decide (V.length≤100000))<| need (bP.oks V.length (bP.el V))<| nmC W<|
  need (bP.oks N.length (bP.el N))<| need (decide (X.length≤100000))<| ret (.fG [bP.sl X,bR .i64 0])
theorem RZ{F:Type}{J:Rl F}(A:List (Ue F)): ∀(n i:Nat) (O:List (Ue F)),(F8 J A n i O).length≤O.length+n
 | 0,i,O=>Nat.le_refl _
 | n+1,i,O=>by
   have h1:=RZ (J:=J) A n (i+1) (Dy J A i O);have h2:=RP (J:=J) A i O
   show(F8 J A n (i+1) (Dy J A i O)).length≤_
   omega
theorem OV{F:Type}{J:Rl F}(U:List (Ue F)):(mH J U).length≤3*U.length:=by
 have:=RZ (J:=J) (dM U) (dM U).length 0 [];have:=MK U;unfold mH OP;simp only[List.length_nil]at*;omega
def kMn:List AV→Option (AV×List Bool):=(F1 bP.arg).K (λx=> .fG [bP.sl (mH rQ x.1),bR .i64 0]) λx=> [jL rQ x.1]
theorem ak4:aF prog 46 kMn:=
 (F1 bP.arg).pk (iE anU) (fn:=Tryz.f46) (M:=λx=>MMn x.1) (λx=>by kernel_rfl)
  λx h=>by
   have h1:jL rQ x.1=true:=h (jL rQ x.1) (by simp);have h6:=(yU h1).2.2.2.2.2;have:=OV (J:=rQ) x.1;simp only[MMn,bP.aG,bP.aP,sat_true];exact ah (dA) (ah rfl (Yd h1 (ah rfl (ah (dA) (ak rfl)))))
def kNo:List AV→Option (AV×List Bool):=(F2 (jH 233) bP.arg).K (λx=>bP.sl (mH rQ x.2.1)) λx=> [jL rQ x.2.1]
def MNo(U:List Uq):Tr AV:=
 let W:=bP.list U.length (bP.el U)
 need (bP.oks U.length (bP.el U))<| nmC W<| ret (bP.sl (mH rQ W))
theorem aqG:aF prog 128 kNo:=
 (F2 (jH 233) bP.arg).pk (pz VY) (fn:=Tryz.f128) (M:=λx=>MNo x.2.1) (λx=>by obtain⟨⟨⟩,U,⟨⟩⟩:=x;kernel_rfl)
  λx h=>by
   have h1:jL rQ x.2.1=true:=h (jL rQ x.2.1) (by simp);simp only[MNo,bP.aG,bP.aP,sat_true];exact Yd h1 (ak rfl)
theorem aqH:aF prog 127 ((F1 bP.arg).K (λx=>fQ.sl (x.1.map Ue.i)) λx=> [decide (x.1.length≤100000),x.1.all λ_=>true]):=
 aiP (h:=Ue.i) (ok:=λ_=>true) (ty:=38) (nt:=19) (o:=3) (live:=[3,6,7,8]) (w:=216) (pr:=λa=>ret (wY a.i)) (fn:=Tryz.f127) nD (λx=>by obtain⟨⟨n,A,l,i,⟨⟩⟩,⟨O,⟨⟩⟩⟩:=x;kernel_rfl) (λA=>by kernel_rfl) (by decide) (λ_ _=>ak rfl)
end Go.bA
namespace Go.bA
open Go.Proofs
def aja{X Y:Type}(EX:kZ X)(h:X→Y)(ok:X→Bool)(L:List X)(t:Nat→List Y→Tr AV):Tr AV:=
 let R:=EX.list L.length (EX.el L)
 need (EX.oks L.length (EX.el L))<| need true<| need (true&&(true&&(true&&(decide ((L.length:Int)=(R.length:Int))&&(decide (R.length≤100000)&&R.all ok)))))<| need (decide (R.length≤(R.map h).length))<| t R.length (R.map h)
theorem R4{X Y:Type}{EX:kZ X}{h:X→Y}{ok:X→Bool}{L:List X}{t:Nat→List Y→Tr AV}{Q:AV→Prop}(hl:L.length≤100000)(ho:L.all ok=true)(ht:(t (L.map h).length (L.map h)).sat Q):(aja EX h ok L t).sat Q:=by
 rw[List.length_map]at ht;simp only[aja,EX.aG,EX.aP,ho,dK hl,decide_true,Bool.and_true,List.length_map,Nat.le_refl,sat_true];exact ht
def hCb(b:uW Q3 Q3):Uq:=⟨b.i,ada b.f b.g⟩
def aap(b:uW Q3 Q3):Bool:=qI 1000000 b.f&&qI 1000000 b.g
abbrev asF:=qX eBq bP 0 (.cons (jH 233) (.cons (gG 75) .nil)) (.cons (bP.ent 206) .nil) (λ_ _=>hCb) (λ_ _=>aap) 206 36 9 [9,14,15,16] [0,3]
def ΓCb:FuncId→Option Spec:=λf=>bif beq f 64 then some (au (kRf Aw Aw))else bif beq f 75 then some (au akU)else bif beq f 128 then some (au kNo)else none
theorem adX: ∀f s,ΓCb f=some s→aH prog f s:=step_ok adW.spec (step_ok aiB.spec (bM aqG.spec))
def rfC(A B:List Uq)(t:List (uW Q3 Q3)→Tr AV):Tr AV:=
 let A':=bP.list A.length (bP.el A)
 let B':=bP.list B.length (bP.el B)
 need (bP.oks A.length (bP.el A))<| need (bP.oks B.length (bP.el B))<| need (iI A')<| need (iI B')<| need (decide (A'.length≤100000))<| need (decide (B'.length≤100000))<| t (refine A' B')
theorem Ye{A B:List Uq}{t:List (uW Q3 Q3)→Tr AV}{Q:AV→Prop}(h1:iI A=true)(h2:iI B=true)(h3:A.length≤1000)(h4:B.length≤1000)(ht:(t (refine A B)).sat Q):(rfC A B t).sat Q:=by
 simp only[rfC,bP.aG,bP.aP,h1,h2,dK (show A.length≤100000 by omega),dK (show B.length≤100000 by omega),sat_true];exact ht
theorem R5{A B:List Uq}:(refine A B).length≤A.length+B.length:=by
 have:=OL (A.length+B.length) A B [] (Nat.le_refl _);unfold ref at this;unfold refine;simp only[List.length_nil]at this;omega
def MCb(A B:List Uq):Tr AV:=rfC A B λR=>aja eBq hCb aap R λn U=>need (bP.oks n (bP.el U))<| need (jL rQ (bP.list n (bP.el U)))<| ret (bP.sl (mH rQ (bP.list n (bP.el U))))
def R6(A B:List Uq):List Uq:=mH rQ ((refine A B).map hCb)
def F9(A B:List Uq):List Bool:=[iI A,iI B,decide (A.length≤1000),decide (B.length≤1000),(refine A B).all aap,jL rQ ((refine A B).map hCb)]
def kCb:List AV→Option (AV×List Bool):=(Form.cons (jH 233) (.cons bP.arg (.cons bP.arg (.cons (gG 75) .nil)))).K (λx=>bP.sl (R6 x.2.1 x.2.2.1)) λx=>F9 x.2.1 x.2.2.1
theorem asG:bB prog 0 (qK 0 asF) (codeOf Tryz.f73):=
 Dt (w:=360) (pr:=λ_ _ b=>need (dB (bD b.f))<| need (dB (bD b.g))<| need (qI 1000000 (bH (bD b.f)))<| need (qI 1000000 (bH (bD b.g)))<| ret (wY b.i++VG (Dp (ada (bH (bD b.f)) (bH (bD b.g)))))) (N:=1010)
  adX (λx=>by obtain⟨⟨n,A,l,i,⟨⟨⟩,⟨⟩,⟨⟩⟩⟩,⟨O,⟨⟩⟩⟩:=x;kernel_rfl) sP.none sP.none (by decide) λ_ _ b h=>by
   simp only[aap,bI]at h;simp only[dQ,fq,h.1,h.2,yN,sat_true];exact ak rfl
theorem pre6{a b c d e f:Bool}(h: ∀p∈[a,b,c,d,e,f],p=true):a=true∧b=true∧c=true∧d=true∧e=true∧f=true:=⟨h a (by simp),h b (by simp),h c (by simp),h d (by simp),h e (by simp),h f (by simp)⟩
theorem aqI:aF prog 73 kCb:=
 Form.pl _ adX (fn:=Tryz.f73) asG (λ_=>rfl) (M:=λx=>MCb x.2.1 x.2.2.1) (λx=>by obtain⟨⟨⟩,A,B,⟨⟩,⟨⟩⟩:=x;kernel_rfl)
  λx h=>by
   obtain⟨⟨⟩,A,B,⟨⟩,⟨⟩⟩:=x;obtain⟨h1,h2,h3,h4,h5,h6⟩:=pre6 h;have:=R5 (A:=A) (B:=B);have h3:A.length≤1000:=dec h3;have h4:B.length≤1000:=dec h4;refine Ye h1 h2 h3 h4 (R4 (by show(refine A B).length≤100000;omega) h5 ?_);simp only[bP.aG,bP.aP,h6,sat_true];exact ak rfl
def ΓAd:FuncId→Option Spec:=λf=>bif beq f 65 then some (au (OO bP))else bif beq f 72 then some (au (OO bP))else bif beq f 73 then some (au kCb)else none
theorem anV: ∀f s,ΓAd f=some s→aH prog f s:=step_ok RU.spec (step_ok ak2.spec (bM aqI.spec))
def clC(U:List Uq)(t:List Uq→Tr AV):Tr AV:=
 let V:=bP.list U.length (bP.el U)
 need (bP.oks U.length (bP.el U))<| need (decide (V.length≤100000))<| t V
theorem Dz{U:List Uq}{t:List Uq→Tr AV}{Q:AV→Prop}(h:U.length≤100000)(ht:(t U).sat Q):(clC U t).sat Q:=by
 simp only[clC,bP.aG,bP.aP,dK h,sat_true];exact ht
def MAd(A B:List Uq):Tr AV:=clC A λA1=>clC B λB1=>
 let A':=bP.list A1.length (bP.el A1)
 let B':=bP.list B1.length (bP.el B1)
 need (bP.oks A1.length (bP.el A1))<| need (bP.oks B1.length (bP.el B1))<| Tr.needs (F9 A' B')<| clC (R6 A' B') λU=>ret (bP.sl U)
def kAd:List AV→Option (AV×List Bool):=(F2 bP.arg bP.arg).K (λx=>bP.sl (R6 x.1 x.2.1)) λx=>F9 x.1 x.2.1
theorem aqJ:aF prog 30 kAd:=
 (F2 bP.arg bP.arg).pk (iE anV) (fn:=Tryz.f30) (M:=λx=>MAd x.1 x.2.1) (λx=>by obtain⟨A,B,⟨⟩⟩:=x;kernel_rfl)
  λx h=>by
   obtain⟨A,B,⟨⟩⟩:=x;obtain⟨h1,h2,h3,h4,h5,h6⟩:=pre6 h;have h6:jL rQ ((refine A B).map hCb)=true:=h6;have:=(yU h6).2.2.2.2.2;have:=OV (J:=rQ) ((refine A B).map hCb);have h3:A.length≤1000:=dec h3;have h4:B.length≤1000:=dec h4;refine Dz (by show A.length≤100000;omega) (Dz (by show B.length≤100000;omega) ?_);simp only[bP.aG,bP.aP,sat_true];exact dR h (Dz (by unfold R6;omega) (ak rfl))
end Go.bA
namespace Go.bA
open Go.Proofs
theorem Form.weaken{P:Program}{f:FuncId}{K:List AV→Option (AV×List Bool)}{X:Type}(F:Form X){val:X→AV}{pre:X→List Bool}(h:aF P f K)(hv: ∀x,bA.dY (val x)=true)
  (hk: ∀x,(∀p∈pre x,p=true)→ ∃v cs,K (F.args x)=some (v,cs)∧(∀p∈cs,p=true)∧v=val x):aF P f (F.K val pre) where
 sound:=by
  intro args v cs hK;unfold Form.K at hK
  split at hK
  ·rename_i x ds hx
   simp only[fu,Prod.mk.injEq]at hK;obtain⟨rfl,rfl⟩:=hK;refine⟨hv x,λA w vs hA hc hargs=> ?_⟩;have hs:=F.ok args x ds hx λp hp=>hc p (by simp[hp])
   obtain⟨v,cs,h1,h2,h3⟩:=hk x λp hp=>hc p (by simp[hp])
   have:=(h.sound (F.args x) v cs h1).2 A w vs hA h2 (hs.NG hargs);rw[h3]at this;exact this
  ·cases hK
def anW:kZ Rat:=⟨4,KU,ay,aK,0,λ_ h=>dD h,bS,dP,λ_=>rfl⟩
def aaq{X:Type}(E:kZ X)(t:TypeId):Jt X where
 get:=λe=>match e with|some (.cells l t')=>bif beq t t' then some (E.V l,[E.ok l])else none | _=>none
 put:=λx=>some (.cells ((E.iv x).map AV.c) t)
 ok:=by
  intro e x cs h hc
  split at h
  ·rename_i l t'
   cases hb:beq t t' with
   | false=>rw[hb]at h;cases h
   | true=>
     rw[hb]at h;simp only[cond_true,fu,Prod.mk.injEq]at h;obtain⟨rfl,rfl⟩:=h;obtain rfl:t=t':=by simpa using hb
     rw[←E.ok_eq l (hc _ (by simp))];exact .refl _
  ·cases h
def zR:List IV:=[.v (.bool false),.v (.string ⟨⟨[]⟩⟩),.v (.bool false),.v (.string ⟨⟨[]⟩⟩)]
theorem adY:zR=KU 0:=vS (EI.symm.trans rfl)
def R7(y:Bool)(a:Ul):Uq:=⟨a.i,bif y then⟨a.f.y0,a.f.y1,0⟩else⟨a.f.x0,a.f.x1,0⟩⟩
abbrev asH:=BD VI bP 0 (.cons kG .nil) (.cons (bP.ent 42) .nil) (λ(z:Bool×Unit) _=>R7 z.1) (λ_ _ _=>true) 42 57 5 [5,0,6] [1]
def ΓCo:FuncId→Option Spec:=λf=>bif beq f 46 then some (au kMn)else none
theorem OW: ∀f s,ΓCo f=some s→aH prog f s:=bM ak4.spec
theorem asI:bB prog 0 (qK 0 asH) (codeOf Tryz.f25):=
 RF (N:=1010) (w:=360) (pr:=λz _ g a=>g (g (Tr.ite z.1 (g (g (g (ret (wY a.i++(KU a.f.y0++(KU a.f.y1++zR))))))) (g (ret (wY a.i++(KU a.f.x0++(KU a.f.x1++zR)))))))) (iE OW)
  (λx=>by obtain⟨⟨n,A,i,⟨b,⟨⟩⟩⟩,⟨O,⟨⟩⟩⟩:=x;kernel_rfl) sP.none sP.none (by decide) λz v a g Q hg _ hq=>by
   rw[adY];refine hg _ (hg _ (aj (λh=>hg _ (hg _ (hg _ (ak ?_)))) λh=>hg _ (ak ?_)))
   ·unfold R7 at hq;rw[h]at hq;exact hq
   ·unfold R7 at hq;rw[h]at hq;exact hq
def kCo:List AV→Option (AV×List Bool):=(F2 VI.arg kG).K (λx=>bP.sl (mH rQ (x.1.map (R7 x.2.1)))) λx=> [decide (x.1.length≤100000),jL rQ (x.1.map (R7 x.2.1))]
def MCo(A:List Ul)(y:Bool):Tr AV:=
 let R:=VI.list A.length (VI.el A)
 let U:=R.map (R7 y)
 let V:=bP.list R.length (bP.el U)
 need (VI.oks A.length (VI.el A))<| need true<| need (true&&(true&&(true&&(decide (R.length≤100000)&&R.all λ_=>true))))<| need (decide (R.length≤U.length))<| need (bP.oks R.length (bP.el U))<| need (jL rQ V)<| ret (bP.sl (mH rQ V))
theorem aqK:aF prog 25 kCo:=
 (F2 VI.arg kG).pl (iE OW) (fn:=Tryz.f25) asI (λ_=>rfl) (M:=λx=>MCo x.1 x.2.1) (λx=>by obtain⟨A,y,⟨⟩⟩:=x;kernel_rfl)
  λx h=>by
   obtain⟨A,y,⟨⟩⟩:=x;have h1:A.length≤100000:=dec (h (decide (A.length≤100000)) (by simp));have h2:jL rQ (A.map (R7 y))=true:=h (jL rQ (A.map (R7 y))) (by simp);have e:bP.list A.length (bP.el (A.map (R7 y)))=A.map (R7 y):=by
    have:=bP.aG (A.map (R7 y))
    rwa [List.length_map]at this
   have h3:(A.all λ_=>true)=true:=List.all_eq_true.2 λ_ _=>rfl
   simp only[MCo,VI.aG,VI.aP,bP.aP,e,h2,h3,dK h1,List.length_map,Nat.le_refl,decide_true,Bool.and_true,sat_true];exact ak rfl
def V6(c:Rat)(i:Ig):Uq:=⟨i,⟨c,0,0⟩⟩
abbrev asJ:=qX fQ bP 1 (.cons (mP 0 0) .nil) (.flip (aaq anW 34) (bP.ent 42)) (λ_ (w:Rat×Unit)=>V6 w.1) (λ_ _ _=>true) 42 28 5 [5,8,9,10] [2]
theorem asK:bB prog 0 (qK 0 asJ) (codeOf Tryz.f27):=
 Dt (N:=1010) (w:=360) (wc:=λw=> [aK (av w.1)]) (wp:=λw=>(ay (av w.1),())) (pr:=λ_ w a=>ret (wY a++(KU w.1++(zR++zR)))) (iE OW)
  (λx=>by obtain⟨⟨n,A,l,i,⟨⟨⟩,⟨⟩⟩⟩,⟨O,⟨c,⟨⟩⟩⟩⟩:=x;kernel_rfl) sP.none ⟨λw p hp=>by rw[List.mem_singleton.1 hp];exact dP _,λw=>by rw[bS]⟩ (by decide) λz w a _=>by
   rw[adY];exact ak rfl
def kCn:List AV→Option (AV×List Bool):=(F2 anW.jZ fQ.arg).K (λx=>bP.sl (mH rQ (x.2.1.map (V6 x.1)))) λx=> [decide (x.2.1.length≤100000),jL rQ (x.2.1.map (V6 x.1))]
def MCn(c:Rat)(L:List Ig):Tr AV:=
 let R:=fQ.list L.length (fQ.el L)
 let U:=R.map (V6 (ay (av c)))
 let V:=bP.list R.length (bP.el U)
 need (fQ.oks L.length (fQ.el L))<| need (aK (av c))<| need true<| need (true&&(true&&(true&&(decide ((L.length:Int)=(R.length:Int))&&(decide (R.length≤100000)&&R.all λ_=>true)))))<| need (decide (R.length≤U.length))<| need (bP.oks R.length (bP.el U))<| need (jL rQ V)<| ret (bP.sl (mH rQ V))
theorem aqL:aF prog 27 kCn:=
 (F2 anW.jZ fQ.arg).pl (iE OW) (fn:=Tryz.f27) asK (λ_=>rfl) (M:=λx=>MCn x.1 x.2.1) (λx=>by obtain⟨c,L,⟨⟩⟩:=x;kernel_rfl)
  λx h=>by
   obtain⟨c,L,⟨⟩⟩:=x;have h1:L.length≤100000:=dec (h (decide (L.length≤100000)) (by simp));have h2:jL rQ (L.map (V6 c))=true:=h (jL rQ (L.map (V6 c))) (by simp);have e:bP.list L.length (bP.el (L.map (V6 c)))=L.map (V6 c):=by
    have:=bP.aG (L.map (V6 c))
    rwa [List.length_map]at this
   have h3:(L.all λ_=>true)=true:=List.all_eq_true.2 λ_ _=>rfl
   simp only[MCn,bS,dP,fQ.aG,fQ.aP,bP.aP,e,h2,h3,dK h1,List.length_map,Nat.le_refl,decide_true,Bool.and_true,sat_true];exact ak rfl
end Go.bA
namespace Go.bA
open Go.Proofs
def kRq:List AV→Option (AV×List Bool):=(F2 Aw.jZ rE).K (λx=>Aw.jZ.put (w9 x.1 x.2.1)) λx=> [qI 1000000 x.1,iH 100000 x.2.1]
theorem aqM:aF prog 67 kRq:=
 Form.weaken _ Ow (λ_=>rfl) λx h=>by
  obtain⟨q,t,⟨⟩⟩:=x;have h1:qI 1000000 q=true:=h (qI 1000000 q) (by simp);have h2:iH 100000 t=true:=h (iH 100000 t) (by simp);refine⟨_,_,rfl,?_,?_⟩
  ·have f:=p9 (dG.1 h1) h2 (by decide)
   intro p hp;simp only[List.mem_cons,List.not_mem_nil,or_false]at hp;rcases hp with rfl|rfl|rfl
   ·exact fq q
   ·exact dw t
   ·show jX (bH (bD q)) (bK (aQ t))=true
    rw[dQ,bT];exact f
  ·show AV.agg (av (hold (tH (bH (bD q)) (bK (aQ t))))++(av (hold (tJ (bH (bD q)) (bK (aQ t))))++Dk))=_
   rw[dQ,bT,fU,fU,xk];rfl
def ΓPr:FuncId→Option Spec:=λf=>bif beq f 64 then some (au (kRf Aw Aw))else bif beq f 65 then some (au (OO bP))else bif beq f 46 then some (au kMn)else bif beq f 67 then some (au kRq)else bif beq f 68 then some (au akV)else none
theorem ad2: ∀f s,ΓPr f=some s→aH prog f s:=step_ok adW.spec (step_ok RU.spec (step_ok ak4.spec (step_ok aqM.spec (bM aiC.spec))))
def hPr(b:uW Q3 Q3):Uq:=⟨b.i,if b.i.a=b.i.b then w9 (Ry (w9 b.f b.i.a) (w9 b.g b.i.a)) b.i.a else Ry b.f b.g⟩
def R8(b:uW Q3 Q3):Bool:=iH 100000 b.i.a&&(bif decide (b.i.a=b.i.b)then qI 1000000 b.f&&(qI 1000000 b.g&&(qI 100000 (w9 b.f b.i.a)&&(qI 100000 (w9 b.g b.i.a)&&(Dn (w9 b.f b.i.a) (w9 b.g b.i.a)&&qI 1000000 (Ry (w9 b.f b.i.a) (w9 b.g b.i.a))))))
 else qI 100000 b.f&&(qI 100000 b.g&&Dn b.f b.g))
abbrev asL:=qX eBq bP 0 .nil (.cons (bP.ent 42) .nil) (λ_ _=>hPr) (λ_ _=>R8) 42 69 6 [6,17,18,19] []
def ad3(q:Q3)(t:R3):Tr Q3:=need (dB (bD q))<| need (dh (aQ t))<| need (qI 1000000 (bH (bD q)))<| need (iH 100000 (bK (aQ t)))<| ret (w9 (bH (bD q)) (bK (aQ t)))
def anX(b:uW Q3 Q3):Tr (List IV):=
 (Tr.ite (KY b.i.a b.i.b) ((ad3 b.f b.i.a).bind λf=>(ad3 b.g b.i.a).bind λg=>ret (f,g)) (ret (b.f,b.g))).bind λp=>
  need (dB (bD p.1))<| need (dB (bD p.2))<| need (qI 100000 (bH (bD p.1)))<| need (qI 100000 (bH (bD p.2)))<| need (Dn (bH (bD p.1)) (bH (bD p.2)))<| Tr.ite false (Tr.fail "out")<|
   (Tr.ite (KY b.i.a b.i.b) (ad3 (Dp (Ry (bH (bD p.1)) (bH (bD p.2)))) b.i.a) (ret (Dp (Ry (bH (bD p.1)) (bH (bD p.2)))))).bind λq=>ret (wY b.i++VG q)
theorem J7{q:Q3}{t:R3}(h1:qI 1000000 q=true)(h2:iH 100000 t=true){Q:Q3→Prop}(h:Q (w9 q t)):(ad3 q t).sat Q:=by
 simp only[ad3,dQ,fq,bT,dw,h1,h2,sat_true];exact ak h
theorem ad4{b:uW Q3 Q3}(h:R8 b=true):(anX b).sat λc=>c=bP.iv (hPr b):=by
 simp only[R8,bI]at h;obtain⟨ht,h⟩:=h;unfold anX hPr;rw[zN];by_cases e:b.i.a=b.i.b
 ·rw[dK e,cond_true]at h
  simp only[bI]at h;obtain⟨h1,h2,h3,h4,h5,h6⟩:=h;rw[dK e,if_pos e];refine cK (aj (λ_=>cK (J7 h1 ht (cK (J7 h2 ht (ak ?_))))) λh=>by cases h);simp only[dQ,fq,h3,h4,h5,yN,sat_true];exact aj (λh=>by cases h) λ_=>cK (aj (λ_=>J7 h6 ht (ak rfl)) λh=>by cases h)
 ·rw[iB e,cond_false]at h
  simp only[bI]at h;obtain⟨h3,h4,h5⟩:=h;rw[iB e,if_neg e];refine cK (aj (λh=>by cases h) λ_=>ak ?_);simp only[dQ,fq,h3,h4,h5,yN,sat_true];exact aj (λh=>by cases h) λ_=>cK (aj (λh=>by cases h) λ_=>ak (ak rfl))
theorem asM:bB prog 0 (qK 0 asL) (codeOf Tryz.f26):=
 Dt (N:=1010) (w:=360) (pr:=λ_ _=>anX) (iE ad2) (λx=>by obtain⟨⟨n,A,l,i,⟨⟩⟩,⟨O,⟨⟩⟩⟩:=x;kernel_rfl) sP.none sP.none (by decide) λ_ _ b h=>ad4 h
def V7(A B:List Uq):List Uq:=mH rQ ((refine A B).map hPr)
def R9(A B:List Uq):List Bool:=[iI A,iI B,decide (A.length≤1000),decide (B.length≤1000),(refine A B).all R8,jL rQ ((refine A B).map hPr)]
def kPr:List AV→Option (AV×List Bool):=(F2 bP.arg bP.arg).K (λx=> .fG [bP.sl (V7 x.1 x.2.1),bR .i64 0]) λx=>R9 x.1 x.2.1
def MPr(A B:List Uq):Tr AV:=clC A λA1=>clC B λB1=>rfC A1 B1 λR=>aja eBq hPr R8 R λn U=>
 need (bP.oks n (bP.el U))<| need (jL rQ (bP.list n (bP.el U)))<| ret (.fG [bP.sl (mH rQ (bP.list n (bP.el U))),bR .i64 0])
theorem aqN:aF prog 26 kPr:=
 (F2 bP.arg bP.arg).pl (iE ad2) (fn:=Tryz.f26) asM (λ_=>rfl) (M:=λx=>MPr x.1 x.2.1) (λx=>by obtain⟨A,B,⟨⟩⟩:=x;kernel_rfl)
  λx h=>by
   obtain⟨A,B,⟨⟩⟩:=x;obtain⟨h1,h2,h3,h4,h5,h6⟩:=pre6 h;have h3:A.length≤1000:=dec h3;have h4:B.length≤1000:=dec h4;have:=R5 (A:=A) (B:=B);refine Dz (by show A.length≤100000;omega) (Dz (by show B.length≤100000;omega) (Ye h1 h2 h3 h4 (R4 (by show(refine A B).length≤100000;omega) h5 ?_)));simp only[bP.aG,bP.aP,h6,sat_true];exact ak rfl
end Go.bA
namespace Go.bA
open Go.Proofs
structure lT (X:Type) [Inhabited X] where
 E:kZ X
 cmp:X→X→Int
 bd:X→Bool
 lt:X→X→Bool
 fc:FuncId
 ty:TypeId
 aqO:E.d=default
 swo:Go.Sort.SWO lt
 lt_eq: ∀x y,bd x=true→bd y=true→decide (cmp x y<0)=lt x y
def ands:List Bool→Bool
 | []=>true
 | p::l=>p&&ands l
theorem nP: ∀{l:List Bool},(∀p∈l,p=true)→ands l=true
 | [],_=>rfl
 | p::l,h=>by
   show(p&&ands l)=true
   rw[h p (by simp),nP λq hq=>h q (by simp[hq])];rfl
namespace lT
variable{X Z Z':Type} [Inhabited X](S:lT X)
def form(F:Form Z):dU ((Nat×Z)×(List X×Unit)):= .with (.cons (S.E.ent S.ty) .nil) (.cons (dZ 0 S.E.n) F)
def gi(n:Nat)(U:List X)(j:Int):List Bool:=[decide (0≤j∧j<(n:Int)),decide (j.toNat<U.length)]
def cl(U:List X)(j:Int):List AV:=(S.E.iv (U.getD j.toNat S.E.d)).map AV.c
def cc(U:List X)(j k:Int):List Bool:=[S.E.ok (S.cl U j),S.E.ok (S.cl U k),S.bd (S.E.V (S.cl U j)),S.bd (S.E.V (S.cl U k))]
def cv(U:List X)(j k:Int):Int:=S.cmp (S.E.V (S.cl U j)) (S.E.V (S.cl U k))
def J8(U:List X)(j k:Int):Nat→List IV:=aT (aT (S.E.el U) j.toNat 0 (S.E.iv (U.getD k.toNat S.E.d))) k.toNat 0 (S.E.iv (U.getD j.toNat S.E.d))
def Sb{α Y:Type}(n:Nat)(U:List Y)(j k:Int)(t:Tr α):Tr α:=Tr.needs (gi n U k++gi n U j++gi n U j++gi n U k) t
def tq(U:List X)(j k:Nat):List X:=(U.set j (U.getD k default)).set k (U.getD j default)
def nx{R:Type}(U:List X)(n:Nat)(el:Nat→List IV)(z:Z):Tr (((Nat×Z)×(List X×Unit)) ⊕ R):=need (S.E.oks U.length el)<| ret (Sum.inl ((n,z),(S.E.list U.length el,())))
def out{R:Type}(U:List X)(n:Nat)(el:Nat→List IV)(z:Z):Tr (R ⊕ ((Nat×Z)×(List X×Unit))):=need (S.E.oks U.length el)<| ret (Sum.inr ((n,z),(S.E.list U.length el,())))
theorem fJ(U:List X)(j k:Nat):(tq U j k).length=U.length:=by simp[tq]
theorem Yf(U:List X)(j:Nat)(x:X)(hj:j<U.length): ∀k,k<U.length→aT (S.E.el U) j 0 (S.E.iv x) k=S.E.el (U.set j x) k:=
 S.E.Oe U j hj 0 (S.E.iv x) x (by rw[List.take_zero,List.nil_append,Nat.zero_add,S.E.len, ←S.E.len (U.getD j S.E.d),List.drop_length,List.append_nil])
theorem ad5(U:List X)(j k:Nat)(hj:j<U.length)(hk:k<U.length): ∀i,i<U.length→S.J8 U (j:Nat) (k:Nat) i=S.E.el (tq U j k) i:=by
 intro i hi;have hl:(U.set j (U.getD k S.E.d)).length=U.length:=by simp
 have h2:=S.Yf (U.set j (U.getD k S.E.d)) k (U.getD j S.E.d) (by rw[hl];exact hk) i (by rw[hl];exact hi);unfold tq;rw[←S.aqO, ←h2];unfold J8;simp only[cB];unfold aT;have e:=λi hi=>S.Yf U j (U.getD k S.E.d) hj i hi
 have e1:=e i hi;have e2:=e k hk;unfold aT at e1 e2;by_cases hik:i=k
 ·rw[if_pos hik,if_pos hik,e1]
 ·rw[if_neg hik,if_neg hik,e1]
theorem oO(U:List X)(j k:Nat)(hj:j<U.length)(hk:k<U.length):S.E.list U.length (S.J8 U (j:Nat) (k:Nat))=tq U j k∧S.E.oks U.length (S.J8 U (j:Nat) (k:Nat))=true:=by
 have key:=S.ad5 U j k hj hk;rw[S.E.kK key,S.E.mF key];refine⟨?_,S.E.aP _ _⟩;have:=S.E.aG (tq U j k)
 rwa [fJ]at this
def Bd(U:List X):Prop:=U.all S.bd=true
theorem Bd.get{S:lT X}{U:List X}(h:S.Bd U){i:Nat}(hi:i<U.length):S.bd (U.getD i default)=true:=by
 have:=yP h default hi;exact this
theorem Bd.swap{S:lT X}{U:List X}(h:S.Bd U){j k:Nat}(hj:j<U.length)(hk:k<U.length):S.Bd (tq U j k):=by
 refine List.all_eq_true.2 λx hx=> ?_
 rcases List.mem_or_eq_of_mem_set hx with hx|hx
 ·rcases List.mem_or_eq_of_mem_set hx with hx|hx
  ·exact List.all_eq_true.1 h x hx
  ·rw[hx];exact h.get hk
 ·rw[hx];exact h.get hj
theorem V8(U:List X)(j:Nat):S.cl U (j:Nat)=(S.E.iv (U.getD j default)).map AV.c:=by unfold cl;rw[S.aqO];rfl
theorem DC{S:lT X}{U:List X}(h:S.Bd U){j k:Nat}(hj:j<U.length)(hk:k<U.length):decide (S.cv U (j:Nat) (k:Nat)<0)=S.lt (U.getD j default) (U.getD k default):=by
 unfold cv;rw[V8,V8,S.E.Dq,S.E.Dq];exact S.lt_eq _ _ (h.get hj) (h.get hk)
theorem lC{Y:Type}{U:List Y}{j:Nat}(hj:j<U.length): ∀p∈gi U.length U (j:Nat),p=true:=by
 intro p hp;simp only[gi,List.mem_cons,List.not_mem_nil,or_false]at hp;rcases hp with rfl|rfl
 ·exact dA
 ·exact dK (by rw[cB];exact hj)
theorem DF{S:lT X}{U:List X}(h:S.Bd U){j k:Nat}(hj:j<U.length)(hk:k<U.length): ∀p∈S.cc U (j:Nat) (k:Nat),p=true:=by
 intro p hp;simp only[cc,List.mem_cons,List.not_mem_nil,or_false,V8,S.E.Dq,S.E.pY]at hp;rcases hp with rfl|rfl|rfl|rfl
 ·rfl
 ·rfl
 ·exact h.get hj
 ·exact h.get hk
theorem jl{l m:List Bool}(h: ∀p∈l,p=true)(k: ∀p∈m,p=true): ∀p∈l++m,p=true:=λp hp=>(List.mem_append.1 hp).elim (h p) (k p)
theorem qR{α Y:Type}{U:List Y}{j k:Nat}(hj:j<U.length)(hk:k<U.length){t:Tr α}{Q:α→Prop}(h:t.sat Q):(Sb U.length U (j:Nat) (k:Nat) t).sat Q:=
 dR (jl (jl (jl (lC hk) (lC hj)) (lC hj)) (lC hk)) h
theorem qU{R:Type}{U V:List X}{n:Nat}{el:Nat→List IV}{z:Z}{Q:((Nat×Z)×(List X×Unit)) ⊕ R→Prop}(h1:S.E.list U.length el=V)(h2:S.E.oks U.length el=true)(h:Q (.inl ((n,z),(V,())))):(S.nx U n el z).sat Q:=ah h2 (ak (by rw[h1];exact h))
theorem jq{R:Type}{U V:List X}{n:Nat}{el:Nat→List IV}{z:Z}{Q:R ⊕ ((Nat×Z)×(List X×Unit))→Prop}(h1:S.E.list U.length el=V)(h2:S.E.oks U.length el=true)(h:Q (.inr ((n,z),(V,())))):(S.out U n el z).sat Q:=ah h2 (ak (by rw[h1];exact h))
theorem jM(U:List X)(i:Nat):U.toArray[i]! =U.getD i default:=by
 simp[dJ]
theorem mI(U:List X)(j k:Nat):Go.Sort.swp U.toArray j k=(tq U j k).toArray:=by
 unfold Go.Sort.swp tq;rw[jM,jM];simp
def Inv(L:Nat)(d:Array X):Prop:=d.size=L∧S.Bd d.toList
theorem Inv.swp{S:lT X}{L:Nat}{d:Array X}(h:S.Inv L d){i j:Nat}(hi:i<L)(hj:j<L):S.Inv L (Go.Sort.swp d i j):=by
 obtain⟨h1,h2⟩:=h;have e:=mI d.toList i j;rw[Array.toArray_toList]at e;unfold Inv;rw[e];subst h1;exact⟨by rw[List.size_toArray,fJ,Array.length_toList],h2.swap (by simpa using hi) (by simpa using hj)⟩
theorem Inv.of{S:lT X}{U:List X}(h:S.Bd U):S.Inv U.length U.toArray:=⟨rfl,h⟩
theorem Inv.perm{S:lT X}{L a b:Nat}{d d':Array X}(h:S.Inv L d)(hb:b≤L)(hp:Go.Sort.PermIn a b d d'):S.Inv L d':=by
 obtain⟨h1,h2,h3⟩:=Go.Sort.permIn_mono d d' a b 0 L (Nat.zero_le _) hb (by rw[h.1];exact Nat.le_refl _) hp;refine⟨h1.trans h.1,List.all_eq_true.2 λx hx=>List.all_eq_true.1 h.2 x ?_⟩;have e1:d'.extract 0 L=d':=by rw[←h.1, ←h1];simp
 have e2:d.extract 0 L=d:=by rw[←h.1];simp
 rw[e1,e2]at h3;exact h3.mem_iff.1 hx
def J9(d:Array X):gJ:= .arr d.toList.length S.E.n (S.E.el d.toList) S.ty
def base(n:Nat)(U:List X):Bool:=decide (n=U.length)&&(decide (U.length≤1000000)&&U.all S.bd)
theorem jm{S:lT X}{n:Nat}{U:List X}(h:S.base n U=true):n=U.length∧U.length≤1000000∧S.Bd U:=by
 simp only[base,bI,dS]at h;exact h
theorem iO{S:lT X}{U:List X}(hl:U.length≤1000000)(h:S.Bd U):S.base U.length U=true:=by
 simp only[base,bI,dS];exact⟨trivial,hl,h⟩
def K(F:Form Z)(val:Z→List X→AV)(res:Z→List X→Array X)(pre:Z→List X→Bool):iD:=
 (S.form F).K (λx=>{val:=val x.1.2 x.2.1,outs:=[some (S.J9 (res x.1.2 x.2.1))]}) λx=> [S.base x.1.1 x.2.1,pre x.1.2 x.2.1]
theorem Ka{F:Form Z}{val:Z→List X→AV}{res:Z→List X→Array X}{pre:Z→List X→Bool}{L:Nat→Option (St→Tr (Ex×St))}{Γ:FuncId→Option Spec}{f:FuncId}{fn:Func}(hΓ: ∀f s,Γ f=some s→aH prog f s)
  (hl:bB prog 1 L (codeOf fn)) {M:Nat→Z→List X→Tr dx} (hM: ∀n z U,jw prog Γ L 1010 false fn [some (.arr U.length S.E.n (S.E.el U) S.ty)] (.fK 0 n S.E.n::F.args z)=M n z U)
  (h: ∀z U,U.length≤1000000→S.Bd U→pre z U=true→(M U.length z U).sat (gW {val:=val z U,outs:=[some (S.J9 (res z U))]}))
  (hf:prog.funcs[f]? =some fn:=by kernel_rfl) (hb:fn.body=some (codeOf fn):=by kernel_rfl) (hn:dz fn=true:=by kernel_rfl):fF prog f (S.K F val res pre):=by
 refine dU.Jv (S.form F) (N:=1010) (L:=L) (xS:=false) aI hΓ (fn:=fn) (c:=codeOf fn) hf hb hn (λe l x cs h=>by rw[kr.len1 _ _ h];exact hl) (M:=λx=>M x.1.1 x.1.2 x.2.1) (λx=>hM x.1.1 x.1.2 x.2.1) ?_;rintro⟨⟨n,z⟩,⟨U,⟨⟩⟩⟩ hx;obtain⟨h1,h2,h3⟩:=jm (hx (S.base n U) (by simp));subst h1;exact h z U h2 h3 (hx (pre z U) (by simp))
def E5{A B:Type}(k id:Nat)(lp:bC A B):Nat→Option (St→Tr (Ex×St)):=λi=>bif beq i id then some (lp.g k)else none
theorem rH{A B:Type}{c:Code}{Γ:FuncId→Option Spec}{N k id:Nat}{L:Nat→Option (St→Tr (Ex×St))}{lp:bC A B}{step:A→Tr (A ⊕ B)}(hΓ: ∀f s,Γ f=some s→aH prog f s)(hL:bB prog k L (aR id c))(hg:lp.gH)
  (hs: ∀x,(exec prog Γ L N (aR id c) (eY lp.nIn (lp.head x))).bind (lp.fin k id)=step x)
  (hr: ∀x,lp.pre x=true→ ∃n,aS step (· =lp.res x) n x) (hb:bW (λi=>beq i id) c=[(id,.loop (aR id c))]:=by kernel_rfl):bB prog k (E5 k id lp) c:=by
 refine eP (d:=λi=>beq i id) (λi=>by unfold E5;cases beq i id<;>rfl) _ ?_;rw[hb];intro p hp g hg';simp only[List.mem_singleton]at hp;subst hp;have hh:E5 k id lp id=some (lp.g k):=by
  unfold E5;rw[show beq id id=true by simp];rfl
 rw[hh]at hg';obtain rfl:g=lp.g k:=(Option.some.inj hg').symm;exact bC.PO (N:=N) aI hΓ (L:=L) hL hg hs hr
end lT
end Go.bA
namespace Go.bA
open Go.Proofs
namespace lT
variable{X:Type} [Inhabited X](S:lT X)
abbrev Fab:Form (Int×Int×Unit×Unit):= .cons aX (.cons aX (.cons (gG S.fc) .nil))
abbrev aqP:Form (Int×Int×Unit×Int×Unit):= .cons aX (.cons aX (.cons (gG S.fc) (.cons aX .nil)))
abbrev aqQ:Form (Int×Int×Unit×Int×Int×Unit):= .cons aX (.cons aX (.cons (gG S.fc) (.cons aX (.cons aX .nil))))
def lI2:bC ((Nat×Int×Int×Unit×Int×Int×Unit)×(List X×Unit)) ((Nat×Int×Int×Unit×Int×Unit)×(List X×Unit)):=
 lD {nt:=53,live:=[0,1,2,3,8,9]} {nt:=53,live:=[0,1,2,3,8]} (S.form S.aqQ) (S.form S.aqP)
  (λx=>((x.1.1,x.1.2.1,x.1.2.2.1,(),x.1.2.2.2.2.1,()),((Go.Sort.insInner S.lt x.1.2.1.toNat x.1.2.2.2.2.2.1.toNat x.2.1.toArray).toList,())))
  (λx=>S.base x.1.1 x.2.1&&(decide (0≤x.1.2.1)&&(decide (0≤x.1.2.2.2.2.2.1)&&decide (x.1.2.2.2.2.2.1<(x.2.1.length:Int)))))
def tI2(x:(Nat×Int×Int×Unit×Int×Int×Unit)×(List X×Unit)):Tr (((Nat×Int×Int×Unit×Int×Int×Unit)×(List X×Unit)) ⊕ ((Nat×Int×Int×Unit×Int×Unit)×(List X×Unit))):=
 let n:=x.1.1
 let a:=x.1.2.1
 let b:=x.1.2.2.1
 let i:=x.1.2.2.2.2.1
 let j:=x.1.2.2.2.2.2.1
 let U:=x.2.1
 let k:=i64.wrap (j-1)
 need (bif decide (j>a)then ands (gi n U j++gi n U k++S.cc U j k)else true)<| Tr.ite (bif decide (j>a)then bif true then decide (S.cv U j k<0)else false else false)
  (Sb n U j k<| S.nx U n (S.J8 U j k) (a,b,(),i,k,())) (S.out U n (S.E.el U) (a,b,(),i,()))
theorem rI2(a:Nat)(b i:Int)(Q:((Nat×Int×Int×Unit×Int×Unit)×(List X×Unit))→Prop): ∀(j:Nat) (U:List X),j<U.length→U.length≤1000000→S.Bd U→Q ((U.length,(a:Nat),b,(),i,()),((Go.Sort.insInner S.lt a j U.toArray).toList,()))→
  aS S.tI2 Q (j+1) ((U.length,(a:Nat),b,(),i,(j:Nat),()),(U,()))
 | 0,U,hj,hl,hb,hq=>by
   have c:decide (((0:Nat):Int)>(a:Int))=false:=iB (by omega);unfold aS;simp only[tI2,c];exact ah rfl (aj (λh=>Bool.noConfusion h) λ_=>S.jq (S.E.aG U) (S.E.aP _ _) hq)
 | j+1,U,hj,hl,hb,hq=>by
   have w1:i64.wrap (((j+1:Nat):Int)-1)=(j:Int):=kU;have hk:j<U.length:=by omega
   unfold aS;simp only[tI2,w1];unfold Go.Sort.insInner at hq;rw[jM,jM,mI]at hq;by_cases ha:j+1>a
   ·rw[dK (show((j+1:Nat):Int)>(a:Int)by omega),cond_true,cond_true,cond_true,DC hb hj hk]
    rw[dK ha,Bool.true_and]at hq;refine ah (nP (jl (jl (lC hj) (lC hk)) (DF hb hj hk))) (aj (λh=> ?_) λh=> ?_)
    ·rw[h,if_pos rfl]at hq
     obtain⟨s1,s2⟩:=S.oO U (j+1) j hj hk;refine qR hj hk (S.qU s1 s2 ?_);have ih:=rI2 a b i Q j (tq U (j+1) j) (by rw[fJ];exact hk) (by rw[fJ];exact hl) (hb.swap hj hk);rw[fJ]at ih;exact ih hq
    ·rw[h]at hq
     exact S.jq (S.E.aG U) (S.E.aP _ _) hq
   ·rw[iB (show¬((j+1:Nat):Int)>(a:Int)by omega)]
    rw[iB ha]at hq;exact ah rfl (aj (λh=>Bool.noConfusion h) λ_=>S.jq (S.E.aG U) (S.E.aP _ _) hq)
theorem DI{S:lT X}{L a:Nat}: ∀{j:Nat} {d:Array X},S.Inv L d→j<L→S.Inv L (Go.Sort.insInner S.lt a j d)
 | 0,d,h,_=>h
 | j+1,d,h,hj=>by
   unfold Go.Sort.insInner
   split
   ·exact DI (h.swp hj (by omega)) (by omega)
   ·exact h
def lI0:bC ((Nat×Int×Int×Unit×Int×Unit)×(List X×Unit)) ((Nat×Unit)×(List X×Unit)):=
 lD {nt:=53,live:=[0,1,2,3,8]} {nt:=53,live:=[0]} (S.form S.aqP) (S.form .nil)
  (λx=>((x.1.1,()),((Go.Sort.insOuter S.lt x.1.2.1.toNat x.1.2.2.1.toNat x.1.2.2.2.2.1.toNat x.2.1.toArray).toList,())))
  (λx=>S.base x.1.1 x.2.1&&(decide (0≤x.1.2.1)&&(decide (0≤x.1.2.2.2.2.1)&&(decide (0≤x.1.2.2.1)&&(decide (x.1.2.2.1≤(x.2.1.length:Int))&&decide (x.1.2.2.2.2.1≤1000001))))))
def tI0(x:(Nat×Int×Int×Unit×Int×Unit)×(List X×Unit)):Tr (((Nat×Int×Int×Unit×Int×Unit)×(List X×Unit)) ⊕ ((Nat×Unit)×(List X×Unit))):=
 let n:=x.1.1
 let a:=x.1.2.1
 let b:=x.1.2.2.1
 let i:=x.1.2.2.2.2.1
 let U:=x.2.1
 let U':=S.E.list U.length (S.E.el U)
 let V:=(Go.Sort.insInner S.lt a.toNat i.toNat U'.toArray).toList
 Tr.ite (decide (i<b)) (need (S.E.oks U.length (S.E.el U))<| need (S.base n U'&&(decide (0≤a)&&(decide (0≤i)&&decide (i<(U'.length:Int)))))<| S.nx V n (S.E.el V) (a,b,(),i64.wrap (i+1),()))
  (S.out U n (S.E.el U) ())
theorem rI0(a b:Nat)(Q:((Nat×Unit)×(List X×Unit))→Prop): ∀(k i:Nat) (U:List X),b-i≤k→b≤U.length→U.length≤1000000→S.Bd U→Q ((U.length,()),((Go.Sort.insOuter S.lt a b i U.toArray).toList,()))→
  aS S.tI0 Q (k+1) ((U.length,(a:Nat),(b:Nat),(),(i:Nat),()),(U,()))
 | k,i,U,hk,hb,hl,hB,hq=>by
   unfold aS;unfold Go.Sort.insOuter at hq;simp only[tI0];by_cases hi:i<b
   ·rw[if_pos hi]at hq
    have w1:i64.wrap ((i:Int)+1)=((i+1:Nat):Int):=kU;rw[dK (show(i:Int)<(b:Int)by omega)];simp only[S.E.aG,S.E.aP,iO hl hB,w1,cB,dK (show(0:Int)≤(a:Int)by omega),dK (show(0:Int)≤(i:Int)by omega),dK (show(i:Int)<(U.length:Int)by omega),Bool.and_true];refine aj (λ_=>ah rfl (ah rfl (S.qU (S.E.aG _) (S.E.aP _ _) ?_))) λh=>Bool.noConfusion h
    obtain⟨h1,h2⟩:=DI (a:=a) (Inv.of hB) (show i<U.length by omega);have hlen:(Go.Sort.insInner S.lt a i U.toArray).toList.length=U.length:=by rw[Array.length_toList,h1]
    obtain⟨k,rfl⟩: ∃m,k=m+1:=⟨k-1,by omega⟩
    have ih:=rI0 a b Q k (i+1) (Go.Sort.insInner S.lt a i U.toArray).toList (by omega) (by rw[hlen];exact hb) (by rw[hlen];exact hl) h2;rw[hlen,Array.toArray_toList]at ih;exact ih hq
   ·rw[if_neg hi]at hq
    rw[iB (show¬(i:Int)<(b:Int)by omega)];exact aj (λh=>Bool.noConfusion h) λ_=>S.jq (S.E.aG U) (S.E.aP _ _) hq
 termination_by k=>k
def anY:iD:=S.K S.Fab (λ_ _=> .fG []) (λz U=>Go.Sort.insertionSort S.lt U.toArray z.1.toNat z.2.1.toNat) λz U=>decide (0≤z.1)&&(decide (0≤z.2.1)&&(decide (z.2.1≤(U.length:Int))&&decide (z.1≤1000000)))
def VD(n:Nat)(z:Int×Int×Unit×Unit)(U:List X):Tr dx:=
 let U':=S.E.list U.length (S.E.el U)
 need (S.E.oks U.length (S.E.el U))<| need (S.lI0.pre ((n,z.1,z.2.1,(),i64.wrap (z.1+1),()),(U',())))<| ret {val:= .fG [],outs:=[some (S.J9 (Go.Sort.insOuter S.lt z.1.toNat z.2.1.toNat (i64.wrap (z.1+1)).toNat U'.toArray))]}
theorem anZ{Γ:FuncId→Option Spec}{f:FuncId}{fn:Func}(hΓ: ∀f s,Γ f=some s→aH prog f s)
  (h2: ∀x,(exec prog Γ dn 1010 (aR 2 (aR 0 (codeOf fn))) (eY S.lI2.nIn (S.lI2.head x))).bind (S.lI2.fin 1 2)=S.tI2 x)
  (h0: ∀x,(exec prog Γ (E5 1 2 S.lI2) 1010 (aR 0 (codeOf fn)) (eY S.lI0.nIn (S.lI0.head x))).bind (S.lI0.fin 1 0)=S.tI0 x)
  (hM: ∀n z U,jw prog Γ (E5 1 0 S.lI0) 1010 false fn [some (.arr U.length S.E.n (S.E.el U) S.ty)] (.fK 0 n S.E.n::S.Fab.args z)=S.VD n z U)
  (hf:prog.funcs[f]? =some fn:=by kernel_rfl) (hb:fn.body=some (codeOf fn):=by kernel_rfl) (hn:dz fn=true:=by kernel_rfl)
  (b2:bW (λi=>beq i 2) (aR 0 (codeOf fn))=[(2,.loop (aR 2 (aR 0 (codeOf fn))))]:=by kernel_rfl) (b0:bW (λi=>beq i 0) (codeOf fn)=[(0,.loop (aR 0 (codeOf fn)))]:=by kernel_rfl):fF prog f S.anY:=by
 refine S.Ka hΓ (rH hΓ (rH hΓ (aA _ _) (cZ _ _ _ _ _ _) h2 ?_ b2) (cZ _ _ _ _ _ _) h0 ?_ b0) hM ?_ hf hb hn
 ·rintro⟨⟨n,a,b,⟨⟩,i,j,⟨⟩⟩,⟨U,⟨⟩⟩⟩ hx
  simp only[lI2,lD,bI,dS]at hx;obtain⟨hx,h3,h4,h5⟩:=hx;obtain⟨rfl,hl,hB⟩:=jm hx;obtain⟨a,rfl⟩: ∃m:Nat,a=m:=⟨a.toNat,by omega⟩
  obtain⟨j,rfl⟩: ∃m:Nat,j=m:=⟨j.toNat,by omega⟩
  exact⟨_,S.rI2 a b i _ j U (by omega) hl hB rfl⟩
 ·rintro⟨⟨n,a,b,⟨⟩,i,⟨⟩⟩,⟨U,⟨⟩⟩⟩ hx
  simp only[lI0,lD,bI,dS]at hx;obtain⟨hx,h3,h4,h5,h6,_⟩:=hx;obtain⟨rfl,hl,hB⟩:=jm hx;obtain⟨a,rfl⟩: ∃m:Nat,a=m:=⟨a.toNat,by omega⟩
  obtain⟨b,rfl⟩: ∃m:Nat,b=m:=⟨b.toNat,by omega⟩
  obtain⟨i,rfl⟩: ∃m:Nat,i=m:=⟨i.toNat,by omega⟩
  exact⟨_,S.rI0 a b _ _ i U (Nat.le_refl _) (by omega) hl hB rfl⟩
 ·rintro⟨a,b,⟨⟩,⟨⟩⟩ U hl hB hp
  simp only[bI,dS]at hp;obtain⟨h3,h4,h5,h6⟩:=hp;obtain⟨a,rfl⟩: ∃m:Nat,a=m:=⟨a.toNat,by omega⟩
  obtain⟨b,rfl⟩: ∃m:Nat,b=m:=⟨b.toNat,by omega⟩
  have w1:i64.wrap ((a:Int)+1)=((a+1:Nat):Int):=kU;simp only[VD,S.E.aG,S.E.aP,w1,cB,sat_true];refine ah ?_ (ak (gW.refl _));simp only[lI0,lD,bI,dS];exact⟨iO hl hB,by omega,by omega,by omega,by omega,by omega⟩
end lT
instance:Inhabited R3:=⟨⟨0,0,false⟩⟩
end Go.bA
namespace Go.bA
open Go.Proofs
def mV:kZ Int where
 n:=1
 iv:=λn=> [.v (.int .i64 n)]
 V:=λl=>match l with | [.c (.v (.int .i64 n))]=>n | _=>0
 ok:=λl=>match l with | [.c (.v (.int .i64 _))]=>true | _=>false
 d:=0
 ok_eq:=λl h=>by
  split at h
  ·rfl
  ·cases h
 Dq:=λ_=>rfl
 pY:=λ_=>rfl
 len:=λ_=>rfl
namespace lT
variable{X Z:Type} [Inhabited X](S:lT X)
def ak5(F:Form Z):dU ((Nat×Z)×(List X×(Int×Unit))):= .with (.cons (S.E.ent S.ty) (.cons (aaq mV 3) .nil)) (.cons (dZ 0 S.E.n) F)
def Ar(U:List X)(s:Nat):List (Option gJ):=[some (.arr U.length S.E.n (S.E.el U) S.ty),some (.cells [.c (.v (.int .i64 (s:Int)))] 3)]
def K2(F:Form Z)(val:Z→List X→Nat→AV)(cnt:Z→List X→Nat→Nat)(pre:Z→List X→Nat→Bool):iD:=
 (S.ak5 F).K (λx=>{val:=val x.1.2 x.2.1 x.2.2.1.toNat,outs:=S.Ar x.2.1 (cnt x.1.2 x.2.1 x.2.2.1.toNat)}) λx=> [S.base x.1.1 x.2.1&&(decide (0≤x.2.2.1)&&decide (x.2.2.1≤1000)),pre x.1.2 x.2.1 x.2.2.1.toNat]
theorem ad6{F:Form Z}{val:Z→List X→Nat→AV}{cnt:Z→List X→Nat→Nat}{pre:Z→List X→Nat→Bool}{Γ:FuncId→Option Spec}{f:FuncId}{fn:Func}(hΓ: ∀f s,Γ f=some s→aH prog f s)
  {M:Nat→Z→List X→Int→Tr dx} (hM: ∀n z U s,jw prog Γ dn 1010 false fn [some (.arr U.length S.E.n (S.E.el U) S.ty),some (.cells [.c (.v (.int .i64 s))] 3)] (.fK 0 n S.E.n::F.args z)=M n z U s)
  (h: ∀z U (s:Nat),U.length≤1000000→S.Bd U→s≤1000→pre z U s=true→(M U.length z U s).sat (gW {val:=val z U s,outs:=S.Ar U (cnt z U s)}))
  (hf:prog.funcs[f]? =some fn:=by kernel_rfl) (hb:fn.body=some (codeOf fn):=by kernel_rfl) (hn:dz fn=true:=by kernel_rfl):fF prog f (S.K2 F val cnt pre):=by
 refine dU.Jv (S.ak5 F) (N:=1010) (L:=dn) (xS:=false) aI hΓ (fn:=fn) (c:=codeOf fn) hf hb hn (λe l x cs h=>aA _ _) (M:=λx=>M x.1.1 x.1.2 x.2.1 x.2.2.1) (λx=>hM x.1.1 x.1.2 x.2.1 x.2.2.1) ?_;rintro⟨⟨n,z⟩,⟨U,⟨s,⟨⟩⟩⟩⟩ hx;have h0:=hx (S.base n U&&(decide (0≤s)&&decide (s≤1000))) (by simp);simp only[bI,dS]at h0;obtain⟨h0,h4,h5⟩:=h0;obtain⟨h1,h2,h3⟩:=jm h0;subst h1;obtain⟨s,rfl⟩: ∃m:Nat,s=m:=⟨s.toNat,by omega⟩
 exact h z U s h2 h3 (by omega) (hx (pre z U s) (by simp))
def Ay{Y:Type}(U:List Y)(a:Int):Bool:=decide (0≤a)&&decide (a<(U.length:Int))
theorem rJ{Y:Type}{U:List Y}{a:Int}(h:Ay U a=true): ∃m:Nat,a=m∧m<U.length:=by
 simp only[Ay,bI,dS]at h;exact⟨a.toNat,by omega,by omega⟩
theorem lN{Y:Type}{U:List Y}{a:Nat}(h:a<U.length):Ay U (a:Int)=true:=by
 simp only[Ay,bI,dS];omega
abbrev Fo2:Form (Int×Int×Unit×Unit×Unit):= .cons aX (.cons aX (.cons (mP 1 0) (.cons (gG S.fc) .nil)))
def two(r:Nat×Nat×Nat):AV:= .fG [.c (.v (.int .i64 (r.1:Int))),.c (.v (.int .i64 (r.2.1:Int)))]
def kO2:iD:=S.K2 S.Fo2 (λz U s=>two (Go.Sort.order2 S.lt U.toArray z.1.toNat z.2.1.toNat s)) (λz U s=>(Go.Sort.order2 S.lt U.toArray z.1.toNat z.2.1.toNat s).2.2) λz U s=>Ay U z.1&&Ay U z.2.1
def MO2(n:Nat)(z:Int×Int×Unit×Unit×Unit)(U:List X)(s:Int):Tr dx:=
 Tr.needs (gi n U z.2.1++gi n U z.1++S.cc U z.2.1 z.1)<| Tr.ite (decide (S.cv U z.2.1 z.1<0))
  (ret {val:= .fG [.c (.v (.int .i64 z.2.1)),.c (.v (.int .i64 z.1))],outs:=[some (.arr U.length S.E.n (S.E.el U) S.ty),some (.cells [.c (.v (.int .i64 (i64.wrap (s+1))))] 3)]})
  (ret {val:= .fG [.c (.v (.int .i64 z.1)),.c (.v (.int .i64 z.2.1))],outs:=[some (.arr U.length S.E.n (S.E.el U) S.ty),some (.cells [.c (.v (.int .i64 s))] 3)]})
theorem aqR{Γ:FuncId→Option Spec}{f:FuncId}{fn:Func}(hΓ: ∀f s,Γ f=some s→aH prog f s)
  (hM: ∀n z U s,jw prog Γ dn 1010 false fn [some (.arr U.length S.E.n (S.E.el U) S.ty),some (.cells [.c (.v (.int .i64 s))] 3)] (.fK 0 n S.E.n::S.Fo2.args z)=S.MO2 n z U s)
  (hf:prog.funcs[f]? =some fn:=by kernel_rfl) (hb:fn.body=some (codeOf fn):=by kernel_rfl) (hn:dz fn=true:=by kernel_rfl):fF prog f S.kO2:=by
 refine S.ad6 hΓ hM ?_ hf hb hn;rintro⟨a,b,⟨⟩,⟨⟩,⟨⟩⟩ U s hl hB hs hp;simp only[bI]at hp;obtain⟨a,rfl,ha⟩:=rJ hp.1;obtain⟨b,rfl,hb⟩:=rJ hp.2;have w1:i64.wrap ((s:Int)+1)=((s+1:Nat):Int):=kU;unfold MO2;refine dR (jl (jl (lC hb) (lC ha)) (DF hB hb ha)) ?_;dsimp only;rw[DC hB hb ha,w1];simp only[Go.Sort.order2,jM,cB];refine aj (λh=>ak ?_) λh=>ak ?_<;>rw[h]<;>exact gW.refl _
def Ga{α:Type}(n:Nat)(U:List X)(s:Int)(pre:List X→Nat→Bool)(k:List X→Nat→Tr α):Tr α:=
 let U':=S.E.list U.length (S.E.el U)
 need (S.E.oks U.length (S.E.el U))<| need true<| need (S.base n U'&&(decide (0≤s)&&decide (s≤1000)))<| need (pre U' s.toNat)<| k U' s.toNat
theorem rX{α:Type}{U:List X}{s:Nat}{pre:List X→Nat→Bool}{k:List X→Nat→Tr α}{Q:α→Prop}(hl:U.length≤1000000)(hB:S.Bd U)(hs:s≤1000)(hp:pre U s=true)(h:(k U s).sat Q):(S.Ga U.length U (s:Int) pre k).sat Q:=by
 simp only[Ga,S.E.aG,S.E.aP,iO hl hB,cB,hp,dK (show(0:Int)≤(s:Int)by omega),dK (show(s:Int)≤1000 by omega),Bool.and_true,sat_true];exact h
def DX(U:List X)(a b:Int)(s:Nat):Nat×Nat×Nat:=Go.Sort.order2 S.lt U.toArray a.toNat b.toNat s
abbrev Fme:Form (Int×Int×Int×Unit×Unit×Unit):= .cons aX (.cons aX (.cons aX (.cons (mP 1 0) (.cons (gG S.fc) .nil))))
def iA(n:Nat):AV:= .c (.v (.int .i64 (n:Int)))
def kMe:iD:=S.K2 S.Fme (λz U s=>iA (Go.Sort.median S.lt U.toArray z.1.toNat z.2.1.toNat z.2.2.1.toNat s).1) (λz U s=>(Go.Sort.median S.lt U.toArray z.1.toNat z.2.1.toNat z.2.2.1.toNat s).2) λz U s=>Ay U z.1&&(Ay U z.2.1&&(Ay U z.2.2.1&&decide (s≤900)))
def MMe(n:Nat)(z:Int×Int×Int×Unit×Unit×Unit)(U:List X)(s:Int):Tr dx:=
 S.Ga n U s (λU _=>Ay U z.1&&Ay U z.2.1) λU s=>let r:=S.DX U z.1 z.2.1 s
 S.Ga n U r.2.2 (λU _=>Ay U r.2.1&&Ay U z.2.2.1) λU s=>let q:=S.DX U r.2.1 z.2.2.1 s
 S.Ga n U q.2.2 (λU _=>Ay U r.1&&Ay U q.1) λU s=>let p:=S.DX U r.1 q.1 s
 ret {val:=iA p.2.1,outs:=S.Ar U p.2.2}
theorem ad7{S:lT X}{U:List X}{a b s:Nat}:((S.DX U a b s).1=a∨(S.DX U a b s).1=b)∧((S.DX U a b s).2.1=a∨(S.DX U a b s).2.1=b)∧(S.DX U a b s).2.2≤s+1:=by
 unfold DX Go.Sort.order2;simp only[cB]
 split<;>simp
theorem aqS{Γ:FuncId→Option Spec}{f:FuncId}{fn:Func}(hΓ: ∀f s,Γ f=some s→aH prog f s)
  (hM: ∀n z U s,jw prog Γ dn 1010 false fn [some (.arr U.length S.E.n (S.E.el U) S.ty),some (.cells [.c (.v (.int .i64 s))] 3)] (.fK 0 n S.E.n::S.Fme.args z)=S.MMe n z U s)
  (hf:prog.funcs[f]? =some fn:=by kernel_rfl) (hb:fn.body=some (codeOf fn):=by kernel_rfl) (hn:dz fn=true:=by kernel_rfl):fF prog f S.kMe:=by
 refine S.ad6 hΓ hM ?_ hf hb hn;rintro⟨a,b,c,⟨⟩,⟨⟩,⟨⟩⟩ U s hl hB hs hp;simp only[bI,dS]at hp;obtain⟨h1,h2,h3,h4⟩:=hp;obtain⟨a,rfl,ha⟩:=rJ h1;obtain⟨b,rfl,hb⟩:=rJ h2;obtain⟨c,rfl,hc⟩:=rJ h3;obtain⟨m1,m2,m3⟩:=ad7 (S:=S) (U:=U) (a:=a) (b:=b) (s:=s);have e:Go.Sort.median S.lt U.toArray a b c s=((S.DX U (S.DX U a b s).1 (S.DX U (S.DX U a b s).2.1 c (S.DX U a b s).2.2).1 (S.DX U (S.DX U a b s).2.1 c (S.DX U a b s).2.2).2.2).2.1,(S.DX U (S.DX U a b s).1 (S.DX U (S.DX U a b s).2.1 c (S.DX U a b s).2.2).1 (S.DX U (S.DX U a b s).2.1 c (S.DX U a b s).2.2).2.2).2.2):=by
  simp only[Go.Sort.median,DX,cB]
 refine S.rX hl hB (by omega) (by show(Ay U (a:Int)&&Ay U (b:Int))=true;rw[lN ha,lN hb];rfl) ?_;dsimp only;simp only[cB];rw[e];generalize S.DX U a b s=r at*;have hr1:r.1<U.length:=by rcases m1 with h|h<;>omega
 have hr2:r.2.1<U.length:=by rcases m2 with h|h<;>omega
 obtain⟨k1,k2,k3⟩:=ad7 (S:=S) (U:=U) (a:=r.2.1) (b:=c) (s:=r.2.2);refine S.rX hl hB (by omega) (by show(Ay U (r.2.1:Int)&&Ay U (c:Int))=true;rw[lN hr2,lN hc];rfl) ?_;dsimp only;generalize S.DX U r.2.1 c r.2.2=q at*;have hq1:q.1<U.length:=by rcases k1 with h|h<;>omega
 refine S.rX hl hB (by omega) (by show(Ay U (r.1:Int)&&Ay U (q.1:Int))=true;rw[lN hr1,lN hq1];rfl) ?_;exact ak (gW.refl _)
abbrev Fma:Form (Int×Unit×Unit×Unit):= .cons aX (.cons (mP 1 0) (.cons (gG S.fc) .nil))
def meR(U:List X)(a b c:Int)(s:Nat):Nat×Nat:=Go.Sort.median S.lt U.toArray a.toNat b.toNat c.toNat s
def kMa:iD:=S.K2 S.Fma (λz U s=>iA (S.meR U (z.1-1) z.1 (z.1+1) s).1) (λz U s=>(S.meR U (z.1-1) z.1 (z.1+1) s).2) λz U s=>decide (1≤z.1)&&(decide (z.1+1<(U.length:Int))&&decide (s≤900))
def MMa(n:Nat)(z:Int×Unit×Unit×Unit)(U:List X)(s:Int):Tr dx:=
 let a:=i64.wrap (z.1-1)
 let c:=i64.wrap (z.1+1)
 S.Ga n U s (λU s=>Ay U a&&(Ay U z.1&&(Ay U c&&decide (s≤900)))) λU s=>let r:=S.meR U a z.1 c s
 ret {val:=iA r.1,outs:=S.Ar U r.2}
theorem aqT{Γ:FuncId→Option Spec}{f:FuncId}{fn:Func}(hΓ: ∀f s,Γ f=some s→aH prog f s)
  (hM: ∀n z U s,jw prog Γ dn 1010 false fn [some (.arr U.length S.E.n (S.E.el U) S.ty),some (.cells [.c (.v (.int .i64 s))] 3)] (.fK 0 n S.E.n::S.Fma.args z)=S.MMa n z U s)
  (hf:prog.funcs[f]? =some fn:=by kernel_rfl) (hb:fn.body=some (codeOf fn):=by kernel_rfl) (hn:dz fn=true:=by kernel_rfl):fF prog f S.kMa:=by
 refine S.ad6 hΓ hM ?_ hf hb hn;rintro⟨a,⟨⟩,⟨⟩,⟨⟩⟩ U s hl hB hs hp;simp only[bI,dS]at hp;obtain⟨h1,h2,h3⟩:=hp;have w1:i64.wrap (a-1)=a-1:=wrap_i64 (by omega);have w2:i64.wrap (a+1)=a+1:=wrap_i64 (by omega);simp only[MMa,w1,w2];refine S.rX hl hB hs ?_ (ak (gW.refl _));simp only[Ay,bI,dS];omega
end lT
end Go.bA
namespace Go.bA
open Go.Proofs
namespace lT
variable{X Z:Type} [Inhabited X](S:lT X)
def hc:Go.Sort.Hint→Int
 | .unknown=>0
 | .increasing=>1
 | .decreasing=>2
def Az{Y:Type}(z:Int×Int×Unit×Unit)(U:List Y):Bool:=decide (0≤z.1)&&(decide (z.1<z.2.1)&&decide (z.2.1≤(U.length:Int)))
theorem E8{Y:Type}{z:Int×Int×Unit×Unit}{U:List Y}(h:Az z U=true): ∃a b:Nat,z=((a:Int),(b:Int),(),())∧a<b∧b≤U.length:=by
 obtain⟨a,b,⟨⟩,⟨⟩⟩:=z;simp only[Az,bI,dS]at h;refine⟨a.toNat,b.toNat,?_,by omega,by omega⟩;rw[Int.toNat_of_nonneg (by omega),Int.toNat_of_nonneg (by omega)]
def kCp:iD:=S.K S.Fab (λz U=> .fG [iA (Go.Sort.choosePivot S.lt U.toArray z.1.toNat z.2.1.toNat).1,.c (.v (.int .i64 (hc (Go.Sort.choosePivot S.lt U.toArray z.1.toNat z.2.1.toNat).2)))]) (λ_ U=>U.toArray) Az
def ajb(U:List X)(j s:Int):Tr dx:=
 let o (h:Int):Tr dx:=ret {val:= .fG [.c (.v (.int .i64 j)),.c (.v (.int .i64 h))],outs:=[some (.arr U.length S.E.n (S.E.el U) S.ty)]}
 Tr.ite (s==0) (o 1) (Tr.ite (s==12) (o 2) (o 0))
def ajc(n:Nat)(i j k:Int)(U:List X)(s:Int):Tr dx:=
 S.Ga n U s (λU s=>Ay U i&&(Ay U j&&(Ay U k&&decide (s≤900)))) λU s=>let r:=S.meR U i j k s
 S.ajb U r.1 r.2
def V9{α:Type}(n:Nat)(i:Int)(U:List X)(s:Int)(k:List X→Nat→Nat→Tr α):Tr α:=
 S.Ga n U s (λU s=>decide (1≤i)&&(decide (i+1<(U.length:Int))&&decide (s≤900))) λU s=>let r:=S.meR U (i-1) i (i+1) s
 k U r.1 r.2
def MCp(n:Nat)(z:Int×Int×Unit×Unit)(U:List X):Tr dx:=
 let l:=i64.wrap (z.2.1-z.1)
 let q:=i64.wrap (l.tdiv 4)
 let i:=i64.wrap (z.1+i64.wrap (q*1))
 let j:=i64.wrap (z.1+i64.wrap (q*2))
 let k:=i64.wrap (z.1+i64.wrap (q*3))
 need true<| need true<| need true<| Tr.ite (decide (l≥8))
  (Tr.ite (decide (l≥50))
   (S.V9 n i U 0 λU i s=>S.V9 n j U s λU j s=>S.V9 n k U s λU k s=>S.ajc n i j k U s)
   (S.ajc n i j k U 0))
  (S.ajb U j 0)
theorem an0{S:lT X}{U:List X}{a b c:Int}{s:Nat}:((S.meR U a b c s).1=a.toNat∨(S.meR U a b c s).1=b.toNat∨(S.meR U a b c s).1=c.toNat)∧(S.meR U a b c s).2≤s+3:=by
 refine⟨Go.Sort.median_mem _ _ _ _ _ _,?_⟩;have h2: ∀d x y t,(Go.Sort.order2 S.lt d x y t).2.2≤t+1:=λd x y t=>by unfold Go.Sort.order2;split<;>simp
 unfold meR Go.Sort.median;dsimp only;have a1:=h2 U.toArray a.toNat b.toNat s;generalize Go.Sort.order2 S.lt U.toArray a.toNat b.toNat s=r at*;have a2:=h2 U.toArray r.2.1 c.toNat r.2.2;generalize Go.Sort.order2 S.lt U.toArray r.2.1 c.toNat r.2.2=p at*;have a3:=h2 U.toArray r.1 p.1 p.2.2;omega
theorem Sc{U:List X}{j s:Nat}{v:AV}(hv:v= .fG [iA j,.c (.v (.int .i64 (hc (if s=0 then .increasing else if s=12 then .decreasing else .unknown))))]):(S.ajb U (j:Int) (s:Int)).sat (gW {val:=v,outs:=[some (S.J9 U.toArray)]}):=by
 subst hv;unfold ajb;by_cases h0:s=0
 ·subst h0
  exact aj (λ_=>ak (gW.refl _)) λh=>by cases h
 ·rw[if_neg h0]
  have e0:((s:Int)==0)=false:=by simp;exact h0
  rw[e0];refine aj (λh=>by cases h) λ_=> ?_
  by_cases h1:s=12
  ·subst h1
   exact aj (λ_=>ak (gW.refl _)) λh=>by cases h
  ·rw[if_neg h1]
   have e1:((s:Int)==12)=false:=by simp;omega
   rw[e1];exact aj (λh=>by cases h) λ_=>ak (gW.refl _)
abbrev hnt(s:Nat):Go.Sort.Hint:=if s=0 then .increasing else if s=12 then .decreasing else .unknown
theorem Sd{U:List X}(hl:U.length≤1000000)(hB:S.Bd U){i j k s:Nat}(hi:i<U.length)(hj:j<U.length)(hk:k<U.length)(hs:s≤9):(S.ajc U.length i j k U s).sat (gW {val:= .fG [iA (Go.Sort.median S.lt U.toArray i j k s).1,.c (.v (.int .i64 (hc (hnt (Go.Sort.median S.lt U.toArray i j k s).2))))],outs:=[some (S.J9 U.toArray)]}):=by
 refine S.rX hl hB (by omega) ?_ (S.Sc rfl);rw[lN hi,lN hj,lN hk];exact dA
theorem Kc{U:List X}(hl:U.length≤1000000)(hB:S.Bd U){i s:Nat}{k:List X→Nat→Nat→Tr dx}{Q:dx→Prop}(h1:1≤i)(h2:i+1<U.length)(hs:s≤9)(hk:(k U (Go.Sort.medianAdjacent S.lt U.toArray i s).1 (Go.Sort.medianAdjacent S.lt U.toArray i s).2).sat Q):(S.V9 U.length i U s k).sat Q:=by
 refine S.rX hl hB (by omega) ?_ ?_
 ·simp only[bI,dS]
  omega
 ·have e:S.meR U ((i:Int)-1) (i:Int) ((i:Int)+1) s=Go.Sort.medianAdjacent S.lt U.toArray i s:=by
   unfold meR Go.Sort.medianAdjacent;rw[show((i:Int)-1).toNat=i-1 by omega,show((i:Int)+1).toNat=i+1 by omega,cB]
  dsimp only;rw[e];exact hk
theorem OX(U:List X)(i s:Nat):((Go.Sort.medianAdjacent S.lt U.toArray i s).1=i-1∨(Go.Sort.medianAdjacent S.lt U.toArray i s).1=i∨(Go.Sort.medianAdjacent S.lt U.toArray i s).1=i+1)∧(Go.Sort.medianAdjacent S.lt U.toArray i s).2≤s+3:=by
 have:=(an0 (S:=S) (U:=U) (a:=((i-1:Nat):Int)) (b:=(i:Int)) (c:=((i+1:Nat):Int)) (s:=s))
 unfold meR at this;simp only[cB]at this;exact this
theorem ad8{U:List X}(hl:U.length≤1000000)(hB:S.Bd U){i j k:Nat}(i1:1≤i)(i2:i+1<U.length)(j1:1≤j)(j2:j+1<U.length)(k1:1≤k)(k2:k+1<U.length):
  (S.V9 U.length i U 0 λV i s=>S.V9 U.length j V s λV j s=>S.V9 U.length k V s λV k s=>S.ajc U.length i j k V s).sat (gW {val:= .fG [iA (Go.Sort.median S.lt U.toArray (Go.Sort.medianAdjacent S.lt U.toArray i 0).1 (Go.Sort.medianAdjacent S.lt U.toArray j (Go.Sort.medianAdjacent S.lt U.toArray i 0).2).1 (Go.Sort.medianAdjacent S.lt U.toArray k (Go.Sort.medianAdjacent S.lt U.toArray j (Go.Sort.medianAdjacent S.lt U.toArray i 0).2).2).1 (Go.Sort.medianAdjacent S.lt U.toArray k (Go.Sort.medianAdjacent S.lt U.toArray j (Go.Sort.medianAdjacent S.lt U.toArray i 0).2).2).2).1,
   .c (.v (.int .i64 (hc (hnt (Go.Sort.median S.lt U.toArray (Go.Sort.medianAdjacent S.lt U.toArray i 0).1 (Go.Sort.medianAdjacent S.lt U.toArray j (Go.Sort.medianAdjacent S.lt U.toArray i 0).2).1 (Go.Sort.medianAdjacent S.lt U.toArray k (Go.Sort.medianAdjacent S.lt U.toArray j (Go.Sort.medianAdjacent S.lt U.toArray i 0).2).2).1 (Go.Sort.medianAdjacent S.lt U.toArray k (Go.Sort.medianAdjacent S.lt U.toArray j (Go.Sort.medianAdjacent S.lt U.toArray i 0).2).2).2).2))))],outs:=[some (S.J9 U.toArray)]}):=by
 obtain⟨p1,p2⟩:=S.OX U i 0;refine S.Kc hl hB (s:=0) i1 i2 (by omega) ?_;generalize Go.Sort.medianAdjacent S.lt U.toArray i 0=r1 at*;obtain⟨p3,p4⟩:=S.OX U j r1.2;refine S.Kc hl hB (s:=r1.2) j1 j2 (by omega) ?_;generalize Go.Sort.medianAdjacent S.lt U.toArray j r1.2=r2 at*;obtain⟨p5,p6⟩:=S.OX U k r2.2;refine S.Kc hl hB (s:=r2.2) k1 k2 (by omega) ?_;generalize Go.Sort.medianAdjacent S.lt U.toArray k r2.2=r3 at*;exact S.Sd hl hB (by omega) (by omega) (by omega) (by omega)
theorem aqU{Γ:FuncId→Option Spec}{f:FuncId}{fn:Func}(hΓ: ∀f s,Γ f=some s→aH prog f s)
  (hM: ∀n z U,jw prog Γ dn 1010 false fn [some (.arr U.length S.E.n (S.E.el U) S.ty)] (.fK 0 n S.E.n::S.Fab.args z)=S.MCp n z U)
  (hf:prog.funcs[f]? =some fn:=by kernel_rfl) (hb:fn.body=some (codeOf fn):=by kernel_rfl) (hn:dz fn=true:=by kernel_rfl):fF prog f S.kCp:=by
 refine S.Ka hΓ (aA _ _) hM ?_ hf hb hn;intro z U hl hB hp;obtain⟨a,b,rfl,hab,hbl⟩:=E8 hp;have w0:i64.wrap ((b:Int)-(a:Int))=((b-a:Nat):Int):=kU;have w1:i64.wrap (((b-a:Nat):Int).tdiv 4)=(((b-a)/4:Nat):Int):=by
  have:((b-a:Nat):Int).tdiv 4=(((b-a)/4:Nat):Int):=rfl;rw[this,wrap_i64 (by omega)]
 have w2: ∀m:Nat,m≤3→i64.wrap ((a:Int)+i64.wrap ((((b-a)/4:Nat):Int)*(m:Int)))=((a+(b-a)/4*m:Nat):Int):=by
  intro m hm;have e:(((b-a)/4:Nat):Int)*(m:Int)=(((b-a)/4*m:Nat):Int):=by simp
  have:=Nat.mul_le_mul (show(b-a)/4≤250000 by omega) hm;rw[e,wrap_i64 (x:=((((b-a)/4*m:Nat)):Int)) (by omega),wrap_i64 (by omega)];omega
 have i1:=w2 1 (by omega);have i2:=w2 2 (by omega);have i3:=w2 3 (by omega);simp only[MCp,w0,w1];rw[show((1:Nat):Int)=1 from rfl]at i1;rw[show((2:Nat):Int)=2 from rfl]at i2;rw[show((3:Nat):Int)=3 from rfl]at i3;rw[i1,i2,i3];unfold Go.Sort.choosePivot;simp only[cB];refine ah rfl (ah rfl (ah rfl ?_));by_cases h8:b-a≥8
 ·rw[dK (show((b-a:Nat):Int)≥8 by omega),if_pos h8]
  refine aj (λ_=> ?_) λh=>Bool.noConfusion h
  by_cases h50:b-a≥50
  ·rw[dK (show((b-a:Nat):Int)≥50 by omega),if_pos h50]
   refine aj (λ_=> ?_) λh=>Bool.noConfusion h
   clear i1 i2 i3 w0 w1 w2;exact S.ad8 hl hB (i:=a+(b-a)/4*1) (j:=a+(b-a)/4*2) (k:=a+(b-a)/4*3) (by omega) (by omega) (by omega) (by omega) (by omega) (by omega)
  ·rw[iB (show¬((b-a:Nat):Int)≥50 by omega),if_neg h50]
   refine aj (λh=>Bool.noConfusion h) λ_=> ?_
   exact S.Sd hl hB (s:=0) (by omega) (by omega) (by omega) (by omega)
 ·rw[iB (show¬((b-a:Nat):Int)≥8 by omega),if_neg h8]
  exact aj (λh=>Bool.noConfusion h) λ_=>S.Sc (s:=0) rfl
end lT
end Go.bA
namespace Go.bA
open Go.Proofs
namespace lT
variable{X Z:Type} [Inhabited X](S:lT X)
theorem iT{a:Int}(h:0≤a): ∃m:Nat,a=m:=⟨a.toNat,by omega⟩
theorem wN{a:Int}{m:Nat}(h:a=m)(hm:m≤100000000):i64.wrap a=(m:Int):=by rw[wrap_i64 (by omega)];exact h
abbrev RvX(X:Type):=(Nat×Int×Int×Unit)×(List X×Unit)
def lRv:bC (RvX X) ((Nat×Unit)×(List X×Unit)):=
 lD {nt:=34,live:=[0,8,9]} {nt:=34,live:=[0]} (S.form (.cons aX (.cons aX .nil))) (S.form .nil)
  (λx=>((x.1.1,()),((Go.Sort.reverseLoop x.1.2.1.toNat x.1.2.2.1.toNat x.2.1.toArray).toList,())))
  (λx=>S.base x.1.1 x.2.1&&(decide (0≤x.1.2.1)&&(decide (0≤x.1.2.2.1)&&decide (x.1.2.2.1<(x.2.1.length:Int)))))
def tRv(x:RvX X):Tr (RvX X ⊕ ((Nat×Unit)×(List X×Unit))):=
 let n:=x.1.1
 let i:=x.1.2.1
 let j:=x.1.2.2.1
 let U:=x.2.1
 Tr.ite (decide (i<j)) (Sb n U i j<| S.nx U n (S.J8 U i j) (i64.wrap (i+1),i64.wrap (j-1),())) (S.out U n (S.E.el U) ())
theorem rRv(Q:((Nat×Unit)×(List X×Unit))→Prop): ∀(k i j:Nat) (U:List X),j-i≤k→j<U.length→U.length≤1000000→S.Bd U→Q ((U.length,()),((Go.Sort.reverseLoop i j U.toArray).toList,()))→aS S.tRv Q (k+1) ((U.length,(i:Nat),(j:Nat),()),(U,()))
 | k,i,j,U,hk,hj,hl,hB,hq=>by
   unfold aS;unfold Go.Sort.reverseLoop at hq;simp only[tRv];by_cases hi:i<j
   ·rw[if_pos hi,mI]at hq
    rw[dK (show(i:Int)<(j:Int)by omega),wN (show(i:Int)+1=((i+1:Nat):Int)by omega) (by omega),wN (show(j:Int)-1=((j-1:Nat):Int)by omega) (by omega)];obtain⟨k,rfl⟩: ∃m,k=m+1:=⟨k-1,by omega⟩
    obtain⟨s1,s2⟩:=S.oO U i j (by omega) hj;have ih:=rRv Q k (i+1) (j-1) (tq U i j) (by omega) (by rw[fJ];omega) (by rw[fJ];exact hl) (hB.swap (by omega) hj);rw[fJ]at ih;exact aj (λ_=>qR (by omega) hj (S.qU s1 s2 (ih hq))) λh=>Bool.noConfusion h
   ·rw[if_neg hi]at hq
    rw[iB (show¬(i:Int)<(j:Int)by omega)];exact aj (λh=>Bool.noConfusion h) λ_=>S.jq (S.E.aG U) (S.E.aP _ _) hq
 termination_by k=>k
def kRv:iD:=S.K S.Fab (λ_ _=> .fG []) (λz U=>Go.Sort.reverseRange U.toArray z.1.toNat z.2.1.toNat) Az
def MRv(n:Nat)(z:Int×Int×Unit×Unit)(U:List X):Tr dx:=
 let U':=S.E.list U.length (S.E.el U)
 let b:=i64.wrap (z.2.1-1)
 need (S.E.oks U.length (S.E.el U))<| need (S.lRv.pre ((n,z.1,b,()),(U',())))<| ret {val:= .fG [],outs:=[some (S.J9 (Go.Sort.reverseLoop z.1.toNat b.toNat U'.toArray))]}
theorem aqV{Γ:FuncId→Option Spec}{f:FuncId}{fn:Func}(hΓ: ∀f s,Γ f=some s→aH prog f s)
  (h0: ∀x,(exec prog Γ dn 1010 (aR 0 (codeOf fn)) (eY S.lRv.nIn (S.lRv.head x))).bind (S.lRv.fin 1 0)=S.tRv x)
  (hM: ∀n z U,jw prog Γ (E5 1 0 S.lRv) 1010 false fn [some (.arr U.length S.E.n (S.E.el U) S.ty)] (.fK 0 n S.E.n::S.Fab.args z)=S.MRv n z U)
  (hf:prog.funcs[f]? =some fn:=by kernel_rfl) (hb:fn.body=some (codeOf fn):=by kernel_rfl) (hn:dz fn=true:=by kernel_rfl)
  (b0:bW (λi=>beq i 0) (codeOf fn)=[(0,.loop (aR 0 (codeOf fn)))]:=by kernel_rfl):fF prog f S.kRv:=by
 refine S.Ka hΓ (rH hΓ (aA _ _) (cZ _ _ _ _ _ _) h0 ?_ b0) hM ?_ hf hb hn
 ·rintro⟨⟨n,i,j,⟨⟩⟩,⟨U,⟨⟩⟩⟩ hx
  simp only[lRv,lD,bI,dS]at hx;obtain⟨hx,h3,h4,h5⟩:=hx;obtain⟨rfl,hl,hB⟩:=jm hx;obtain⟨i,rfl⟩:=iT h3;obtain⟨j,rfl⟩:=iT h4;exact⟨_,S.rRv _ _ i j U (Nat.le_refl _) (by omega) hl hB rfl⟩
 ·intro z U hl hB hp
  obtain⟨a,b,rfl,hab,hbl⟩:=E8 hp;simp only[MRv,S.E.aG,S.E.aP,wN (show(b:Int)-1=((b-1:Nat):Int)by omega) (by omega),cB,sat_true];refine ah ?_ (ak (gW.refl _));simp only[lRv,lD,bI,dS];exact⟨iO hl hB,by omega,by omega,by omega⟩
abbrev SdX(X:Type):=(Nat×Int×Int×Unit×Int×Unit)×(List X×Unit)
abbrev SdR(X:Type):=Bool×((Nat×Unit)×(List X×Unit))
def sdT(n:Nat)(hi first root c:Int)(U:List X):Tr (SdX X ⊕ SdR X):=
 let fr:=i64.wrap (first+root)
 let fc:=i64.wrap (first+c)
 Tr.needs (gi n U fr++gi n U fc++S.cc U fr fc)<| Tr.ite (!decide (S.cv U fr fc<0)) (need (S.E.oks U.length (S.E.el U))<| ret (Sum.inr (true,((n,()),(S.E.list U.length (S.E.el U),())))))
  (Sb n U fr fc<| S.nx U n (S.J8 U fr fc) (hi,first,(),c,()))
def tSd(x:SdX X):Tr (SdX X ⊕ SdR X):=
 let n:=x.1.1
 let hi:=x.1.2.1
 let first:=x.1.2.2.1
 let root:=x.1.2.2.2.2.1
 let U:=x.2.1
 let c:=i64.wrap (i64.wrap (2*root)+1)
 let c1:=i64.wrap (c+1)
 let f0:=i64.wrap (first+c)
 let f1:=i64.wrap (i64.wrap (first+c)+1)
 Tr.ite (decide (c≥hi)) (need (S.E.oks U.length (S.E.el U))<| ret (Sum.inr (false,((n,()),(S.E.list U.length (S.E.el U),())))))<|
  need (bif decide (c1<hi)then ands (gi n U f0++gi n U f1++S.cc U f0 f1)else true)<| Tr.ite (bif decide (c1<hi)then bif true then decide (S.cv U f0 f1<0)else false else false)
   (S.sdT n hi first root c1 U) (S.sdT n hi first root c U)
def lSd:bC (SdX X) (SdR X):=
 Tf {nt:=82,live:=[0,2,3,4,10]} {nt:=82,live:=[0]} (S.form (.cons aX (.cons aX (.cons (gG S.fc) (.cons aX .nil))))) (S.form .nil)
  (λx=>(BA S.tSd 2000000 x).getD (false,((x.1.1,()),(x.2.1,()))))
  (λx=>S.base x.1.1 x.2.1&&(decide (0≤x.1.2.1)&&(decide (0≤x.1.2.2.1)&&(decide (x.1.2.1+x.1.2.2.1≤(x.2.1.length:Int))&&(decide (0≤x.1.2.2.2.2.1)&&decide (x.1.2.2.2.2.1≤1000000))))))
theorem rY{α:Type}: ∀(l:List Bool) (t:Tr α),(Tr.needs l t).one=t.one
 | [],_=>rfl
 | _::l,t=>rY l t
theorem ajd(x:SdX X):(S.tSd x).one=true:=by
 simp only[tSd,sdT,Sb,nx,Tr.one,rY,Bool.and_self]
theorem aje{hi first root c:Nat}{U:List X}(hl:U.length≤1000000)(hB:S.Bd U)(h1:first+hi≤U.length)(h2:root<c)(h3:c<hi){Q:SdX X ⊕ SdR X→Prop}
  (q1:(!S.lt (U.getD (first+root) default) (U.getD (first+c) default))=true→Q (.inr (true,((U.length,()),(U,()))))) (q2:(!S.lt (U.getD (first+root) default) (U.getD (first+c) default))=false→Q (.inl ((U.length,(hi:Nat),(first:Nat),(),(c:Nat),()),(tq U (first+root) (first+c),())))):
  (S.sdT U.length (hi:Nat) (first:Nat) (root:Nat) (c:Nat) U).sat Q:=by
 have hr:first+root<U.length:=by omega
 have hc:first+c<U.length:=by omega
 unfold sdT;rw[wN (show(first:Int)+(root:Int)=((first+root:Nat):Int)by omega) (by omega),wN (show(first:Int)+(c:Int)=((first+c:Nat):Int)by omega) (by omega)];refine dR (jl (jl (lC hr) (lC hc)) (DF hB hr hc)) ?_;rw[DC hB hr hc];obtain⟨s1,s2⟩:=S.oO U (first+root) (first+c) hr hc;refine aj (λh=>ah (S.E.aP _ _) (ak ?_)) λh=>qR hr hc (S.qU s1 s2 (q2 h))
 rw[S.E.aG];exact q1 h
theorem rSd(hi first:Nat): ∀(k root:Nat) (U:List X),hi-root≤k→root≤1000000→first+hi≤U.length→U.length≤1000000→S.Bd U→aS S.tSd (λr=>r.2=((U.length,()),((Go.Sort.siftDown S.lt hi first root U.toArray).toList,()))) (k+1) ((U.length,(hi:Nat),(first:Nat),(),(root:Nat),()),(U,()))
 | k,root,U,hk,hr,h1,hl,hB=>by
   unfold aS Go.Sort.siftDown;simp only[tSd];have e2:(2:Int)*(root:Int)=((2*root:Nat):Int):=by simp
   have e3:((2*root:Nat):Int)+1=((2*root+1:Nat):Int):=by omega
   rw[wN e2 (by omega),wN e3 (by omega),wN (show((2*root+1:Nat):Int)+1=((2*root+2:Nat):Int)by omega) (by omega)];by_cases hc:2*root+1≥hi
   ·rw[dif_pos hc,dK (show((2*root+1:Nat):Int)≥(hi:Int)by omega)]
    refine aj (λ_=>ah (S.E.aP _ _) (ak ?_)) λh=>Bool.noConfusion h
    rw[S.E.aG]
   ·rw[dif_neg hc,iB (show¬((2*root+1:Nat):Int)≥(hi:Int)by omega)]
    refine aj (λh=>Bool.noConfusion h) λ_=> ?_
    have f0:first+(2*root+1)<U.length:=by omega
    rw[wN (show(first:Int)+((2*root+1:Nat):Int)=((first+(2*root+1):Nat):Int)by omega) (by omega),wN (show((first+(2*root+1):Nat):Int)+1=((first+(2*root+1)+1:Nat):Int)by omega) (by omega)];obtain⟨k,rfl⟩: ∃m,k=m+1:=⟨k-1,by omega⟩
    have go: ∀c,root<c→c<hi→(S.sdT U.length (hi:Nat) (first:Nat) (root:Nat) (c:Nat) U).sat (λy=>match y with
      | .inl x'=>aS S.tSd (λr=>r.2=((U.length,()),((if !S.lt (U.getD (first+root) default) (U.getD (first+c) default)then U.toArray else Go.Sort.siftDown S.lt hi first c (tq U (first+root) (first+c)).toArray).toList,()))) (k+1) x'
      | .inr r=>r.2=((U.length,()),((if !S.lt (U.getD (first+root) default) (U.getD (first+c) default)then U.toArray else Go.Sort.siftDown S.lt hi first c (tq U (first+root) (first+c)).toArray).toList,()))):=λc h2 h3=>by
     refine S.aje hl hB h1 h2 h3 (λh=> ?_) λh=> ?_
     ·rw[if_pos h]
     ·have ih:=rSd hi first k c (tq U (first+root) (first+c)) (by omega) (by omega) (by rw[fJ];exact h1) (by rw[fJ];exact hl) (hB.swap (by omega) (by omega))
      rw[fJ]at ih;rw[h];exact ih
    simp only[jM,mI];by_cases hd:2*root+2<hi
    ·have f1:first+(2*root+1)+1<U.length:=by omega
     rw[dK (show((2*root+2:Nat):Int)<(hi:Int)by omega),cond_true,cond_true,cond_true,DC hB f0 f1,dK (show 2*root+1+1<hi by omega),Bool.true_and];refine ah (nP (jl (jl (lC f0) (lC f1)) (DF hB f0 f1))) (aj (λh=> ?_) λh=> ?_)
     ·rw[h,if_pos rfl]
      simp only[dif_pos hd];exact go (2*root+2) (by omega) hd
     ·rw[h]
      exact go (2*root+1) (by omega) (by omega)
    ·rw[iB (show¬((2*root+2:Nat):Int)<(hi:Int)by omega),iB (show¬2*root+1+1<hi by omega)]
     exact ah rfl (aj (λh=>Bool.noConfusion h) λ_=>go (2*root+1) (by omega) (by omega))
 termination_by k=>k
end lT
end Go.bA
namespace Go.bA
open Go.Proofs
namespace lT
variable{X Z:Type} [Inhabited X](S:lT X)
abbrev Fsf:Form (Int×Int×Int×Unit×Unit):= .cons aX (.cons aX (.cons aX (.cons (gG S.fc) .nil)))
def xJ(z:Int×Int×Int×Unit×Unit)(U:List X):Bool:=decide (0≤z.1)&&(decide (z.1≤1000000)&&(decide (0≤z.2.1)&&(decide (0≤z.2.2.1)&&decide (z.2.1+z.2.2.1≤(U.length:Int)))))
def kSf:iD:=S.K S.Fsf (λ_ _=> .fG []) (λz U=>Go.Sort.siftDown S.lt z.2.1.toNat z.2.2.1.toNat z.1.toNat U.toArray) xJ
def MSf(n:Nat)(z:Int×Int×Int×Unit×Unit)(U:List X):Tr dx:=
 let x:SdX X:=((n,z.2.1,z.2.2.1,(),z.1,()),(S.E.list U.length (S.E.el U),()))
 let m:Tr dx:=ret {val:= .fG [],outs:=[some (.arr (S.lSd.res x).2.2.1.length S.E.n (S.E.el (S.lSd.res x).2.2.1) S.ty)]}
 need (S.E.oks U.length (S.E.el U))<| need (S.lSd.pre x)<| Tr.ite (S.lSd.res x).1 m m
theorem ad9{hi first root:Nat}{U:List X}(hr:root≤1000000)(h1:first+hi≤U.length)(hl:U.length≤1000000)(hB:S.Bd U):(S.lSd.res ((U.length,(hi:Nat),(first:Nat),(),(root:Nat),()),(U,()))).2=((U.length,()),((Go.Sort.siftDown S.lt hi first root U.toArray).toList,()))∧
  aS S.tSd (· =S.lSd.res ((U.length,(hi:Nat),(first:Nat),(),(root:Nat),()),(U,()))) 2000000 ((U.length,(hi:Nat),(first:Nat),(),(root:Nat),()),(U,())):=
 aS.res S.ajd (show hi-root+1≤2000000 by omega) (S.rSd hi first (hi-root) root U (Nat.le_refl _) hr h1 hl hB) _
theorem aqW{Γ:FuncId→Option Spec}{f:FuncId}{fn:Func}(hΓ: ∀f s,Γ f=some s→aH prog f s)
  (h0: ∀x,(exec prog Γ dn 1010 (aR 0 (codeOf fn)) (eY S.lSd.nIn (S.lSd.head x))).bind (S.lSd.fin 1 0)=S.tSd x)
  (hM: ∀n z U,jw prog Γ (E5 1 0 S.lSd) 1010 false fn [some (.arr U.length S.E.n (S.E.el U) S.ty)] (.fK 0 n S.E.n::S.Fsf.args z)=S.MSf n z U)
  (hf:prog.funcs[f]? =some fn:=by kernel_rfl) (hb:fn.body=some (codeOf fn):=by kernel_rfl) (hn:dz fn=true:=by kernel_rfl)
  (b0:bW (λi=>beq i 0) (codeOf fn)=[(0,.loop (aR 0 (codeOf fn)))]:=by kernel_rfl):fF prog f S.kSf:=by
 refine S.Ka hΓ (rH hΓ (aA _ _) (oJ _ _ _ _ _ _) h0 ?_ b0) hM ?_ hf hb hn
 ·rintro⟨⟨n,hi,first,⟨⟩,root,⟨⟩⟩,⟨U,⟨⟩⟩⟩ hx
  have hx:(S.base n U&&(decide (0≤hi)&&(decide (0≤first)&&(decide (hi+first≤(U.length:Int))&&(decide (0≤root)&&decide (root≤1000000))))))=true:=hx;simp only[bI,dS]at hx;obtain⟨hx,h3,h4,h5,h6,h7⟩:=hx;obtain⟨rfl,hl,hB⟩:=jm hx;obtain⟨hi,rfl⟩:=iT h3;obtain⟨first,rfl⟩:=iT h4;obtain⟨root,rfl⟩:=iT h6;exact⟨_,(S.ad9 (by omega) (by omega) hl hB).2⟩
 ·rintro⟨lo,hi,first,⟨⟩,⟨⟩⟩ U hl hB hp
  simp only[xJ,bI,dS]at hp;obtain⟨h1,h2,h3,h4,h5⟩:=hp;obtain⟨lo,rfl⟩:=iT h1;obtain⟨hi,rfl⟩:=iT h3;obtain⟨first,rfl⟩:=iT h4;have r:=(S.ad9 (hi:=hi) (first:=first) (root:=lo) (by omega) (by omega) hl hB).1;simp only[MSf,S.E.aG,S.E.aP,r,sat_true];refine ah ?_ (aj (λ_=>ak (gW.refl _)) λ_=>ak (gW.refl _))
  show(S.base U.length U&&(decide (0≤(hi:Int))&&(decide (0≤(first:Int))&&(decide ((hi:Int)+(first:Int)≤(U.length:Int))&&(decide (0≤(lo:Int))&&decide ((lo:Int)≤1000000))))))=true
  simp only[bI,dS];exact⟨iO hl hB,by omega,by omega,by omega,by omega,by omega⟩
theorem oP{S:lT X}{L hi first:Nat}(h1:first+hi≤L): ∀(k root:Nat) {d:Array X},hi-root≤k→S.Inv L d→S.Inv L (Go.Sort.siftDown S.lt hi first root d)
 | k,root,d,hk,h=>by
   unfold Go.Sort.siftDown
   split
   ·exact h
   ·rename_i hc
    obtain⟨k,rfl⟩: ∃m,k=m+1:=⟨k-1,by omega⟩
    split
    ·split
     ·exact h
     ·split
      ·exact oP h1 k _ (by omega) (h.swp (by omega) (by omega))
      ·exact h
    ·split
     ·exact h
     ·exact oP h1 k _ (by omega) (h.swp (by omega) (by omega))
 termination_by k=>k
abbrev HbX(X:Type):=(Nat×Unit×Int×Int×Int×Int×Unit)×(List X×Unit)
abbrev HbR(X:Type):=(Nat×Unit×Int×Int×Int×Unit)×(List X×Unit)
def Wd{α:Type}(n:Nat)(U:List X)(lo hi first:Int)(k:Array X→Tr α):Tr α:=
 let U':=S.E.list U.length (S.E.el U)
 need (S.E.oks U.length (S.E.el U))<| need (S.base n U')<| need (xJ (lo,hi,first,(),()) U')<| k (Go.Sort.siftDown S.lt hi.toNat first.toNat lo.toNat U'.toArray)
def lHb:bC (HbX X) (HbR X):=
 lD {nt:=60,live:=[0,3,8,9,10,11]} {nt:=60,live:=[0,3,8,9,10]} (S.form (.cons (gG S.fc) (.cons aX (.cons aX (.cons aX (.cons aX .nil)))))) (S.form (.cons (gG S.fc) (.cons aX (.cons aX (.cons aX .nil)))))
  (λx=>((x.1.1,(),x.1.2.2.1,x.1.2.2.2.1,x.1.2.2.2.2.1,()),((Go.Sort.heapBuild S.lt x.1.2.2.2.2.1.toNat x.1.2.2.1.toNat (x.1.2.2.2.2.2.1+1).toNat x.2.1.toArray).toList,())))
  (λx=>S.base x.1.1 x.2.1&&xJ (x.1.2.2.2.2.2.1+1,x.1.2.2.2.2.1,x.1.2.2.1,(),()) x.2.1)
def tHb(x:HbX X):Tr (HbX X ⊕ HbR X):=
 let n:=x.1.1
 let first:=x.1.2.2.1
 let lo:=x.1.2.2.2.1
 let hi:=x.1.2.2.2.2.1
 let i:=x.1.2.2.2.2.2.1
 let U:=x.2.1
 Tr.ite (decide (i≥0)) (S.Wd n U i hi first λd=>S.nx d.toList n (S.E.el d.toList) ((),first,lo,hi,i64.wrap (i-1),())) (S.out U n (S.E.el U) ((),first,lo,hi,()))
theorem Wh{α:Type}{U:List X}{lo hi first:Nat}{k:Array X→Tr α}{Q:α→Prop}(hl:U.length≤1000000)(hB:S.Bd U)(h1:lo≤1000000)(h2:first+hi≤U.length)(h:(k (Go.Sort.siftDown S.lt hi first lo U.toArray)).sat Q):(S.Wd U.length U (lo:Int) (hi:Int) (first:Int) k).sat Q:=by
 simp only[Wd,S.E.aG,S.E.aP,iO hl hB,cB,sat_true];refine ah ?_ h;simp only[xJ,bI,dS];omega
theorem rHb(first hi:Nat)(lo:Int)(Q:HbR X→Prop): ∀(k:Nat) (U:List X),first+hi≤U.length→k≤1000000→U.length≤1000000→S.Bd U→Q ((U.length,(),(first:Nat),lo,(hi:Nat),()),((Go.Sort.heapBuild S.lt hi first k U.toArray).toList,()))→aS S.tHb Q (k+1) ((U.length,(),(first:Nat),lo,(hi:Nat),(k:Int)-1,()),(U,()))
 | 0,U,h1,hk,hl,hB,hq=>by
   unfold aS;simp only[tHb];rw[iB (show¬((0:Nat):Int)-1≥0 by omega)];exact aj (λh=>Bool.noConfusion h) λ_=>S.jq (S.E.aG U) (S.E.aP _ _) hq
 | k+1,U,h1,hk,hl,hB,hq=>by
   unfold aS;simp only[tHb];rw[show((k+1:Nat):Int)-1=(k:Int)by omega,dK (show(k:Int)≥0 by omega)];refine aj (λ_=>S.Wh hl hB (by omega) h1 ?_) λh=>Bool.noConfusion h
   obtain⟨i1,i2⟩:=oP h1 _ k (Nat.le_refl _) (Inv.of hB);have hlen:(Go.Sort.siftDown S.lt hi first k U.toArray).toList.length=U.length:=by rw[Array.length_toList,i1]
   have ih:=rHb first hi lo Q k (Go.Sort.siftDown S.lt hi first k U.toArray).toList (by rw[hlen];exact h1) (by omega) (by rw[hlen];exact hl) i2;rw[hlen,Array.toArray_toList]at ih;refine S.qU (S.E.aG _) (S.E.aP _ _) ?_;have w:i64.wrap ((k:Int)-1)=(k:Int)-1:=wrap_i64 (by omega);rw[w];exact ih hq
theorem AA{S:lT X}{L hi first:Nat}(h1:first+hi≤L): ∀(k:Nat) {d:Array X},S.Inv L d→S.Inv L (Go.Sort.heapBuild S.lt hi first k d)
 | 0,d,h=>h
 | k+1,d,h=>AA h1 k (oP h1 _ k (Nat.le_refl _) h)
abbrev HpX(X:Type):=(Nat×Unit×Int×Int×Int×Unit)×(List X×Unit)
def lHp:bC (HpX X) ((Nat×Unit)×(List X×Unit)):=
 lD {nt:=60,live:=[0,3,8,9,12]} {nt:=60,live:=[0]} (S.form (.cons (gG S.fc) (.cons aX (.cons aX (.cons aX .nil))))) (S.form .nil)
  (λx=>((x.1.1,()),((Go.Sort.heapPop S.lt x.1.2.2.1.toNat (x.1.2.2.2.2.1+1).toNat x.2.1.toArray).toList,())))
  (λx=>S.base x.1.1 x.2.1&&(decide (x.1.2.2.2.1=0)&&xJ (0,x.1.2.2.2.2.1+1,x.1.2.2.1,(),()) x.2.1))
def tHp(x:HpX X):Tr (HpX X ⊕ ((Nat×Unit)×(List X×Unit))):=
 let n:=x.1.1
 let first:=x.1.2.2.1
 let lo:=x.1.2.2.2.1
 let i:=x.1.2.2.2.2.1
 let U:=x.2.1
 let k:=i64.wrap (first+i)
 let V:=S.E.list U.length (S.J8 U first k)
 Tr.ite (decide (i≥0)) (Sb n U first k<|
  let U':=S.E.list U.length (S.J8 U first k)
  need (S.E.oks U.length (S.J8 U first k))<| need (S.base n U')<| need (xJ (lo,i,first,(),()) U')<|
   let d:=Go.Sort.siftDown S.lt i.toNat first.toNat lo.toNat U'.toArray
   S.nx d.toList n (S.E.el d.toList) ((),first,lo,i64.wrap (i-1),())) (S.out U n (S.E.el U) ())
theorem rHp(first:Nat)(Q:((Nat×Unit)×(List X×Unit))→Prop): ∀(k:Nat) (U:List X),first+k≤U.length→U.length≤1000000→S.Bd U→Q ((U.length,()),((Go.Sort.heapPop S.lt first k U.toArray).toList,()))→aS S.tHp Q (k+1) ((U.length,(),(first:Nat),0,(k:Int)-1,()),(U,()))
 | 0,U,h1,hl,hB,hq=>by
   unfold aS;simp only[tHp];rw[iB (show¬((0:Nat):Int)-1≥0 by omega)];exact aj (λh=>Bool.noConfusion h) λ_=>S.jq (S.E.aG U) (S.E.aP _ _) hq
 | k+1,U,h1,hl,hB,hq=>by
   unfold aS;simp only[tHp];have f0:first<U.length:=by omega
   have f1:first+k<U.length:=by omega
   rw[show((k+1:Nat):Int)-1=(k:Int)by omega,dK (show(k:Int)≥0 by omega),wN (show(first:Int)+(k:Int)=((first+k:Nat):Int)by omega) (by omega)];obtain⟨s1,s2⟩:=S.oO U first (first+k) f0 f1;refine aj (λ_=>qR f0 f1 (ah s2 ?_)) λh=>Bool.noConfusion h
   rw[s1];have hl':(tq U first (first+k)).length=U.length:=fJ _ _ _;have hB':=hB.swap f0 f1;refine ah (by rw[←hl'];exact iO (by rw[hl'];exact hl) hB') (ah ?_ ?_)
   ·simp only[xJ,bI,dS]
    rw[hl'];omega
   ·obtain⟨i1,i2⟩:=oP (S:=S) (L:=U.length) (hi:=k) (first:=first) (by omega) _ 0 (Nat.le_refl _) (by rw[←hl'];exact Inv.of hB')
    simp only[cB,Int.toNat_zero];unfold Go.Sort.heapPop at hq;rw[mI]at hq;generalize Go.Sort.siftDown S.lt k first 0 (tq U first (first+k)).toArray=d at*;have hlen:d.toList.length=U.length:=by rw[Array.length_toList,i1]
    have ih:=rHp first Q k d.toList (by rw[hlen];omega) (by rw[hlen];exact hl) i2;rw[hlen,Array.toArray_toList]at ih;refine S.qU (S.E.aG _) (S.E.aP _ _) ?_;have w:i64.wrap ((k:Int)-1)=(k:Int)-1:=wrap_i64 (by omega);rw[w];exact ih hq
end lT
end Go.bA
namespace Go.bA
open Go.Proofs
def K4{A B C D:Type}(k i1:Nat)(l1:bC A B)(i2:Nat)(l2:bC C D):Nat→Option (St→Tr (Ex×St)):=λi=>bif beq i i1 then some (l1.g k)else bif beq i i2 then some (l2.g k)else none
theorem HV{A B C D:Type}{c:Code}{Γ:FuncId→Option Spec}{N k i1 i2:Nat}{L1 L2:Nat→Option (St→Tr (Ex×St))}{l1:bC A B}{l2:bC C D}{s1:A→Tr (A ⊕ B)}{s2:C→Tr (C ⊕ D)}(hΓ: ∀f s,Γ f=some s→aH prog f s)(hL1:bB prog k L1 (aR i1 c))(hL2:bB prog k L2 (aR i2 c))(g1:l1.gH)(g2:l2.gH)(hne:beq i2 i1=false)
  (h1: ∀x,(exec prog Γ L1 N (aR i1 c) (eY l1.nIn (l1.head x))).bind (l1.fin k i1)=s1 x) (h2: ∀x,(exec prog Γ L2 N (aR i2 c) (eY l2.nIn (l2.head x))).bind (l2.fin k i2)=s2 x)
  (r1: ∀x,l1.pre x=true→ ∃n,aS s1 (· =l1.res x) n x) (r2: ∀x,l2.pre x=true→ ∃n,aS s2 (· =l2.res x) n x)
  (hb:bW (λi=>beq i i1 || beq i i2) c=[(i1,.loop (aR i1 c)),(i2,.loop (aR i2 c))]:=by kernel_rfl):bB prog k (K4 k i1 l1 i2 l2) c:=by
 refine eP (d:=λi=>beq i i1 || beq i i2) (λi=>by unfold K4;cases beq i i1<;>cases beq i i2<;>rfl) _ ?_;rw[hb];intro p hp g hg';simp only[List.mem_cons,List.not_mem_nil,or_false]at hp;rcases hp with rfl|rfl
 ·have hh:K4 k i1 l1 i2 l2 i1=some (l1.g k):=by
   unfold K4;rw[show beq i1 i1=true by simp];rfl
  rw[hh]at hg';obtain rfl:g=l1.g k:=(Option.some.inj hg').symm;exact bC.PO (N:=N) aI hΓ (L:=L1) hL1 g1 h1 r1
 ·have hh:K4 k i1 l1 i2 l2 i2=some (l2.g k):=by
   unfold K4;rw[hne,show beq i2 i2=true by simp];rfl
  rw[hh]at hg';obtain rfl:g=l2.g k:=(Option.some.inj hg').symm;exact bC.PO (N:=N) aI hΓ (L:=L2) hL2 g2 h2 r2
namespace lT
variable{X Z:Type} [Inhabited X](S:lT X)
def Gb{Y:Type}(z:Int×Int×Unit×Unit)(U:List Y):Bool:=decide (0≤z.1)&&(decide (z.1≤z.2.1)&&decide (z.2.1≤(U.length:Int)))
theorem MO{Y:Type}{z:Int×Int×Unit×Unit}{U:List Y}(h:Gb z U=true): ∃a b:Nat,z=((a:Int),(b:Int),(),())∧a≤b∧b≤U.length:=by
 obtain⟨a,b,⟨⟩,⟨⟩⟩:=z;simp only[Gb,bI,dS]at h;refine⟨a.toNat,b.toNat,?_,by omega,by omega⟩;rw[Int.toNat_of_nonneg (by omega),Int.toNat_of_nonneg (by omega)]
def kHs:iD:=S.K S.Fab (λ_ _=> .fG []) (λz U=>Go.Sort.heapSort S.lt U.toArray z.1.toNat z.2.1.toNat) Gb
def MHs(n:Nat)(z:Int×Int×Unit×Unit)(U:List X):Tr dx:=
 let U':=S.E.list U.length (S.E.el U)
 let hi:=i64.wrap (z.2.1-z.1)
 let i:=i64.wrap ((i64.wrap (hi-1)).tdiv 2)
 let d:=Go.Sort.heapBuild S.lt hi.toNat z.1.toNat (i+1).toNat U'.toArray
 let V:=S.E.list d.toList.length (S.E.el d.toList)
 need true<| need (S.E.oks U.length (S.E.el U))<| need (S.lHb.pre ((n,(),z.1,0,hi,i,()),(U',())))<| need (S.E.oks d.toList.length (S.E.el d.toList))<| need (S.lHp.pre ((n,(),z.1,0,i64.wrap (hi-1),()),(V,())))<|
  ret {val:= .fG [],outs:=[some (S.J9 (Go.Sort.heapPop S.lt z.1.toNat (i64.wrap (hi-1)+1).toNat V.toArray))]}
theorem aqX{Γ:FuncId→Option Spec}{f:FuncId}{fn:Func}(hΓ: ∀f s,Γ f=some s→aH prog f s)
  (h0: ∀x,(exec prog Γ dn 1010 (aR 0 (codeOf fn)) (eY S.lHb.nIn (S.lHb.head x))).bind (S.lHb.fin 1 0)=S.tHb x)
  (h2: ∀x,(exec prog Γ dn 1010 (aR 2 (codeOf fn)) (eY S.lHp.nIn (S.lHp.head x))).bind (S.lHp.fin 1 2)=S.tHp x)
  (hM: ∀n z U,jw prog Γ (K4 1 0 S.lHb 2 S.lHp) 1010 false fn [some (.arr U.length S.E.n (S.E.el U) S.ty)] (.fK 0 n S.E.n::S.Fab.args z)=S.MHs n z U)
  (hf:prog.funcs[f]? =some fn:=by kernel_rfl) (hb:fn.body=some (codeOf fn):=by kernel_rfl) (hn:dz fn=true:=by kernel_rfl)
  (b0:bW (λi=>beq i 0 || beq i 2) (codeOf fn)=[(0,.loop (aR 0 (codeOf fn))),(2,.loop (aR 2 (codeOf fn)))]:=by kernel_rfl):fF prog f S.kHs:=by
 refine S.Ka hΓ (HV hΓ (aA _ _) (aA _ _) (cZ _ _ _ _ _ _) (cZ _ _ _ _ _ _) rfl h0 h2 ?_ ?_ b0) hM ?_ hf hb hn
 ·rintro⟨⟨n,⟨⟩,first,lo,hi,i,⟨⟩⟩,⟨U,⟨⟩⟩⟩ hx
  simp only[lHb,lD,xJ,bI,dS]at hx;obtain⟨hx,h3,h4,h5,h6,h7⟩:=hx;obtain⟨rfl,hl,hB⟩:=jm hx;obtain⟨hi,rfl⟩:=iT h5;obtain⟨first,rfl⟩:=iT h6;obtain⟨k,hk⟩:=iT h3;obtain rfl:i=(k:Int)-1:=by omega
  exact⟨_,S.rHb first hi lo _ k U (by omega) (by omega) hl hB (by simp only[lHb,lD,cB,show(k:Int)-1+1=(k:Int)by omega])⟩
 ·rintro⟨⟨n,⟨⟩,first,lo,i,⟨⟩⟩,⟨U,⟨⟩⟩⟩ hx
  simp only[lHp,lD,xJ,bI,dS]at hx;obtain⟨hx,rfl,h3,h4,h5,h6,h7⟩:=hx;obtain⟨rfl,hl,hB⟩:=jm hx;obtain⟨first,rfl⟩:=iT h6;obtain⟨k,hk⟩:=iT h5;obtain rfl:i=(k:Int)-1:=by omega
  exact⟨_,S.rHp first _ k U (by omega) hl hB (by simp only[lHp,lD,cB,show(k:Int)-1+1=(k:Int)by omega])⟩
 ·intro z U hl hB hp
  obtain⟨a,b,rfl,hab,hbl⟩:=MO hp;have w0:i64.wrap ((b:Int)-(a:Int))=((b-a:Nat):Int):=wN (by omega) (by omega);have w1:i64.wrap (((b-a:Nat):Int)-1)=((b-a:Nat):Int)-1:=wrap_i64 (by omega);have w2:i64.wrap ((((b-a:Nat):Int)-1).tdiv 2)=(((b-a-1)/2:Nat):Int):=by
   have:(((b-a:Nat):Int)-1).tdiv 2=(((b-a-1)/2:Nat):Int):=by
    by_cases h:b-a=0
    ·rw[h];rfl
    ·rw[show((b-a:Nat):Int)-1=((b-a-1:Nat):Int)by omega];rfl
   rw[this,wrap_i64 (by omega)]
  have e1:((((b-a-1)/2:Nat):Int)+1).toNat=(b-a-1)/2+1:=by omega
  have e2:(((b-a:Nat):Int)-1+1).toNat=b-a:=by omega
  obtain⟨i1,i2⟩:=AA (S:=S) (L:=U.length) (hi:=b-a) (first:=a) (by omega) ((b-a-1)/2+1) (Inv.of hB);simp only[MHs,w0,w1,w2,e1,e2,S.E.aG,S.E.aP,cB,sat_true];unfold Go.Sort.heapSort;generalize Go.Sort.heapBuild S.lt (b-a) a ((b-a-1)/2+1) U.toArray=d at*;have hlen:d.toList.length=U.length:=by rw[Array.length_toList,i1]
  refine ah ?_ (ah rfl (ah ?_ (ak (gW.refl _))))
  ·simp only[lHb,lD,xJ,bI,dS]
   exact⟨iO hl hB,by omega,by omega,by omega,by omega,by omega⟩
  ·simp only[lHp,lD,xJ,bI,dS]
   exact⟨by rw[←hlen];exact iO (by rw[hlen];exact hl) i2,trivial,by omega,by omega,by omega,by omega,by rw[hlen];omega⟩
end lT
end Go.bA
namespace Go.bA
open Go.Proofs
def aqY:kZ Int where
 n:=1
 iv:=λn=> [.v (.int .u64 n)]
 V:=λl=>match l with | [.c (.v (.int .u64 n))]=>n | _=>0
 ok:=λl=>match l with | [.c (.v (.int .u64 _))]=>true | _=>false
 d:=0
 ok_eq:=λl h=>by
  split at h
  ·rfl
  ·cases h
 Dq:=λ_=>rfl
 pY:=λ_=>rfl
 len:=λ_=>rfl
def an1(a b:Int):Int:=u64.wrap (BitVec.ofInt u64.bits a^^^BitVec.ofInt u64.bits b).toNat
def an2(a b:Int):Int:=u64.wrap (BitVec.ofInt u64.bits a&&&BitVec.ofInt u64.bits b).toNat
def aqZ(a n:Int):Int:=u64.wrap (a*2^(min n.toNat u64.bits))
def asN(a n:Int):Int:=a.fdiv (2^(min n.toNat u64.bits))
def nxU(s:Int):Int:=
 let a:=an1 s (aqZ s 13)
 let b:=an1 a (asN a 7)
 an1 b (aqZ b 17)
theorem ajf(a:Int){m:Nat}(h:m<18446744073709551616): ∃o:Nat,an2 a (m:Int)=o∧o≤m:=by
 unfold an2;have e:(BitVec.ofInt u64.bits a&&&BitVec.ofInt u64.bits (m:Int)).toNat=(BitVec.ofInt u64.bits a).toNat&&&m:=by
  rw[BitVec.toNat_and]
  congr 1
  show(BitVec.ofInt 64 (m:Int)).toNat=m
  simp[BitVec.toNat_ofInt];omega
 rw[e];have:(BitVec.ofInt u64.bits a).toNat&&&m≤m:=Nat.and_le_right;refine⟨_,?_,this⟩;rw[mQ _ (by omega)]
def kNx:iD:=(dU.with (.cons (aaq aqY 364) .nil) (.cons (mP 0 0) .nil)).K (λx=>{val:= .c (.v (.int .u64 (nxU x.2.1))),outs:=[some (.cells [.c (.v (.int .u64 (nxU x.2.1)))] 364)]}) λ_=> []
theorem aq0:fF prog 252 kNx:=
 dU.Jv _ (N:=1010) (L:=dn) (xS:=false) aI nD (fn:=Tryz.f252) (c:=codeOf Tryz.f252) (by kernel_rfl) (by kernel_rfl) (by kernel_rfl) (λe l x cs h=>aA _ _) (M:=λx=>need true<| need true<| need true<| ret {val:= .c (.v (.int .u64 (nxU x.2.1))),outs:=[some (.cells [.c (.v (.int .u64 (nxU x.2.1)))] 364)]}) (λx=>by obtain⟨⟨⟨⟩,⟨⟩⟩,⟨s,⟨⟩⟩⟩:=x;kernel_rfl)
  λx _=>ah rfl (ah rfl (ah rfl (ak (gW.refl _))))
def aq1:List AV→Option (AV×List Bool):=(F1 aX).K (λx=> .c (.v (.int .u64 ((2^bitLen x.1.toNat:Nat):Int)))) λx=> [decide (0≤x.1),decide (x.1≤1000000)]
theorem an3:aF prog 251 aq1:=
 (F1 aX).pk (iE (pz NN)) (fn:=Tryz.f251)
  (M:=λx=>need (iK (u64.wrap x.1))<| need true<| ret (.c (.v (.int .u64 (u64.wrap (1*2^(min ((bitLen (u64.wrap x.1).toNat:Nat):Int).toNat u64.bits))))))) (λx=>by kernel_rfl)
  λx h=>by
   obtain⟨n,⟨⟩⟩:=x;have h1:0≤n:=dec (h (decide (0≤n)) (by simp));have h2:n≤1000000:=dec (h (decide (n≤1000000)) (by simp));obtain⟨n,rfl⟩:=lT.iT h1;have hb:bitLen n≤20:=bitLen_le.2 (by omega);have hp:2^bitLen n≤2^20:=Nat.pow_le_pow_right (by decide) hb;dsimp only;rw[mQ n (by omega),cB,cB];have e:min (bitLen n) u64.bits=bitLen n:=Nat.min_eq_left (by show bitLen n≤64;omega);have e2:(1:Int)*2^bitLen n=((2^bitLen n:Nat):Int):=by simp
   rw[e,e2,mQ _ (by omega)];refine ah ?_ (ah rfl (ak rfl));simp only[iK,bI,dS];omega
namespace lT
variable{X Z:Type} [Inhabited X](S:lT X)
abbrev BpX(X:Type):=(Nat×Int×Int×Unit×Int×Int×Unit)×(List X×(Int×Unit))
def bpI(a l:Int):Int:=i64.wrap (a+i64.wrap (i64.wrap (l.tdiv 4)*2))
def ajg(n:Nat)(a l m i s:Int)(U:List X)(k:Int):Tr (BpX X ⊕ ((Nat×Unit)×(List X×Unit))):=Sb n U i k<| need (S.E.oks U.length (S.J8 U i k))<| need true<| ret (Sum.inl ((n,a,l,(),m,i64.wrap (i+1),()),(S.E.list U.length (S.J8 U i k),(s,()))))
def tBp(x:BpX X):Tr (BpX X ⊕ ((Nat×Unit)×(List X×Unit))):=
 let n:=x.1.1
 let a:=x.1.2.1
 let l:=x.1.2.2.1
 let m:=x.1.2.2.2.2.1
 let i:=x.1.2.2.2.2.2.1
 let U:=x.2.1
 let s:=nxU x.2.2.1
 let o:=i64.wrap (an2 s (u64.wrap (m-1)))
 need true<| Tr.ite (decide (i≤i64.wrap (bpI a l+1))) (need true<| Tr.ite (decide (o≥l)) (S.ajg n a l m i s U (i64.wrap (a+i64.wrap (o-l)))) (S.ajg n a l m i s U (i64.wrap (a+o)))) (S.out U n (S.E.el U) ())
def lBp:bC (BpX X) ((Nat×Unit)×(List X×Unit)):=
 lD {nt:=67,live:=[0,1,8,9,10,11]} {nt:=67,live:=[0]} (.with (.cons (S.E.ent S.ty) (.cons (aaq aqY 364) .nil)) (.cons (dZ 0 S.E.n) (.cons aX (.cons aX (.cons (mP 1 0) (.cons (wT .u64) (.cons aX .nil))))))) (S.form .nil)
  (λx=>(BA S.tBp 10 x).getD ((x.1.1,()),(x.2.1,())))
  (λx=>S.base x.1.1 x.2.1&&(decide (0≤x.1.2.1)&&(decide (8≤x.1.2.2.1)&&(decide (x.1.2.1+x.1.2.2.1≤(x.2.1.length:Int))&&(decide (x.1.2.2.2.2.1=((2^bitLen x.1.2.2.1.toNat:Nat):Int))&&decide (x.1.2.2.2.2.2.1=bpI x.1.2.1 x.1.2.2.1-1))))))
theorem Yg(x:BpX X):(S.tBp x).one=true:=by
 simp only[tBp,ajg,Sb,out,Tr.one,rY,Bool.and_self]
theorem Ke{a l:Nat}(h:a+l≤1000000):bpI (a:Int) (l:Int)=((a+l/4*2:Nat):Int):=by
 have:(l:Int).tdiv 4=((l/4:Nat):Int):=rfl;unfold bpI;rw[this,wN (m:=l/4) rfl (by omega),wN (show((l/4:Nat):Int)*2=((l/4*2:Nat):Int)by omega) (by omega),wN (m:=a+l/4*2) (by omega) (by omega)]
theorem rBp(a l:Nat)(h8:8≤l): ∀(k:Nat) (U:List X) (s:Int),k≤3→a+l≤U.length→U.length≤1000000→S.Bd U→aS S.tBp (λr=> ∃d:Array X,r=((U.length,()),(d.toList,()))∧Go.Sort.PermIn a (a+l) U.toArray d) (k+1) ((U.length,(a:Nat),(l:Nat),(),((2^bitLen l:Nat):Int),((a+l/4*2+2-k:Nat):Int),()),(U,(s,())))
 | 0,U,s,hk,h1,hl,hB=>by
   unfold aS;simp only[tBp];rw[Ke (by omega),wN (show((a+l/4*2:Nat):Int)+1=((a+l/4*2+1:Nat):Int)by omega) (by omega),iB (show¬((a+l/4*2+2-0:Nat):Int)≤((a+l/4*2+1:Nat):Int)by omega)];exact ah rfl (aj (λh=>Bool.noConfusion h) λ_=>S.jq (S.E.aG U) (S.E.aP _ _) ⟨U.toArray,rfl,Go.Sort.permIn_refl _ _ _⟩)
 | k+1,U,s,hk,h1,hl,hB=>by
   unfold aS;simp only[tBp];rw[Ke (by omega),wN (show((a+l/4*2:Nat):Int)+1=((a+l/4*2+1:Nat):Int)by omega) (by omega),dK (show((a+l/4*2+2-(k+1):Nat):Int)≤((a+l/4*2+1:Nat):Int)by omega)];have hb:bitLen l≤20:=bitLen_le.2 (by omega);have hp:2^bitLen l≤2^20:=Nat.pow_le_pow_right (by decide) hb;have hp2:2^bitLen l≤2*l:=Go.Sort.two_pow_bitsLen_le (by omega);have hp0:0<2^bitLen l:=Nat.pow_pos (by decide);have em:u64.wrap (((2^bitLen l:Nat):Int)-1)=((2^bitLen l-1:Nat):Int):=by
    rw[show((2^bitLen l:Nat):Int)-1=((2^bitLen l-1:Nat):Int)by omega,mQ _ (by omega)]
   rw[em];obtain⟨o,ho,hol⟩:=ajf (nxU s) (show 2^bitLen l-1<18446744073709551616 by omega);rw[ho,wN (m:=o) rfl (by omega)]
   have go: ∀i j:Nat,i=a+l/4*2+2-(k+1)→a≤j→j<a+l→(S.ajg U.length (a:Int) (l:Int) ((2^bitLen l:Nat):Int) (i:Int) (nxU s) U (j:Int)).sat (λy=>match y with
     | .inl x'=>aS S.tBp (λr=> ∃d:Array X,r=((U.length,()),(d.toList,()))∧Go.Sort.PermIn a (a+l) U.toArray d) (k+1) x'
     | .inr r=> ∃d:Array X,r=((U.length,()),(d.toList,()))∧Go.Sort.PermIn a (a+l) U.toArray d):=λi j hi hj hj2=>by
    obtain⟨s1,s2⟩:=S.oO U i j (by omega) (by omega);refine qR (by omega) (by omega) (ah s2 (ah rfl (ak ?_)));rw[s1,wN (show(i:Int)+1=((a+l/4*2+2-k:Nat):Int)by omega) (by omega)];have ih:=rBp a l h8 k (tq U i j) (nxU s) (by omega) (by rw[fJ];exact h1) (by rw[fJ];exact hl) (hB.swap (by omega) (by omega));rw[fJ]at ih;refine aS.mono ?_ ih;rintro r ⟨d,e,hd⟩;refine⟨d,e,Go.Sort.permIn_trans _ _ _ _ _ ?_ hd⟩;rw[←mI];exact Go.Sort.swp_permIn _ _ _ _ _ (by omega) (by omega) hj hj2 (by simpa using h1)
   refine ah rfl (aj (λ_=>ah rfl ?_) λh=>Bool.noConfusion h);by_cases hge:o≥l
   ·rw[dK (show(o:Int)≥(l:Int)by omega),wN (show(o:Int)-(l:Int)=((o-l:Nat):Int)by omega) (by omega),wN (show(a:Int)+((o-l:Nat):Int)=((a+(o-l):Nat):Int)by omega) (by omega)]
    exact aj (λ_=>go _ _ rfl (by omega) (by omega)) λh=>Bool.noConfusion h
   ·rw[iB (show¬(o:Int)≥(l:Int)by omega),wN (show(a:Int)+(o:Int)=((a+o:Nat):Int)by omega) (by omega)]
    exact aj (λh=>Bool.noConfusion h) λ_=>go _ _ rfl (by omega) (by omega)
def bpX(a b:Int)(U:List X):BpX X:=((U.length,a,b-a,(),((2^bitLen (b-a).toNat:Nat):Int),bpI a (b-a)-1,()),(U,(u64.wrap (b-a),())))
def bpR(a b:Int)(U:List X):Array X:=if b-a≥8 then(S.lBp.res (bpX a b U)).2.1.toArray else U.toArray
def kBp:iD:=S.K S.Fab (λ_ _=> .fG []) (λz U=>S.bpR z.1 z.2.1 U) Gb
theorem aea{a b:Nat}{U:List X}(h8:8≤b-a)(h1:b≤U.length)(hl:U.length≤1000000)(hB:S.Bd U):(∃d:Array X,S.lBp.res (bpX a b U)=((U.length,()),(d.toList,()))∧Go.Sort.PermIn a b U.toArray d)∧aS S.tBp (· =S.lBp.res (bpX a b U)) 10 (bpX a b U):=by
 have e1:(b:Int)-(a:Int)=((b-a:Nat):Int):=by omega
 have e:bpX a b U=((U.length,(a:Int),((b-a:Nat):Int),(),((2^bitLen (b-a):Nat):Int),((a+(b-a)/4*2+2-3:Nat):Int),()),(U,(u64.wrap ((b-a:Nat):Int),()))):=by
  unfold bpX;rw[e1,cB,Ke (by omega),show((a+(b-a)/4*2:Nat):Int)-1=((a+(b-a)/4*2+2-3:Nat):Int)by omega]
 rw[e];have:=S.rBp a (b-a) h8 3 U (u64.wrap ((b-a:Nat):Int)) (Nat.le_refl _) (by omega) hl hB;rw[show a+(b-a)=b by omega]at this;exact aS.res S.Yg (show 3+1≤10 by omega) this _
theorem aeb{a b:Nat}{U:List X}(hab:a≤b)(h1:b≤U.length)(hl:U.length≤1000000)(hB:S.Bd U):Go.Sort.PermIn a b U.toArray (S.bpR a b U):=by
 unfold bpR
 split
 ·obtain⟨⟨d,e,h⟩,_⟩:=S.aea (a:=a) (b:=b) (by omega) h1 hl hB
  rw[e];exact h
 ·exact Go.Sort.permIn_refl _ _ _
def MBp(n:Nat)(z:Int×Int×Unit×Unit)(U:List X):Tr dx:=
 let a:=z.1
 let l:=i64.wrap (z.2.1-a)
 let x:BpX X:=((n,a,l,(),((2^bitLen l.toNat:Nat):Int),i64.wrap (bpI a l-1),()),(S.E.list U.length (S.E.el U),(u64.wrap l,())))
 Tr.ite (decide (l≥8)) (need (decide (0≤l))<| need (decide (l≤1000000))<| need true<| need (S.E.oks U.length (S.E.el U))<| need true<| need (S.lBp.pre x)<|
   ret {val:= .fG [],outs:=[some (.arr (S.lBp.res x).2.1.length S.E.n (S.E.el (S.lBp.res x).2.1) S.ty)]})
  (ret {val:= .fG [],outs:=[some (.arr U.length S.E.n (S.E.el U) S.ty)]})
theorem aq2{Γ:FuncId→Option Spec}{f:FuncId}{fn:Func}(hΓ: ∀f s,Γ f=some s→aH prog f s)
  (h0: ∀x,(exec prog Γ dn 1010 (aR 0 (codeOf fn)) (eY S.lBp.nIn (S.lBp.head x))).bind (S.lBp.fin 1 0)=S.tBp x)
  (hM: ∀n z U,jw prog Γ (E5 1 0 S.lBp) 1010 false fn [some (.arr U.length S.E.n (S.E.el U) S.ty)] (.fK 0 n S.E.n::S.Fab.args z)=S.MBp n z U)
  (hf:prog.funcs[f]? =some fn:=by kernel_rfl) (hb:fn.body=some (codeOf fn):=by kernel_rfl) (hn:dz fn=true:=by kernel_rfl)
  (b0:bW (λi=>beq i 0) (codeOf fn)=[(0,.loop (aR 0 (codeOf fn)))]:=by kernel_rfl):fF prog f S.kBp:=by
 refine S.Ka hΓ (rH hΓ (aA _ _) (cZ _ _ _ _ _ _) h0 ?_ b0) hM ?_ hf hb hn
 ·rintro⟨⟨n,a,l,⟨⟩,m,i,⟨⟩⟩,⟨U,⟨s,⟨⟩⟩⟩⟩ hx
  simp only[lBp,lD,bI,dS]at hx;obtain⟨hx,h3,h4,h5,rfl,rfl⟩:=hx;obtain⟨rfl,hl,hB⟩:=jm hx;obtain⟨a,rfl⟩:=iT h3;obtain⟨l,rfl⟩:=iT (show 0≤l by omega);rw[cB,Ke (by omega),show((a+l/4*2:Nat):Int)-1=((a+l/4*2+2-3:Nat):Int)by omega];exact⟨_,(aS.res S.Yg (show 3+1≤10 by omega) (S.rBp a l (by omega) 3 U s (Nat.le_refl _) (by omega) hl hB) _).2⟩
 ·intro z U hl hB hp
  obtain⟨a,b,rfl,hab,hbl⟩:=MO hp;have w0:i64.wrap ((b:Int)-(a:Int))=(b:Int)-(a:Int):=wrap_i64 (by omega);simp only[MBp,w0,S.E.aG,S.E.aP,sat_true];by_cases h8:b-a≥8
  ·have w1:i64.wrap (bpI (a:Int) ((b:Int)-(a:Int))-1)=bpI (a:Int) ((b:Int)-(a:Int))-1:=by
    rw[show(b:Int)-(a:Int)=((b-a:Nat):Int)by omega,Ke (by omega),wrap_i64 (by omega)]
   rw[w1];obtain⟨⟨d,e,h⟩,_⟩:=S.aea (a:=a) (b:=b) h8 hbl hl hB;have er:S.bpR a b U=d:=by
    unfold bpR;rw[if_pos (by omega),e]
   rw[er];have e':S.lBp.res ((U.length,(a:Int),(b:Int)-(a:Int),(),((2^bitLen ((b:Int)-(a:Int)).toNat:Nat):Int),bpI (a:Int) ((b:Int)-(a:Int))-1,()),(U,(u64.wrap ((b:Int)-(a:Int)),())))=((U.length,()),(d.toList,())):=e;rw[e',dK (show(b:Int)-(a:Int)≥8 by omega)];refine aj (λ_=>ah (dA) (ah (dA) ?_)) λh=>Bool.noConfusion h
   simp only[sat_true];refine ah ?_ (ak (gW.refl _));simp only[lBp,lD,bI,dS];exact⟨iO hl hB,by omega,by omega,by omega,trivial,trivial⟩
  ·have er:S.bpR a b U=U.toArray:=by
    unfold bpR;rw[if_neg (by omega)]
   rw[er,iB (show¬(b:Int)-(a:Int)≥8 by omega)];exact aj (λh=>Bool.noConfusion h) λ_=>ak (gW.refl _)
end lT
end Go.bA
namespace Go.bA
open Go.Proofs
namespace lT
variable{X Z:Type} [Inhabited X](S:lT X)
def tU(e:Bool)(d:Array X)(a:Nat)(x:X):Bool:=bif e then !S.lt d[a]! x else S.lt x d[a]!
def tD(e:Bool)(d:Array X)(a:Nat)(x:X):Bool:=bif e then S.lt d[a]! x else !S.lt x d[a]!
abbrev Gr(X:Type):=(Nat×Int×Unit×Int×Int×Unit)×(List X×Unit)
abbrev Fsc:Form (Int×Unit×Int×Int×Unit):= .cons aX (.cons (gG S.fc) (.cons aX (.cons aX .nil)))
def uX(e:Bool)(U:List X)(a i j:Nat):Nat:=Go.Sort.scanUp (S.tU e U.toArray a) U.toArray j i
def Gs(e:Bool)(U:List X)(a i j:Nat):Nat:=Go.Sort.scanDown (S.tD e U.toArray a) U.toArray i j
def Kg(e u:Bool)(nt ti tj:Nat):bC (Gr X) (Gr X):=
 lD {nt:=nt,live:=[0,1,4,ti,tj]} {nt:=nt,live:=[0,1,4,ti,tj]} (S.form S.Fsc) (S.form S.Fsc)
  (λx=>((x.1.1,x.1.2.1,(),(bif u then((S.uX e x.2.1 x.1.2.1.toNat x.1.2.2.2.1.toNat x.1.2.2.2.2.1.toNat:Nat):Int)else x.1.2.2.2.1),(bif u then x.1.2.2.2.2.1 else((S.Gs e x.2.1 x.1.2.1.toNat x.1.2.2.2.1.toNat x.1.2.2.2.2.1.toNat:Nat):Int)),()),(x.2.1,())))
  (λx=>S.base x.1.1 x.2.1&&(Ay x.2.1 x.1.2.1&&(decide (1≤x.1.2.2.2.1)&&(decide (x.1.2.2.2.1≤2000000)&&Ay x.2.1 x.1.2.2.2.2.1))))
def scT(e u:Bool)(n:Nat)(a i j:Int)(U:List X):Tr (Gr X ⊕ Gr X):=
 let k:=bif u then i else j
 let p:=bif e then a else k
 let q:=bif e then k else a
 need (bif decide (i≤j)then ands (gi n U p++gi n U q++S.cc U p q)else true)<|
  Tr.ite (bif decide (i≤j)then bif true then(bif (bif u then e else !e)then !decide (S.cv U p q<0)else decide (S.cv U p q<0))else false else false)
   (S.nx U n (S.E.el U) (a,(),(bif u then i64.wrap (i+1)else i),(bif u then j else i64.wrap (j-1)),())) (S.out U n (S.E.el U) (a,(),i,j,()))
def tSc(e u:Bool)(x:Gr X):Tr (Gr X ⊕ Gr X):=S.scT e u x.1.1 x.1.2.1 x.1.2.2.2.1 x.1.2.2.2.2.1 x.2.1
theorem Yh{e u:Bool}{U:List X}(hB:S.Bd U){a k:Nat}(ha:a<U.length)(hk:k<U.length):
  (bif (bif u then e else !e)then !decide (S.cv U (bif e then(a:Int)else(k:Int)) (bif e then(k:Int)else(a:Int))<0)else decide (S.cv U (bif e then(a:Int)else(k:Int)) (bif e then(k:Int)else(a:Int))<0))=bif u then S.tU e U.toArray a (U.getD k default)else S.tD e U.toArray a (U.getD k default):=by
 unfold tU tD;rw[jM];cases e<;>cases u<;>simp only[cond_true,cond_false,Bool.not_true,Bool.not_false]<;>first|rw[DC hB hk ha] | rw[DC hB ha hk]
theorem Yi{e:Bool}{U:List X}(hB:S.Bd U){a k:Nat}(ha:a<U.length)(hk:k<U.length):
  ands (gi U.length U (bif e then(a:Int)else(k:Int))++gi U.length U (bif e then(k:Int)else(a:Int))++S.cc U (bif e then(a:Int)else(k:Int)) (bif e then(k:Int)else(a:Int)))=true:=by
 cases e
 ·exact nP (jl (jl (lC hk) (lC ha)) (DF hB hk ha))
 ·exact nP (jl (jl (lC ha) (lC hk)) (DF hB ha hk))
theorem rSu(e:Bool)(a j:Nat)(U:List X)(ha:a<U.length)(hj:j<U.length)(hl:U.length≤1000000)(hB:S.Bd U)(Q:Gr X→Prop): ∀(m i:Nat),j+1-i≤m→i≤2000000→Q ((U.length,(a:Nat),(),((S.uX e U a i j:Nat):Int),(j:Nat),()),(U,()))→aS (S.tSc e true) Q (m+1) ((U.length,(a:Nat),(),(i:Nat),(j:Nat),()),(U,()))
 | m,i,hm,hi2,hq=>by
   unfold aS;unfold uX Go.Sort.scanUp at hq;rw[jM]at hq
   show(S.scT e true U.length (a:Int) (i:Int) (j:Int) U).sat _
   unfold scT;dsimp only[cond_true];by_cases hi:i≤j
   ·have hk:i<U.length:=by omega
    have ht:=S.Yh (e:=e) (u:=true) hB ha hk;rw[cond_true,cond_true]at ht;rw[dK (show(i:Int)≤(j:Int)by omega)];simp only[cond_true];rw[ht];rw[dK hi,Bool.true_and]at hq;refine ah (S.Yi hB ha hk) (aj (λh=> ?_) λh=> ?_)
    ·rw[h,if_pos rfl]at hq
     obtain⟨m,rfl⟩: ∃k,m=k+1:=⟨m-1,by omega⟩
     rw[wN (show(i:Int)+1=((i+1:Nat):Int)by omega) (by omega)];exact S.qU (S.E.aG U) (S.E.aP _ _) (rSu e a j U ha hj hl hB Q m (i+1) (by omega) (by omega) hq)
    ·rw[h]at hq
     exact S.jq (S.E.aG U) (S.E.aP _ _) hq
   ·rw[iB (show¬(i:Int)≤(j:Int)by omega)]
    rw[iB hi]at hq;exact ah rfl (aj (λh=>Bool.noConfusion h) λ_=>S.jq (S.E.aG U) (S.E.aP _ _) hq)
 termination_by m=>m
theorem aq3(e:Bool)(a i:Nat)(h1:1≤i)(U:List X)(ha:a<U.length)(hl:U.length≤1000000)(hB:S.Bd U)(Q:Gr X→Prop): ∀(j:Nat),j<U.length→Q ((U.length,(a:Nat),(),(i:Nat),((S.Gs e U a i j:Nat):Int),()),(U,()))→aS (S.tSc e false) Q (j+1) ((U.length,(a:Nat),(),(i:Nat),(j:Nat),()),(U,()))
 | 0,hj,hq=>by
   unfold aS
   show(S.scT e false U.length (a:Int) (i:Int) ((0:Nat):Int) U).sat _
   unfold scT;dsimp only[cond_false];rw[iB (show¬(i:Int)≤((0:Nat):Int)by omega)];exact ah rfl (aj (λh=>Bool.noConfusion h) λ_=>S.jq (S.E.aG U) (S.E.aP _ _) hq)
 | j+1,hj,hq=>by
   unfold aS;unfold Gs Go.Sort.scanDown at hq;rw[jM]at hq
   show(S.scT e false U.length (a:Int) (i:Int) ((j+1:Nat):Int) U).sat _
   unfold scT;dsimp only[cond_false];by_cases hi:i≤j+1
   ·have ht:=S.Yh (e:=e) (u:=false) hB ha hj
    rw[cond_false,cond_false]at ht;rw[dK (show(i:Int)≤((j+1:Nat):Int)by omega)];simp only[cond_true];rw[ht];rw[dK hi,Bool.true_and]at hq;refine ah (S.Yi hB ha hj) (aj (λh=> ?_) λh=> ?_)
    ·rw[h,if_pos rfl]at hq
     rw[wN (show((j+1:Nat):Int)-1=(j:Int)by omega) (by omega)];exact S.qU (S.E.aG U) (S.E.aP _ _) (aq3 e a i h1 U ha hl hB Q j (by omega) hq)
    ·rw[h]at hq
     exact S.jq (S.E.aG U) (S.E.aP _ _) hq
   ·rw[iB (show¬(i:Int)≤((j+1:Nat):Int)by omega)]
    rw[iB hi]at hq;exact ah rfl (aj (λh=>Bool.noConfusion h) λ_=>S.jq (S.E.aG U) (S.E.aP _ _) hq)
theorem zQ{e u:Bool}{nt ti tj:Nat}(x:Gr X)(hx:(S.Kg e u nt ti tj).pre x=true): ∃n,aS (S.tSc e u) (· =(S.Kg e u nt ti tj).res x) n x:=by
 obtain⟨⟨n,a,⟨⟩,i,j,⟨⟩⟩,⟨U,⟨⟩⟩⟩:=x;simp only[Kg,lD,bI,dS]at hx;obtain⟨hx,h2,h3,h4,h5⟩:=hx;obtain⟨rfl,hl,hB⟩:=jm hx;obtain⟨a,rfl,ha⟩:=rJ h2;obtain⟨j,rfl,hj⟩:=rJ h5;obtain⟨i,rfl⟩:=iT (show 0≤i by omega);cases u
 ·exact⟨_,S.aq3 e a i (by omega) U ha hl hB _ j hj rfl⟩
 ·exact⟨_,S.rSu e a j U ha hj hl hB _ _ i (Nat.le_refl _) (by omega) rfl⟩
def pL(e:Bool)(a i j:Nat)(d:Array X):Nat×Array X:=bif e then Go.Sort.partEqLoop S.lt a i j d else Go.Sort.partLoop S.lt a i j d
abbrev MlR(X:Type):=(Nat×Int×Int×Int×Unit)×(List X×Unit)
def mlT(e:Bool)(lu ld:bC (Gr X) (Gr X))(n:Nat)(a i j:Int)(U:List X):Tr (Gr X ⊕ MlR X):=
 let U1:=S.E.list U.length (S.E.el U)
 let i2:Int:=(S.uX e U1 a.toNat i.toNat j.toNat:Nat)
 let U2:=S.E.list U1.length (S.E.el U1)
 let j2:Int:=(S.Gs e U2 a.toNat i2.toNat j.toNat:Nat)
 need (S.E.oks U.length (S.E.el U))<| need (lu.pre ((n,a,(),i,j,()),(U1,())))<| need (S.E.oks U1.length (S.E.el U1))<| need (ld.pre ((n,a,(),i2,j,()),(U2,())))<|
  Tr.ite (decide (i2>j2)) (S.out U2 n (S.E.el U2) (a,i2,j2,())) (Sb n U2 i2 j2<| S.nx U2 n (S.J8 U2 i2 j2) (a,(),i64.wrap (i2+1),i64.wrap (j2-1),()))
def tMl(e:Bool)(nt ti tj:Nat)(x:Gr X):Tr (Gr X ⊕ MlR X):=S.mlT e (S.Kg e true nt ti tj) (S.Kg e false nt ti tj) x.1.1 x.1.2.1 x.1.2.2.2.1 x.1.2.2.2.2.1 x.2.1
def Yj(e:Bool)(nt ti tj:Nat):bC (Gr X) (MlR X):=
 lD {nt:=nt,live:=[0,1,4,ti,tj]} {nt:=nt,live:=[0,1,ti,tj]} (S.form S.Fsc) (S.form (.cons aX (.cons aX (.cons aX .nil))))
  (λx=>(BA (S.tMl e nt ti tj) 2000000 x).getD ((x.1.1,x.1.2.1,0,0,()),(x.2.1,())))
  (λx=>S.base x.1.1 x.2.1&&(Ay x.2.1 x.1.2.1&&(decide (1≤x.1.2.2.2.1)&&(decide (x.1.2.2.2.1≤x.1.2.2.2.2.1+1)&&Ay x.2.1 x.1.2.2.2.2.1))))
theorem ajh{e:Bool}{nt ti tj:Nat}(x:Gr X):(S.tMl e nt ti tj x).one=true:=by
 simp only[tMl,mlT,Sb,out,nx,Tr.one,rY,Bool.and_self]
theorem OY(e:Bool)(U:List X){a i j:Nat}(h1:1≤i)(hij:i≤j+1):i≤S.uX e U a i j∧S.uX e U a i j≤j+1∧S.Gs e U a (S.uX e U a i j) j≤j∧S.uX e U a i j≤S.Gs e U a (S.uX e U a i j) j+1∧(¬S.uX e U a i j>S.Gs e U a (S.uX e U a i j) j→S.uX e U a i j<S.Gs e U a (S.uX e U a i j) j):=by
 obtain⟨p1,p2,p3,p4,_,_,p7⟩:=Go.Sort.round_facts (S.tU e U.toArray a) (S.tD e U.toArray a) (λx=>by unfold tU tD;cases e<;>simp) U.toArray (i-1) (j+1) i j (by omega) hij (λt _ _=>by omega) (λt _ _=>by omega);exact⟨p1,p2,p3,p4,λh=>(p7 h).2.2⟩
theorem ak6(e:Bool)(a i j:Nat)(U:List X):S.pL e a i j U.toArray=if S.uX e U a i j>S.Gs e U a (S.uX e U a i j) j then(bif e then S.uX e U a i j else S.Gs e U a (S.uX e U a i j) j,U.toArray)else S.pL e a (S.uX e U a i j+1) (S.Gs e U a (S.uX e U a i j) j-1) (tq U (S.uX e U a i j) (S.Gs e U a (S.uX e U a i j) j)).toArray:=by
 unfold pL;rw[←mI];cases e
 ·simp only[cond_false]
  rw[Go.Sort.partLoop_eq];rfl
 ·simp only[cond_true]
  rw[Go.Sort.partEqLoop_eq];rfl
theorem rMl(e:Bool)(nt ti tj a:Nat): ∀(m i j:Nat) (U:List X),j+1-i≤m→1≤i→i≤j+1→a<U.length→j<U.length→U.length≤1000000→S.Bd U→
  aS (S.tMl e nt ti tj) (λr=> ∃i2 j2:Nat,(bif e then i2 else j2)=(S.pL e a i j U.toArray).1∧r=((U.length,(a:Int),(i2:Int),(j2:Int),()),((S.pL e a i j U.toArray).2.toList,()))) (m+1) ((U.length,(a:Nat),(),(i:Nat),(j:Nat),()),(U,()))
 | m,i,j,U,hm,h1,hij,ha,hj,hl,hB=>by
   unfold aS
   show(S.mlT e (S.Kg e true nt ti tj) (S.Kg e false nt ti tj) U.length (a:Int) (i:Int) (j:Int) U).sat _
   rw[ak6];obtain⟨p1,p2,p3,p4,p5⟩:=S.OY e U (a:=a) h1 hij;have q1:(S.Kg e true nt ti tj).pre ((U.length,(a:Int),(),(i:Int),(j:Int),()),(U,()))=true:=by
    simp only[Kg,lD,iO hl hB,lN ha,lN hj,Bool.and_true,Bool.true_and,bI,dS];omega
   have q2:(S.Kg e false nt ti tj).pre ((U.length,(a:Int),(),((S.uX e U a i j:Nat):Int),(j:Int),()),(U,()))=true:=by
    simp only[Kg,lD,iO hl hB,lN ha,lN hj,Bool.and_true,Bool.true_and,bI,dS];omega
   unfold mlT;simp only[S.E.aG,S.E.aP,cB,q1,q2];generalize S.uX e U a i j=i2 at*;generalize S.Gs e U a i2 j=j2 at*;refine ah rfl (ah rfl (ah rfl (ah rfl ?_)));by_cases hg:i2>j2
   ·rw[dK (show(i2:Int)>(j2:Int)by omega),if_pos hg]
    exact aj (λ_=>S.jq (S.E.aG U) (S.E.aP _ _) ⟨i2,j2,rfl,rfl⟩) λh=>Bool.noConfusion h
   ·have p6:=p5 hg
    rw[iB (show¬(i2:Int)>(j2:Int)by omega),if_neg hg,wN (show(i2:Int)+1=((i2+1:Nat):Int)by omega) (by omega),wN (show(j2:Int)-1=((j2-1:Nat):Int)by omega) (by omega)];obtain⟨m,rfl⟩: ∃k,m=k+1:=⟨m-1,by omega⟩
    obtain⟨s1,s2⟩:=S.oO U i2 j2 (by omega) (by omega);have ih:=rMl e nt ti tj a m (i2+1) (j2-1) (tq U i2 j2) (by omega) (by omega) (by omega) (by rw[fJ];exact ha) (by rw[fJ];omega) (by rw[fJ];exact hl) (hB.swap (by omega) (by omega));rw[fJ]at ih;exact aj (λh=>Bool.noConfusion h) λ_=>qR (by omega) (by omega) (S.qU s1 s2 ih)
 termination_by m=>m
theorem Wi(e:Bool){nt ti tj a i j:Nat}{U:List X}(h1:1≤i)(hij:i≤j+1)(ha:a<U.length)(hj:j<U.length)(hl:U.length≤1000000)(hB:S.Bd U):
  (∃i2 j2:Nat,(bif e then i2 else j2)=(S.pL e a i j U.toArray).1∧(S.Yj e nt ti tj).res ((U.length,(a:Nat),(),(i:Nat),(j:Nat),()),(U,()))=((U.length,(a:Int),(i2:Int),(j2:Int),()),((S.pL e a i j U.toArray).2.toList,())))∧
  aS (S.tMl e nt ti tj) (· =(S.Yj e nt ti tj).res ((U.length,(a:Nat),(),(i:Nat),(j:Nat),()),(U,()))) 2000000 ((U.length,(a:Nat),(),(i:Nat),(j:Nat),()),(U,())):=
 aS.res S.ajh (show j+1-i+1≤2000000 by omega) (S.rMl e nt ti tj a _ i j U (Nat.le_refl _) h1 hij ha hj hl hB) _
theorem Yk{e:Bool}{nt ti tj:Nat}(x:Gr X)(hx:(S.Yj e nt ti tj).pre x=true): ∃n,aS (S.tMl e nt ti tj) (· =(S.Yj e nt ti tj).res x) n x:=by
 obtain⟨⟨n,a,⟨⟩,i,j,⟨⟩⟩,⟨U,⟨⟩⟩⟩:=x;simp only[Yj,lD,bI,dS]at hx;obtain⟨hx,h2,h3,h4,h5⟩:=hx;obtain⟨rfl,hl,hB⟩:=jm hx;obtain⟨a,rfl,ha⟩:=rJ h2;obtain⟨j,rfl,hj⟩:=rJ h5;obtain⟨i,rfl⟩:=iT (show 0≤i by omega);exact⟨_,(S.Wi e (by omega) (by omega) ha hj hl hB).2⟩
end lT
end Go.bA
namespace Go.bA
open Go.Proofs
namespace lT
variable{X Z:Type} [Inhabited X](S:lT X)
theorem an4{V:List X}{j k:Nat}(hj:j<V.length)(hk:k<V.length){v:AV}{d:Array X}(hd:d=(tq V j k).toArray):gW {val:=v,outs:=[some (S.J9 d)]} {val:=v,outs:=[some (.arr V.length S.E.n (S.J8 V (j:Nat) (k:Nat)) S.ty)]}:=by
 subst hd;refine⟨bL.refl _,.cons ?_ (bX.refl _)⟩
 show pR _ (some (.arr (tq V j k).length S.E.n (S.E.el (tq V j k)) S.ty))
 rw[fJ];exact .arr _ _ _ _ _ (S.ad5 V j k hj hk)
abbrev Fp4:Form (Int×Int×Int×Unit×Unit):= .cons aX (.cons aX (.cons aX (.cons (gG S.fc) .nil)))
def Sg{Y:Type}(z:Int×Int×Int×Unit×Unit)(U:List Y):Bool:=decide (0≤z.1)&&(decide (z.1≤z.2.2.1)&&(decide (z.2.2.1<z.2.1)&&decide (z.2.1≤(U.length:Int))))
theorem Si{Y:Type}{z:Int×Int×Int×Unit×Unit}{U:List Y}(h:Sg z U=true): ∃a b p:Nat,z=((a:Int),(b:Int),(p:Int),(),())∧a≤p∧p<b∧b≤U.length:=by
 obtain⟨a,b,p,⟨⟩,⟨⟩⟩:=z;simp only[Sg,bI,dS]at h;refine⟨a.toNat,b.toNat,p.toNat,?_,by omega,by omega,by omega⟩;rw[Int.toNat_of_nonneg (by omega),Int.toNat_of_nonneg (by omega),Int.toNat_of_nonneg (by omega)]
def peV(z:Int×Int×Int×Unit×Unit)(U:List X):Nat×Array X:=Go.Sort.partitionEqual S.lt U.toArray z.1.toNat z.2.1.toNat z.2.2.1.toNat
def kPe:iD:=S.K S.Fp4 (λz U=>iA (S.peV z U).1) (λz U=>(S.peV z U).2) Sg
def MPe(n:Nat)(z:Int×Int×Int×Unit×Unit)(U:List X):Tr dx:=
 let a:=z.1
 let x:Gr X:=((n,a,(),i64.wrap (a+1),i64.wrap (z.2.1-1),()),(S.E.list U.length (S.J8 U a z.2.2.1),()))
 let r:=(S.Yj true 90 11 12).res x
 Sb n U a z.2.2.1<| need (S.E.oks U.length (S.J8 U a z.2.2.1))<| need ((S.Yj true 90 11 12).pre x)<| ret {val:= .c (.v (.int .i64 r.1.2.2.1)),outs:=[some (.arr r.2.1.length S.E.n (S.E.el r.2.1) S.ty)]}
theorem an5(a i j:Nat)(d:Array X):S.pL true a i j d=Go.Sort.partEqLoop S.lt a i j d:=rfl
theorem aec{e:Bool}{nt ti tj a i j:Nat}{U:List X}(h1:1≤i)(hij:i≤j+1)(ha:a<U.length)(hj:j<U.length)(hl:U.length≤1000000)(hB:S.Bd U):(S.Yj e nt ti tj).pre ((U.length,(a:Nat),(),(i:Nat),(j:Nat),()),(U,()))=true:=by
 simp only[Yj,lD,iO hl hB,lN ha,lN hj,Bool.and_true,Bool.true_and,bI,dS];omega
theorem aed{e u:Bool}{nt ti tj a i j:Nat}{U:List X}(h1:1≤i)(hij:i≤2000000)(ha:a<U.length)(hj:j<U.length)(hl:U.length≤1000000)(hB:S.Bd U):(S.Kg e u nt ti tj).pre ((U.length,(a:Nat),(),(i:Nat),(j:Nat),()),(U,()))=true:=by
 simp only[Kg,lD,iO hl hB,lN ha,lN hj,Bool.and_true,Bool.true_and,bI,dS];omega
theorem aq4{Γ:FuncId→Option Spec}{f:FuncId}{fn:Func}(hΓ: ∀f s,Γ f=some s→aH prog f s)
  (h2: ∀x,(exec prog Γ dn 1010 (aR 2 (aR 0 (codeOf fn))) (eY (S.Kg true true 90 11 12).nIn ((S.Kg true true 90 11 12).head x))).bind ((S.Kg true true 90 11 12).fin 1 2)=S.tSc true true x)
  (h4: ∀x,(exec prog Γ dn 1010 (aR 4 (aR 0 (codeOf fn))) (eY (S.Kg true false 90 11 12).nIn ((S.Kg true false 90 11 12).head x))).bind ((S.Kg true false 90 11 12).fin 1 4)=S.tSc true false x)
  (h0: ∀x,(exec prog Γ (K4 1 2 (S.Kg true true 90 11 12) 4 (S.Kg true false 90 11 12)) 1010 (aR 0 (codeOf fn)) (eY (S.Yj true 90 11 12).nIn ((S.Yj true 90 11 12).head x))).bind ((S.Yj true 90 11 12).fin 1 0)=S.tMl true 90 11 12 x)
  (hM: ∀n z U,jw prog Γ (E5 1 0 (S.Yj true 90 11 12)) 1010 false fn [some (.arr U.length S.E.n (S.E.el U) S.ty)] (.fK 0 n S.E.n::S.Fp4.args z)=S.MPe n z U)
  (hf:prog.funcs[f]? =some fn:=by kernel_rfl) (hb:fn.body=some (codeOf fn):=by kernel_rfl) (hn:dz fn=true:=by kernel_rfl)
  (b2:bW (λi=>beq i 2 || beq i 4) (aR 0 (codeOf fn))=[(2,.loop (aR 2 (aR 0 (codeOf fn)))),(4,.loop (aR 4 (aR 0 (codeOf fn))))]:=by kernel_rfl)
  (b0:bW (λi=>beq i 0) (codeOf fn)=[(0,.loop (aR 0 (codeOf fn)))]:=by kernel_rfl):fF prog f S.kPe:=by
 refine S.Ka hΓ (rH hΓ (HV hΓ (aA _ _) (aA _ _) (cZ _ _ _ _ _ _) (cZ _ _ _ _ _ _) rfl h2 h4 S.zQ S.zQ b2) (cZ _ _ _ _ _ _) h0 S.Yk b0) hM ?_ hf hb hn;intro z U hl hB hp;obtain⟨a,b,p,rfl,hap,hpb,hbl⟩:=Si hp;obtain⟨s1,s2⟩:=S.oO U a p (by omega) (by omega);have hl':(tq U a p).length=U.length:=fJ _ _ _;have hB':=hB.swap (j:=a) (k:=p) (by omega) (by omega);simp only[MPe,s1,s2];rw[wN (show(a:Int)+1=((a+1:Nat):Int)by omega) (by omega),wN (show(b:Int)-1=((b-1:Nat):Int)by omega) (by omega)];refine qR (by omega) (by omega) ?_;have e0:S.peV ((a:Int),(b:Int),(p:Int),(),()) U=S.pL true a (a+1) (b-1) (tq U a p).toArray:=by
  unfold peV Go.Sort.partitionEqual;simp only[cB];rw[mI,an5]
 rw[e0, ←hl'];obtain⟨⟨i2,j2,e1,e2⟩,_⟩:=S.Wi true (nt:=90) (ti:=11) (tj:=12) (a:=a) (i:=a+1) (j:=b-1) (U:=tq U a p) (by omega) (by omega) (by omega) (by omega) (by omega) hB';rw[e2];refine ah rfl (ah (S.aec (by omega) (by omega) (by omega) (by omega) (by omega) hB') (ak ?_));rw[cond_true]at e1;rw[←e1];exact gW.refl _
def paV(z:Int×Int×Int×Unit×Unit)(U:List X):Nat×Bool×Array X:=Go.Sort.partition S.lt U.toArray z.1.toNat z.2.1.toNat z.2.2.1.toNat
def kPa:iD:=S.K S.Fp4 (λz U=> .fG [iA (S.paV z U).1,.c (.v (.bool (S.paV z U).2.1))]) (λz U=>(S.paV z U).2.2) Sg
abbrev pU:bC (Gr X) (Gr X):=S.Kg false true 178 12 13
abbrev pD:bC (Gr X) (Gr X):=S.Kg false false 178 12 13
abbrev pM:bC (Gr X) (MlR X):=S.Yj false 178 12 13
def aee(n:Nat)(R:List X)(j a:Int)(b:Bool):Tr dx:=Sb n R j a<| ret {val:= .fG [.c (.v (.int .i64 j)),.c (.v (.bool b))],outs:=[some (.arr R.length S.E.n (S.J8 R j a) S.ty)]}
def MPa(n:Nat)(z:Int×Int×Int×Unit×Unit)(U:List X):Tr dx:=
 let a:=z.1
 let i:=i64.wrap (a+1)
 let j:=i64.wrap (z.2.1-1)
 let V:=S.E.list U.length (S.J8 U a z.2.2.1)
 let i2:Int:=(S.uX false V a.toNat i.toNat j.toNat:Nat)
 let V1:=S.E.list V.length (S.E.el V)
 let j2:Int:=(S.Gs false V1 a.toNat i2.toNat j.toNat:Nat)
 let x:Gr X:=((n,a,(),i64.wrap (i2+1),i64.wrap (j2-1),()),(S.E.list V1.length (S.J8 V1 i2 j2),()))
 Sb n U a z.2.2.1<| need (S.E.oks U.length (S.J8 U a z.2.2.1))<| need (S.pU.pre ((n,a,(),i,j,()),(V,())))<| need (S.E.oks V.length (S.E.el V))<| need (S.pD.pre ((n,a,(),i2,j,()),(V1,())))<|
  Tr.ite (decide (i2>j2)) (S.aee n V1 j2 a true)
   (Sb n V1 i2 j2<| need (S.E.oks V1.length (S.J8 V1 i2 j2))<| need (S.pM.pre x)<| S.aee (S.pM.res x).1.1 (S.pM.res x).2.1 (S.pM.res x).1.2.2.2.1 (S.pM.res x).1.2.1 false)
theorem aq5{U:List X}(a b p:Nat)(V:List X)(hV:V=tq U a p):S.paV ((a:Int),(b:Int),(p:Int),(),()) U=if S.uX false V a (a+1) (b-1)>S.Gs false V a (S.uX false V a (a+1) (b-1)) (b-1)then(S.Gs false V a (S.uX false V a (a+1) (b-1)) (b-1),true,(tq V (S.Gs false V a (S.uX false V a (a+1) (b-1)) (b-1)) a).toArray)
  else((S.pL false a (S.uX false V a (a+1) (b-1)+1) (S.Gs false V a (S.uX false V a (a+1) (b-1)) (b-1)-1) (tq V (S.uX false V a (a+1) (b-1)) (S.Gs false V a (S.uX false V a (a+1) (b-1)) (b-1))).toArray).1,false,Go.Sort.swp (S.pL false a (S.uX false V a (a+1) (b-1)+1) (S.Gs false V a (S.uX false V a (a+1) (b-1)) (b-1)-1) (tq V (S.uX false V a (a+1) (b-1)) (S.Gs false V a (S.uX false V a (a+1) (b-1)) (b-1))).toArray).2 (S.pL false a (S.uX false V a (a+1) (b-1)+1) (S.Gs false V a (S.uX false V a (a+1) (b-1)) (b-1)-1) (tq V (S.uX false V a (a+1) (b-1)) (S.Gs false V a (S.uX false V a (a+1) (b-1)) (b-1))).toArray).1 a):=by
 subst hV;unfold paV Go.Sort.partition;simp only[cB,mI];rfl
theorem MP{R:List X}{n j a:Nat}{b:Bool}{v:AV}{d:Array X}(hn:n=R.length)(hj:j<R.length)(ha:a<R.length)(hv:v= .fG [iA j,.c (.v (.bool b))])(hd:d=(tq R j a).toArray):(S.aee n R (j:Int) (a:Int) b).sat (gW {val:=v,outs:=[some (S.J9 d)]}):=by
 subst hn hv;exact qR hj ha (ak (S.an4 hj ha hd))
theorem aef(e:Bool){L a:Nat}: ∀(m i j:Nat) {U:List X},j+1-i≤m→1≤i→i≤j+1→j<L→U.length=L→S.Bd U→S.Inv L (S.pL e a i j U.toArray).2∧(S.pL e a i j U.toArray).1≤j+1∧(e=false→(S.pL e a i j U.toArray).1≤j)
 | m,i,j,U,hm,h1,hij,hj,hl,hB=>by
   rw[ak6];obtain⟨p1,p2,p3,p4,p5⟩:=S.OY e U (a:=a) h1 hij
   split
   ·refine⟨by rw[←hl];exact Inv.of hB,?_,λhe=> ?_⟩
    ·cases e
     ·exact Nat.le_succ_of_le p3
     ·exact p2
    ·subst he;exact p3
   ·rename_i hg
    have p6:=p5 hg;generalize S.uX e U a i j=i2 at*;generalize S.Gs e U a i2 j=j2 at*;obtain⟨m,rfl⟩: ∃k,m=k+1:=⟨m-1,by omega⟩
    obtain⟨q1,q2,q3⟩:=aef e (L:=L) (a:=a) m (i2+1) (j2-1) (U:=tq U i2 j2) (by omega) (by omega) (by omega) (by omega) (by rw[fJ];exact hl) (hB.swap (by omega) (by omega));exact⟨q1,by omega,λhe=>by have:=q3 he;omega⟩
 termination_by m=>m
theorem aq6{Γ:FuncId→Option Spec}{f:FuncId}{fn:Func}(hΓ: ∀f s,Γ f=some s→aH prog f s){L:Nat→Option (St→Tr (Ex×St))}(hL:bB prog 1 L (codeOf fn))
  (hM: ∀n z U,jw prog Γ L 1010 false fn [some (.arr U.length S.E.n (S.E.el U) S.ty)] (.fK 0 n S.E.n::S.Fp4.args z)=S.MPa n z U)
  (hf:prog.funcs[f]? =some fn:=by kernel_rfl) (hb:fn.body=some (codeOf fn):=by kernel_rfl) (hn:dz fn=true:=by kernel_rfl):fF prog f S.kPa:=by
 refine S.Ka hΓ hL hM ?_ hf hb hn;intro z U hl hB hp;obtain⟨a,b,p,rfl,hap,hpb,hbl⟩:=Si hp;obtain⟨s1,s2⟩:=S.oO U a p (by omega) (by omega);have hl':(tq U a p).length=U.length:=fJ _ _ _;have hB':=hB.swap (j:=a) (k:=p) (by omega) (by omega);rw[S.aq5 a b p _ rfl];obtain⟨p1,p2,p3,p4,p5⟩:=S.OY false (tq U a p) (a:=a) (i:=a+1) (j:=b-1) (by omega) (by omega);simp only[MPa,s1,s2];rw[wN (show(a:Int)+1=((a+1:Nat):Int)by omega) (by omega),wN (show(b:Int)-1=((b-1:Nat):Int)by omega) (by omega)];simp only[cB,S.E.aG,S.E.aP];refine qR (by omega) (by omega) ?_;rw[←hl']at hl hbl⊢;have ha:a<(tq U a p).length:=by omega
 generalize tq U a p=V at*;refine ah rfl (ah (S.aed (by omega) (by omega) ha (by omega) hl hB') (ah rfl (ah (S.aed (by omega) (by omega) ha (by omega) hl hB') ?_)));generalize S.uX false V a (a+1) (b-1)=i2 at*;generalize S.Gs false V a i2 (b-1)=j2 at*;by_cases hg:i2>j2
 ·rw[dK (show(i2:Int)>(j2:Int)by omega)]
  simp only[if_pos hg];exact aj (λ_=>S.MP rfl (by omega) ha rfl rfl) λh=>Bool.noConfusion h
 ·have p6:=p5 hg
  rw[iB (show¬(i2:Int)>(j2:Int)by omega)];simp only[if_neg hg];obtain⟨t1,t2⟩:=S.oO V i2 j2 (by omega) (by omega);refine aj (λh=>Bool.noConfusion h) λ_=>qR (by omega) (by omega) (ah t2 ?_)
  rw[t1,wN (show(i2:Int)+1=((i2+1:Nat):Int)by omega) (by omega),wN (show(j2:Int)-1=((j2-1:Nat):Int)by omega) (by omega)];have hlw:(tq V i2 j2).length=V.length:=fJ _ _ _;have hBw:=hB'.swap (j:=i2) (k:=j2) (by omega) (by omega);obtain⟨v1,v2,v3⟩:=S.aef false (L:=V.length) (a:=a) _ (i2+1) (j2-1) (U:=tq V i2 j2) (Nat.le_refl _) (by omega) (by omega) (by omega) hlw hBw;have v3:=v3 rfl;rw[←hlw];obtain⟨⟨i3,j3,e1,e2⟩,_⟩:=S.Wi false (nt:=178) (ti:=12) (tj:=13) (a:=a) (i:=i2+1) (j:=j2-1) (U:=tq V i2 j2) (by omega) (by omega) (by omega) (by omega) (by omega) hBw;rw[e2];rw[cond_false]at e1;refine ah (S.aec (by omega) (by omega) (by omega) (by omega) (by omega) hBw) ?_;generalize S.pL false a (i2+1) (j2-1) (tq V i2 j2).toArray=r at*;have hlr:r.2.toList.length=V.length:=by rw[Array.length_toList,v1.1]
  refine S.MP (by rw[hlw,hlr]) (by rw[hlr];omega) (by rw[hlr];exact ha) (by rw[e1]) ?_;have:=mI r.2.toList j3 a;rw[Array.toArray_toList]at this;rw[←this,e1]
end lT
end Go.bA
namespace Go.bA
open Go.Proofs
namespace lT
variable{X Z:Type} [Inhabited X](S:lT X)
abbrev Fpi:Form (Int×Int×Unit×Bool×Int×Int×Unit):= .cons aX (.cons aX (.cons (gG S.fc) (.cons kG (.cons aX (.cons aX .nil)))))
abbrev Fpk:Form (Int×Int×Unit×Bool×Int×Int×Int×Unit):= .cons aX (.cons aX (.cons (gG S.fc) (.cons kG (.cons aX (.cons aX (.cons aX .nil))))))
abbrev KE(X:Type):=(Nat×Int×Int×Unit×Bool×Int×Int×Unit)×(List X×Unit)
abbrev PkX(X:Type):=(Nat×Int×Int×Unit×Bool×Int×Int×Int×Unit)×(List X×Unit)
def lSs:bC (KE X) (KE X):=
 lD {nt:=141,live:=[0,1,2,3,8,9,10]} {nt:=141,live:=[0,1,2,3,8,9,10]} (S.form S.Fpi) (S.form S.Fpi)
  (λx=>((x.1.1,x.1.2.1,x.1.2.2.1,(),x.1.2.2.2.2.1,((Go.Sort.scanSorted S.lt x.2.1.toArray x.1.2.2.1.toNat x.1.2.2.2.2.2.1.toNat:Nat):Int),x.1.2.2.2.2.2.2.1,()),(x.2.1,())))
  (λx=>S.base x.1.1 x.2.1&&(decide (1≤x.1.2.2.2.2.2.1)&&(decide (x.1.2.2.2.2.2.1≤x.1.2.2.1)&&decide (x.1.2.2.1≤(x.2.1.length:Int)))))
def tSs(x:KE X):Tr (KE X ⊕ KE X):=
 let n:=x.1.1
 let i:=x.1.2.2.2.2.2.1
 let b:=x.1.2.2.1
 let U:=x.2.1
 let k:=i64.wrap (i-1)
 need (bif decide (i<b)then ands (gi n U i++gi n U k++S.cc U i k)else true)<|
  Tr.ite (bif decide (i<b)then bif true then !decide (S.cv U i k<0)else false else false)
   (S.nx U n (S.E.el U) (x.1.2.1,b,(),x.1.2.2.2.2.1,i64.wrap (i+1),x.1.2.2.2.2.2.2.1,())) (S.out U n (S.E.el U) (x.1.2.1,b,(),x.1.2.2.2.2.1,i,x.1.2.2.2.2.2.2.1,()))
theorem rSs(a:Int)(b:Nat)(r:Bool)(j:Int)(U:List X)(hb:b≤U.length)(hl:U.length≤1000000)(hB:S.Bd U)(Q:KE X→Prop): ∀(m i:Nat),b-i≤m→1≤i→Q ((U.length,a,(b:Nat),(),r,((Go.Sort.scanSorted S.lt U.toArray b i:Nat):Int),j,()),(U,()))→i≤2000000→aS S.tSs Q (m+1) ((U.length,a,(b:Nat),(),r,(i:Nat),j,()),(U,()))
 | m,i,hm,h1,hq,hi2=>by
   unfold aS;unfold Go.Sort.scanSorted at hq;rw[jM,jM]at hq;simp only[tSs];rw[wN (show(i:Int)-1=((i-1:Nat):Int)by omega) (by omega)];by_cases hi:i<b
   ·have hk:i<U.length:=by omega
    have hk1:i-1<U.length:=by omega
    rw[dK (show(i:Int)<(b:Int)by omega),cond_true,cond_true,cond_true,DC hB hk hk1];rw[dK hi,Bool.true_and]at hq;refine ah (nP (jl (jl (lC hk) (lC hk1)) (DF hB hk hk1))) (aj (λh=> ?_) λh=> ?_)
    ·rw[if_pos h]at hq
     obtain⟨m,rfl⟩: ∃k,m=k+1:=⟨m-1,by omega⟩
     rw[wN (show(i:Int)+1=((i+1:Nat):Int)by omega) (by omega)];exact S.qU (S.E.aG U) (S.E.aP _ _) (rSs a b r j U hb hl hB Q m (i+1) (by omega) (by omega) hq (by omega))
    ·rw[h]at hq
     exact S.jq (S.E.aG U) (S.E.aP _ _) hq
   ·rw[iB (show¬(i:Int)<(b:Int)by omega)]
    rw[iB hi]at hq;exact ah rfl (aj (λh=>Bool.noConfusion h) λ_=>S.jq (S.E.aG U) (S.E.aP _ _) hq)
 termination_by m=>m
theorem aji(x:KE X)(hx:S.lSs.pre x=true): ∃n,aS S.tSs (· =S.lSs.res x) n x:=by
 obtain⟨⟨n,a,b,⟨⟩,r,i,j,⟨⟩⟩,⟨U,⟨⟩⟩⟩:=x;simp only[lSs,lD,bI,dS]at hx;obtain⟨hx,h2,h3,h4⟩:=hx;obtain⟨rfl,hl,hB⟩:=jm hx;obtain⟨b,rfl⟩:=iT (show 0≤b by omega);obtain⟨i,rfl⟩:=iT (show 0≤i by omega);exact⟨_,S.rSs a b r j U (by omega) hl hB _ _ i (Nat.le_refl _) (by omega) rfl (by omega)⟩
def shV(u:Bool)(b k:Nat)(d:Array X):Array X:=bif u then Go.Sort.shiftUp S.lt b k d else Go.Sort.shiftDown S.lt k d
def mW{Y:Type}(u:Bool)(b k:Int)(U:List Y):Bool:=bif u then decide (1≤k)&&(decide (k≤2000000)&&(decide (0≤b)&&decide (b≤(U.length:Int))))else decide (0≤k)&&(decide (k<(U.length:Int))&&decide (0≤b))
def lSh(u:Bool):bC (PkX X) (KE X):=
 lD {nt:=141,live:=[0,1,2,3,8,9,10,bif u then 12 else 11]} {nt:=141,live:=[0,1,2,3,8,9,10]} (S.form S.Fpk) (S.form S.Fpi)
  (λx=>((x.1.1,x.1.2.1,x.1.2.2.1,(),x.1.2.2.2.2.1,x.1.2.2.2.2.2.1,x.1.2.2.2.2.2.2.1,()),((S.shV u x.1.2.2.1.toNat x.1.2.2.2.2.2.2.2.1.toNat x.2.1.toArray).toList,())))
  (λx=>S.base x.1.1 x.2.1&&mW u x.1.2.2.1 x.1.2.2.2.2.2.2.2.1 x.2.1)
def tSh(u:Bool)(x:PkX X):Tr (PkX X ⊕ KE X):=
 let n:=x.1.1
 let k:=x.1.2.2.2.2.2.2.2.1
 let b:=x.1.2.2.1
 let U:=x.2.1
 let k1:=i64.wrap (k-1)
 let o:=S.out U n (S.E.el U) (x.1.2.1,b,(),x.1.2.2.2.2.1,x.1.2.2.2.2.2.1,x.1.2.2.2.2.2.2.1,())
 Tr.ite (bif u then decide (k<b)else decide (k≥1)) (Tr.needs (gi n U k++gi n U k1++S.cc U k k1)<| Tr.ite (!decide (S.cv U k k1<0)) o
  (Sb n U k k1<| S.nx U n (S.J8 U k k1) (x.1.2.1,b,(),x.1.2.2.2.2.1,x.1.2.2.2.2.2.1,x.1.2.2.2.2.2.2.1,(bif u then i64.wrap (k+1)else k1),()))) o
theorem aeg(u:Bool)(b k:Nat)(U:List X):S.shV u b k U.toArray=if(bif u then decide (k<b)else decide (1≤k))=true then(if(!S.lt (U.getD k default) (U.getD (k-1) default))=true then U.toArray else S.shV u b (bif u then k+1 else k-1) (tq U k (k-1)).toArray)else U.toArray:=by
 cases u
 ·unfold shV
  simp only[cond_false];cases k with
  | zero=>rfl
  | succ k=>
    rw[if_pos (dA)];rw[Go.Sort.shiftDown,jM,jM,mI];rfl
 ·unfold shV
  simp only[cond_true];rw[Go.Sort.shiftUp,jM,jM,mI];by_cases h:k<b
  ·rw[if_pos h,if_pos (dK h)]
  ·rw[if_neg h,if_neg (by rw[iB h];exact Bool.noConfusion)]
theorem rSh(u:Bool)(a:Int)(b:Nat)(r:Bool)(i j:Int)(Q:KE X→Prop): ∀(m k:Nat) (U:List X),(bif u then b-k else k)≤m→mW u b k U=true→U.length≤1000000→S.Bd U→Q ((U.length,a,(b:Nat),(),r,i,j,()),((S.shV u b k U.toArray).toList,()))→aS (S.tSh u) Q (m+1) ((U.length,a,(b:Nat),(),r,i,j,(k:Nat),()),(U,()))
 | m,k,U,hm,hp,hl,hB,hq=>by
   unfold aS;rw[aeg]at hq;simp only[tSh];have hc:(bif u then decide ((k:Int)<(b:Int))else decide ((k:Int)≥1))=(bif u then decide (k<b)else decide (1≤k)):=by
    cases u
    ·simp only[cond_false];exact decide_eq_decide.2 (by omega)
    ·simp only[cond_true];exact decide_eq_decide.2 (by omega)
   rw[hc];refine aj (λh=> ?_) λh=> ?_
   ·rw[if_pos h]at hq
    obtain⟨h1,h2,h3,h4⟩:1≤k∧k<U.length∧k≤2000000∧m≠0:=by
     cases u
     ·simp only[cond_false,mW,bI,dS]at h hp hm;omega
     ·simp only[cond_true,mW,bI,dS]at h hp hm;omega
    have hk1:k-1<U.length:=by omega
    rw[wN (show(k:Int)-1=((k-1:Nat):Int)by omega) (by omega),wN (show(k:Int)+1=((k+1:Nat):Int)by omega) (by omega),DC hB h2 hk1];refine dR (jl (jl (lC h2) (lC hk1)) (DF hB h2 hk1)) (aj (λh=> ?_) λh=> ?_)
    ·rw[if_pos h]at hq
     exact S.jq (S.E.aG U) (S.E.aP _ _) hq
    ·rw[h]at hq
     obtain⟨m,rfl⟩: ∃k,m=k+1:=⟨m-1,by omega⟩
     obtain⟨s1,s2⟩:=S.oO U k (k-1) h2 hk1;have hle:(tq U k (k-1)).length=U.length:=fJ _ _ _;have e:(bif u then((k+1:Nat):Int)else((k-1:Nat):Int))=((bif u then k+1 else k-1:Nat):Int):=by cases u<;>rfl
     rw[e];have ih:=rSh u a b r i j Q m (bif u then k+1 else k-1) (tq U k (k-1)) (by cases u<;>simp only[cond_true,cond_false]at hm⊢ <;>omega)
      (by cases u<;>simp only[cond_true,cond_false,mW,bI,dS,hle]at hp⊢ <;>omega) (by rw[hle];exact hl) (hB.swap h2 hk1)
     rw[hle]at ih;exact qR h2 hk1 (S.qU s1 s2 (ih hq))
   ·rw[h]at hq
    exact S.jq (S.E.aG U) (S.E.aP _ _) hq
 termination_by m=>m
theorem Yl{u:Bool}(x:PkX X)(hx:(S.lSh u).pre x=true): ∃n,aS (S.tSh u) (· =(S.lSh u).res x) n x:=by
 obtain⟨⟨n,a,b,⟨⟩,r,i,j,k,⟨⟩⟩,⟨U,⟨⟩⟩⟩:=x;simp only[lSh,lD,bI]at hx;obtain⟨hx,h2⟩:=hx;obtain⟨rfl,hl,hB⟩:=jm hx;obtain⟨h3,h4⟩:0≤b∧0≤k:=by cases u<;>simp only[cond_true,cond_false,mW,bI,dS]at h2<;>omega
 obtain⟨b,rfl⟩:=iT h3;obtain⟨k,rfl⟩:=iT h4;exact⟨_,S.rSh u a b r i j _ _ k U (Nat.le_refl _) h2 hl hB rfl⟩
theorem Wj(u:Bool){L:Nat}(hL:L≤1000000)(b:Nat): ∀(m k:Nat) {U:List X},(bif u then b-k else k)≤m→mW u b k U=true→U.length=L→S.Bd U→S.Inv L (S.shV u b k U.toArray)
 | m,k,U,hm,hp,hl,hB=>by
   rw[aeg]
   split
   ·rename_i h
    split
    ·rw[←hl];exact Inv.of hB
    ·obtain⟨h1,h2,h4⟩:1≤k∧k<U.length∧m≠0:=by
      cases u
      ·simp only[cond_false,mW,bI,dS]at h hp hm;omega
      ·simp only[cond_true,mW,bI,dS]at h hp hm;omega
     obtain⟨m,rfl⟩: ∃k,m=k+1:=⟨m-1,by omega⟩
     have hle:(tq U k (k-1)).length=U.length:=fJ _ _ _;exact Wj u (L:=L) hL b m (bif u then k+1 else k-1) (U:=tq U k (k-1)) (by cases u<;>simp only[cond_true,cond_false]at hm⊢ <;>omega)
      (by cases u<;>simp only[cond_true,cond_false,mW,bI,dS,hle]at hp⊢ <;>omega) (by rw[hle];exact hl) (hB.swap h2 (by omega))
   ·rw[←hl];exact Inv.of hB
 termination_by m=>m
theorem aq7(U:List X)(b:Nat): ∀(m i:Nat),b-i≤m→i≤b→i≤Go.Sort.scanSorted S.lt U.toArray b i∧Go.Sort.scanSorted S.lt U.toArray b i≤b
 | m,i,hm,hi=>by
   unfold Go.Sort.scanSorted
   split
   ·rename_i h
    have h':i<b:=by simp only[bI,dS]at h;exact h.1
    obtain⟨m,rfl⟩: ∃k,m=k+1:=⟨m-1,by omega⟩
    obtain⟨p,q⟩:=aq7 U b m (i+1) (by omega) (by omega);exact⟨by omega,q⟩
   ·exact⟨Nat.le_refl _,hi⟩
 termination_by m=>m
end lT
end Go.bA
namespace Go.bA
open Go.Proofs
def yV{A B C D E F:Type}(k i1:Nat)(l1:bC A B)(i2:Nat)(l2:bC C D)(i3:Nat)(l3:bC E F):Nat→Option (St→Tr (Ex×St)):=λi=>bif beq i i1 then some (l1.g k)else bif beq i i2 then some (l2.g k)else bif beq i i3 then some (l3.g k)else none
theorem MQ{A B C D E F:Type}{c:Code}{Γ:FuncId→Option Spec}{N k i1 i2 i3:Nat}{L1 L2 L3:Nat→Option (St→Tr (Ex×St))}{l1:bC A B}{l2:bC C D}{l3:bC E F}{s1:A→Tr (A ⊕ B)}{s2:C→Tr (C ⊕ D)}{s3:E→Tr (E ⊕ F)}(hΓ: ∀f s,Γ f=some s→aH prog f s)
  (hL1:bB prog k L1 (aR i1 c)) (hL2:bB prog k L2 (aR i2 c)) (hL3:bB prog k L3 (aR i3 c)) (g1:l1.gH) (g2:l2.gH) (g3:l3.gH) (hne:(beq i2 i1 || beq i3 i1 || beq i3 i2)=false)
  (h1: ∀x,(exec prog Γ L1 N (aR i1 c) (eY l1.nIn (l1.head x))).bind (l1.fin k i1)=s1 x) (h2: ∀x,(exec prog Γ L2 N (aR i2 c) (eY l2.nIn (l2.head x))).bind (l2.fin k i2)=s2 x) (h3: ∀x,(exec prog Γ L3 N (aR i3 c) (eY l3.nIn (l3.head x))).bind (l3.fin k i3)=s3 x)
  (r1: ∀x,l1.pre x=true→ ∃n,aS s1 (· =l1.res x) n x) (r2: ∀x,l2.pre x=true→ ∃n,aS s2 (· =l2.res x) n x) (r3: ∀x,l3.pre x=true→ ∃n,aS s3 (· =l3.res x) n x)
  (hb:bW (λi=>beq i i1 || (beq i i2 || beq i i3)) c=[(i1,.loop (aR i1 c)),(i2,.loop (aR i2 c)),(i3,.loop (aR i3 c))]:=by kernel_rfl):bB prog k (yV k i1 l1 i2 l2 i3 l3) c:=by
 simp only[Bool.or_eq_false_iff]at hne;obtain⟨⟨n21,n31⟩,n32⟩:=hne;refine eP (d:=λi=>beq i i1 || (beq i i2 || beq i i3)) (λi=>by unfold yV;cases beq i i1<;>cases beq i i2<;>cases beq i i3<;>rfl) _ ?_;rw[hb];intro p hp g hg';simp only[List.mem_cons,List.not_mem_nil,or_false]at hp;rcases hp with rfl|rfl|rfl
 ·have hh:yV k i1 l1 i2 l2 i3 l3 i1=some (l1.g k):=by
   unfold yV;rw[show beq i1 i1=true by simp];rfl
  rw[hh]at hg';obtain rfl:g=l1.g k:=(Option.some.inj hg').symm;exact bC.PO (N:=N) aI hΓ (L:=L1) hL1 g1 h1 r1
 ·have hh:yV k i1 l1 i2 l2 i3 l3 i2=some (l2.g k):=by
   unfold yV;rw[n21,show beq i2 i2=true by simp];rfl
  rw[hh]at hg';obtain rfl:g=l2.g k:=(Option.some.inj hg').symm;exact bC.PO (N:=N) aI hΓ (L:=L2) hL2 g2 h2 r2
 ·have hh:yV k i1 l1 i2 l2 i3 l3 i3=some (l3.g k):=by
   unfold yV;rw[n31,n32,show beq i3 i3=true by simp];rfl
  rw[hh]at hg';obtain rfl:g=l3.g k:=(Option.some.inj hg').symm;exact bC.PO (N:=N) aI hΓ (L:=L3) hL3 g3 h3 r3
namespace lT
variable{X Z:Type} [Inhabited X](S:lT X)
abbrev PiR(X:Type):=Bool×((Nat×Bool×Unit)×(List X×Unit))
def piU(n:Nat)(a b i j:Int)(r:Bool)(l:Nat)(e:Nat→List IV):Tr (KE X ⊕ PiR X):=
 let V:=S.E.list l e
 let W:=(S.shV true b.toNat (i64.wrap (i+1)).toNat V.toArray).toList
 Tr.ite (decide (i64.wrap (b-i)≥2)) (need (S.E.oks l e)<| need ((S.lSh true).pre ((n,a,b,(),r,i,j,i64.wrap (i+1),()),(V,())))<| S.nx W n (S.E.el W) (a,b,(),r,i,i64.wrap (j+1),()))
  (need (S.E.oks l e)<| ret (Sum.inl ((n,a,b,(),r,i,i64.wrap (j+1),()),(V,()))))
def piD(n:Nat)(a b i j:Int)(r:Bool)(l:Nat)(e:Nat→List IV):Tr (KE X ⊕ PiR X):=
 let V:=S.E.list l e
 let W:=(S.shV false b.toNat (i64.wrap (i-1)).toNat V.toArray).toList
 Tr.ite (decide (i64.wrap (i-a)≥2)) (need (S.E.oks l e)<| need ((S.lSh false).pre ((n,a,b,(),r,i,j,i64.wrap (i-1),()),(V,())))<| S.piU n a b i j r W.length (S.E.el W))
  (S.piU n a b i j r l e)
def piE(n:Nat)(U:List X)(f r:Bool):Tr (KE X ⊕ PiR X):=need (S.E.oks U.length (S.E.el U))<| ret (Sum.inr (f,((n,r,()),(S.E.list U.length (S.E.el U),()))))
def tPi(x:KE X):Tr (KE X ⊕ PiR X):=
 let n:=x.1.1
 let a:=x.1.2.1
 let b:=x.1.2.2.1
 let r:=x.1.2.2.2.2.1
 let j:=x.1.2.2.2.2.2.2.1
 let U:=x.2.1
 let V:=S.E.list U.length (S.E.el U)
 let i:Int:=(Go.Sort.scanSorted S.lt V.toArray b.toNat x.1.2.2.2.2.2.1.toNat:Nat)
 Tr.ite (decide (j<5)) (need (S.E.oks U.length (S.E.el U))<| need (S.lSs.pre ((n,a,b,(),r,x.1.2.2.2.2.2.1,j,()),(V,())))<|
  Tr.ite (decide (i=b)) (S.piE n V true true)<| Tr.ite (decide (i64.wrap (b-a)<50)) (S.piE n V true false)<|
   Sb n V i (i64.wrap (i-1))<| S.piD n a b i j r V.length (S.J8 V i (i64.wrap (i-1)))) (S.piE n U false r)
def Ym:bC (KE X) (PiR X):=
 Tf {nt:=141,live:=[0,1,2,3,8,9,10]} {nt:=141,live:=[0,8]} (S.form S.Fpi) (S.form (.cons kG .nil))
  (λx=>(BA S.tPi 10 x).getD (false,((x.1.1,false,()),(x.2.1,()))))
  (λx=>S.base x.1.1 x.2.1&&(decide (0≤x.1.2.1)&&(decide (x.1.2.1<x.1.2.2.2.2.2.1)&&(decide (x.1.2.2.2.2.2.1≤x.1.2.2.1)&&(decide (x.1.2.2.1≤(x.2.1.length:Int))&&decide (x.1.2.2.2.2.2.2.1=0))))))
theorem ajj(x:KE X):(S.tPi x).one=true:=by
 simp only[tPi,piE,piD,piU,Sb,nx,Tr.one,rY,Bool.and_self]
def kPi:iD:=S.K S.Fab (λz U=> .c (.v (.bool (Go.Sort.partialInsertionSort S.lt U.toArray z.1.toNat z.2.1.toNat).2))) (λz U=>(Go.Sort.partialInsertionSort S.lt U.toArray z.1.toNat z.2.1.toNat).1) Az
def MPi(n:Nat)(z:Int×Int×Unit×Unit)(U:List X):Tr dx:=
 let x:KE X:=((n,z.1,z.2.1,(),false,i64.wrap (z.1+1),0,()),(S.E.list U.length (S.E.el U),()))
 let r:=S.Ym.res x
 let o (b:Bool):Tr dx:=ret {val:= .c (.v (.bool b)),outs:=[some (.arr r.2.2.1.length S.E.n (S.E.el r.2.2.1) S.ty)]}
 need (S.E.oks U.length (S.E.el U))<| need (S.Ym.pre x)<| Tr.ite r.1 (o r.2.1.2.1) (o false)
theorem aq8(a b s i:Nat)(d:Array X):Go.Sort.partialIns S.lt a b (s+1) i d=if Go.Sort.scanSorted S.lt d b i=b then(d,true)else if b-a<50 then(d,false)else
 Go.Sort.partialIns S.lt a b s (Go.Sort.scanSorted S.lt d b i)
  (if b-Go.Sort.scanSorted S.lt d b i≥2 then Go.Sort.shiftUp S.lt b (Go.Sort.scanSorted S.lt d b i+1) (if Go.Sort.scanSorted S.lt d b i-a≥2 then Go.Sort.shiftDown S.lt (Go.Sort.scanSorted S.lt d b i-1) (Go.Sort.swp d (Go.Sort.scanSorted S.lt d b i) (Go.Sort.scanSorted S.lt d b i-1))else Go.Sort.swp d (Go.Sort.scanSorted S.lt d b i) (Go.Sort.scanSorted S.lt d b i-1))
   else(if Go.Sort.scanSorted S.lt d b i-a≥2 then Go.Sort.shiftDown S.lt (Go.Sort.scanSorted S.lt d b i-1) (Go.Sort.swp d (Go.Sort.scanSorted S.lt d b i) (Go.Sort.scanSorted S.lt d b i-1))else Go.Sort.swp d (Go.Sort.scanSorted S.lt d b i) (Go.Sort.scanSorted S.lt d b i-1))):=rfl
theorem OZ{U:List X}{f r:Bool}{Q:KE X ⊕ PiR X→Prop}(h:Q (.inr (f,((U.length,r,()),(U,()))))):(S.piE U.length U f r).sat Q:=by
 unfold piE;rw[S.E.aG,S.E.aP];exact ah rfl (ak h)
theorem Yn{L a b i j:Nat}{r:Bool}{l:Nat}{e:Nat→List IV}{V:List X}(h1:S.E.list l e=V)(h2:S.E.oks l e=true)(hL:L≤1000000)(hV:V.length=L)(hB:S.Bd V)(hib:i<b)(hb:b≤L)(hj:j<5){Q:KE X ⊕ PiR X→Prop}
  (h: ∀W:List X,S.Inv L W.toArray→W.toArray=(if b-i≥2 then Go.Sort.shiftUp S.lt b (i+1) V.toArray else V.toArray)→Q (.inl ((L,(a:Int),(b:Int),(),r,(i:Int),((j+1:Nat):Int),()),(W,())))):(S.piU L a b i j r l e).sat Q:=by
 unfold piU;rw[h1,h2,wN (show(b:Int)-(i:Int)=((b-i:Nat):Int)by omega) (by omega),wN (show(i:Int)+1=((i+1:Nat):Int)by omega) (by omega),wN (show(j:Int)+1=((j+1:Nat):Int)by omega) (by omega)];simp only[cB];by_cases hi:b-i≥2
 ·rw[dK (show((b-i:Nat):Int)≥2 by omega)]
  have hp:mW true (b:Int) ((i+1:Nat):Int) V=true:=by simp only[mW,cond_true,bI,dS];omega
  have hq:(S.lSh true).pre ((L,(a:Int),(b:Int),(),r,(i:Int),(j:Int),((i+1:Nat):Int),()),(V,()))=true:=by
   subst hV;simp only[lSh,lD,iO hL hB,hp,Bool.and_self]
  rw[hq];have hI:=S.Wj true hL b _ (i+1) (Nat.le_refl _) hp hV hB;refine aj (λ_=>ah rfl (ah rfl (S.qU (S.E.aG _) (S.E.aP _ _) (h _ hI (by rw[if_pos hi];rfl))))) λh=>Bool.noConfusion h
 ·rw[iB (show¬((b-i:Nat):Int)≥2 by omega)]
  exact aj (λh=>Bool.noConfusion h) λ_=>ah rfl (ak (h V (by rw[←hV];exact Inv.of hB) (by rw[if_neg hi])))
theorem ajk{L a b i j:Nat}{r:Bool}{l:Nat}{e:Nat→List IV}{V:List X}(h1:S.E.list l e=V)(h2:S.E.oks l e=true)(hL:L≤1000000)(hV:V.length=L)(hB:S.Bd V)(ha:a<i)(hib:i<b)(hb:b≤L)(hj:j<5){Q:KE X ⊕ PiR X→Prop}
  (h: ∀W:List X,S.Inv L W.toArray→W.toArray=(if b-i≥2 then Go.Sort.shiftUp S.lt b (i+1) (if i-a≥2 then Go.Sort.shiftDown S.lt (i-1) V.toArray else V.toArray)else(if i-a≥2 then Go.Sort.shiftDown S.lt (i-1) V.toArray else V.toArray))→Q (.inl ((L,(a:Int),(b:Int),(),r,(i:Int),((j+1:Nat):Int),()),(W,())))):(S.piD L a b i j r l e).sat Q:=by
 unfold piD;rw[wN (show(i:Int)-(a:Int)=((i-a:Nat):Int)by omega) (by omega),wN (show(i:Int)-1=((i-1:Nat):Int)by omega) (by omega)];by_cases hi:i-a≥2
 ·rw[dK (show((i-a:Nat):Int)≥2 by omega),h1,h2]
  simp only[cB];have hp:mW false (b:Int) ((i-1:Nat):Int) V=true:=by simp only[mW,cond_false,bI,dS];omega
  have hq:(S.lSh false).pre ((L,(a:Int),(b:Int),(),r,(i:Int),(j:Int),((i-1:Nat):Int),()),(V,()))=true:=by
   subst hV;simp only[lSh,lD,iO hL hB,hp,Bool.and_self]
  rw[hq];have hI:=S.Wj false hL b _ (i-1) (Nat.le_refl _) hp hV hB;rw[if_pos hi]at h;refine aj (λ_=>ah rfl (ah rfl (S.Yn (S.E.aG _) (S.E.aP _ _) hL (by rw[Array.length_toList];exact hI.1) hI.2 hib hb hj λW hW e=>h W hW ?_))) λh=>Bool.noConfusion h
  rw[e,Array.toArray_toList];rfl
 ·rw[iB (show¬((i-a:Nat):Int)≥2 by omega)]
  rw[if_neg hi]at h;exact aj (λh=>Bool.noConfusion h) λ_=>S.Yn h1 h2 hL hV hB hib hb hj h
theorem rPi(a b L:Nat)(hb:b≤L)(hL:L≤1000000): ∀(s j i:Nat) (r:Bool) (U:List X),j+s=5→a<i→i≤b→U.length=L→S.Bd U→
  aS S.tPi (λz=> ∃r',z.2=((L,r',()),((Go.Sort.partialIns S.lt a b s i U.toArray).1.toList,()))∧(bif z.1 then r' else false)=(Go.Sort.partialIns S.lt a b s i U.toArray).2) (s+1) ((L,(a:Nat),(b:Nat),(),r,(i:Nat),(j:Nat),()),(U,()))
 | 0,j,i,r,U,hj,hai,hib,hl,hB=>by
   subst hl;unfold aS;simp only[tPi];rw[iB (show¬(j:Int)<5 by omega)];exact aj (λh=>Bool.noConfusion h) λ_=>S.OZ ⟨r,rfl,rfl⟩
 | s+1,j,i,r,U,hj,hai,hib,hl,hB=>by
   subst hl;unfold aS;simp only[tPi];rw[S.E.aG,S.E.aP,dK (show(j:Int)<5 by omega)];simp only[cB,aq8];obtain⟨p1,p2⟩:=S.aq7 U b _ i (Nat.le_refl _) hib;have hq:S.lSs.pre ((U.length,(a:Int),(b:Int),(),r,(i:Int),(j:Int),()),(U,()))=true:=by
    simp only[lSs,lD,iO hL hB,Bool.true_and,bI,dS];omega
   rw[hq];generalize Go.Sort.scanSorted S.lt U.toArray b i=i2 at*;refine aj (λ_=>ah rfl (ah rfl ?_)) λh=>Bool.noConfusion h
   by_cases h1:i2=b
   ·rw[dK (show(i2:Int)=(b:Int)by omega)]
    simp only[if_pos h1];exact aj (λ_=>S.OZ ⟨true,rfl,rfl⟩) λh=>Bool.noConfusion h
   ·rw[iB (show¬(i2:Int)=(b:Int)by omega)]
    simp only[if_neg h1];refine aj (λh=>Bool.noConfusion h) λ_=> ?_
    rw[wN (show(b:Int)-(a:Int)=((b-a:Nat):Int)by omega) (by omega)];by_cases h2:b-a<50
    ·rw[dK (show((b-a:Nat):Int)<50 by omega)]
     simp only[if_pos h2];exact aj (λ_=>S.OZ ⟨false,rfl,rfl⟩) λh=>Bool.noConfusion h
    ·rw[iB (show¬((b-a:Nat):Int)<50 by omega)]
     simp only[if_neg h2,mI];obtain⟨s1,s2⟩:=S.oO U i2 (i2-1) (by omega) (by omega);rw[wN (show(i2:Int)-1=((i2-1:Nat):Int)by omega) (by omega)];refine aj (λh=>Bool.noConfusion h) λ_=>qR (by omega) (by omega) (S.ajk s1 s2 hL (fJ _ _ _) (hB.swap (by omega) (by omega)) (by omega) (by omega) hb (by omega) λW hW e=> ?_)
     rw[←e];exact rPi a b U.length hb hL s (j+1) i2 r W (by omega) (by omega) (by omega) hW.1 hW.2
theorem aeh{a b i:Nat}{r:Bool}{U:List X}(hai:a<i)(hib:i≤b)(hb:b≤U.length)(hl:U.length≤1000000)(hB:S.Bd U):
  (∃r',(S.Ym.res ((U.length,(a:Nat),(b:Nat),(),r,(i:Nat),0,()),(U,()))).2=((U.length,r',()),((Go.Sort.partialIns S.lt a b 5 i U.toArray).1.toList,()))∧(bif (S.Ym.res ((U.length,(a:Nat),(b:Nat),(),r,(i:Nat),0,()),(U,()))).1 then r' else false)=(Go.Sort.partialIns S.lt a b 5 i U.toArray).2)∧
  aS S.tPi (· =S.Ym.res ((U.length,(a:Nat),(b:Nat),(),r,(i:Nat),0,()),(U,()))) 10 ((U.length,(a:Nat),(b:Nat),(),r,(i:Nat),0,()),(U,())):=
 aS.res S.ajj (show 5+1≤10 by omega) (S.rPi a b U.length hb hl 5 0 i r U rfl hai hib rfl hB) _
theorem ajl(x:KE X)(hx:S.Ym.pre x=true): ∃n,aS S.tPi (· =S.Ym.res x) n x:=by
 obtain⟨⟨n,a,b,⟨⟩,r,i,j,⟨⟩⟩,⟨U,⟨⟩⟩⟩:=x;simp only[Ym,Tf,bI,dS]at hx;obtain⟨hx,h2,h3,h4,h5,rfl⟩:=hx;obtain⟨rfl,hl,hB⟩:=jm hx;obtain⟨a,rfl⟩:=iT h2;obtain⟨b,rfl⟩:=iT (show 0≤b by omega);obtain⟨i,rfl⟩:=iT (show 0≤i by omega);exact⟨_,(S.aeh (by omega) (by omega) (by omega) hl hB).2⟩
theorem DJ{V:List X}{v:AV}{d:Array X}(hd:d.toList=V):gW {val:=v,outs:=[some (S.J9 d)]} {val:=v,outs:=[some (.arr V.length S.E.n (S.E.el V) S.ty)]}:=by
 subst hd;exact gW.refl _
theorem aq9{Γ:FuncId→Option Spec}{f:FuncId}{fn:Func}(hΓ: ∀f s,Γ f=some s→aH prog f s){L:Nat→Option (St→Tr (Ex×St))}(hL:bB prog 1 L (aR 0 (codeOf fn)))
  (h0: ∀x,(exec prog Γ L 1010 (aR 0 (codeOf fn)) (eY S.Ym.nIn (S.Ym.head x))).bind (S.Ym.fin 1 0)=S.tPi x)
  (hM: ∀n z U,jw prog Γ (E5 1 0 S.Ym) 1010 false fn [some (.arr U.length S.E.n (S.E.el U) S.ty)] (.fK 0 n S.E.n::S.Fab.args z)=S.MPi n z U)
  (hf:prog.funcs[f]? =some fn:=by kernel_rfl) (hb:fn.body=some (codeOf fn):=by kernel_rfl) (hn:dz fn=true:=by kernel_rfl)
  (b0:bW (λi=>beq i 0) (codeOf fn)=[(0,.loop (aR 0 (codeOf fn)))]:=by kernel_rfl):fF prog f S.kPi:=by
 refine S.Ka hΓ (rH hΓ hL (oJ _ _ _ _ _ _) h0 S.ajl b0) hM ?_ hf hb hn;intro z U hl hB hp;obtain⟨a,b,rfl,hab,hbl⟩:=E8 hp;simp only[MPi,S.E.aG,S.E.aP];rw[wN (show(a:Int)+1=((a+1:Nat):Int)by omega) (by omega)];have hq:S.Ym.pre ((U.length,(a:Int),(b:Int),(),false,((a+1:Nat):Int),0,()),(U,()))=true:=by
  simp only[Ym,Tf,iO hl hB,Bool.true_and,bI,dS];exact⟨by omega,by omega,by omega,by omega,trivial⟩
 rw[hq];obtain⟨⟨r',e1,e2⟩,_⟩:=S.aeh (a:=a) (i:=a+1) (r:=false) (by omega) (by omega) hbl hl hB;unfold Go.Sort.partialInsertionSort;simp only[cB];rw[e1];refine ah rfl (ah rfl (aj (λh=> ?_) λh=> ?_))
 ·rw[h,cond_true]at e2
  rw[←e2];exact ak (S.DJ rfl)
 ·rw[h,cond_false]at e2
  rw[←e2];exact ak (S.DJ rfl)
end lT
end Go.bA
namespace Go.bA
open Go.Proofs
namespace lT
variable{X Z:Type} [Inhabited X](S:lT X)
def sS{α:Type}(n:Nat)(U:List X)(pre:List X→Bool)(res:List X→Array X)(k:List X→List X→Tr α):Tr α:=
 let V:=S.E.list U.length (S.E.el U)
 need (S.E.oks U.length (S.E.el U))<| need (S.base n V)<| need (pre V)<| k V (res V).toList
theorem jh{α:Type}{U:List X}{pre:List X→Bool}{res:List X→Array X}{k:List X→List X→Tr α}{Q:α→Prop}(hl:U.length≤1000000)(hB:S.Bd U)(hp:pre U=true)(h: ∀W:List X,W.toArray=res U→(k U W).sat Q):(S.sS U.length U pre res k).sat Q:=by
 simp only[sS,S.E.aG,S.E.aP,iO hl hB,hp];exact ah rfl (ah rfl (ah rfl (h _ (by rw[Array.toArray_toList]))))
abbrev P4:=Int×Int×Int×Unit×Unit
abbrev PqX(X:Type):=(Nat×Int×Int×Int×Unit×Bool×Bool×Unit)×(List X×Unit)
abbrev PqR(X:Type):=Bool×((Nat×Unit)×(List X×Unit))
open Classical in
noncomputable def qY (m:Nat)(z:P4)(U:List X):Bool:=decide (0≤z.1)&&(decide (z.1≤z.2.1)&&(decide (z.2.1≤(U.length:Int))&&(decide (0≤z.2.2.1)&&(decide (z.2.2.1≤1000)&&(decide (z.2.1-z.1<(m:Int))&&decide (Go.Sort.Below S.lt z.1.toNat z.2.1.toNat U.toArray))))))
noncomputable section
def pqE{α:Type}(n:Nat)(W:List X):Tr (α ⊕ PqR X):=need (S.E.oks W.length (S.E.el W))<| ret (Sum.inr (true,((n,()),(S.E.list W.length (S.E.el W),()))))
def pqN{β:Type}(n:Nat)(W:List X)(a b lim:Int)(wb wp:Bool):Tr (PqX X ⊕ β):=need (S.E.oks W.length (S.E.el W))<| ret (Sum.inl ((n,a,b,lim,(),wb,wp,()),(S.E.list W.length (S.E.el W),())))
def pqP(m:Nat)(R:P4→List X→Array X)(n:Nat)(a b lim:Int)(mid:Int)(ap:Bool)(W:List X):Tr (PqX X ⊕ PqR X):=
 let l:=i64.wrap (mid-a)
 let r:=i64.wrap (b-mid)
 let q:=i64.wrap ((i64.wrap (b-a)).tdiv 8)
 let m1:=i64.wrap (mid+1)
 need true<| Tr.ite (decide (l<r)) (S.sS n W (S.qY m (a,mid,lim,(),())) (R (a,mid,lim,(),())) λ_ W2=>S.pqN n W2 m1 b lim (decide (l≥q)) ap)
  (S.sS n W (S.qY m (m1,b,lim,(),())) (R (m1,b,lim,(),())) λ_ W2=>S.pqN n W2 a mid lim (decide (r≥q)) ap)
def pqT(m:Nat)(R:P4→List X→Array X)(n:Nat)(a b lim:Int)(wb wp:Bool)(p:Int)(U:List X):Tr (PqX X ⊕ PqR X):=
 let a1:=i64.wrap (a-1)
 need (bif decide (a>0)then ands (gi n U a1++gi n U p++S.cc U a1 p)else true)<|
  Tr.ite (bif decide (a>0)then bif true then !decide (S.cv U a1 p<0)else false else false)
   (S.sS n U (Sg (a,b,p,(),())) (λV=>(S.peV (a,b,p,(),()) V).2) λV W=>S.pqN n W (S.peV (a,b,p,(),()) V).1 b lim wb wp)
   (S.sS n U (Sg (a,b,p,(),())) (λV=>(S.paV (a,b,p,(),()) V).2.2) λV W=>S.pqP m R n a b lim (S.paV (a,b,p,(),()) V).1 (S.paV (a,b,p,(),()) V).2.1 W)
def pqD(m:Nat)(R:P4→List X→Array X)(n:Nat)(a b lim:Int)(wb wp:Bool)(p h:Int)(U:List X):Tr (PqX X ⊕ PqR X):=
 need (bif wb then bif wp then true else true else true)<| Tr.ite (bif wb then bif wp then decide (h=1)else false else false)
  (S.sS n U (Az (a,b,(),())) (λV=>(Go.Sort.partialInsertionSort S.lt V.toArray a.toNat b.toNat).1) λV W=>Tr.ite (Go.Sort.partialInsertionSort S.lt V.toArray a.toNat b.toNat).2 (S.pqE n W) (S.pqT m R n a b lim wb wp p W))
  (S.pqT m R n a b lim wb wp p U)
def pqC(m:Nat)(R:P4→List X→Array X)(n:Nat)(a b lim:Int)(wb wp:Bool)(U:List X):Tr (PqX X ⊕ PqR X):=
 S.sS n U (Az (a,b,(),())) (λV=>V.toArray) λV W=>
  Tr.ite (decide (hc (Go.Sort.choosePivot S.lt V.toArray a.toNat b.toNat).2=2))
   (S.sS n W (Az (a,b,(),())) (λV=>Go.Sort.reverseRange V.toArray a.toNat b.toNat) λ_ W2=>S.pqD m R n a b lim wb wp (i64.wrap (i64.wrap (b-1)-i64.wrap (((Go.Sort.choosePivot S.lt V.toArray a.toNat b.toNat).1:Nat)-a))) 1 W2)
   (S.pqD m R n a b lim wb wp ((Go.Sort.choosePivot S.lt V.toArray a.toNat b.toNat).1:Nat) (hc (Go.Sort.choosePivot S.lt V.toArray a.toNat b.toNat).2) W)
def tPq(m:Nat)(R:P4→List X→Array X)(x:PqX X):Tr (PqX X ⊕ PqR X):=
 let n:=x.1.1
 let a:=x.1.2.1
 let b:=x.1.2.2.1
 let lim:=x.1.2.2.2.1
 let wb:=x.1.2.2.2.2.2.1
 let wp:=x.1.2.2.2.2.2.2.1
 let U:=x.2.1
 Tr.ite (decide (i64.wrap (b-a)≤12)) (S.sS n U (λU=>decide (0≤a)&&(decide (0≤b)&&(decide (b≤(U.length:Int))&&decide (a≤1000000)))) (λV=>Go.Sort.insertionSort S.lt V.toArray a.toNat b.toNat) λ_ W=>S.pqE n W)<|
  Tr.ite (decide (lim=0)) (S.sS n U (Gb (a,b,(),())) (λV=>Go.Sort.heapSort S.lt V.toArray a.toNat b.toNat) λ_ W=>S.pqE n W)<|
   Tr.ite (!wb) (S.sS n U (Gb (a,b,(),())) (S.bpR a b) λ_ W=>S.pqC m R n a b (i64.wrap (lim-1)) wb wp W) (S.pqC m R n a b lim wb wp U)
def pdR:Nat→P4→List X→Array X
 | 0,_,U=>U.toArray
 | m+1,z,U=>((BA (S.tPq m (pdR m)) 2000000 ((U.length,z.1,z.2.1,z.2.2.1,(),true,true,()),(U,()))).getD (true,((U.length,()),(U,())))).2.2.1.toArray
def lPq(m:Nat):bC (PqX X) (PqR X):=
 Tf {nt:=148,live:=[0,1,2,3,4,10,11]} {nt:=148,live:=[0]} (S.form (.cons aX (.cons aX (.cons aX (.cons (gG S.fc) (.cons kG (.cons kG .nil))))))) (S.form .nil)
  (λx=>(BA (S.tPq m (S.pdR m)) 2000000 x).getD (true,((x.1.1,()),(x.2.1,()))))
  (λx=>S.base x.1.1 x.2.1&&S.qY (m+1) (x.1.2.1,x.1.2.2.1,x.1.2.2.2.1,(),()) x.2.1)
def kPq(m:Nat):iD:=S.K S.Fp4 (λ_ _=> .fG []) (S.pdR m) (S.qY m)
def MPq(m n:Nat)(z:P4)(U:List X):Tr dx:=
 let x:PqX X:=((n,z.1,z.2.1,z.2.2.1,(),true,true,()),(S.E.list U.length (S.E.el U),()))
 let r:=(S.lPq m).res x
 let o:Tr dx:=ret {val:= .fG [],outs:=[some (.arr r.2.2.1.length S.E.n (S.E.el r.2.2.1) S.ty)]}
 need (S.E.oks U.length (S.E.el U))<| need ((S.lPq m).pre x)<| Tr.ite r.1 o o
end
theorem ajm(m:Nat)(R:P4→List X→Array X)(x:PqX X):(S.tPq m R x).one=true:=by
 simp only[tPq,pqC,pqD,pqT,pqP,pqN,pqE,sS,Tr.one,Bool.and_self]
def Srt(a b:Nat)(d0 d:Array X):Prop:=Go.Sort.PermIn a b d0 d∧Go.Sort.SortedIn S.lt a b d
structure PqI (L a b:Nat) (d0:Array X) (W:List X):Prop where
 len:W.length=L
 bd:S.Bd W
 perm:Go.Sort.PermIn a b d0 W.toArray
 low:Go.Sort.Below S.lt a b W.toArray
theorem PqI.step{S:lT X}{L a b:Nat}{d0:Array X}{W V:List X}(h:S.PqI L a b d0 W)(hb:b≤L)(hp:Go.Sort.PermIn a b W.toArray V.toArray):S.PqI L a b d0 V:=by
 have hs:b≤W.toArray.size:=by rw[List.size_toArray,h.len];exact hb
 obtain⟨q1,q2⟩:=(Inv.of h.bd).perm (by rw[h.len];exact hb) hp;exact⟨by rw[←h.len];exact q1,q2,Go.Sort.permIn_trans _ _ _ _ _ h.perm hp,h.low.perm hs hp⟩
def PqQ(m:Nat)(R:P4→List X→Array X)(k L a b:Nat)(d0:Array X):PqX X ⊕ PqR X→Prop:=λy=>match y with
 | .inl x=>aS (S.tPq m R) (λr=> ∃W:List X,r.2=((L,()),(W,()))∧S.Srt a b d0 W.toArray) k x
 | .inr r=> ∃W:List X,r.2=((L,()),(W,()))∧S.Srt a b d0 W.toArray
def PqH(m:Nat)(R:P4→List X→Array X)(k L w:Nat):Prop:= ∀(a b lim:Nat) (wb wp:Bool) (U:List X),b-a<w→a≤b→b≤L→lim≤1000→U.length=L→S.Bd U→Go.Sort.Below S.lt a b U.toArray→
 aS (S.tPq m R) (λr=> ∃W:List X,r.2=((L,()),(W,()))∧S.Srt a b U.toArray W.toArray) k ((L,(a:Int),(b:Int),(lim:Int),(),wb,wp,()),(U,()))
def HR(m:Nat)(R:P4→List X→Array X):Prop:= ∀(a b lim:Nat) (U:List X),S.qY m ((a:Int),(b:Int),(lim:Int),(),()) U=true→U.length≤1000000→S.Bd U→S.Srt a b U.toArray (R ((a:Int),(b:Int),(lim:Int),(),()) U)
theorem Kh{m a b lim:Nat}{U:List X}(h1:a≤b)(h2:b≤U.length)(h3:lim≤1000)(h4:b-a<m)(h5:Go.Sort.Below S.lt a b U.toArray):S.qY m ((a:Int),(b:Int),(lim:Int),(),()) U=true:=by
 simp only[qY,bI,dS,cB];exact⟨by omega,by omega,by omega,by omega,by omega,by omega,h5⟩
theorem O1{m:Nat}{R:P4→List X→Array X}{k L a b:Nat}{d0:Array X}{W:List X}(hl:W.length=L)(h:S.Srt a b d0 W.toArray):(S.pqE L W:Tr (PqX X ⊕ PqR X)).sat (S.PqQ m R k L a b d0):=by
 unfold pqE;rw[S.E.aG,S.E.aP];exact ah rfl (ak ⟨W,rfl,h⟩)
theorem O3{m:Nat}{R:P4→List X→Array X}{k L a b a' b' lim:Nat}{wb wp:Bool}{d0:Array X}{W:List X}{w:Nat}(H:S.PqH m R k L w)(h1:b'-a'<w)(h2:a'≤b')(h3:b'≤L)(h4:lim≤1000)(hl:W.length=L)(hB:S.Bd W)(hlow:Go.Sort.Below S.lt a' b' W.toArray)
  (h: ∀d,Go.Sort.PermIn a' b' W.toArray d→Go.Sort.SortedIn S.lt a' b' d→S.Srt a b d0 d):(S.pqN L W (a':Int) (b':Int) (lim:Int) wb wp:Tr (PqX X ⊕ PqR X)).sat (S.PqQ m R k L a b d0):=by
 unfold pqN;rw[S.E.aG,S.E.aP];refine ah rfl (ak ?_);refine aS.mono ?_ (H a' b' lim wb wp W h1 h2 h3 h4 hl hB hlow);rintro r ⟨V,e,p,q⟩;exact⟨V,e,h _ p q⟩
theorem Yo{m:Nat}{R:P4→List X→Array X}(hR:S.HR m R){k L a b lim mid:Nat}{ap:Bool}{d0:Array X}{U W:List X}(hL:L≤1000000)(hab:a<b)(hbL:b≤L)(hlim:lim≤1000)(hm:b-a≤m)(H:S.PqH m R k L (b-a))(hW:S.Inv L W.toArray)(hP:Go.Sort.PermIn a b d0 U.toArray)
  (hmid:a≤mid∧mid<b) (hla:Go.Sort.Below S.lt a mid W.toArray) (hlb:Go.Sort.Below S.lt (mid+1) b W.toArray)
  (g1: ∀V,Go.Sort.PermIn a mid W.toArray V→Go.Sort.SortedIn S.lt a mid V→Go.Sort.Below S.lt (mid+1) b V∧ ∀Y,Go.Sort.PermIn (mid+1) b V Y→Go.Sort.SortedIn S.lt (mid+1) b Y→Go.Sort.PermIn a b U.toArray Y∧Go.Sort.SortedIn S.lt a b Y)
  (g2: ∀V,Go.Sort.PermIn (mid+1) b W.toArray V→Go.Sort.SortedIn S.lt (mid+1) b V→Go.Sort.Below S.lt a mid V∧ ∀Y,Go.Sort.PermIn a mid V Y→Go.Sort.SortedIn S.lt a mid Y→Go.Sort.PermIn a b U.toArray Y∧Go.Sort.SortedIn S.lt a b Y):
  (S.pqP m R L a b lim mid ap W).sat (S.PqQ m R k L a b d0):=by
 have hWl:W.length=L:=hW.1;have hWb:S.Bd W:=hW.2;unfold pqP;rw[wN (show(mid:Int)-(a:Int)=((mid-a:Nat):Int)by omega) (by omega),wN (show(b:Int)-(mid:Int)=((b-mid:Nat):Int)by omega) (by omega),wN (show(mid:Int)+1=((mid+1:Nat):Int)by omega) (by omega)];refine ah rfl (aj (λhlt=> ?_) λhlt=> ?_)
 ·have q:=S.Kh (m:=m) (lim:=lim) hmid.1 (show mid≤W.length by omega) hlim (by omega) hla
  subst hWl;refine S.jh hL hWb q λV hV=> ?_
  obtain⟨p1,p2⟩:=hR a mid lim W q hL hWb;rw[←hV]at p1 p2;obtain⟨b1,b2⟩:=g1 _ p1 p2;obtain⟨i1,i2⟩:=(Inv.of hWb).perm (by omega) p1;exact S.O3 H (by omega) (by omega) (by omega) hlim i1 i2 b1 λd e1 e2=>⟨Go.Sort.permIn_trans _ _ _ _ _ hP (b2 d e1 e2).1,(b2 d e1 e2).2⟩
 ·have q:=S.Kh (m:=m) (lim:=lim) (show mid+1≤b by omega) (show b≤W.length by omega) hlim (by omega) hlb
  subst hWl;refine S.jh hL hWb q λV hV=> ?_
  obtain⟨p1,p2⟩:=hR (mid+1) b lim W q hL hWb;rw[←hV]at p1 p2;obtain⟨b1,b2⟩:=g2 _ p1 p2;obtain⟨i1,i2⟩:=(Inv.of hWb).perm (by omega) p1;exact S.O3 H (by omega) (by omega) (by omega) hlim i1 i2 b1 λd e1 e2=>⟨Go.Sort.permIn_trans _ _ _ _ _ hP (b2 d e1 e2).1,(b2 d e1 e2).2⟩
theorem ajn{Y:Type}{a b p:Nat}{U:List Y}(h1:a≤p)(h2:p<b)(h3:b≤U.length):Sg ((a:Int),(b:Int),(p:Int),(),()) U=true:=by
 simp only[Sg,bI,dS];omega
theorem Yp{m:Nat}{R:P4→List X→Array X}(hR:S.HR m R){k L a b lim p:Nat}{wb wp:Bool}{d0:Array X}{U:List X}(hL:L≤1000000)(hab:a<b)(hbL:b≤L)(hlim:lim≤1000)(hm:b-a≤m)(H:S.PqH m R k L (b-a))(hp1:a≤p)(hp2:p<b)(hI:S.PqI L a b d0 U):(S.pqT m R L a b lim wb wp p U).sat (S.PqQ m R k L a b d0):=by
 obtain⟨rfl,hB,hP,hlow⟩:=hI;have hp:p<U.length:=by omega
 have bU:b≤U.toArray.size:=by rw[List.size_toArray];exact hbL
 have q:=ajn (U:=U) hp1 hp2 hbL;simp only[pqT];by_cases ha:0<a
 ·have ha1:a-1<U.length:=by omega
  rw[dK (show(a:Int)>0 by omega),wN (show(a:Int)-1=((a-1:Nat):Int)by omega) (by omega),cond_true,cond_true,cond_true,DC hB ha1 hp];refine ah (nP (jl (jl (lC ha1) (lC hp)) (DF hB ha1 hp))) (aj (λh=> ?_) λh=> ?_)
  ·refine S.jh hL hB q λW hW=> ?_
   have e:Go.Sort.partitionEqual S.lt U.toArray a b p=((S.peV ((a:Int),(b:Int),(p:Int),(),()) U).1,W.toArray):=by rw[hW];rfl
   have hnl:S.lt U.toArray[a-1]! U.toArray[p]! =false:=by
    rw[jM,jM];simpa using h
   obtain⟨r1,r2,r3,r4,r5⟩:=Go.Sort.round_eq S.swo (Go.Sort.partitionEqual_holds S.lt) ha hp1 hp2 bU hlow hnl e;have hh:=(Go.Sort.partitionEqual_holds S.lt S.swo U.toArray a b p hp1 hp2 bU (λi hi hi'=>by
    rcases hlow with h0|h0
    ·omega
    ·exact S.swo.ntrans _ _ _ (h0 i hi hi') hnl)).2.2.1
   rw[e]at hh;obtain⟨i1,i2⟩:=(Inv.of hB).perm hbL hh;exact S.O3 H (by omega) r2 hbL hlim i1 i2 r4 λd e1 e2=>⟨Go.Sort.permIn_trans _ _ _ _ _ hP (r5 d e1 e2).1,(r5 d e1 e2).2⟩
  ·refine S.jh hL hB q λW hW=> ?_
   have e:Go.Sort.partition S.lt U.toArray a b p=((S.paV ((a:Int),(b:Int),(p:Int),(),()) U).1,(S.paV ((a:Int),(b:Int),(p:Int),(),()) U).2.1,W.toArray):=by rw[hW];rfl
   obtain⟨r1,r2,r3,r4,r5,r6,r7⟩:=Go.Sort.round_part S.swo (Go.Sort.partition_holds S.lt) hp1 hp2 bU hlow e;have hh:=(Go.Sort.partition_holds S.lt S.swo U.toArray a b p hp1 hp2 bU).2.2.1;rw[e]at hh;exact S.Yo hR hL hab hbL hlim hm H ((Inv.of hB).perm hbL hh) hP ⟨r1,r2⟩ r4 r5 r6 r7
 ·rw[iB (show¬(a:Int)>0 by omega)]
  refine ah rfl (aj (λh=>Bool.noConfusion h) λ_=> ?_);refine S.jh hL hB q λW hW=> ?_
  have e:Go.Sort.partition S.lt U.toArray a b p=((S.paV ((a:Int),(b:Int),(p:Int),(),()) U).1,(S.paV ((a:Int),(b:Int),(p:Int),(),()) U).2.1,W.toArray):=by rw[hW];rfl
  obtain⟨r1,r2,r3,r4,r5,r6,r7⟩:=Go.Sort.round_part S.swo (Go.Sort.partition_holds S.lt) hp1 hp2 bU hlow e;have hh:=(Go.Sort.partition_holds S.lt S.swo U.toArray a b p hp1 hp2 bU).2.2.1;rw[e]at hh;exact S.Yo hR hL hab hbL hlim hm H ((Inv.of hB).perm hbL hh) hP ⟨r1,r2⟩ r4 r5 r6 r7
theorem Ki{Y:Type}{a b:Nat}{U:List Y}(h1:a<b)(h2:b≤U.length):Az ((a:Int),(b:Int),(),()) U=true:=by
 simp only[Az,bI,dS];omega
theorem Yq{m:Nat}{R:P4→List X→Array X}(hR:S.HR m R){k L a b lim p:Nat}{h:Int}{wb wp:Bool}{d0:Array X}{U:List X}(hL:L≤1000000)(hab:a<b)(hbL:b≤L)(hlim:lim≤1000)(hm:b-a≤m)(H:S.PqH m R k L (b-a))(hp1:a≤p)(hp2:p<b)(hI:S.PqI L a b d0 U):(S.pqD m R L a b lim wb wp p h U).sat (S.PqQ m R k L a b d0):=by
 unfold pqD;refine ah (by cases wb<;>cases wp<;>rfl) (aj (λ_=> ?_) λ_=>S.Yp hR hL hab hbL hlim hm H hp1 hp2 hI);obtain⟨e1,e2⟩:=Go.Sort.partialInsertionSort_holds S.swo U.toArray a b hab (by rw[List.size_toArray,hI.len];exact hbL) hI.low;have hlen:=hI.len;subst hlen;refine S.jh hL hI.bd (Ki hab hbL) λW hW=> ?_
 simp only[cB]at hW⊢;rw[←hW]at e1 e2;have hJ:=hI.step hbL e1;exact aj (λht=>S.O1 hJ.len ⟨hJ.perm,e2 ht⟩) λ_=>S.Yp hR hL hab hbL hlim hm H hp1 hp2 hJ
theorem Yr{m:Nat}{R:P4→List X→Array X}(hR:S.HR m R){k L a b lim:Nat}{wb wp:Bool}{d0:Array X}{U:List X}(hL:L≤1000000)(hab:a<b)(hbL:b≤L)(hlim:lim≤1000)(hm:b-a≤m)(H:S.PqH m R k L (b-a))(hI:S.PqI L a b d0 U):(S.pqC m R L a b lim wb wp U).sat (S.PqQ m R k L a b d0):=by
 obtain⟨c1,c2⟩:=Go.Sort.choosePivot_holds S.lt U.toArray a b hab;have hlen:=hI.len;subst hlen;unfold pqC;refine S.jh hL hI.bd (Ki hab hbL) λW hW=> ?_
 simp only[cB];obtain rfl:W=U:=by simpa using hW
 generalize (Go.Sort.choosePivot S.lt W.toArray a b).1=p at*;generalize hc (Go.Sort.choosePivot S.lt W.toArray a b).2=h;refine aj (λ_=> ?_) λ_=>S.Yq hR hL hab hbL hlim hm H c1 c2 hI
 have hr:=Go.Sort.reverseRange_holds W.toArray a b (by omega) (by rw[List.size_toArray];exact hbL);refine S.jh hL hI.bd (Ki hab hbL) λV hV=> ?_
 rw[←hV]at hr;rw[wN (show(b:Int)-1=((b-1:Nat):Int)by omega) (by omega),wN (show(p:Int)-(a:Int)=((p-a:Nat):Int)by omega) (by omega),wN (show((b-1:Nat):Int)-((p-a:Nat):Int)=((b-1-(p-a):Nat):Int)by omega) (by omega)];exact S.Yq hR hL hab hbL hlim hm H (by omega) (by omega) (hI.step hbL hr)
theorem Sj{Y:Type}{a b:Nat}{U:List Y}(h1:a≤b)(h2:b≤U.length):Gb ((a:Int),(b:Int),(),()) U=true:=by
 simp only[Gb,bI,dS];omega
theorem rPq{m:Nat}{R:P4→List X→Array X}(hR:S.HR m R){L:Nat}(hL:L≤1000000): ∀k,k≤m+1→S.PqH m R k L k
 | 0,_=>λa b lim wb wp U h=>absurd h (Nat.not_lt_zero _)
 | k+1,hk=>λa b lim wb wp U h1 hab hbL hlim hl hB hlow=>by
   have H:=rPq hR hL k (by omega);have hI:S.PqI L a b U.toArray U:=⟨hl,hB,Go.Sort.permIn_refl _ _ _,hlow⟩
   subst hl;have bU:b≤U.toArray.size:=by rw[List.size_toArray];exact hbL
   show(S.tPq m R ((U.length,(a:Int),(b:Int),(lim:Int),(),wb,wp,()),(U,()))).sat (S.PqQ m R k U.length a b U.toArray)
   simp only[tPq];rw[wN (show(b:Int)-(a:Int)=((b-a:Nat):Int)by omega) (by omega)];refine aj (λ_=> ?_) λh12=> ?_
   ·refine S.jh hL hB ?_ λW hW=> ?_
    ·simp only[bI,dS];omega
    simp only[cB]at hW;have hh:=Go.Sort.insertionSort_holds S.swo U.toArray a b hab bU;rw[←hW]at hh;exact S.O1 (hI.step hbL hh.1).len hh
   ·have h12:12<b-a:=by simp only[decide_eq_false_iff_not]at h12;omega
    refine aj (λ_=> ?_) λh0=> ?_
    ·refine S.jh hL hB (Sj hab hbL) λW hW=> ?_
     simp only[cB]at hW;have hh:=Go.Sort.heapSort_holds S.swo U.toArray a b hab bU;rw[←hW]at hh;exact S.O1 (hI.step hbL hh.1).len hh
    ·have h0:0<lim:=by simp only[decide_eq_false_iff_not]at h0;omega
     have H':S.PqH m R k U.length (b-a):=λa' b' lim' wb' wp' U' h=>H a' b' lim' wb' wp' U' (by omega)
     refine aj (λ_=> ?_) λ_=>S.Yr hR hL (by omega) hbL hlim (by omega) H' hI
     refine S.jh hL hB (Sj hab hbL) λW hW=> ?_
     have hh:=S.aeb hab hbL hL hB;rw[←hW]at hh;rw[wN (show(lim:Int)-1=((lim-1:Nat):Int)by omega) (by omega)];exact S.Yr hR hL (by omega) hbL (by omega) (by omega) H' (hI.step hbL hh)
theorem aei{m:Nat}(h:S.HR m (S.pdR m)){a b lim:Nat}{wb wp:Bool}{U:List X}(hl:U.length≤1000000)(hB:S.Bd U)(hp:S.qY (m+1) ((a:Int),(b:Int),(lim:Int),(),()) U=true):
  (∃W:List X,((S.lPq m).res ((U.length,(a:Int),(b:Int),(lim:Int),(),wb,wp,()),(U,()))).2=((U.length,()),(W,()))∧S.Srt a b U.toArray W.toArray)∧aS (S.tPq m (S.pdR m)) (· =(S.lPq m).res ((U.length,(a:Int),(b:Int),(lim:Int),(),wb,wp,()),(U,()))) 2000000 ((U.length,(a:Int),(b:Int),(lim:Int),(),wb,wp,()),(U,())):=by
 simp only[qY,bI,dS,cB]at hp;obtain⟨h1,h2,h3,h4,h5,h6,h7⟩:=hp;exact aS.res (S.ajm m (S.pdR m)) (show b-a+1≤2000000 by omega) (S.rPq h hl (b-a+1) (by omega) a b lim wb wp U (by omega) (by omega) (by omega) (by omega) rfl hB h7) _
theorem Wm: ∀m,S.HR m (S.pdR m)
 | 0=>λa b lim U hp hl hB=>by
   simp only[qY,bI,dS]at hp;omega
 | m+1=>λa b lim U hp hl hB=>by
   obtain⟨⟨W,e,h⟩,_⟩:=S.aei (wb:=true) (wp:=true) (Wm m) hl hB hp;have:S.pdR (m+1) ((a:Int),(b:Int),(lim:Int),(),()) U=((S.lPq m).res ((U.length,(a:Int),(b:Int),(lim:Int),(),true,true,()),(U,()))).2.2.1.toArray:=rfl;rw[this,e];exact h
theorem an6{m:Nat}{z:P4}{U:List X}(h:S.qY m z U=true): ∃a b lim:Nat,z=((a:Int),(b:Int),(lim:Int),(),()):=by
 obtain⟨a,b,l,⟨⟩,⟨⟩⟩:=z;simp only[qY,bI,dS]at h;refine⟨a.toNat,b.toNat,l.toNat,?_⟩;rw[Int.toNat_of_nonneg (by omega),Int.toNat_of_nonneg (by omega),Int.toNat_of_nonneg (by omega)]
theorem ara{Γ:FuncId→Option Spec}{f:FuncId}{fn:Func}{m:Nat}(hΓ: ∀f s,Γ f=some s→aH prog f s)
  (h0: ∀x,(exec prog Γ dn 1010 (aR 0 (codeOf fn)) (eY (S.lPq m).nIn ((S.lPq m).head x))).bind ((S.lPq m).fin 1 0)=S.tPq m (S.pdR m) x)
  (hM: ∀n z U,jw prog Γ (E5 1 0 (S.lPq m)) 1010 false fn [some (.arr U.length S.E.n (S.E.el U) S.ty)] (.fK 0 n S.E.n::S.Fp4.args z)=S.MPq m n z U)
  (hf:prog.funcs[f]? =some fn:=by kernel_rfl) (hb:fn.body=some (codeOf fn):=by kernel_rfl) (hn:dz fn=true:=by kernel_rfl)
  (b0:bW (λi=>beq i 0) (codeOf fn)=[(0,.loop (aR 0 (codeOf fn)))]:=by kernel_rfl):fF prog f (S.kPq (m+1)):=by
 refine S.Ka hΓ (rH hΓ (aA _ _) (oJ _ _ _ _ _ _) h0 ?_ b0) hM ?_ hf hb hn
 ·rintro⟨⟨n,a,b,lim,⟨⟩,wb,wp,⟨⟩⟩,⟨U,⟨⟩⟩⟩ hx
  simp only[lPq,Tf,bI]at hx;obtain⟨hx,h2⟩:=hx;obtain⟨rfl,hl,hB⟩:=jm hx;obtain⟨a,b,lim,e⟩:=S.an6 h2;cases e;exact⟨_,(S.aei (S.Wm m) hl hB h2).2⟩
 ·intro z U hl hB hp
  have hq:(S.lPq m).pre ((U.length,z.1,z.2.1,z.2.2.1,(),true,true,()),(U,()))=true:=by
   simp only[lPq,Tf,iO hl hB,Bool.true_and];exact hp
  simp only[MPq,S.E.aG,S.E.aP,hq];exact ah rfl (ah rfl (aj (λ_=>ak (S.DJ rfl)) λ_=>ak (S.DJ rfl)))
theorem ajo{f:FuncId}:fF prog f (S.kPq 0):=by
 refine⟨λents args o C B w vs h _ _ _ _ hc=> ?_⟩;unfold kPq K dU.K at h
 split at h
 ·rename_i x cs hx
  cases h;have:=hc (S.qY 0 x.1.2 x.2.1) (by simp);simp only[qY,bI,dS]at this;omega
 ·cases h
end lT
end Go.bA
namespace Go.bA
open Go.Proofs
theorem aej: ∃m:Nat,m=1000001:=⟨_,rfl⟩
noncomputable def O4:Nat:=Classical.choose aej
theorem ajp:O4=1000001:=Classical.choose_spec aej
namespace lT
variable{X Z:Type} [Inhabited X](S:lT X)
noncomputable section
def zSo(n:Nat)(l:Int):P4:=(0,(n:Int),l,(),())
def MS(U:List X):Array X:=S.pdR O4 (zSo U.length (bitLen U.length:Nat)) U
def kSo:iD:=S.K (.cons (gG S.fc) .nil) (λ_ _=> .fG []) (λ_ U=>S.MS U) λ_ _=>true
def MSo(n:Nat)(U:List X):Tr dx:=
 let w:=u64.wrap (n:Int)
 let z:=zSo n (bitLen w.toNat:Nat)
 need (iK w)<| S.sS n U (S.qY O4 z) (S.pdR O4 z) λ_ W=>ret {val:= .fG [],outs:=[some (.arr W.length S.E.n (S.E.el W) S.ty)]}
end
theorem aek{U:List X}(hl:U.length≤1000000):S.qY O4 (zSo U.length (bitLen U.length:Nat)) U=true:=by
 have hb:bitLen U.length≤20:=bitLen_le.2 (by omega);exact S.Kh (a:=0) (Nat.zero_le _) (Nat.le_refl _) (by omega) (by rw[ajp];omega) (.inl rfl)
theorem an7{U:List X}(hl:U.length≤1000000)(hB:S.Bd U):S.Srt 0 U.length U.toArray (S.MS U):=S.Wm O4 0 U.length _ U (S.aek hl) hl hB
theorem ajq{U:List X}(hl:U.length≤1000000)(hB:S.Bd U):(S.MS U).toList.Perm U∧(S.MS U).toList.Pairwise λx y=>S.lt y x=false:=by
 obtain⟨⟨h1,h2,h3⟩,h4⟩:=S.an7 hl hB;have hs:(S.MS U).size=U.length:=h1;constructor
 ·have e1:(S.MS U).extract 0 U.length=S.MS U:=by rw[←hs];simp
  have e2:U.toArray.extract 0 U.length=U.toArray:=by simp
  rw[e1,e2]at h3;exact h3
 ·rw[List.pairwise_iff_getElem]
  intro i j hi hj hij;rw[Array.length_toList]at hi hj;have:=h4 i j (Nat.zero_le _) hij (by omega);simpa[hi,hj]using this
theorem X3{Γ:FuncId→Option Spec}{f:FuncId}{fn:Func}(hΓ: ∀f s,Γ f=some s→aH prog f s)
  (hM: ∀n z U,jw prog Γ dn 1010 false fn [some (.arr U.length S.E.n (S.E.el U) S.ty)] (.fK 0 n S.E.n::(Form.cons (gG S.fc) .nil).args z)=S.MSo n U)
  (hf:prog.funcs[f]? =some fn:=by kernel_rfl) (hb:fn.body=some (codeOf fn):=by kernel_rfl) (hn:dz fn=true:=by kernel_rfl):fF prog f S.kSo:=by
 refine S.Ka hΓ (aA _ _) hM ?_ hf hb hn;intro z U hl hB hp;have hw:u64.wrap (U.length:Int)=(U.length:Int):=mQ _ (by omega);simp only[MSo,hw,cB];refine ah ?_ (S.jh hl hB (S.aek hl) λW hW=>ak (S.DJ ?_))
 ·simp only[iK,bI,dS]
  omega
 ·show(S.pdR O4 _ U).toList=W
  rw[←hW]
end lT
end Go.bA
namespace Go.bA
open Go.Proofs
def arb:kZ Bool where
 n:=1
 iv:=λn=> [.v (.bool n)]
 V:=λl=>match l with | [.c (.v (.bool n))]=>n | _=>false
 ok:=λl=>match l with | [.c (.v (.bool _))]=>true | _=>false
 d:=false
 ok_eq:=λl h=>by
  split at h
  ·rfl
  ·cases h
 Dq:=λ_=>rfl
 pY:=λ_=>rfl
 len:=λ_=>rfl
def kZ.pair{X Y:Type}(E:kZ X)(H:kZ Y):kZ (X×Y) where
 n:=E.n+H.n
 iv:=λu=>E.iv u.1++H.iv u.2
 V:=λl=>⟨E.V (l.take E.n),H.V (l.drop E.n)⟩
 ok:=λl=>E.ok (l.take E.n)&&H.ok (l.drop E.n)
 d:=⟨E.d,H.d⟩
 ok_eq:=by
  intro l h;simp only[bI]at h;rw[List.map_append, ←E.ok_eq _ h.1, ←H.ok_eq _ h.2,List.take_append_drop]
 Dq:=by
  intro u;have e:(E.iv u.1).length=E.n:=E.len _;rw[List.map_append, ←e, ←List.length_map (f:=AV.c),List.take_left,List.drop_left,E.Dq,H.Dq]
 pY:=by
  intro u;have e:(E.iv u.1).length=E.n:=E.len _;rw[List.map_append, ←e, ←List.length_map (f:=AV.c),List.take_left,List.drop_left,E.pY,H.pY];rfl
 len:=by
  intro u;rw[List.length_append,E.len,H.len]
def kZ.iso{X Y:Type}(E:kZ X)(f:X→Y)(g:Y→X)(h1: ∀x,g (f x)=x)(h2: ∀y,f (g y)=y):kZ Y where
 n:=E.n
 iv:=λy=>E.iv (g y)
 V:=λl=>f (E.V l)
 ok:=E.ok
 d:=f E.d
 ok_eq:=λl h=>by rw[h1];exact E.ok_eq l h
 Dq:=λy=>by rw[E.Dq,h2]
 pY:=λy=>E.pY _
 len:=λy=>E.len _
structure Ev where
 b:DW
 n0:Int
 n1:Int
def nT:kZ DW:=(eR3.pair arb).iso (λp=>⟨p.1,p.2⟩) (λb=>(b.t,b.k)) (λ_=>rfl) (λ_=>rfl)
def jv:kZ Ev:=(nT.pair (mV.pair mV)).iso (λp=>⟨p.1,p.2.1,p.2.2⟩) (λe=>(e.b,e.n0,e.n1)) (λ_=>rfl) (λ_=>rfl)
def uF(x y:DW):Int:=if fV x.t y.t≠0 then fV x.t y.t else if x.k=y.k then 0 else if y.k then -1 else 1
def KBc:List AV→Option (AV×List Bool):=(F2 nT.jZ nT.jZ).K (λx=>bR .i64 (uF x.1 x.2.1)) λx=> [iH 100000 x.1.t,iH 100000 x.2.1.t]
def MBc(x y:DW):Tr AV:=
 let A:=aQ x.t
 let B:=aQ y.t
 let n:=fV (bK A) (bK B)
 need (dh A)<| need (dh B)<| need (iH 100000 (bK A))<| need (iH 100000 (bK B))<| Tr.ite (!(n==0)) (ret (bR .i64 n)) (Tr.ite (x.k==y.k) (ret (bR .i64 0)) (Tr.ite y.k (ret (bR .i64 (-1))) (ret (bR .i64 1))))
theorem ael:aF prog 165 KBc:=by
 refine(F2 nT.jZ nT.jZ).pk (pz VA) (fn:=Tryz.f165) (M:=λx=>MBc x.1 x.2.1) (λx=>by obtain⟨a,b,⟨⟩⟩:=x;kernel_rfl) ?_;rintro⟨x,y,⟨⟩⟩ h;have h1:iH 100000 x.t=true:=h _ (by simp);have h2:iH 100000 y.t=true:=h _ (by simp);simp only[MBc,bT,dw,h1,h2,sat_true,uF];by_cases h0:fV x.t y.t=0
 ·rw[h0]
  refine aj (λh=>by cases h) λ_=>aj (λh=>ak ?_) λh=>aj (λk=>ak ?_) λk=>ak ?_
  ·rw[if_neg (by simp),if_pos (by simpa using h)]
  ·rw[if_neg (by simp),if_neg (by simpa using h),if_pos k]
  ·rw[if_neg (by simp),if_neg (by simpa using h),if_neg (by simp[k])]
 ·rw[if_pos h0]
  exact aj (λ_=>ak rfl) λh=>by simp[h0]at h
def qL(e:Ev):Bool:=iH 100000 e.b.t&&(decide (e.b.t.r=0)&& !e.b.t.neg)
def KEv:List AV→Option (AV×List Bool):=(F2 jv.jZ jv.jZ).K (λx=>bR .i64 (uF x.1.b x.2.1.b)) λx=> [qL x.1,qL x.2.1]
def MEv(x y:DW):Tr AV:=
 let A:=(nT.iv x).map AV.c
 let B:=(nT.iv y).map AV.c
 need (nT.ok A)<| need (nT.ok B)<| need (iH 100000 (nT.V A).t)<| need (iH 100000 (nT.V B).t)<| ret (bR .i64 (uF (nT.V A) (nT.V B)))
theorem AB:aF prog 189 KEv:=by
 refine(F2 jv.jZ jv.jZ).pk (pz ael) (fn:=Tryz.f189) (M:=λx=>MEv x.1.b x.2.1.b) (λx=>by obtain⟨a,b,⟨⟩⟩:=x;kernel_rfl) ?_;rintro⟨x,y,⟨⟩⟩ h;have h1:qL x=true:=h _ (by simp);have h2:qL y=true:=h _ (by simp);simp only[qL,bI]at h1 h2;simp only[MEv,nT.Dq,nT.pY,h1.1,h2.1,sat_true];exact ak rfl
def KFs:List AV→Option (AV×List Bool):=(F1 fQ.jZ).K (λx=> .agg ((nT.iv (mU x.1)).map AV.c)) λ_=> []
def KLs:List AV→Option (AV×List Bool):=(F1 fQ.jZ).K (λx=> .agg ((nT.iv (lsB x.1)).map AV.c)) λ_=> []
def KBw:List AV→Option (AV×List Bool):=(F2 nT.jZ nT.jZ).K (λx=> .agg ((fQ.iv ⟨x.1.t,x.2.1.t,x.1.k, !x.2.1.k⟩).map AV.c)) λ_=> []
theorem ak7:aF prog 166 KFs:=
 (F1 fQ.jZ).pk eH (fn:=Tryz.f166) (M:=λx=>ret (.agg ((nT.iv (mU x.1)).map AV.c))) (λx=>by obtain⟨a,⟨⟩⟩:=x;kernel_rfl) λ_ _=>ak rfl
theorem ak8:aF prog 167 KLs:=
 (F1 fQ.jZ).pk eH (fn:=Tryz.f167) (M:=λx=>ret (.agg ((nT.iv (lsB x.1)).map AV.c))) (λx=>by obtain⟨a,⟨⟩⟩:=x;kernel_rfl) λ_ _=>ak rfl
theorem ard:aF prog 190 KBw:=
 (F2 nT.jZ nT.jZ).pk eH (fn:=Tryz.f190) (M:=λx=>ret (.agg ((fQ.iv ⟨x.1.t,x.2.1.t,x.1.k, !x.2.1.k⟩).map AV.c))) (λx=>by obtain⟨a,b,⟨⟩⟩:=x;kernel_rfl) λ_ _=>ak rfl
instance:Inhabited Ev:=⟨jv.d⟩
def O5(x y:Ev):Bool:=decide (x.b.t.p<y.b.t.p) || (decide (x.b.t.p=y.b.t.p)&&(!x.b.k&&y.b.k))
theorem DK:Go.Sort.SWO O5 where
 irrefl:=λx=>by
  unfold O5;rw[iB (Rat.lt_irrefl)];cases x.b.k<;>simp
 trans:=λx y z h1 h2=>by
  simp only[O5,Bool.or_eq_true,bI,dS,Bool.not_eq_true']at h1 h2⊢;rcases h1 with h1|⟨e1,a1,b1⟩<;>rcases h2 with h2|⟨e2,a2,b2⟩
  ·exact .inl (by grind)
  ·exact .inl (by grind)
  ·exact .inl (by grind)
  ·rw[b1]at a2;cases a2
 ntrans:=λx y z h1 h2=>by
  simp only[O5,Bool.or_eq_false_iff,decide_eq_false_iff_not,Rat.not_lt]at h1 h2⊢;obtain⟨h1,k1⟩:=h1;obtain⟨h2,k2⟩:=h2;refine⟨Rat.le_trans h2 h1,?_⟩;by_cases e:x.b.t.p=z.b.t.p
  ·have e1:x.b.t.p=y.b.t.p:=by grind
   have e2:y.b.t.p=z.b.t.p:=by grind
   rw[dK e1,Bool.true_and]at k1;rw[dK e2,Bool.true_and]at k2;rw[dK e,Bool.true_and];revert k1 k2;cases x.b.k<;>cases y.b.k<;>cases z.b.k<;>decide
  ·rw[iB e];rfl
theorem qM{x:Ev}(h:qL x=true):iH 100000 x.b.t=true∧F7 x.b.t:=by
 simp only[qL,bI,dS,Bool.not_eq_true']at h;exact h
theorem O6(x y:Ev)(hx:qL x=true)(hy:qL y=true):decide (uF x.b y.b<0)=O5 x y:=by
 have ox:=(qM hx).2;have oy:=(qM hy).2;unfold uF O5;rw[rG ox oy];rcases wZ (x.b.t.p-y.b.t.p)with⟨h,e⟩|⟨h,e⟩|⟨h,e⟩
 ·rw[e,if_pos (by decide),dK (show x.b.t.p<y.b.t.p by grind)]
  rfl
 ·rw[e,if_neg (by decide),iB (show¬x.b.t.p<y.b.t.p by grind),dK (show x.b.t.p=y.b.t.p by grind)]
  cases x.b.k<;>cases y.b.k<;>decide
 ·rw[e,if_pos (by decide),iB (show¬x.b.t.p<y.b.t.p by grind),iB (show¬x.b.t.p=y.b.t.p by grind)]
  rfl
def sE:lT Ev:=⟨jv,λx y=>uF x.b y.b,qL,O5,189,305,rfl,DK,O6⟩
end Go.bA
namespace Go.bA
open Go.Proofs
def ΓM(f:FuncId)(K:iD):FuncId→Option Spec:=λg=>bif beq g f then some (eB K)else none
theorem aem{f:FuncId}{K:iD}(h:fF prog f K): ∀g s,ΓM f K g=some s→aH prog g s:=bM h.spec
theorem ajr:fF prog 270 sE.anY:=sE.anZ (fn:=Tryz.f270) (pz AB) (λx=>by obtain⟨⟨n,a,b,⟨⟩,i,j,⟨⟩⟩,⟨U,⟨⟩⟩⟩:=x;kernel_rfl) (λx=>by obtain⟨⟨n,a,b,⟨⟩,i,⟨⟩⟩,⟨U,⟨⟩⟩⟩:=x;kernel_rfl) (λn z U=>by obtain⟨a,b,⟨⟩,⟨⟩⟩:=z;kernel_rfl)
theorem an8:fF prog 308 sE.kO2:=sE.aqR (fn:=Tryz.f308) (pz AB) (λn z U s=>by obtain⟨a,b,⟨⟩,⟨⟩,⟨⟩⟩:=z;kernel_rfl)
theorem aen:fF prog 297 sE.kMe:=sE.aqS (fn:=Tryz.f297) (aem an8) (λn z U s=>by obtain⟨a,b,c,⟨⟩,⟨⟩,⟨⟩⟩:=z;kernel_rfl)
theorem an9:fF prog 296 sE.kMa:=sE.aqT (fn:=Tryz.f296) (aem aen) (λn z U s=>by obtain⟨a,⟨⟩,⟨⟩,⟨⟩⟩:=z;kernel_rfl)
noncomputable def ΓCp (X:Type) [Inhabited X](S:lT X)(f g:FuncId):FuncId→Option Spec:=λh=>bif beq h f then some (eB S.kMe)else bif beq h g then some (eB S.kMa)else none
theorem aoa:fF prog 273 sE.kCp:=sE.aqU (fn:=Tryz.f273) (Γ:=ΓCp Ev sE 297 296) (step_ok aen.spec (bM an9.spec)) (λn z U=>by obtain⟨a,b,⟨⟩,⟨⟩⟩:=z;kernel_rfl)
theorem aob:fF prog 274 sE.kRv:=sE.aqV (fn:=Tryz.f274) nD (λx=>by obtain⟨⟨n,i,j,⟨⟩⟩,⟨U,⟨⟩⟩⟩:=x;kernel_rfl) (λn z U=>by obtain⟨a,b,⟨⟩,⟨⟩⟩:=z;kernel_rfl)
theorem aoc:fF prog 295 sE.kSf:=sE.aqW (fn:=Tryz.f295) (pz AB) (λx=>by obtain⟨⟨n,a,b,⟨⟩,i,⟨⟩⟩,⟨U,⟨⟩⟩⟩:=x;kernel_rfl) (λn z U=>by obtain⟨a,b,c,⟨⟩,⟨⟩⟩:=z;kernel_rfl)
theorem aod:fF prog 271 sE.kHs:=sE.aqX (fn:=Tryz.f271) (aem aoc) (λx=>by obtain⟨⟨n,⟨⟩,a,b,c,i,⟨⟩⟩,⟨U,⟨⟩⟩⟩:=x;kernel_rfl) (λx=>by obtain⟨⟨n,⟨⟩,a,b,i,⟨⟩⟩,⟨U,⟨⟩⟩⟩:=x;kernel_rfl) (λn z U=>by obtain⟨a,b,⟨⟩,⟨⟩⟩:=z;kernel_rfl)
noncomputable def ΓBp:FuncId→Option Spec:=λh=>bif beq h 252 then some (eB kNx)else bif beq h 251 then some (au aq1)else none
theorem aoe: ∀f s,ΓBp f=some s→aH prog f s:=step_ok aq0.spec (bM an3.spec)
theorem aof:fF prog 272 sE.kBp:=sE.aq2 (fn:=Tryz.f272) aoe (λx=>by obtain⟨⟨n,a,b,⟨⟩,m,i,⟨⟩⟩,⟨U,⟨s,⟨⟩⟩⟩⟩:=x;kernel_rfl) (λn z U=>by obtain⟨a,b,⟨⟩,⟨⟩⟩:=z;kernel_rfl)
theorem aog:fF prog 276 sE.kPe:=sE.aq4 (fn:=Tryz.f276) (pz AB) (λx=>by obtain⟨⟨n,a,⟨⟩,i,j,⟨⟩⟩,⟨U,⟨⟩⟩⟩:=x;kernel_rfl) (λx=>by obtain⟨⟨n,a,⟨⟩,i,j,⟨⟩⟩,⟨U,⟨⟩⟩⟩:=x;kernel_rfl) (λx=>by obtain⟨⟨n,a,⟨⟩,i,j,⟨⟩⟩,⟨U,⟨⟩⟩⟩:=x;kernel_rfl) (λn z U=>by obtain⟨a,b,c,⟨⟩,⟨⟩⟩:=z;kernel_rfl)
theorem aoh:fF prog 275 sE.kPi:=sE.aq9 (fn:=Tryz.f275) (pz AB)
 (MQ (i1:=2) (i2:=4) (i3:=6) (N:=1010) (pz AB) (aA _ _) (aA _ _) (aA _ _) (cZ _ _ _ _ _ _) (cZ _ _ _ _ _ _) (cZ _ _ _ _ _ _) rfl (λx=>by obtain⟨⟨n,a,b,⟨⟩,r,i,j,⟨⟩⟩,⟨U,⟨⟩⟩⟩:=x;kernel_rfl) (λx=>by obtain⟨⟨n,a,b,⟨⟩,r,i,j,k,⟨⟩⟩,⟨U,⟨⟩⟩⟩:=x;kernel_rfl) (λx=>by obtain⟨⟨n,a,b,⟨⟩,r,i,j,k,⟨⟩⟩,⟨U,⟨⟩⟩⟩:=x;kernel_rfl) sE.aji (sE.Yl (u:=false)) (sE.Yl (u:=true)))
 (λx=>by obtain⟨⟨n,a,b,⟨⟩,r,i,j,⟨⟩⟩,⟨U,⟨⟩⟩⟩:=x;kernel_rfl) (λn z U=>by obtain⟨a,b,⟨⟩,⟨⟩⟩:=z;kernel_rfl)
theorem aoi:fF prog 277 sE.kPa:=sE.aq6 (fn:=Tryz.f277) (pz AB)
 (MQ (i1:=0) (i2:=2) (i3:=4) (N:=1010) (l1:=sE.pU) (l2:=sE.pD) (l3:=sE.pM) (pz AB) (aA _ _) (aA _ _)
  (HV (i1:=6) (i2:=8) (N:=1010) (l1:=sE.pU) (l2:=sE.pD) (pz AB) (aA _ _) (aA _ _) (cZ _ _ _ _ _ _) (cZ _ _ _ _ _ _) rfl (λx=>by obtain⟨⟨n,a,⟨⟩,i,j,⟨⟩⟩,⟨U,⟨⟩⟩⟩:=x;kernel_rfl) (λx=>by obtain⟨⟨n,a,⟨⟩,i,j,⟨⟩⟩,⟨U,⟨⟩⟩⟩:=x;kernel_rfl) sE.zQ sE.zQ) (cZ _ _ _ _ _ _) (cZ _ _ _ _ _ _) (cZ _ _ _ _ _ _) rfl (λx=>by obtain⟨⟨n,a,⟨⟩,i,j,⟨⟩⟩,⟨U,⟨⟩⟩⟩:=x;kernel_rfl) (λx=>by obtain⟨⟨n,a,⟨⟩,i,j,⟨⟩⟩,⟨U,⟨⟩⟩⟩:=x;kernel_rfl) (λx=>by obtain⟨⟨n,a,⟨⟩,i,j,⟨⟩⟩,⟨U,⟨⟩⟩⟩:=x;kernel_rfl) sE.zQ sE.zQ sE.Yk)
 (λn z U=>by obtain⟨a,b,c,⟨⟩,⟨⟩⟩:=z;kernel_rfl)
noncomputable def ΓPq (X:Type) [Inhabited X](S:lT X)(K:List AV→Option (AV×List Bool))(f1 f2 f3 f4 f5 f6 f7 f8 f9:FuncId)(m:Nat):FuncId→Option Spec:=λf=>
 bif beq f S.fc then some (au K)else bif beq f f1 then some (eB (S.kPq m))else bif beq f f2 then some (eB S.anY)else bif beq f f3 then some (eB S.kHs)else bif beq f f4 then some (eB S.kBp)else bif beq f f5 then some (eB S.kCp)
 else bif beq f f6 then some (eB S.kRv)else bif beq f f7 then some (eB S.kPi)else bif beq f f8 then some (eB S.kPe)else bif beq f f9 then some (eB S.kPa)else none
theorem aeo: ∀m,fF prog 240 (sE.kPq m)
 | 0=>sE.ajo
 | m+1=>sE.ara (fn:=Tryz.f240) (Γ:=ΓPq Ev sE KEv 240 270 271 272 273 274 275 276 277 m)
   (step_ok AB.spec (step_ok (aeo m).spec (step_ok ajr.spec (step_ok aod.spec (step_ok aof.spec (step_ok aoa.spec (step_ok aob.spec (step_ok aoh.spec (step_ok aog.spec (bM aoi.spec))))))))))
   (λx=>by obtain⟨⟨n,a,b,lim,⟨⟩,wb,wp,⟨⟩⟩,⟨U,⟨⟩⟩⟩:=x;kernel_rfl) (λn z U=>by obtain⟨a,b,lim,⟨⟩,⟨⟩⟩:=z;kernel_rfl)
noncomputable def ΓSo:FuncId→Option Spec:=λh=>bif beq h 240 then some (eB (sE.kPq O4))else bif beq h 177 then some (au abd)else none
theorem aoj:fF prog 188 sE.kSo:=sE.X3 (fn:=Tryz.f188) (iE (Γ:=ΓSo) (step_ok (aeo O4).spec (bM NN.spec))) (λn z U=>by obtain⟨⟨⟩,⟨⟩⟩:=z;kernel_rfl)
end Go.bA
namespace Go.bA
open Go.Proofs
def kZ.argN{X:Type}(E:kZ X):Arg (List X) where
 get:=λa=>match a with
  | .c (.sl n sz el)=>bif beq sz E.n then some (E.list n el,[E.oks n el])else none
  | .c (.v (.slice none 0 0))=>some ([],[])
  | _=>none
 put:=E.sl
 ok:=by
  intro a x cs h hc
  split at h
  ·exact E.arg.ok _ _ _ h hc
  ·simp only[fu,Prod.mk.injEq]at h
   obtain⟨rfl,rfl⟩:=h;intro A B w u hu;cases hu with
   | c x v h=>cases h with|v x=>exact .c _ _ (.nil _ _)
  ·cases h
def aok(n sz:Nat)(t:TypeId):Jt (Nat→List IV) where
 get:=λe=>match e with|some (.arr n' sz' el t')=>bif beq n n'&&(beq sz sz'&&beq t t')then some (el,[])else none | _=>none
 put:=λel=>some (.arr n sz el t)
 ok:=by
  intro e x cs h hc
  split at h
  ·rename_i n' sz' el t'
   cases hb:(beq n n'&&(beq sz sz'&&beq t t'))with
   | false=>rw[hb]at h;cases h
   | true=>
     rw[hb]at h;simp only[cond_true,fu,Prod.mk.injEq]at h;obtain⟨rfl,rfl⟩:=h;simp only[bI]at hb;obtain rfl:n=n':=by simpa using hb.1
     obtain rfl:sz=sz':=by simpa using hb.2.1
     obtain rfl:t=t':=by simpa using hb.2.2
     exact .refl _
  ·cases h
def arf:Arg Bool where
 get:=λa=>match a with | .c (.v (.int .i64 0))=>some (false,[]) | .c (.v (.int .i64 1))=>some (true,[]) | _=>none
 put:=λb=> .c (.v (.int .i64 (bif b then 1 else 0)))
 ok:=by
  intro a x cs h hc
  split at h
  ·cases h;exact bL.refl _
  ·cases h;exact bL.refl _
  ·cases h
abbrev SwX:=(Unit×Nat×Bool×Nat×Int×Int×List Ig×Int×Int×Unit)×(List Ev×((Nat→List IV)×Unit))
abbrev SwR:=(Unit×Nat×Nat×Int×Int×Unit)×(List Ev×((Nat→List IV)×Unit))
def evs(w:Bool)(i:Ig):List Ev:=[⟨mU i,bif w then 0 else 1,bif w then 1 else 0⟩,⟨lsB i,bif w then 0 else -1,bif w then -1 else 0⟩]
def eSw:kr (List Ev×((Nat→List IV)×Unit)):= .cons (jv.ent 305) (.cons (aok 2 1 91) .nil)
def lSw:bC SwX SwR:=
 lD {nt:=127,live:=[2,7,8,23,24,25,30,31,32],lifts:=[(7,12,305)]} {nt:=127,live:=[2,7,23,24,25]}
  (.with eSw (.cons (gG 149) (.cons (dZ 0 12) (.cons arf (.cons (dZ 1 1) (.cons aX (.cons aX (.cons fQ.arg (.cons aX (.cons aX .nil))))))))))
  (.with eSw (.cons (gG 149) (.cons (dZ 0 12) (.cons (dZ 1 1) (.cons aX (.cons aX .nil))))))
  (λx=>(((),x.1.2.1+2*x.1.2.2.2.2.2.2.1.length,x.1.2.2.2.1,x.1.2.2.2.2.1,x.1.2.2.2.2.2.1,()),(x.2.1++x.1.2.2.2.2.2.2.1.flatMap (evs x.1.2.2.1),x.2.2)))
  (λx=>decide (x.1.2.1=x.2.1.length)&&(decide (x.2.1.length≤300000)&&(decide (x.1.2.2.2.2.2.2.1.length≤100000)&&(decide (x.1.2.2.2.2.2.2.2.1=(x.1.2.2.2.2.2.2.1.length:Int))&&decide (x.1.2.2.2.2.2.2.2.2.1=0)))))
def tSw(x:SwX):Tr (SwX ⊕ SwR):=
 let n:=x.1.2.1
 let w:=x.1.2.2.1
 let A:=x.1.2.2.2.2.2.2.1
 let l:=x.1.2.2.2.2.2.2.2.1
 let i:=x.1.2.2.2.2.2.2.2.2.1
 let O:=x.2.1
 let e:=(fQ.iv (A.getD i.toNat fQ.d)).map AV.c
 let c:=jv.iv ⟨mU (fQ.V e),bif w then 0 else 1,bif w then 1 else 0⟩++jv.iv ⟨lsB (fQ.V e),bif w then 0 else -1,bif w then -1 else 0⟩
 let el:=dH n (jv.el O) λk=>(c.drop (k*12)).take 12
 Tr.ite (decide (i<l))
  (need (decide (0≤i∧i<(A.length:Int)))<| need (fQ.ok e)<| need (fQ.ok e)<| need true<| need true<|
   need (decide (n≤O.length))<| need true<| need (decide (n+2≤9223372036854775807))<| need (decide ((n+2)*128≤140737488355328))<|
   need (fQ.oks A.length (fQ.el A))<| need (jv.oks (n+2) el)<| ret (Sum.inl (((),n+2,w,x.1.2.2.2.1,x.1.2.2.2.2.1,x.1.2.2.2.2.2.1,fQ.list A.length (fQ.el A),l,i64.wrap (i+1),()),(jv.list (n+2) el,x.2.2))))
  (need (jv.oks O.length (jv.el O))<| ret (Sum.inr (((),n,x.1.2.2.2.1,x.1.2.2.2.2.1,x.1.2.2.2.2.2.1,()),(jv.list O.length (jv.el O),x.2.2))))
end Go.bA
namespace Go.bA
open Go.Proofs
abbrev SvE:=List Ev×(List Ig×((Int×Int)×(DW×Unit)))
abbrev SvX:=(Unit×Nat×Nat×Unit×Unit×Bool×Nat×Int×Int×Unit)×SvE
abbrev SvR:=(Nat×Unit)×(List Ig×Unit)
def eSv:kr SvE:= .cons (jv.ent 305) (.cons (fQ.ent 38) (.cons (aaq (mV.pair mV) 63) (.cons (aaq nT 274) .nil)))
def FSv:dU SvX:= .with eSv (.cons (gG 149) (.cons (dZ 0 12) (.cons (dZ 1 20) (.cons (mP 2 0) (.cons (mP 3 0) (.cons kG (.cons (dZ 0 12) (.cons aX (.cons aX .nil)))))))))
def nSv:Norm:={nt:=127,live:=[2,7,14,15,16,17,57,58,59],lifts:=[(14,20,38)]}
def oSv:Norm:={nt:=127,live:=[14]}
def GSv:dU SvR:= .with (.cons (fQ.ent 38) .nil) (.cons (dZ 0 20) .nil)
def svN(x:SvX)(n:Nat)(l:Nat)(el:Nat→List IV)(a b:Int)(f:List AV)(r:Bool):Tr (SvX ⊕ SvR):=
 let U:=x.2.1
 need (jv.oks U.length (jv.el U))<| need (fQ.oks l el)<| need true<| need (nT.ok f)<|
  ret (Sum.inl (((),x.1.2.1,n,(),(),r,x.1.2.2.2.2.2.2.1,x.1.2.2.2.2.2.2.2.1,i64.wrap (x.1.2.2.2.2.2.2.2.2.1+1),()),(jv.list U.length (jv.el U),(fQ.list l el,((a,b),(nT.V f,()))))))
def tSv(x:SvX):Tr (SvX ⊕ SvR):=
 let n:=x.1.2.1
 let m:=x.1.2.2.1
 let r:=x.1.2.2.2.2.2.1
 let i:=x.1.2.2.2.2.2.2.2.2.1
 let U:=x.2.1
 let O:=x.2.2.1
 let j:=i64.wrap (i+1)
 let e:=U.getD i.toNat jv.d
 let A:=(nT.iv e.b).map AV.c
 let B:=(nT.iv (U.getD j.toNat jv.d).b).map AV.c
 let F:=(nT.iv x.2.2.2.2.1).map AV.c
 let a:=i64.wrap (x.2.2.2.1.1+e.n0)
 let b:=i64.wrap (x.2.2.2.1.2+e.n1)
 let c:=decide (j<(n:Int))
 let w:=bif decide (a>0)then true else decide (b>0)
 let g:Ig:=⟨(nT.V F).t,(nT.V A).t,(nT.V F).k, !(nT.V A).k⟩
 Tr.ite (decide (i<x.1.2.2.2.2.2.2.2.1))
  (Tr.needs (lT.gi x.1.2.2.2.2.2.2.1 U i++[true,true,true,true,true,true])<|
   need (bif c then ands (lT.gi n U j++[nT.ok A,nT.ok B,iH 100000 (nT.V A).t,iH 100000 (nT.V B).t])else true)<|
   Tr.ite (bif c then bif true then uF (nT.V A) (nT.V B)==0 else false else false) (svN x m O.length (fQ.el O) a b F r)<|
   need true<| need true<| need (bif decide (a>0)then true else true)<| need (bif w then true else true)<|
   Tr.ite (bif w then bif true then !r else false else false) (svN x m O.length (fQ.el O) a b A w)<|
   need (bif !w then true else true)<|
   Tr.ite (bif !w then bif true then r else false else false)
    (need (nT.ok F)<| need (nT.ok A)<| Z7 fQ 216 m O (fQ.iv g) λk el=>svN x k k el a b F w)
    (svN x m O.length (fQ.el O) a b F w))
  (need (fQ.oks O.length (fQ.el O))<| ret (Sum.inr ((m,()),(fQ.list O.length (fQ.el O),()))))
end Go.bA
