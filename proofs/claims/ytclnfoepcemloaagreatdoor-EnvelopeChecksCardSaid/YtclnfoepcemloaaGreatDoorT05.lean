/- Helpers for the proof: no statement of its own. -/
import Derived.Test.YtclnfoepcemloaaGreatDoorT00
import Derived.Test.YtclnfoepcemloaaGreatDoorT04
import Derived.Test.YtclnfoepcemloaaGreatDoorT03
import Derived.Test.YtclnfoepcemloaaGreatDoorT02
import Derived.Test.YtclnfoepcemloaaGreatDoorT01
import Derived.RangeFuncRecord
set_option linter.unusedVariables false
set_option linter.unusedSimpArgs false
set_option linter.unnecessarySimpa false
set_option linter.deprecated false
set_option maxRecDepth 1000000
open Go.IntKind(i64 u64 u32)
open Nat(beq)
open Go.Proofs.Tryz(prog)
open Go.bA.Tr(need ret)
namespace Go.bA
open Go.Proofs
def tL(x y:DW):Bool:=decide (x.t.p<y.t.p) || (decide (x.t.p=y.t.p)&&(!x.k&&y.k))
theorem aep:Go.Sort.SWO tL:=⟨λx=>DK.irrefl ⟨x,0,0⟩,λx y z=>DK.trans ⟨x,0,0⟩ ⟨y,0,0⟩ ⟨z,0,0⟩,λx y z=>DK.ntrans ⟨x,0,0⟩ ⟨y,0,0⟩ ⟨z,0,0⟩⟩
theorem ajs{x y z:DW}(h:tL x y=true)(k:tL z y=false):tL x z=true:=by
 cases e:tL x z with
 | true=>rfl
 | false=>rw[aep.ntrans x z y e k]at h;cases h
theorem aer{x y:Ev}(hx:qL x=true)(hy:qL y=true)(h:uF x.b y.b≠0)(k:tL y.b x.b=false):tL x.b y.b=true:=by
 have e1:=O6 x y hx hy;have e2:=O6 y x hy hx;have ox:=(qM hx).2;have oy:=(qM hy).2;have e3:uF x.b y.b≤0:=by
  have:O5 y x=false:=k;rw[this]at e2;have e2:=of_decide_eq_false e2;unfold uF at e2⊢;rw[mG ox oy]at e2;rcases sQ ox oy with c|c|c
  ·rw[c,if_pos (by decide)];decide
  ·rw[c]at e2⊢
   revert e2;cases x.b.k<;>cases y.b.k<;>decide
  ·rw[c,if_pos (by decide)]at e2
   exact absurd (by decide) e2
 have:O5 x y=true:=by
  rw[←e1];exact dA
 exact this
structure SvI (U:List Ev) (i:Nat) (O:List Ig) (f:DW) (r:Bool):Prop where
 len:O.length≤i
 fs: ∀g∈O, ∃e∈U,mU g=e.b
 ls: ∀g∈O, ∃e∈U,lsB g=e.b
 own: ∀g∈O,tL (mU g) (lsB g)=true
 chain:O.Pairwise λg h=>tL (lsB g) (mU h)=true
 next: ∀g∈O, ∀k,i≤k→k<U.length→tL (lsB g) (U.getD k jv.d).b=true
 inn:r=true→(∃e∈U,f=e.b)∧(∀k,i≤k→k<U.length→tL f (U.getD k jv.d).b=true)∧ ∀g∈O,tL (lsB g) f=true
def SvQ(U:List Ev)(z:SvR):Prop:= ∃O:List Ig,z=((O.length,()),(O,()))∧O.length≤U.length∧(∀g∈O, ∃e∈U,mU g=e.b)∧(∀g∈O, ∃e∈U,lsB g=e.b)∧(∀g∈O,tL (mU g) (lsB g)=true)∧O.Pairwise λg h=>tL (lsB g) (mU h)=true
theorem SvI.step{U:List Ev}{i:Nat}{O:List Ig}{f:DW}{r:Bool}(h:SvI U i O f r):SvI U (i+1) O f r:=
 ⟨by have:=h.len;omega,h.fs,h.ls,h.own,h.chain,λg hg k hk=>h.next g hg k (by omega),λhr=>⟨(h.inn hr).1,λk hk=>(h.inn hr).2.1 k (by omega),(h.inn hr).2.2⟩⟩
theorem SvI.off{U:List Ev}{i:Nat}{O:List Ig}{f f':DW}{r:Bool}(h:SvI U i O f r):SvI U i O f' false:=
 ⟨h.len,h.fs,h.ls,h.own,h.chain,h.next,λhr=>by cases hr⟩
theorem ajt{U:List Ev}{n m i:Nat}{k:Nat}{r0 r:Bool}{O O':List Ig}{ab:Int×Int}{a b:Int}{f0 f:DW}{el:Nat→List IV}{Q:SvX ⊕ SvR→Prop}(hl:i<100000)(h1:fQ.list k el=O')(h2:fQ.oks k el=true)
  (h:Q (.inl (((),U.length,n,(),(),r,U.length,(U.length:Int),((i+1:Nat):Int),()),(U,(O',((a,b),(f,()))))))):(svN (((),U.length,m,(),(),r0,U.length,(U.length:Int),(i:Int),()),(U,(O,(ab,(f0,()))))) n k el a b ((nT.iv f).map AV.c) r).sat Q:=by
 have w1:i64.wrap ((i:Int)+1)=((i+1:Nat):Int):=kU;simp only[svN,jv.aG,jv.aP,h1,h2,nT.pY,nT.Dq,w1];exact ah rfl (ah rfl (ah rfl (ah rfl (ak h))))
theorem rSv(U:List Ev)(hl:U.length≤100000)(hB:U.all qL=true)(hs:U.Pairwise λx y=>tL y.b x.b=false): ∀(k i:Nat) (O:List Ig) (ab:Int×Int) (f:DW) (r:Bool),i+k=U.length→SvI U i O f r→
  aS tSv (SvQ U) (k+1) (((),U.length,O.length,(),(),r,U.length,(U.length:Int),(i:Int),()),(U,(O,(ab,(f,())))))
 | 0,i,O,ab,f,r,hk,h=>by
   obtain rfl:i=U.length:=by omega
   unfold aS;simp only[tSv,fQ.aG,fQ.aP];rw[iB (show¬((U.length:Nat):Int)<(U.length:Int)by omega)];exact aj (λh=>Bool.noConfusion h) λ_=>ah rfl (ak ⟨O,rfl,h.len,h.fs,h.ls,h.own,h.chain⟩)
 | k+1,i,O,ab,f,r,hk,h=>by
   have hi:i<U.length:=by omega
   have w1:i64.wrap ((i:Int)+1)=((i+1:Nat):Int):=kU;have he:=yP hB jv.d hi;have hlen:=h.len;have hmem:U.getD i jv.d∈U:=by
    have e:U.getD i jv.d=U[i]:=by simp[dJ,hi]
    rw[e];exact List.getElem_mem hi
   have ih:=rSv U hl hB hs k (i+1);unfold aS;simp only[tSv,w1,cB,nT.Dq,nT.pY,(qM he).1];generalize i64.wrap (ab.1+(U.getD i jv.d).n0)=a;generalize i64.wrap (ab.2+(U.getD i jv.d).n1)=b;rw[dK (show(i:Int)<(U.length:Int)by omega)];refine aj (λ_=> ?_) λh=>Bool.noConfusion h
   refine dR (lT.jl (lT.lC hi) λp hp=>by simpa using hp) ?_
   have hq: ∀O' f' r',SvI U (i+1) O' f' r'→ ∀(n k2:Nat) (el:Nat→List IV),n=O'.length→fQ.list k2 el=O'→fQ.oks k2 el=true→
     (svN (((),U.length,O.length,(),(),r,U.length,(U.length:Int),(i:Int),()),(U,(O,(ab,(f,()))))) n k2 el a b ((nT.iv f').map AV.c) r').sat (λy=>match y with | .inl x'=>aS tSv (SvQ U) (k+1) x' | .inr z=>SvQ U z):=λO' f' r' h' n k2 el e1 e2 e3=>
    ajt (by omega) e2 e3 (by subst e1;exact ih O' (a,b) f' r' (by omega) h')
   have last:(∀k,i+1≤k→k<U.length→tL (U.getD i jv.d).b (U.getD k jv.d).b=true)→(need true<| need true<| need (bif decide (a>0)then true else true)<| need (bif (bif decide (a>0)then true else decide (b>0))then true else true)<|
     Tr.ite (bif (bif decide (a>0)then true else decide (b>0))then bif true then !r else false else false) (svN (((),U.length,O.length,(),(),r,U.length,(U.length:Int),(i:Int),()),(U,(O,(ab,(f,()))))) O.length O.length (fQ.el O) a b ((nT.iv (U.getD i jv.d).b).map AV.c) (bif decide (a>0)then true else decide (b>0)))<|
     need (bif !(bif decide (a>0)then true else decide (b>0))then true else true)<|
     Tr.ite (bif !(bif decide (a>0)then true else decide (b>0))then bif true then r else false else false)
      (need true<| need true<| Z7 fQ 216 O.length O (fQ.iv ⟨f.t,(U.getD i jv.d).b.t,f.k, !(U.getD i jv.d).b.k⟩) λk el=>svN (((),U.length,O.length,(),(),r,U.length,(U.length:Int),(i:Int),()),(U,(O,(ab,(f,()))))) k k el a b ((nT.iv f).map AV.c) (bif decide (a>0)then true else decide (b>0)))
      (svN (((),U.length,O.length,(),(),r,U.length,(U.length:Int),(i:Int),()),(U,(O,(ab,(f,()))))) O.length O.length (fQ.el O) a b ((nT.iv f).map AV.c) (bif decide (a>0)then true else decide (b>0)))).sat
     (λy=>match y with | .inl x'=>aS tSv (SvQ U) (k+1) x' | .inr z=>SvQ U z):=λhlast=>by
    refine ah rfl (ah rfl (ah (by cases decide (a>0)<;>rfl) ?_));generalize (bif decide (a>0)then true else decide (b>0))=w;cases w with
    | true=>
      cases r with
      | false=>
        refine ah rfl (aj (λ_=>hq O _ true ?_ _ _ _ rfl (fQ.aG O) (fQ.aP _ _)) λh=>Bool.noConfusion h);have h1:=h.step;exact⟨h1.len,h1.fs,h1.ls,h1.own,h1.chain,h1.next,λ_=>⟨⟨_,hmem,rfl⟩,hlast,λg hg=>h.next g hg i (Nat.le_refl _) hi⟩⟩
      | true=>
        exact ah rfl (aj (λh=>Bool.noConfusion h) λ_=>ah rfl (aj (λh=>Bool.noConfusion h) λ_=>hq O f true h.step _ _ _ rfl (fQ.aG O) (fQ.aP _ _)))
    | false=>
      cases r with
      | false=>
        exact ah rfl (aj (λh=>Bool.noConfusion h) λ_=>ah rfl (aj (λh=>Bool.noConfusion h) λ_=>hq O f false h.step _ _ _ rfl (fQ.aG O) (fQ.aP _ _)))
      | true=>
        refine ah rfl (aj (λh=>Bool.noConfusion h) λ_=>ah rfl (aj (λ_=>ah rfl (ah rfl (JK (by decide) rfl (by omega) λm el e1 e2 e3=>hq _ f false ?_ _ _ _ (by rw[e1,List.length_append];rfl) e2 e3))) λh=>Bool.noConfusion h));obtain⟨q1,q2,q3⟩:=h.inn rfl;have h1:=h.step;have mg: ∀{P:Ig→Prop},(∀g∈O,P g)→P ⟨f.t,(U.getD i jv.d).b.t,f.k, !(U.getD i jv.d).b.k⟩→ ∀g∈O++[(⟨f.t,(U.getD i jv.d).b.t,f.k, !(U.getD i jv.d).b.k⟩:Ig)],P g:=λa b g hg=>by
         rcases List.mem_append.1 hg with hg|hg
         ·exact a g hg
         ·rw[List.mem_singleton]at hg;subst hg;exact b
        have eL:lsB ⟨f.t,(U.getD i jv.d).b.t,f.k, !(U.getD i jv.d).b.k⟩=(U.getD i jv.d).b:=by unfold lsB;simp only[Bool.not_not]
        have eF:mU ⟨f.t,(U.getD i jv.d).b.t,f.k, !(U.getD i jv.d).b.k⟩=f:=rfl;refine⟨?_,mg h.fs ?_,mg h.ls ?_,mg h.own ?_,?_,mg h1.next ?_,λh=>by cases h⟩
        ·rw[List.length_append];show O.length+1≤i+1;omega
        ·rw[eF];exact q1
        ·rw[eL];exact⟨_,hmem,rfl⟩
        ·rw[eL,eF];exact q2 i (Nat.le_refl _) hi
        ·refine List.pairwise_append.2 ⟨h.chain,List.pairwise_singleton _ _,λg hg g' hg'=> ?_⟩
         rw[List.mem_singleton]at hg';subst hg';rw[eF];exact q3 g hg
        ·rw[eL];exact hlast
   by_cases hn:i+1<U.length
   ·have he2:=yP hB jv.d hn
    have hsn: ∀p q,p<q→q<U.length→tL (U.getD q jv.d).b (U.getD p jv.d).b=false:=λp q hpq hq=>by
     have e1:U.getD p jv.d=U[p]:=by simp[dJ,Nat.lt_trans hpq hq]
     have e2:U.getD q jv.d=U[q]:=by simp[dJ,hq]
     rw[e1,e2];exact List.pairwise_iff_getElem.1 hs p q _ _ hpq
    rw[dK (show((i+1:Nat):Int)<(U.length:Int)by omega)];simp only[(qM he2).1,cond_true];refine ah (nP (lT.jl (lT.lC hn) λp hp=>by simpa using hp)) (aj (λ_=>hq O f r h.step _ _ _ rfl (fQ.aG O) (fQ.aP _ _)) λhc=>last λk hk hkl=> ?_);have hne:uF (U.getD i jv.d).b (U.getD (i+1) jv.d).b≠0:=by simpa using hc
    have h1:=aer he he2 hne (hsn i (i+1) (by omega) hn);by_cases hk1:k=i+1
    ·subst hk1;exact h1
    ·exact ajs h1 (hsn (i+1) k (by omega) hkl)
   ·rw[iB (show¬((i+1:Nat):Int)<(U.length:Int)by omega)]
    exact ah rfl (aj (λh=>Bool.noConfusion h) λ_=>last λk hk hkl=>by omega)
end Go.bA
namespace Go.bA
open Go.Proofs
def aju(A B:List Ig):Nat→List IV:=λk=>bif beq k 0 then [.sl A.length 20 (fQ.el A)]else [.sl B.length 20 (fQ.el B)]
open Classical in
noncomputable def AJ (n:Nat)(e:Nat→List IV):Bool:=decide (fQ.el (fQ.list n e)=e)
open Classical in
theorem Sk(A:List Ig):AJ A.length (fQ.el A)=true:=by
 unfold AJ;rw[fQ.aG];exact dK rfl
open Classical in
noncomputable def asO:Jt (List Ig×List Ig) where
 get:=λe=>match e with
  | some (.arr 2 1 el 91)=>match el 0,el 1 with
    | [.sl n 20 e1],[.sl m 20 e2]=>some ((fQ.list n e1,fQ.list m e2),[AJ n e1,AJ m e2])
    | _,_=>none
  | _=>none
 put:=λp=>some (.arr 2 1 (aju p.1 p.2) 91)
 ok:=by
  intro e x cs h hc
  split at h
  ·rename_i el
   split at h
   ·rename_i n e1 m e2 h1 h2
    simp only[fu,Prod.mk.injEq]at h;obtain⟨rfl,rfl⟩:=h;have c1:fQ.el (fQ.list n e1)=e1:=dec (hc (AJ n e1) (by simp));have c2:fQ.el (fQ.list m e2)=e2:=dec (hc (AJ m e2) (by simp));refine .arr _ _ _ _ _ λk hk=> ?_
    unfold aju;rw[fQ.sO,fQ.sO];have:k=0∨k=1:=by omega
    rcases this with rfl|rfl
    ·rw[h1];show [IV.sl n 20 e1]=[IV.sl n 20 (fQ.el (fQ.list n e1))];rw[c1]
    ·rw[h2];show [IV.sl m 20 e2]=[IV.sl m 20 (fQ.el (fQ.list m e2))];rw[c2]
   ·cases h
  ·cases h
def arh:Arg (Option Bool) where
 get:=λa=>match a with | .c (.v (.int .i64 0))=>some (some false,[]) | .c (.v (.int .i64 1))=>some (some true,[]) | .c (.v (.int .i64 2))=>some (none,[]) | _=>none
 put:=λb=> .c (.v (.int .i64 (match b with|some false=>0|some true=>1|none=>2)))
 ok:=by
  intro a x cs h hc
  split at h
  ·cases h;exact bL.refl _
  ·cases h;exact bL.refl _
  ·cases h;exact bL.refl _
  ·cases h
abbrev S0X:=(Unit×Nat×Nat×Int×Option Bool×Unit)×(List Ev×((List Ig×List Ig)×Unit))
abbrev S0R:=(Unit×Nat×Unit)×(List Ev×Unit)
noncomputable def eS0:kr (List Ev×((List Ig×List Ig)×Unit)):= .cons (jv.ent 305) (.cons asO .nil)
def ajv:Option Bool→List Ig→List Ig→List Ev
 | some false,A,B=>A.flatMap (evs false)++B.flatMap (evs true)
 | some true,A,B=>B.flatMap (evs true)
 | none,_,_=> []
noncomputable def Wn:bC S0X S0R:=
 lD {nt:=127,live:=[2,7,23,24,25],lifts:=[(7,12,305)]} {nt:=127,live:=[2,7]}
  (.with eS0 (.cons (gG 149) (.cons (dZ 0 12) (.cons (dZ 1 1) (.cons aX (.cons arh .nil))))))
  (.with (.cons (jv.ent 305) .nil) (.cons (gG 149) (.cons (dZ 0 12) .nil)))
  (λx=>(((),(x.2.1++ajv x.1.2.2.2.2.1 x.2.2.1.1 x.2.2.1.2).length,()),(x.2.1++ajv x.1.2.2.2.2.1 x.2.2.1.1 x.2.2.1.2,())))
  (λx=>decide (x.1.2.1=x.2.1.length)&&(decide (x.2.1.length=0)&&(decide (x.1.2.2.1=2)&&(decide (x.1.2.2.2.1=2)&&(decide (x.2.2.1.1.length≤50000)&&decide (x.2.2.1.2.length≤50000))))))
noncomputable def ari (w:Bool)(x:S0X):Tr (S0X ⊕ S0R):=
 let O:=x.2.1
 let A:=x.2.2.1.1
 let B:=x.2.2.1.2
 let C:=bif w then B else A
 let xs:SwX:=(((),x.1.2.1,w,x.1.2.2.1,x.1.2.2.2.1,(bif w then 1 else 0),fQ.list C.length (fQ.el C),(C.length:Int),0,()),(jv.list O.length (jv.el O),(aju A B,())))
 let r:=lSw.res xs
 need (decide (0≤(bif w then(1:Int)else 0)∧(bif w then(1:Int)else 0)<(x.1.2.2.1:Int)))<| need true<| need (fQ.oks C.length (fQ.el C))<| need (jv.oks O.length (jv.el O))<| need (lSw.pre xs)<|
  need (jv.oks r.2.1.length (jv.el r.2.1))<| need (AJ A.length (fQ.el A))<| need (AJ B.length (fQ.el B))<|
   ret (Sum.inl (((),r.1.2.1,x.1.2.2.1,x.1.2.2.2.1,(bif w then none else some true),()),(jv.list r.2.1.length (jv.el r.2.1),((fQ.list A.length (fQ.el A),fQ.list B.length (fQ.el B)),()))))
noncomputable def aol (x:S0X):Tr (S0X ⊕ S0R):=need (jv.oks x.2.1.length (jv.el x.2.1))<| ret (Sum.inr (((),x.1.2.1,()),(jv.list x.2.1.length (jv.el x.2.1),())))
noncomputable def tS0 (x:S0X):Tr (S0X ⊕ S0R):=match x.1.2.2.2.2.1 with
 | some w=>Tr.ite (decide ((bif w then(1:Int)else 0)<x.1.2.2.2.1)) (ari w x) (aol x)
 | none=>Tr.ite (decide ((2:Int)<x.1.2.2.2.1)) (need (decide (0≤(2:Int)∧(2:Int)<(x.1.2.2.1:Int)))<| need false<| Tr.fail "head") (aol x)
theorem aes(O:List Ev)(a b:Ev)(el:Nat→List IV)(h0:el 0=jv.iv a)(h1:el 1=jv.iv b):jv.list (O.length+2) (dH O.length (jv.el O) el)=O++[a,b]∧jv.oks (O.length+2) (dH O.length (jv.el O) el)=true:=by
 have key: ∀k,k<O.length+2→dH O.length (jv.el O) el k=jv.el (O++[a,b]) k:=by
  intro k hk;unfold dH kZ.el;by_cases hlt:k<O.length
  ·rw[if_pos hlt]
   simp[dJ,List.getElem?_append_left hlt]
  ·rw[if_neg hlt]
   have:k=O.length∨k=O.length+1:=by omega
   rcases this with rfl|rfl
   ·rw[Nat.sub_self,h0]
    simp[dJ]
   ·rw[Nat.add_sub_cancel_left,h1]
    simp[dJ]
 have hl:O.length+2=(O++[a,b]).length:=by simp
 rw[jv.kK key,jv.mF key,hl];exact⟨jv.aG _,jv.aP _ _⟩
theorem rSw(n2:Nat)(l24 i25:Int)(w:Bool)(A:List Ig)(hA:A.length≤100000)(r:Nat→List IV)(Q:SwR→Prop): ∀(k i:Nat) (O:List Ev),i+k=A.length→O.length≤300000+2*i→
  Q (((),O.length+2*k,n2,l24,i25,()),(O++(A.drop i).flatMap (evs w),(r,())))→aS tSw Q (k+1) (((),O.length,w,n2,l24,i25,A,(A.length:Int),(i:Nat),()),(O,(r,())))
 | 0,i,O,hk,hO,hq=>by
   obtain rfl:i=A.length:=by omega
   rw[List.drop_length,List.flatMap_nil,List.append_nil]at hq;unfold aS;simp only[tSw,jv.aG,jv.aP];rw[iB (show¬((A.length:Nat):Int)<(A.length:Int)by omega)];exact aj (λh=>Bool.noConfusion h) λ_=>ah rfl (ak hq)
 | k+1,i,O,hk,hO,hq=>by
   have hi:i<A.length:=by omega
   have w1:i64.wrap ((i:Int)+1)=((i+1:Nat):Int):=kU;rw[EK A fQ.d hi,List.flatMap_cons, ←List.append_assoc]at hq;unfold aS;simp only[tSw,w1,cB,fQ.Dq,fQ.pY,fQ.aG,fQ.aP];rw[dK (show(i:Int)<(A.length:Int)by omega)];generalize A.getD i fQ.d=g at*;obtain⟨s1,s2⟩:=aes O ⟨mU g,bif w then 0 else 1,bif w then 1 else 0⟩ ⟨lsB g,bif w then 0 else -1,bif w then -1 else 0⟩ (λk=>((jv.iv ⟨mU g,bif w then 0 else 1,bif w then 1 else 0⟩++jv.iv ⟨lsB g,bif w then 0 else -1,bif w then -1 else 0⟩).drop (k*12)).take 12) rfl rfl;rw[s1,s2];have ih:=rSw n2 l24 i25 w A hA r Q k (i+1) (O++evs w g) (by omega) (by rw[List.length_append];show O.length+2≤_;omega);have e:(O++evs w g).length=O.length+2:=by rw[List.length_append];rfl
   rw[e]at ih;refine aj (λ_=>ah (dA) (ah rfl (ah rfl (ah rfl (ah rfl (ah (dK (Nat.le_refl _)) (ah rfl (ah (dA) (ah (dA) (ah rfl (ah rfl (ak (ih ?_))))))))))))) λh=>Bool.noConfusion h
   rw[show O.length+2+2*k=O.length+2*(k+1)by omega];exact hq
theorem ajw(x:SwX)(hx:lSw.pre x=true): ∃n,aS tSw (· =lSw.res x) n x:=by
 obtain⟨⟨⟨⟩,n,w,n2,l24,i25,A,l,i,⟨⟩⟩,⟨O,r,⟨⟩⟩⟩:=x;simp only[lSw,lD,bI,dS]at hx;obtain⟨rfl,h2,h3,rfl,rfl⟩:=hx;exact⟨_,rSw n2 l24 i25 w A h3 r _ A.length 0 O (by omega) (by omega) rfl⟩
theorem HY(w:Bool)(A:List Ig):(A.flatMap (evs w)).length=2*A.length:=by
 induction A with
 | nil=>rfl
 | cons a A ih=>rw[List.flatMap_cons,List.length_append,ih,List.length_cons];show 2+_=_;omega
theorem aeu{w:Bool}{O:List Ev}{A B:List Ig}(hA:A.length≤50000)(hB:B.length≤50000)(hO:O.length≤300000){Q:S0X ⊕ S0R→Prop}
  (h:Q (.inl (((),(O++(bif w then B else A).flatMap (evs w)).length,2,2,(bif w then none else some true),()),(O++(bif w then B else A).flatMap (evs w),((A,B),()))))):(tS0 (((),O.length,2,2,some w,()),(O,((A,B),())))).sat Q:=by
 have hC:(bif w then B else A).length≤50000:=by cases w<;>assumption
 have hp:lSw.pre (((),O.length,w,2,2,(bif w then 1 else 0),(bif w then B else A),((bif w then B else A).length:Int),0,()),(O,(aju A B,())))=true:=by
  simp only[lSw,lD,bI,dS];exact⟨trivial,hO,by omega,trivial,trivial⟩
 have e:(O++(bif w then B else A).flatMap (evs w)).length=O.length+2*(bif w then B else A).length:=by rw[List.length_append,HY]
 rw[e]at h;simp only[tS0,ari,jv.aG,jv.aP,fQ.aG,fQ.aP,Sk,hp];refine aj (λ_=>ah (by cases w<;>rfl) (ah rfl (ah rfl (ah rfl (ah rfl (ah ?_ (ah rfl (ah rfl (ak ?_))))))))) λh=>by cases w<;>cases h
 ·rfl
 ·exact h
theorem ajx(x:S0X)(hx:Wn.pre x=true): ∃n,aS tS0 (· =Wn.res x) n x:=by
 obtain⟨⟨⟨⟩,n,n2,l,w,⟨⟩⟩,⟨O,⟨A,B⟩,⟨⟩⟩⟩:=x;simp only[Wn,lD,bI,dS]at hx;obtain⟨rfl,h1,rfl,rfl,h4,h5⟩:=hx;have fin: ∀(O:List Ev) (Q:S0R→Prop),Q (((),O.length,()),(O,()))→aS tS0 Q 1 (((),O.length,2,2,none,()),(O,((A,B),()))):=λO Q h=>by
  unfold aS;simp only[tS0,aol,jv.aG,jv.aP];exact aj (λh=>by cases h) λ_=>ah rfl (ak h)
 have l1:(A.flatMap (evs false)).length≤100000:=by rw[HY];omega
 have two: ∀(O:List Ev) (Q:S0R→Prop),O.length≤200000→Q (((),(O++B.flatMap (evs true)).length,()),(O++B.flatMap (evs true),()))→aS tS0 Q 2 (((),O.length,2,2,some true,()),(O,((A,B),()))):=λO Q hO h=>
  aeu h4 h5 (by omega) (fin _ Q h)
 match w with
 | none=>exact⟨1,fin O _ (by simp only[Wn,lD,ajv,List.append_nil])⟩
 | some true=>exact⟨2,two O _ (by omega) rfl⟩
 | some false=>
   refine⟨3,aeu h4 h5 (by omega) (two _ _ ?_ ?_)⟩
   ·show(O++A.flatMap (evs false)).length≤200000
    rw[List.length_append];omega
   ·simp only[Wn,lD,ajv,cond_false,List.append_assoc]
end Go.bA
namespace Go.bA
open Go.Proofs
def Kj(U:List Ev):Bool:=decide (U.Pairwise λx y=>tL y.b x.b=false)
def Ti:bC SvX SvR:=lD nSv oSv FSv GSv (λx=>(BA tSv 100001 x).getD ((0,()),([],())))
 (λx=>decide (x.1.2.1=x.2.1.length)&&(decide (x.1.2.2.1=0)&&(decide (x.2.2.1.length=0)&&(!x.1.2.2.2.2.2.1&&(decide (x.1.2.2.2.2.2.2.1=x.2.1.length)&&(decide (x.1.2.2.2.2.2.2.2.1=(x.2.1.length:Int))&&(decide (x.1.2.2.2.2.2.2.2.2.1=0)&&(decide (x.2.1.length≤100000)&&(x.2.1.all qL&&Kj x.2.1)))))))))
theorem ajy(x:SvX):(tSv x).one=true:=by
 simp only[tSv,svN,Z7,lT.rY,Tr.one,Bool.and_self]
theorem aev{U:List Ev}{ab:Int×Int}{f:DW}(hl:U.length≤100000)(hB:U.all qL=true)(hs:Kj U=true):
  SvQ U (Ti.res (((),U.length,0,(),(),false,U.length,(U.length:Int),0,()),(U,([],(ab,(f,()))))))∧aS tSv (· =Ti.res (((),U.length,0,(),(),false,U.length,(U.length:Int),0,()),(U,([],(ab,(f,())))))) 100001 (((),U.length,0,(),(),false,U.length,(U.length:Int),0,()),(U,([],(ab,(f,()))))):=
 aS.res ajy (show U.length+1≤100001 by omega) (rSv U hl hB (iX hs) U.length 0 [] ab f false (by omega) ⟨Nat.le_refl _,λ_ h=>(by cases h),λ_ h=>(by cases h),λ_ h=>(by cases h),.nil,λ_ h=>(by cases h),λh=>by cases h⟩) _
theorem ajz(x:SvX)(hx:Ti.pre x=true): ∃n,aS tSv (· =Ti.res x) n x:=by
 obtain⟨⟨⟨⟩,n,m,⟨⟩,⟨⟩,r,k,l,i,⟨⟩⟩,⟨U,O,ab,f,⟨⟩⟩⟩:=x;simp only[Ti,lD,bI,dS,Bool.not_eq_true']at hx;obtain⟨rfl,rfl,h3,rfl,rfl,rfl,rfl,h8,h9,h10⟩:=hx;obtain rfl:O=[]:=List.length_eq_zero_iff.1 h3;exact⟨_,(aev h8 h9 h10).2⟩
noncomputable def arj:FuncId→Option Spec:=λf=>bif beq f 166 then some (au KFs)else bif beq f 167 then some (au KLs)else bif beq f 165 then some (au KBc)else bif beq f 190 then some (au KBw)else bif beq f 188 then some (eB sE.kSo)else none
theorem O7: ∀f s,arj f=some s→aH prog f s:=step_ok ak7.spec (step_ok ak8.spec (step_ok ael.spec (step_ok ard.spec (bM aoj.spec))))
noncomputable abbrev Yt:FuncId→Option Spec:=Js prog arj (λ_=>false) 1010 2
def bd0:DW:=⟨⟨0,0,false⟩,false⟩
def xSv(W:List Ev):SvX:=(((),W.length,0,(),(),false,W.length,(W.length:Int),0,()),(W,([],((0,0),(bd0,())))))
def kC(A B:List Ig):List Ev:=A.flatMap (evs false)++B.flatMap (evs true)
noncomputable def O8 (A B:List Ig):List Ig:=(Ti.res (xSv (sE.MS (kC A B)).toList)).2.1
noncomputable def aom (A B:List Ig):Tr AV:=
 let x0:S0X:=(((),0,2,2,some false,()),([],((fQ.list A.length (fQ.el A),fQ.list B.length (fQ.el B)),())))
 let r0:=Wn.res x0
 need true<| need (AJ A.length (fQ.el A))<| need (AJ B.length (fQ.el B))<| need (Wn.pre x0)<|
  sE.sS r0.1.2.1 r0.2.1 (λ_=>true) sE.MS λ_ W=>
   let x4:SvX:=(((),r0.1.2.1,0,(),(),false,r0.1.2.1,(r0.1.2.1:Int),0,()),(jv.list W.length (jv.el W),([],((0,0),(bd0,())))))
   let r4:=Ti.res x4
   need (jv.oks W.length (jv.el W))<| need true<| need true<| need true<| need (Ti.pre x4)<| need (decide (r4.1.1≤r4.2.1.length))<| ret (.c (.sl r4.1.1 20 (fQ.el r4.2.1)))
theorem ajA: ∀A B,aN prog Yt (K4 0 0 Wn 4 Ti) 1010 Tryz.f148 [fQ.sl A,fQ.sl B,.c (.v (.func (.func 149) #[] #[]))]=aom A B:=λA B=>by kernel_rfl
theorem aon: ∀x,(exec prog Yt dn 1010 (aR 4 (codeOf Tryz.f148)) (eY Ti.nIn (Ti.head x))).bind (Ti.fin 0 4)=tSv x:=λx=>by obtain⟨⟨⟨⟩,n,m,⟨⟩,⟨⟩,r,k,l,i,⟨⟩⟩,⟨U,O,⟨a,b⟩,f,⟨⟩⟩⟩:=x;kernel_rfl
theorem ajB: ∀x,(exec prog Yt dn 1010 (aR 2 (aR 0 (codeOf Tryz.f148))) (eY lSw.nIn (lSw.head x))).bind (lSw.fin 0 2)=tSw x:=λx=>by
 obtain⟨⟨⟨⟩,n,w,n2,l24,i25,A,l,i,⟨⟩⟩,⟨O,r,⟨⟩⟩⟩:=x;cases w<;>kernel_rfl
theorem ajC: ∀x,(exec prog Yt (lT.E5 0 2 lSw) 1010 (aR 0 (codeOf Tryz.f148)) (eY Wn.nIn (Wn.head x))).bind (Wn.fin 0 0)=tS0 x:=λx=>by
 obtain⟨⟨⟨⟩,n,n2,l,w,⟨⟩⟩,⟨O,⟨A,B⟩,⟨⟩⟩⟩:=x;cases w with
 | none=>kernel_rfl
 | some w=>cases w<;>kernel_rfl
theorem asP:bB prog 0 (K4 0 0 Wn 4 Ti) (codeOf Tryz.f148):=
 HV (N:=1010) (iE O7) (lT.rH (N:=1010) (iE O7) (aA _ _) (cZ _ _ _ _ _ _) ajB ajw) (aA _ _) (cZ _ _ _ _ _ _) (cZ _ _ _ _ _ _) rfl ajC aon ajx ajz
def AL(i:Ig):Bool:=qL ⟨mU i,0,0⟩&&qL ⟨lsB i,0,0⟩
theorem aew{w:Bool}{A:List Ig}(h:A.all AL=true): ∀e∈A.flatMap (evs w),qL e=true:=by
 intro e he;obtain⟨i,hi,he⟩:=List.mem_flatMap.1 he;have:=List.all_eq_true.1 h i hi;simp only[AL,bI]at this;simp only[evs,List.mem_cons,List.not_mem_nil,or_false]at he;rcases he with rfl|rfl
 ·exact this.1
 ·exact this.2
theorem Yu{w:Bool}{A:List Ig}: ∀e∈A.flatMap (evs w), ∃i∈A,e.b=mU i∨e.b=lsB i:=by
 intro e he;obtain⟨i,hi,he⟩:=List.mem_flatMap.1 he;simp only[evs,List.mem_cons,List.not_mem_nil,or_false]at he;rcases he with rfl|rfl
 ·exact⟨i,hi,.inl rfl⟩
 ·exact⟨i,hi,.inr rfl⟩
theorem aex{A B:List Ig}(h1:A.length≤20000)(h2:B.length≤20000)(h3:A.all AL=true)(h4:B.all AL=true):
  (kC A B).length≤80000∧sE.Bd (kC A B)∧(sE.MS (kC A B)).toList.length=(kC A B).length∧(sE.MS (kC A B)).toList.all qL=true∧Kj (sE.MS (kC A B)).toList=true∧ ∀e∈(sE.MS (kC A B)).toList,e∈kC A B:=by
 have l1:(kC A B).length≤80000:=by unfold kC;rw[List.length_append,HY,HY];omega
 have hb: ∀e∈kC A B,qL e=true:=λe he=>(List.mem_append.1 he).elim (aew h3 e) (aew h4 e)
 have hB:sE.Bd (kC A B):=List.all_eq_true.2 hb;obtain⟨p1,p2⟩:=sE.ajq (by omega) hB;exact⟨l1,hB,p1.length_eq,List.all_eq_true.2 λe he=>hb e (p1.mem_iff.1 he),dK p2,λe he=>p1.mem_iff.1 he⟩
structure asQ (A B O:List Ig):Prop where
 len:O.length≤80000
 ends: ∀g∈O,(∃i,(i∈A∨i∈B)∧(mU g=mU i∨mU g=lsB i))∧ ∃i,(i∈A∨i∈B)∧(lsB g=mU i∨lsB g=lsB i)
 own: ∀g∈O,tL (mU g) (lsB g)=true
 chain:O.Pairwise λg h=>tL (lsB g) (mU h)=true
theorem Yv{A B:List Ig}(h1:A.length≤20000)(h2:B.length≤20000)(h3:A.all AL=true)(h4:B.all AL=true):asQ A B (O8 A B)∧Ti.res (xSv (sE.MS (kC A B)).toList)=(((O8 A B).length,()),(O8 A B,())):=by
 obtain⟨l1,hB,hl,hb,hs,hm⟩:=aex h1 h2 h3 h4;obtain⟨O,e,q1,q2,q3,q4,q5⟩:=(aev (ab:=(0,0)) (f:=bd0) (show(sE.MS (kC A B)).toList.length≤100000 by omega) hb hs).1;have eu:O8 A B=O:=by
  have:=congrArg (λz:SvR=>z.2.1) e;exact this
 rw[eu];have hmm: ∀e∈kC A B, ∃i,(i∈A∨i∈B)∧(e.b=mU i∨e.b=lsB i):=λe he=>by
  rcases List.mem_append.1 he with he|he
  ·obtain⟨i,hi,h⟩:=Yu e he;exact⟨i,.inl hi,h⟩
  ·obtain⟨i,hi,h⟩:=Yu e he;exact⟨i,.inr hi,h⟩
 refine⟨⟨by omega,λg hg=>⟨?_,?_⟩,q4,q5⟩,e⟩
 ·obtain⟨e,he,h⟩:=q2 g hg
  rw[h];exact hmm e (hm e he)
 ·obtain⟨e,he,h⟩:=q3 g hg
  rw[h];exact hmm e (hm e he)
noncomputable def asR:List AV→Option (AV×List Bool):=(F3 fQ.arg fQ.argN (gG 149)).K (λx=>fQ.sl (O8 x.1 x.2.1)) λx=> [decide (x.1.length≤20000),decide (x.2.1.length≤20000),x.1.all AL,x.2.1.all AL]
theorem ark:aF prog 148 asR:=by
 refine(F3 fQ.arg fQ.argN (gG 149)).pl (iE O7) (fn:=Tryz.f148) asP (λ_=>rfl) (M:=λx=>aom x.1 x.2.1) (λx=>by obtain⟨A,B,⟨⟩,⟨⟩⟩:=x;exact ajA A B) ?_;rintro⟨A,B,⟨⟩,⟨⟩⟩ h;have h1:A.length≤20000:=dec (h (decide (A.length≤20000)) (by simp));have h2:B.length≤20000:=dec (h (decide (B.length≤20000)) (by simp));have h3:A.all AL=true:=h (A.all AL) (by simp);have h4:B.all AL=true:=h (B.all AL) (by simp);obtain⟨l1,hB,hl,hb,hs,hm⟩:=aex h1 h2 h3 h4;obtain⟨q1,q2⟩:=Yv h1 h2 h3 h4;have hp:Wn.pre (((),0,2,2,some false,()),([],((A,B),())))=true:=by
  simp only[Wn,lD,bI,dS];exact⟨rfl,rfl,trivial,trivial,by omega,by omega⟩
 have hr:Wn.res (((),0,2,2,some false,()),([],((A,B),())))=(((),(kC A B).length,()),(kC A B,())):=rfl;simp only[aom,fQ.aG,Sk,hp,hr];refine ah rfl (ah rfl (ah rfl (ah rfl (sE.jh (by omega) hB rfl λW hW=> ?_))));obtain rfl:W=(sE.MS (kC A B)).toList:=by rw[←hW]
 have hx:(((),(kC A B).length,0,(),(),false,(kC A B).length,((kC A B).length:Int),0,()),((sE.MS (kC A B)).toList,([],((0,0),(bd0,())))))=xSv (sE.MS (kC A B)).toList:=by
  unfold xSv;rw[hl]
 rw[jv.aG,jv.aP,hx,q2];have hpv:Ti.pre (xSv (sE.MS (kC A B)).toList)=true:=by
  have hl1:(sE.MS (kC A B)).toList.length≤100000:=by omega
  simp only[Ti,lD,xSv,bI,dS];exact⟨trivial,trivial,rfl,rfl,trivial,trivial,trivial,hl1,hb,hs⟩
 rw[hpv];exact ah rfl (ah rfl (ah rfl (ah rfl (ah rfl (ah (dK (Nat.le_refl _)) (ak rfl))))))
end Go.bA
namespace Go.bA
open Go.Proofs
noncomputable def KNp:List AV→Option (AV×List Bool):=(F1 fQ.arg).K (λx=>fQ.sl (O8 x.1 [])) λx=> [decide (x.1.length≤20000),x.1.all AL]
noncomputable def MNp (A:List Ig):Tr AV:=
 let R:=fQ.list A.length (fQ.el A)
 need (fQ.oks A.length (fQ.el A))<| need (decide (R.length≤20000))<| need true<| need (R.all AL)<| need true<| ret (fQ.sl (O8 R []))
theorem arl:aF prog 50 KNp:=by
 refine(F1 fQ.arg).pk (iE (pz ark)) (fn:=Tryz.f50) (M:=λx=>MNp x.1) (λx=>by obtain⟨A,⟨⟩⟩:=x;kernel_rfl) ?_;rintro⟨A,⟨⟩⟩ h;have h1:decide (A.length≤20000)=true:=h _ (by simp);have h2:A.all AL=true:=h _ (by simp);simp only[MNp,fQ.aG,fQ.aP,h1,h2,sat_true];exact ak rfl
noncomputable def KDo:List AV→Option (AV×List Bool):=(F1 bP.arg).K (λx=>fQ.sl (O8 (x.1.map Ue.i) [])) λx=> [decide (x.1.length≤20000),(x.1.map Ue.i).all AL]
noncomputable def KIv:List AV→Option (AV×List Bool):=(F1 bP.arg).K (λx=>fQ.sl (x.1.map Ue.i)) λx=> [decide (x.1.length≤100000),x.1.all λ_=>true]
noncomputable def MDo (A:List Uq):Tr AV:=
 let R:=bP.list A.length (bP.el A)
 let I:=fQ.list (R.map Ue.i).length (fQ.el (R.map Ue.i))
 need (bP.oks A.length (bP.el A))<| need (decide (R.length≤100000))<| need (R.all λ_=>true)<| need (fQ.oks (R.map Ue.i).length (fQ.el (R.map Ue.i)))<| need (decide (I.length≤20000))<| need (I.all AL)<| ret (fQ.sl (O8 I []))
theorem arn:aF prog 71 KDo:=by
 refine(F1 bP.arg).ji (N:=1010) (L:=dn) aI (Γ:=Γ2 127 KIv 50 KNp) (JY aqH arl) (fn:=Tryz.f71) (c:=codeOf Tryz.f71) (by kernel_rfl) (by kernel_rfl) (by kernel_rfl) (aA _ _) (λ_=>rfl) (M:=λx=>MDo x.1) (λx=>by obtain⟨A,⟨⟩⟩:=x;kernel_rfl) ?_;rintro⟨A,⟨⟩⟩ h;have h1:A.length≤20000:=dec (h (decide (A.length≤20000)) (by simp));have h2:(A.map Ue.i).all AL=true:=h ((A.map Ue.i).all AL) (by simp);simp only[MDo,bP.aG,bP.aP,fQ.aG,fQ.aP,h2];exact ah rfl (ah (dA) (ah (List.all_eq_true.2 λ_ _=>rfl) (ah rfl (ah (dK (by rw[List.length_map];exact h1)) (ah rfl (ak rfl))))))
noncomputable def MDm (A:List Uq):Tr AV:=
 let R:=bP.list A.length (bP.el A)
 let T:=bP.list R.length (bP.el R)
 need (bP.oks A.length (bP.el A))<| need (decide (R.length≤100000))<| need (bP.oks R.length (bP.el R))<| need (decide (T.length≤20000))<| need ((T.map Ue.i).all AL)<| ret (fQ.sl (O8 (T.map Ue.i) []))
theorem aro:aF prog 29 KDo:=by
 refine(F1 bP.arg).ji (N:=1010) (L:=dn) aI (Γ:=Γ2 65 (OO bP) 71 KDo) (JY RU arn) (fn:=Tryz.f29) (c:=codeOf Tryz.f29) (by kernel_rfl) (by kernel_rfl) (by kernel_rfl) (aA _ _) (λ_=>rfl) (M:=λx=>MDm x.1) (λx=>by obtain⟨A,⟨⟩⟩:=x;kernel_rfl) ?_;rintro⟨A,⟨⟩⟩ h;have h1:A.length≤20000:=dec (h (decide (A.length≤20000)) (by simp));have h2:(A.map Ue.i).all AL=true:=h ((A.map Ue.i).all AL) (by simp);simp only[MDm,bP.aG,bP.aP,h2];exact ah rfl (ah (dA) (ah rfl (ah (dK h1) (ah rfl (ak rfl)))))
end Go.bA
namespace Go.bA
open Go.Proofs
def qx(l:L4):Q3:=⟨l.x0,l.x1,0⟩
def qy(l:L4):Q3:=⟨l.y0,l.y1,0⟩
def aey(p q:L4):Bool:=decide (p.x0=q.x0)&&(decide (p.x1=q.x1)&&(decide (p.y0=q.y0)&&decide (p.y1=q.y1)))
theorem aez{p q:L4}:aey p q=true↔p=q:=by
 obtain⟨a,b,c,d⟩:=p;obtain⟨a',b',c',d'⟩:=q;simp[aey]
def smL(p q:L4)(t:R3):Bool:=vP (qx p) (qx q) t&&vP (qy p) (qy q) t
def rdL(l:L4)(t:R3):L4:=⟨tH (qx l) t,tJ (qx l) t,tH (qy l) t,tJ (qy l) t⟩
def Kk(k:Nat)(l:L4):Bool:=qI k (qx l)&&qI k (qy l)
def rL:Rl L4:=⟨VH,aey,smL,rdL,Kk 1000000,aez⟩
def cx(l:L4):List AV:=av l.x0++(av l.x1++Dk)
def cy(l:L4):List AV:=av l.y0++(av l.y1++Dk)
theorem ak9(l:L4):cx l=bD (qx l):=by unfold cx;rw[xk];rfl
theorem ala(l:L4):cy l=bD (qy l):=by unfold cy;rw[xk];rfl
def aoo(l:L4)(t:R3):Tr AV:=
 let A:=cx l
 let B:=cy l
 let R:=aQ t
 need (dB A)<| need (dh R)<| need (jX (bH A) (bK R))<| need (dB B)<| need (dh R)<| need (jX (bH B) (bK R))<|
  ret (.agg (av (hold (tH (bH A) (bK R)))++(av (hold (tJ (bH A) (bK R)))++(av (hold (tH (bH B) (bK R)))++av (hold (tJ (bH B) (bK R)))))))
theorem ajD(l:L4)(t:R3):aN prog (Js prog anH (λ_=>false) 1010 2) dn 1010 Tryz.f355 [.agg [],.agg (jD l),yJ t]=aoo l t:=by kernel_rfl
theorem aop:aF prog 355 (kRd rL):=
 Form.pk _ (iE X8) (fn:=Tryz.f355) (M:=λx=>aoo x.2.1 x.2.2.1) (λx=>ajD x.2.1 x.2.2.1)
  λx h=>by
   have h1:Kk 1000000 x.2.1=true:=h (rL.bf x.2.1) (by simp);have h2:iH 100000 x.2.2.1=true:=h (iH 100000 x.2.2.1) (by simp);simp only[Kk,bI]at h1;have f1:=p9 (dG.1 h1.1) h2 (by decide);have f2:=p9 (dG.1 h1.2) h2 (by decide);simp only[aoo,ak9,ala,dQ,fq,bT,dw,f1,f2,fU,sat_true];exact ak rfl
def aoq(p q:L4)(t:R3):Tr AV:=
 let R:=aQ t
 let s (A B:List AV):Bool:=decide (tH (uR (bH A) (bH B)) (bK R)=0)&&decide (tJ (uR (bH A) (bH B)) (bK R)=0)
 need (dB (cx p))<| need (dB (cx q))<| need (dh R)<| need (kH (bH (cx p)) (bH (cx q)))<| need (jX (uR (bH (cx p)) (bH (cx q))) (bK R))<|
  need (bif s (cx p) (cx q)then ands [dB (cy p),dB (cy q),dh R,kH (bH (cy p)) (bH (cy q)),jX (uR (bH (cy p)) (bH (cy q))) (bK R)]else true)<|
  ret (bJ (bif s (cx p) (cx q)then bif true then s (cy p) (cy q)else false else false))
theorem ajE(p q:L4)(t:R3):aN prog (Js prog anI (λ_=>false) 1010 2) dn 1010 Tryz.f356 [.agg [],.agg (jD p),.agg (jD q),yJ t]=aoq p q t:=by kernel_rfl
theorem aor:aF prog 356 (kSm rL):=
 Form.pk _ (iE X9) (fn:=Tryz.f356) (M:=λx=>aoq x.2.1 x.2.2.1 x.2.2.2.1) (λx=>ajE x.2.1 x.2.2.1 x.2.2.2.1)
  λx h=>by
   obtain⟨⟨⟩,p,q,t,⟨⟩⟩:=x;have h1:Kk 1000000 p=true:=h (rL.bf p) (by simp);have h2:Kk 1000000 q=true:=h (rL.bf q) (by simp);have h3:iH 100000 t=true:=h (iH 100000 t) (by simp);simp only[Kk,bI]at h1 h2;have f1:=BG (dG.1 h1.1) (dG.1 h2.1) (by decide);have f2:=BG (dG.1 h1.2) (dG.1 h2.2) (by decide);have g1:=p9 ((dG.1 h1.1).sub (dG.1 h2.1)) h3 (by decide);have g2:=p9 ((dG.1 h1.2).sub (dG.1 h2.2)) h3 (by decide);simp only[aoq,ak9,ala,dQ,fq,bT,dw,f1,f2,g1,g2];refine ah rfl (ah rfl (ah rfl (ah rfl (ah rfl (ah ?_ (ak ?_))))))
   ·show(bif vP (qx p) (qx q) t then _ else _)=true
    cases vP (qx p) (qx q) t<;>rfl
   ·show bJ (bif vP (qx p) (qx q) t then bif true then vP (qy p) (qy q) t else false else false)=bJ (vP (qx p) (qx q) t&&vP (qy p) (qy q) t)
    cases vP (qx p) (qx q) t<;>rfl
def aos(p q:L4):Bool:=cu [uT p.y1 q.y1,uT p.y0 q.y0,uT p.x1 q.x1,uT p.x0 q.x0].reverse
theorem ajF(p q:L4):aos p q=aey p q:=by
 simp only[aos,EL];unfold aey;cases decide (p.x0=q.x0)<;>cases decide (p.x1=q.x1)<;>cases decide (p.y0=q.y0)<;>cases decide (p.y1=q.y1)<;>rfl
theorem aot:aF prog 354 (kEq rL):=
 Form.pk _ nD (fn:=Tryz.f354) (M:=λx=>ret (bJ (aos x.2.1 x.2.2.1))) (λx=>by obtain⟨⟨⟩,p,q,⟨⟩⟩:=x;kernel_rfl)
  λx h=>ak (by rw[ajF];rfl)
end Go.bA
namespace Go.bA
open Go.Proofs
abbrev oV:kZ (Ue L4):=VH.unit
theorem aou:aF prog 171 (kHe VH):=akY VH (fn:=Tryz.f171) (λA t=>by kernel_rfl)
theorem aov:aF prog 170 (kAt VH):=
 akZ VH (fn:=Tryz.f170) (fc:=220) (tl:=119) (ty:=185) (w:=408) (iE adL) (λx=>by obtain⟨⟨⟨⟩,⟨⟩,U,n,i,⟨⟩⟩,A⟩:=x;kernel_rfl) (λA=>by kernel_rfl) (by decide)
theorem aow:aF prog 216 (OO oV):=RJ oV (fn:=Tryz.f216) (w:=408) (by kernel_rfl) (λa c=>by kernel_rfl) (λU=>by kernel_rfl) (by decide)
theorem aox:aF prog 219 adu:=adv (fn:=Tryz.f219) (λi=>by kernel_rfl)
theorem aoy:aF prog 218 (anD VH):=adx VH (fn:=Tryz.f218) (Ya aox) (λu v=>by kernel_rfl)
theorem aoz:aF prog 285 (kIs VH 218):=ak0 VH (fn:=Tryz.f285) (pz aoy) (λx=>by obtain⟨U,a,b,⟨⟩,i,⟨⟩⟩:=x;kernel_rfl) (λU a b=>by kernel_rfl)
theorem aoA:aF prog 255 (anE VH 218):=adB VH (fn:=Tryz.f255) (pz aoz) (λU n=>by kernel_rfl)
theorem aoB:aF prog 169 (kSo VH):=X3 VH (fn:=Tryz.f169) (iE (JY aow aoA)) (λU=>by kernel_rfl)
theorem aoC:aF prog 115 (kNm rL 223):=
 ak1 rL (fn:=Tryz.f115) (tr:=223) (ty:=185) (w:=408) (adM aou aot aop aor) (JY aoB aov) (λx=>by obtain⟨⟨⟩,U,n,i,⟨⟩⟩:=x;kernel_rfl) (λx=>by obtain⟨⟨⟨⟩,U,m,A,B,n,i,⟨⟩⟩,⟨O,⟨⟩⟩⟩:=x;kernel_rfl) (λU=>by kernel_rfl) (by decide)
end Go.bA
namespace Go.bA
open Go.Proofs
abbrev ajG(ty:TypeId):=BD oV oV 0 Form.nil (.cons (oV.ent ty) .nil) (λ_ _ a=>a) (λ_ _ _=>true) ty 26 3 [3,0,4] []
def MC2(A:List (Ue L4)):Tr AV:=
 let R:=oV.list A.length (oV.el A)
 need (oV.oks A.length (oV.el A))<| need true<| need (true&&(true&&(true&&(decide (R.length≤100000)&&R.all λ_=>true))))<| need (decide (R.length≤(R.map λa=>a).length))<| ret (.c (.sl R.length oV.n (oV.el (R.map λa=>a))))
theorem Sl{f:FuncId}{fn:Func}{ty:TypeId}
  (hs: ∀x,(exec prog Γ00 dn 1010 (aR 0 (codeOf fn)) (eY (ajG ty).nIn ((ajG ty).head x))).bind ((ajG ty).fin 0 0)=yR oV oV (λ_=> []) (λz=>z) (λ_=> []) (λz=>z) 408 (λ_ _ g a=>g (g (ret (oV.iv a)))) x)
  (hM: ∀A,aN prog Γ00 (qK 0 (ajG ty)) 1010 fn [oV.sl A]=MC2 A)
  (hf:prog.funcs[f]? =some fn:=by kernel_rfl) (hb:fn.body=some (codeOf fn):=by kernel_rfl) (hn:dz fn=true:=by kernel_rfl)
  (hl:bW (λi=>beq i 0) (codeOf fn)=[(0,.loop (aR 0 (codeOf fn)))]:=by kernel_rfl):aF prog f (OO oV):=
 (F1 oV.arg).ji (N:=1010) aI nD (fn:=fn) (c:=codeOf fn) hf hb hn (RF (w:=408) (pr:=λ_ _ g a=>g (g (ret (oV.iv a)))) nD hs sP.none sP.none (by decide) (λ_ _ _ _ _ hg _ hq=>hg _ (hg _ (ak hq))) hl) (λ_=>rfl)
  (M:=λx=>MC2 x.1) (λx=>hM x.1) λx hx=>by
   have h1:x.1.length≤100000:=dec (hx (decide (x.1.length≤100000)) (by simp));have h2:(x.1.all λ_=>true)=true:=List.all_eq_true.2 λ_ _=>rfl
   simp only[MC2,oV.aG,oV.aP,h2,dK h1,Bool.and_true,List.map_id'];exact ah rfl (ah rfl (ah rfl (ah (dK (Nat.le_refl _)) (ak rfl))))
theorem aoD:aF prog 116 (OO oV):=Sl (ty:=185) (fn:=Tryz.f116) (λx=>by obtain⟨⟨n,A,i,⟨⟩⟩,⟨O,⟨⟩⟩⟩:=x;kernel_rfl) (λA=>by kernel_rfl)
theorem aoE:aF prog 117 (OO oV):=Sl (ty:=148) (fn:=Tryz.f117) (λx=>by obtain⟨⟨n,A,i,⟨⟩⟩,⟨O,⟨⟩⟩⟩:=x;kernel_rfl) (λA=>by kernel_rfl)
end Go.bA
namespace Go.bA
open Go.Proofs
def kLn:List AV→Option (AV×List Bool):=(F1 oV.arg).K (λx=> .fG [oV.sl (mH rL x.1),bR .i64 0]) λx=> [jL rL x.1]
def aoF{F:Type}(J:Rl F)(W:List (Ue F))(t:Tr AV):Tr AV:=need (qQ J.E W)<| need (iI W)<| need (JW J W)<| need (X5 J (dM W))<| need (decide ((dM W).length≤300000))<| need (decide (W.length≤19)) t
theorem Sn{F:Type}{J:Rl F}{W:List (Ue F)}{t:Tr AV}{Q:AV→Prop}(h:jL J W=true)(k:t.sat Q):(aoF J W t).sat Q:=by
 obtain⟨a,b,c,d,e,f⟩:=yU h;exact ah a (ah b (ah c (ah d (ah (dK e) (ah (dK f) k)))))
def MLn(U:List (Ue L4)):Tr AV:=
 let V:=oV.list U.length (oV.el U)
 let W:=oV.list V.length (oV.el V)
 let N:=mH rL W
 let X:=oV.list N.length (oV.el N)
 need (oV.oks U.length (oV.el U))<| need (decide (V.length≤100000))<| need (oV.oks V.length (oV.el V))<| aoF rL W<|
  need (oV.oks N.length (oV.el N))<| need (decide (X.length≤100000))<| ret (.fG [oV.sl X,bR .i64 0])
def ΓLn:FuncId→Option Spec:=λf=>bif beq f 116 then some (au (OO oV))else bif beq f 117 then some (au (OO oV))else bif beq f 115 then some (au (kNm rL 223))else none
theorem arp:aF prog 63 kLn:=
 (F1 oV.arg).pk (Γ:=ΓLn) (step_ok aoD.spec (step_ok aoE.spec (bM aoC.spec))) (fn:=Tryz.f63) (M:=λx=>MLn x.1) (λx=>by kernel_rfl)
  λx h=>by
   have h1:jL rL x.1=true:=h (jL rL x.1) (by simp);have h6:=(yU h1).2.2.2.2.2;have:=OV (J:=rL) x.1;simp only[MLn,oV.aG,oV.aP,sat_true];exact ah (dA) (ah rfl (Sn h1 (ah rfl (ah (dA) (ak rfl)))))
end Go.bA
namespace Go.bA
open Go.Proofs
structure Sm where
 t:Int
 x:Int
 y:Int
def qz(s:Sm):List AV:=av (s.t:Rat)++(av (s.x:Rat)++av (s.y:Rat))
def uU(l:List AV):Bool:=aK l&&decide ((ay l).den=1)
def qd(l:List AV):Int:=(ay l).num
def qZ(l:List AV):Sm:=⟨qd (l.take 4),qd ((l.drop 4).take 4),qd (l.drop 8)⟩
def K6(l:List AV):Bool:=uU (l.take 4)&&(uU ((l.drop 4).take 4)&&uU (l.drop 8))
theorem E9{l:List AV}(h:uU l=true):l=av ((qd l:Int):Rat):=by
 simp only[uU,bI,dS]at h;unfold qd;rw[JH h.2];exact dD h.1
theorem O9{l:List AV}(h:K6 l=true):l=qz (qZ l):=by
 simp only[K6,bI]at h;obtain⟨h1,h2,h3⟩:=h;have e1:=E9 h1;have e2:=E9 h2;have e3:=E9 h3
 show l=av ((qd (l.take 4):Int):Rat)++(av ((qd ((l.drop 4).take 4):Int):Rat)++av ((qd (l.drop 8):Int):Rat))
 rw[←e1, ←e2, ←e3];have:=List.take_append_drop 4 (l.drop 4);rw[List.drop_drop]at this;rw[this,List.take_append_drop]
theorem xq(n:Int):qd (av (n:Rat))=n:=by unfold qd;rw[bS];rfl
theorem xu(n:Int):uU (av (n:Rat))=true:=by
 unfold uU;rw[dP,bS];rfl
theorem qg(s:Sm):qZ (qz s)=s:=by
 show Sm.mk (qd (av (s.t:Rat))) (qd (av (s.x:Rat))) (qd (av (s.y:Rat)))=s
 rw[xq,xq,xq]
theorem nG(s:Sm):K6 (qz s)=true:=by
 show(uU (av (s.t:Rat))&&(uU (av (s.x:Rat))&&uU (av (s.y:Rat))))=true
 rw[xu,xu,xu];rfl
def Yw:Arg Sm where
 get:=λa=>match a with | .agg l=>some (qZ l,[K6 l]) | _=>none
 put:=λs=> .agg (qz s)
 ok:=by
  intro a x cs h hc
  split at h
  ·rename_i l
   simp only[fu,Prod.mk.injEq]at h;obtain⟨rfl,rfl⟩:=h;have:=O9 (l:=l) (hc _ (by simp));rw[←this];exact bL.refl _
  ·cases h
def arq:Arg Int where
 get:=λa=>match a with | .agg [.c (.v (.bool p)),.c (.v (.string s))]=>some (iv p s,[fI p s]) | _=>none
 put:=bY
 ok:=by
  intro a x cs h hc
  split at h
  ·rename_i p s
   simp only[fu,Prod.mk.injEq]at h;obtain⟨rfl,rfl⟩:=h;exact bL.of_eq (zk (hc _ (by simp)))
  ·cases h
def lQ(a b:Sm):L4:=⟨hold ((a.x:Rat)-iG a.t a.x b.t b.x*(a.t:Rat)),hold (iG a.t a.x b.t b.x),hold ((a.y:Rat)-iG a.t a.y b.t b.y*(a.t:Rat)),hold (iG a.t a.y b.t b.y)⟩
def xO(s:Sm):Bool:=decide (0≤s.t)&&(decide (s.t≤63)&&(decide (0≤s.x)&&(decide (s.x≤63)&&(decide (0≤s.y)&&decide (s.y≤63)))))
def Γ31:FuncId→Option Spec:=λf=>bif beq f 113 then some (au aa7)else none
theorem aoG: ∀f s,Γ31 f=some s→aH prog f s:=bM Xb.spec
def Γ33:FuncId→Option Spec:=λf=>bif beq f 114 then some (au aie)else none
theorem aoH: ∀f s,Γ33 f=some s→aH prog f s:=bM ais.spec
def M31(n:Int):Tr AV:=
 let x1:ByteArray:=⟨⟨aD n.natAbs⟩⟩
 let x2:Bool:=decide (n<0)
 let x3:Int:=gI x1
 let x4:List AV:=[.c (.v (.bool true))]
 let x5:Bool:= !x2
 .ite (!fH x1) (.ret (AV.fG [.c (.v (.int i64 0)),.c (.v (.bool false))])) (.need (bif x2 then true else true) (.ite (bif x2 then bif true then decide (x3≤9223372036854775808)else false else false) (.ret (AV.fG (.c (.v (.int i64 (i64.wrap (u64.wrap (0-x3)))))::x4))) (.need (bif x5 then true else true) (.ite (bif x5 then bif true then decide (x3≤9223372036854775807)else false else false) (.ret (AV.fG (.c (.v (.int i64 (i64.wrap x3)))::x4))) (.ret (AV.fG [.c (.v (.int i64 0)),.c (.v (.bool false))]))))))
def M33(a:Sm)(b:Sm):Tr AV:=
 let x1:List AV:=[.c (.v (.bool false)),.c (.v (.string ⟨⟨aY 1⟩⟩))]
 let x2:List AV:= .c (.v (.bool (decide (a.t<0)))):: .c (.v (.string ⟨⟨aD a.t.natAbs⟩⟩))::x1
 let x3:Bool:=aK x2
 let x4:List AV:= .c (.v (.bool (decide (a.x<0)))):: .c (.v (.string ⟨⟨aD a.x.natAbs⟩⟩))::x1
 let x5:List AV:= .c (.v (.bool (decide (b.t<0)))):: .c (.v (.string ⟨⟨aD b.t.natAbs⟩⟩))::x1
 let x6:Bool:=aK x5
 let x7:List AV:= .c (.v (.bool (decide (b.x<0)))):: .c (.v (.string ⟨⟨aD b.x.natAbs⟩⟩))::x1
 let x8:List AV:= .c (.v (.bool (decide (a.y<0)))):: .c (.v (.string ⟨⟨aD a.y.natAbs⟩⟩))::x1
 let x9:List AV:= .c (.v (.bool (decide (b.y<0)))):: .c (.v (.string ⟨⟨aD b.y.natAbs⟩⟩))::x1
 let x10:Int:=(hold (ay x4-iG (ay x2) (ay x4) (ay x5) (ay x7)*ay x2)).num
 let iW:Int:=(hold (iG (ay x2) (ay x4) (ay x5) (ay x7))).num
 let kL:Int:=(hold (ay x8-iG (ay x2) (ay x8) (ay x5) (ay x9)*ay x2)).num
 let jA:Int:=(hold (iG (ay x2) (ay x8) (ay x5) (ay x9))).num
 .need x3 (.need (aK x4) (.need x6 (.need (aK x7) (.need (sM (ay x2) (ay x4) (ay x5) (ay x7)) (.need x3 (.need (aK x8) (.need x6 (.need (aK x9) (.need (sM (ay x2) (ay x8) (ay x5) (ay x9)) (.ret (AV.agg [.c (.v (.bool (decide (x10<0)))),.c (.v (.string ⟨⟨aD x10.natAbs⟩⟩)),.c (.v (.bool false)),.c (.v (.string ⟨⟨aY (hold (ay x4-iG (ay x2) (ay x4) (ay x5) (ay x7)*ay x2)).den⟩⟩)),.c (.v (.bool (decide (iW<0)))),.c (.v (.string ⟨⟨aD iW.natAbs⟩⟩)),.c (.v (.bool false)),.c (.v (.string ⟨⟨aY (hold (iG (ay x2) (ay x4) (ay x5) (ay x7))).den⟩⟩)),.c (.v (.bool (decide (kL<0)))),.c (.v (.string ⟨⟨aD kL.natAbs⟩⟩)),.c (.v (.bool false)),.c (.v (.string ⟨⟨aY (hold (ay x8-iG (ay x2) (ay x8) (ay x5) (ay x9)*ay x2)).den⟩⟩)),.c (.v (.bool (decide (jA<0)))),.c (.v (.string ⟨⟨aD jA.natAbs⟩⟩)),.c (.v (.bool false)),.c (.v (.string ⟨⟨aY (hold (iG (ay x2) (ay x8) (ay x5) (ay x9))).den⟩⟩))])))))))))))
theorem aoI(n:Int):aN prog Γ31 dn 1010 Tryz.f59 [bY n]=M31 n:=by kernel_rfl
theorem aoJ(a b:Sm):aN prog Γ33 dn 1010 Tryz.f61 [.agg (qz a),.agg (qz b)]=M33 a b:=by kernel_rfl
theorem ajH(n:Int)(h0:0≤n)(h1:n≤1000000):(M31 n).sat λr=>r= .fG [bR .i64 n,bJ true]:=by
 have hl:(aD n.natAbs).length≤8:=ZK (by omega);have hb:fH ⟨⟨aD n.natAbs⟩⟩=true:=dK hl;have hv:gI ⟨⟨aD n.natAbs⟩⟩=n:=by
  unfold gI;rw[if_pos hl]
  show((aM (aD n.natAbs):Nat):Int)=n
  rw[iM];omega
 have hn:decide (n<0)=false:=iB (by omega);have hm:decide (n≤9223372036854775807)=true:=dA;have hw:i64.wrap n=n:=wrap_i64 (by omega);simp only[M31,hb,hv,hn,hm,hw,Bool.not_true,Bool.not_false,cond_true,cond_false,sat_true]
 repeat first
  | refine ah rfl ?_
  | refine aj (λh=>Bool.noConfusion h) (λ_=> ?_)
  | refine aj (λ_=> ?_) (λh=>Bool.noConfusion h)
 exact ak rfl
theorem Kl{a b v w:Int}(hv:0≤v∧v≤63)(hw:0≤w∧w≤63)(ha:0≤a∧a≤63)(hb:a<b∧b≤a+8):
  sM a v b w=true∧oU 63 8 (iG a v b w)∧oU 4473 8 ((v:Rat)-iG a v b w*(a:Rat)):=by
 have ew:(w:Rat)-(v:Rat)=((w-v:Int):Rat):=by simp
 have eb:(b:Rat)-(a:Rat)=((b-a:Int):Rat):=by simp
 have n1:oU 63 1 (((w-v:Int):Rat)):=⟨by show(w-v).natAbs≤63;omega,Nat.le_refl _⟩
 have n2:oU 8 1 (((b-a:Int):Rat)):=⟨by show(b-a).natAbs≤8;omega,Nat.le_refl _⟩
 have nv:oU 63 1 ((v:Rat)):=⟨by show v.natAbs≤63;omega,Nat.le_refl _⟩
 have nw:oU 63 1 ((w:Rat)):=⟨by show w.natAbs≤63;omega,Nat.le_refl _⟩
 have na:oU 63 1 ((a:Rat)):=⟨by show a.natAbs≤63;omega,Nat.le_refl _⟩
 have nb:oU 71 1 ((b:Rat)):=⟨by show b.natAbs≤71;omega,Nat.le_refl _⟩
 have hs:oU 63 8 (iG a v b w):=by
  unfold iG;rw[ew,eb, ←JG];have:=oU.divInt (n:=((w-v:Int):Rat).num*(((b-a:Int):Rat).den:Int)) (d:=(((w-v:Int):Rat).den:Int)*((b-a:Int):Rat).num) (N:=63) (D:=8) (by show(0:Int)<1*(b-a);omega) (by show((w-v)*1).natAbs≤63;omega) (by show((1:Int)*(b-a)).natAbs≤8;omega);exact this
 have hne:(b:Rat)-(a:Rat)≠0:=by
  rw[eb];intro h;have:(b-a:Int)=0:=by have:=congrArg Rat.num h;exact this
  omega
 refine⟨?_,hs,(nv.sub (hs.mul na)).mono (by decide) (by decide)⟩;simp only[sM,qO,bI,dS];refine⟨⟨⟨⟨⟨Oy nw nv.neg ?_ ?_ ?_ ?_ ?_ ?_,Oy nb na.neg ?_ ?_ ?_ ?_ ?_ ?_⟩,?_⟩,hne⟩,ait hs na ?_ ?_ ?_ ?_ ?_ ?_⟩,Oy nv (hs.mul na).neg ?_ ?_ ?_ ?_ ?_ ?_⟩
 any_goals decide
 rw[ew,eb];exact aiu n1 n2 (by decide) (by decide) (by decide) (by decide) (by decide) (by decide)
def Gt(a b:Sm):Bool:=xO a&&(decide (0≤b.x)&&(decide (b.x≤63)&&(decide (0≤b.y)&&(decide (b.y≤63)&&(decide (a.t<b.t)&&decide (b.t≤a.t+8))))))
theorem Sq{a b:Sm}(h:Gt a b=true):sM a.t a.x b.t b.x=true∧sM a.t a.y b.t b.y=true∧lbB (lQ a b)=true:=by
 simp only[Gt,xO,bI,dS]at h;obtain⟨⟨h1,h2,h3,h4,h5,h6⟩,h7,h8,h9,h10,h11,h12⟩:=h;obtain⟨a1,a2,a3⟩:=Kl ⟨h3,h4⟩ ⟨h7,h8⟩ ⟨h1,h2⟩ ⟨h11,h12⟩;obtain⟨b1,b2,b3⟩:=Kl ⟨h5,h6⟩ ⟨h9,h10⟩ ⟨h1,h2⟩ ⟨h11,h12⟩;refine⟨a1,b1,?_⟩;simp only[lbB,lQ,fU,bI,yM];exact⟨⟨a3.mono (by decide) (by decide),a2⟩,b3.mono (by decide) (by decide),b2⟩
theorem ajI(a b:Sm)(h:Gt a b=true):(M33 a b).sat λr=>r=akT (lQ a b):=by
 obtain⟨h1,h2,_⟩:=Sq h;simp only[M33,Z0,Vx,h1,h2,sat_true];exact ak rfl
def K31:List AV→Option (AV×List Bool):=(F1 arq).K (λx=> .fG [bR .i64 x.1,bJ true]) λx=> [decide (0≤x.1),decide (x.1≤1000000)]
theorem aoK:aF prog 59 K31:=
 (F1 arq).pk aoG (fn:=Tryz.f59) (M:=λx=>M31 x.1) (λx=>aoI x.1)
  λx h=>ajH x.1 (dec (h (decide (0≤x.1)) (by simp))) (dec (h (decide (x.1≤1000000)) (by simp)))
def K33:List AV→Option (AV×List Bool):=(F2 Yw Yw).K (λx=>akT (lQ x.1 x.2.1)) λx=> [Gt x.1 x.2.1]
theorem aoL:aF prog 61 K33:=
 (F2 Yw Yw).pk aoH (fn:=Tryz.f61) (M:=λx=>M33 x.1 x.2.1) (λx=>aoJ x.1 x.2.1)
  λx h=>ajI x.1 x.2.1 (h _ (by simp))
end Go.bA
namespace Go.bA
open Go.Proofs
theorem zS(a b:Int)(p q:Bool)(f:L4):[AV.c (.v (.bool (decide (a<0)))),AV.c (.v (.string ⟨⟨aD a.natAbs⟩⟩)),AV.c (.v (.bool false)),AV.c (.v (.string ⟨⟨aY 1⟩⟩)),AV.c (.v (.bool false)),AV.c (.v (.string ⟨⟨[]⟩⟩)),AV.c (.v (.bool false)),AV.c (.v (.string ⟨⟨[]⟩⟩)),AV.c (.v (.bool false)),AV.c (.v (.bool (decide (b<0)))),AV.c (.v (.string ⟨⟨aD b.natAbs⟩⟩)),AV.c (.v (.bool false)),AV.c (.v (.string ⟨⟨aY 1⟩⟩)),AV.c (.v (.bool false)),AV.c (.v (.string ⟨⟨[]⟩⟩)),AV.c (.v (.bool false)),AV.c (.v (.string ⟨⟨[]⟩⟩)),AV.c (.v (.bool false)),AV.c (.v (.bool p)),AV.c (.v (.bool q)),AV.c (.v (.bool (decide (f.x0.num<0)))),AV.c (.v (.string ⟨⟨aD f.x0.num.natAbs⟩⟩)),AV.c (.v (.bool false)),AV.c (.v (.string ⟨⟨aY f.x0.den⟩⟩)),AV.c (.v (.bool (decide (f.x1.num<0)))),AV.c (.v (.string ⟨⟨aD f.x1.num.natAbs⟩⟩)),AV.c (.v (.bool false)),AV.c (.v (.string ⟨⟨aY f.x1.den⟩⟩)),AV.c (.v (.bool (decide (f.y0.num<0)))),AV.c (.v (.string ⟨⟨aD f.y0.num.natAbs⟩⟩)),AV.c (.v (.bool false)),AV.c (.v (.string ⟨⟨aY f.y0.den⟩⟩)),AV.c (.v (.bool (decide (f.y1.num<0)))),AV.c (.v (.string ⟨⟨aD f.y1.num.natAbs⟩⟩)),AV.c (.v (.bool false)),AV.c (.v (.string ⟨⟨aY f.y1.den⟩⟩))]=uE ⟨a,b,p,q,f⟩:=rfl
theorem zT(a b:Int)(p q:Bool):[AV.c (.v (.bool (decide (a<0)))),AV.c (.v (.string ⟨⟨aD a.natAbs⟩⟩)),AV.c (.v (.bool false)),AV.c (.v (.string ⟨⟨aY 1⟩⟩)),AV.c (.v (.bool false)),AV.c (.v (.string ⟨⟨[]⟩⟩)),AV.c (.v (.bool false)),AV.c (.v (.string ⟨⟨[]⟩⟩)),AV.c (.v (.bool false)),AV.c (.v (.bool (decide (b<0)))),AV.c (.v (.string ⟨⟨aD b.natAbs⟩⟩)),AV.c (.v (.bool false)),AV.c (.v (.string ⟨⟨aY 1⟩⟩)),AV.c (.v (.bool false)),AV.c (.v (.string ⟨⟨[]⟩⟩)),AV.c (.v (.bool false)),AV.c (.v (.string ⟨⟨[]⟩⟩)),AV.c (.v (.bool false)),AV.c (.v (.bool p)),AV.c (.v (.bool q))]=Dm ⟨a,b,p,q⟩:=rfl
theorem zU(f:L4):[AV.c (.v (.bool (decide (f.x0.num<0)))),AV.c (.v (.string ⟨⟨aD f.x0.num.natAbs⟩⟩)),AV.c (.v (.bool false)),AV.c (.v (.string ⟨⟨aY f.x0.den⟩⟩)),AV.c (.v (.bool (decide (f.x1.num<0)))),AV.c (.v (.string ⟨⟨aD f.x1.num.natAbs⟩⟩)),AV.c (.v (.bool false)),AV.c (.v (.string ⟨⟨aY f.x1.den⟩⟩)),AV.c (.v (.bool (decide (f.y0.num<0)))),AV.c (.v (.string ⟨⟨aD f.y0.num.natAbs⟩⟩)),AV.c (.v (.bool false)),AV.c (.v (.string ⟨⟨aY f.y0.den⟩⟩)),AV.c (.v (.bool (decide (f.y1.num<0)))),AV.c (.v (.string ⟨⟨aD f.y1.num.natAbs⟩⟩)),AV.c (.v (.bool false)),AV.c (.v (.string ⟨⟨aY f.y1.den⟩⟩))]=jD f:=rfl
theorem zV(n:Int):[AV.c (.v (.bool (decide (n<0)))),AV.c (.v (.string ⟨⟨aD n.natAbs⟩⟩)),AV.c (.v (.bool false)),AV.c (.v (.string ⟨⟨aY 1⟩⟩)),AV.c (.v (.bool false)),AV.c (.v (.string ⟨⟨[]⟩⟩)),AV.c (.v (.bool false)),AV.c (.v (.string ⟨⟨[]⟩⟩)),AV.c (.v (.bool false))]=gP n:=rfl
theorem Fa(u:Un):(⟨u.a,u.b,u.oa,u.ob,u.f⟩:Un)=u:=rfl
theorem Fb(u:Iv):(⟨u.a,u.b,u.oa,u.ob⟩:Iv)=u:=rfl
theorem vW(u:Un):List.take 9 (uE u)=gP u.a:=rfl
theorem vZ(u:Un):List.take 9 (List.drop 9 (uE u))=gP u.b:=rfl
theorem wh(u:Iv):List.take 9 (Dm u)=gP u.a:=rfl
theorem wm(u:Iv):List.take 9 (List.drop 9 (Dm u))=gP u.b:=rfl
theorem wo(a b:Int)(p q:Bool)(f:L4):List.reverse [IV.v (.string ⟨⟨aY f.y1.den⟩⟩),IV.v (.bool false),IV.v (.string ⟨⟨aD f.y1.num.natAbs⟩⟩),IV.v (.bool (decide (f.y1.num<0))),IV.v (.string ⟨⟨aY f.y0.den⟩⟩),IV.v (.bool false),IV.v (.string ⟨⟨aD f.y0.num.natAbs⟩⟩),IV.v (.bool (decide (f.y0.num<0))),IV.v (.string ⟨⟨aY f.x1.den⟩⟩),IV.v (.bool false),IV.v (.string ⟨⟨aD f.x1.num.natAbs⟩⟩),IV.v (.bool (decide (f.x1.num<0))),IV.v (.string ⟨⟨aY f.x0.den⟩⟩),IV.v (.bool false),IV.v (.string ⟨⟨aD f.x0.num.natAbs⟩⟩),IV.v (.bool (decide (f.x0.num<0))),IV.v (.bool q),IV.v (.bool p),IV.v (.bool false),IV.v (.string ⟨⟨[]⟩⟩),IV.v (.bool false),IV.v (.string ⟨⟨[]⟩⟩),IV.v (.bool false),IV.v (.string ⟨⟨aY 1⟩⟩),IV.v (.bool false),IV.v (.string ⟨⟨aD b.natAbs⟩⟩),IV.v (.bool (decide (b<0))),IV.v (.bool false),IV.v (.string ⟨⟨[]⟩⟩),IV.v (.bool false),IV.v (.string ⟨⟨[]⟩⟩),IV.v (.bool false),IV.v (.string ⟨⟨aY 1⟩⟩),IV.v (.bool false),IV.v (.string ⟨⟨aD a.natAbs⟩⟩),IV.v (.bool (decide (a<0)))]=KV ⟨a,b,p,q,f⟩:=rfl
theorem rZ(u:Un):List.take (35+1) (List.drop (0*(35+1)) (KV u))=KV u:=rfl
theorem Fe(u:Un):unV ((KV u).map AV.c)=u:=nL u
theorem zW(u:Un):OA ((KV u).map AV.c)=true:=lJ u
theorem qh(m:Nat)(el e:Nat→List IV):nM (m+1) (dH m el e)=nM m el++[unV ((e 0).map AV.c)]:=by
 unfold nM;rw[List.range_succ,List.map_append]
 congr 1
 ·refine List.map_congr_left λk hk=> ?_
  have hk:=List.mem_range.1 hk;unfold dH;rw[if_pos hk]
 ·simp only[List.map_cons,List.map_nil]
  unfold dH;rw[if_neg (Nat.lt_irrefl m),Nat.sub_self]
theorem qj(m:Nat)(el e:Nat→List IV):xI (m+1) (dH m el e)=(xI m el&&OA ((e 0).map AV.c)):=by
 unfold xI;rw[List.range_succ,List.all_append]
 congr 1
 ·have: ∀l:List Nat,(∀k∈l,k<m)→(l.all λk=>OA ((dH m el e k).map AV.c))=l.all λk=>OA ((el k).map AV.c):=by
   intro l hl
   induction l with
   | nil=>rfl
   | cons x l ih=>
     simp only[List.all_cons];rw[ih λk hk=>hl k (by simp[hk])];have hx:=hl x (by simp);unfold dH;rw[if_pos hx]
  exact this _ λk hk=>List.mem_range.1 hk
 ·simp only[List.all_cons,List.all_nil,Bool.and_true]
  unfold dH;rw[if_neg (Nat.lt_irrefl m),Nat.sub_self]
structure Stp where
 t:Int
 x:Int
 y:Int
 k:Int
def st0:Stp:=⟨0,0,0,0⟩
def oZ(n:Int):Bool:=decide (0≤n)&&decide (n<256)
def aeA(s:Stp):List IV:=[.v (.int .u8 s.t),.v (.int .u8 s.x),.v (.int .u8 s.y),.v (.int .u8 s.k)]
def stV:List IV→Stp
 | [.v (.int .u8 a),.v (.int .u8 b),.v (.int .u8 c),.v (.int .u8 d)]=>⟨a,b,c,d⟩
 | _=>st0
def aoM:List IV→Bool
 | [.v (.int .u8 a),.v (.int .u8 b),.v (.int .u8 c),.v (.int .u8 d)]=>oZ a&&(oZ b&&(oZ c&&oZ d))
 | _=>false
def Stp.ok(s:Stp):Bool:=oZ s.t&&(oZ s.x&&(oZ s.y&&oZ s.k))
theorem Yx{l:List IV}(h:aoM l=true):l=aeA (stV l)∧(stV l).ok=true:=by
 unfold aoM at h
 split at h
 ·exact⟨rfl,h⟩
 ·cases h
def yX(S:List Stp):Nat→List IV:=λk=>aeA (S.getD k st0)
def mK(n:Nat)(el:Nat→List IV):List Stp:=(List.range n).map λk=>stV (el k)
def xK(n:Nat)(el:Nat→List IV):Bool:=(List.range n).all λk=>aoM (el k)
theorem Fg(n:Nat)(el:Nat→List IV):(mK n el).length=n:=by simp[mK]
theorem Km{n:Nat}{el:Nat→List IV}(h:xK n el=true):(∀k,k<n→el k=yX (mK n el) k)∧(mK n el).all Stp.ok=true:=by
 have h1:=List.all_eq_true.1 h;refine⟨λk hk=> ?_,List.all_eq_true.2 λr hr=> ?_⟩
 ·have:=(Yx (h1 k (List.mem_range.2 hk))).1
  have e:(mK n el).getD k st0=stV (el k):=by simp[mK,dJ,hk]
  unfold yX;rw[e];exact this
 ·unfold mK at hr
  obtain⟨k,hk,rfl⟩:=List.mem_map.1 hr;exact(Yx (h1 k hk)).2
theorem wu(S:List Stp):mK S.length (yX S)=S:=by
 apply List.ext_getElem
 ·simp[mK]
 ·intro i h1 h2
  simp[mK,yX,aeA,stV,dJ,h2]
theorem ql{S:List Stp}(h:S.all Stp.ok=true):xK S.length (yX S)=true:=by
 refine List.all_eq_true.2 λk hk=> ?_
 have hk:=List.mem_range.1 hk;have:(S.getD k st0).ok=true:=by
  have:S.getD k st0=S[k]:=by simp[dJ,hk]
  rw[this];exact List.all_eq_true.1 h _ (List.getElem_mem hk)
 exact this
structure Cr where
 t:Int
 x:Int
 y:Int
 S:List Stp
def DL(c:Cr):List AV:=[.c (.v (.int .u8 c.t)),.c (.v (.int .u8 c.x)),.c (.v (.int .u8 c.y)),.c (.sl c.S.length 4 (yX c.S))]
def alb:Arg Cr where
 get:=λa=>match a with | .agg [.c (.v (.int .u8 t)),.c (.v (.int .u8 x)),.c (.v (.int .u8 y)),.c (.sl n 4 el)]=>some (⟨t,x,y,mK n el⟩,[xK n el]) | _=>none
 put:=λc=> .agg (DL c)
 ok:=by
  intro a x cs h hc
  split at h
  ·rename_i t x y n el
   simp only[fu,Prod.mk.injEq]at h;obtain⟨rfl,rfl⟩:=h;have h1:=(Km (n:=n) (el:=el) (hc _ (by simp))).1;unfold DL;simp only[Fg];exact bL.agg (.cons (bL.refl _) (.cons (bL.refl _) (.cons (bL.refl _) (.cons (bL.sl h1) .nil))))
  ·cases h
def eTr:kr (Cr×List Un×Sm) where
 parse:=λe=>
  match e with
  | [some (.cells [.c (.v (.int .u8 t)),.c (.v (.int .u8 x)),.c (.v (.int .u8 y)),.c (.sl n 4 el)] 82),some (.arr m 36 iV 148),some (.cells l 139)]=>some ((⟨t,x,y,mK n el⟩,nM m iV,qZ l),[xK n el,xI m iV,K6 l])
  | _=>none
 ents:=λx=> [some (.cells (DL x.1) 82),some (.arr x.2.1.length 36 (qH x.2.1) 148),some (.cells (qz x.2.2) 139)]
 ok:=by
  intro e x cs h hc
  split at h
  ·rename_i t x y n el m iV l
   simp only[fu,Prod.mk.injEq]at h;obtain⟨rfl,rfl⟩:=h;have h1:=(Km (n:=n) (el:=el) (hc _ (by simp))).1;have h2:=Rx (n:=m) (el:=iV) (hc _ (by simp));have h3:=O9 (l:=l) (hc _ (by simp));simp only[DL,Fg,Mv];refine .cons (.cells _ _ _ ?_) (.cons (.arr _ _ _ _ _ h2) (.cons ?_ .nil))
   ·exact .cons (bL.refl _) (.cons (bL.refl _) (.cons (bL.refl _) (.cons (bL.sl h1) .nil)))
   ·rw[←h3];exact .refl _
  ·cases h
abbrev T16:=(Unit×Nat×Unit×Bool×Int×Unit)×(Cr×List Un×Sm)
abbrev F16:Form (Unit×Nat×Unit×Bool×Int×Unit):= .cons (mP 0 0) (.cons (dZ 1 36) (.cons (mP 2 0) (.cons kG (.cons aX .nil))))
abbrev G16:Form (Nat×Unit×Bool×Unit):= .cons (dZ 0 36) (.cons (mP 1 0) (.cons kG .nil))
def eTo:kr (List Un×Sm) where
 parse:=λe=>
  match e with
  | [some (.arr m 36 iV 148),some (.cells l 139)]=>some ((nM m iV,qZ l),[xI m iV,K6 l])
  | _=>none
 ents:=λx=> [some (.arr x.1.length 36 (qH x.1) 148),some (.cells (qz x.2) 139)]
 ok:=by
  intro e x cs h hc
  split at h
  ·rename_i m iV l
   simp only[fu,Prod.mk.injEq]at h;obtain⟨rfl,rfl⟩:=h;have h2:=Rx (n:=m) (el:=iV) (hc _ (by simp));have h3:=O9 (l:=l) (hc _ (by simp));simp only[Mv];refine .cons (.arr _ _ _ _ _ h2) (.cons ?_ .nil);rw[←h3];exact .refl _
  ·cases h
def Kn(l:Sm)(s:Stp):Sm:=⟨l.t+1+s.t%8,s.x%64,s.y%64⟩
def Pb(l:Sm)(s:Stp):Sm:=bif decide (s.k%8=1)then⟨l.t,s.y%64,s.x%64⟩else l
def iU(st:List Un×Sm×Bool)(s:Stp):List Un×Sm×Bool:=
 (bif decide (s.k%8=0)then st.1 else st.1++[⟨(Pb st.2.1 s).t,(Kn st.2.1 s).t,decide (0<st.1.length)&& !st.2.2,false,lQ (Pb st.2.1 s) (Kn st.2.1 s)⟩],Kn st.2.1 s,decide (s.k%8=0))
def lS(st:List Un×Sm×Bool)(S:List Stp):List Un×Sm×Bool:=S.foldl iU st
def MU(x:T16):Bool:=decide (x.1.2.1=0)&&(decide (x.2.2.1.length=0)&&(x.1.2.2.2.1&&(decide (x.1.2.2.2.2.1=0)&&(xO x.2.2.2&&(decide (x.2.2.2.t≤15)&&(x.2.1.S.all Stp.ok&&decide (x.2.1.S.length≤6)))))))
def ars(x:T16):(Nat×Unit×Bool×Unit)×(List Un×Sm):=
 let r:=lS (x.2.2.1,x.2.2.2,x.1.2.2.2.1) x.2.1.S
 ((r.1.length,(),r.2.2,()),(r.1,r.2.1))
def aar:bC T16 ((Nat×Unit×Bool×Unit)×(List Un×Sm)):=lD {nt:=133,live:=[1,3,4,5,6],lifts:=[(3,36,148)]} {nt:=133,live:=[3,4,5],lifts:=[(3,36,148)]} (dU.with eTr F16) (dU.with eTo G16) ars MU
theorem aas:aar.gH:=cZ _ _ _ _ _ _
def L16:Nat→Option (St→Tr (Ex×St)):=λid=>bif beq id 0 then some (aar.g 0)else none
def aoN:FuncId→Option Spec:=λf=>bif beq f 28 then some (au Rs)else bif beq f 59 then some (au K31)else bif beq f 61 then some (au K33)else bif beq f 63 then some (au kLn)else none
theorem Yy: ∀f s,aoN f=some s→aH prog f s:=step_ok Df.spec (step_ok aoK.spec (step_ok aoL.spec (bM arp.spec)))
def Fh(m:Nat)(al:Bool)(i:Int)(c:Cr)(O:List Un)(l:Sm):Tr (T16 ⊕ (Nat×Unit×Bool×Unit)×List Un×Sm):=
 let x1:Int:= ↑c.S.length
 let x2:Bool:=decide (i<x1)
 let x3:Bool:=decide (l.t<0)
 let x4:ByteArray:=⟨⟨aD l.t.natAbs⟩⟩
 let x5:Int:=iv x3 x4
 let x6:Int:=i64.wrap (i64.wrap (x5+1)+i64.wrap ((c.S.getD i.toNat st0).t.tmod 8))
 let x7:Int:=i64.wrap ((c.S.getD i.toNat st0).x.tmod 64)
 let x8:Bool:=decide (-9223372036854775808≤x7)
 let x9:Bool:=decide (x7≤9223372036854775807)
 let x10:Int:=i64.wrap ((c.S.getD i.toNat st0).y.tmod 64)
 let iW:Bool:=decide (-9223372036854775808≤x10)
 let kL:Bool:=decide (x10≤9223372036854775807)
 let jA:Int:=(c.S.getD i.toNat st0).k.tmod 8
 let kM:Bool:=jA !=0
 let mO:Int:= ↑m
 let nu:Bool:=decide (mO>0)
 let jR:IV:=IV.v (.bool x3)
 let x18:IV:=IV.v (.string x4)
 let rO:IV:=IV.v (.string ⟨⟨aY 1⟩⟩)
 let x20:List AV:=[.c (.v (.bool false)),AV.c rO]
 let x21:List AV:=AV.c jR::AV.c x18:: .c (.v (.bool false))::AV.c rO:: .c (.v (.bool (decide (x10<0)))):: .c (.v (.string ⟨⟨aD x10.natAbs⟩⟩)):: .c (.v (.bool false))::AV.c rO:: .c (.v (.bool (decide (x7<0)))):: .c (.v (.string ⟨⟨aD x7.natAbs⟩⟩))::x20
 let xH:Bool:=K6 x21
 let x23:IV:=IV.v (.bool (decide (x6<0)))
 let x24:IV:=IV.v (.string ⟨⟨aD x6.natAbs⟩⟩)
 let x25:List AV:=AV.c x23::AV.c x24:: .c (.v (.bool false))::AV.c rO:: .c (.v (.bool (decide (x7<0)))):: .c (.v (.string ⟨⟨aD x7.natAbs⟩⟩)):: .c (.v (.bool false))::AV.c rO:: .c (.v (.bool (decide (x10<0)))):: .c (.v (.string ⟨⟨aD x10.natAbs⟩⟩))::x20
 let xL:Bool:=K6 x25
 let x27:Bool:=Gt (qZ x21) (qZ x25)
 let x28:Bool:=decide (m≤O.length)
 let x29:Nat:=m+1
 let x30:Bool:=decide (x29≤9223372036854775807)
 let x31:Nat:=x29*408
 let x32:Bool:=decide (x31≤140737488355328)
 let Db:Bool:=xK c.S.length (yX c.S)
 let x34:Nat:=35+1
 let x35:IV:=IV.v (.string ⟨⟨aY (lQ (qZ x21) (qZ x25)).y1.den⟩⟩)
 let Vo:Int:=(lQ (qZ x21) (qZ x25)).y1.num
 let Hl:IV:=IV.v (.string ⟨⟨aD Vo.natAbs⟩⟩)
 let x38:IV:=IV.v (.bool (decide (Vo<0)))
 let x39:IV:=IV.v (.string ⟨⟨aY (lQ (qZ x21) (qZ x25)).y0.den⟩⟩)
 let x40:Int:=(lQ (qZ x21) (qZ x25)).y0.num
 let x41:IV:=IV.v (.string ⟨⟨aD x40.natAbs⟩⟩)
 let Tg:IV:=IV.v (.bool (decide (x40<0)))
 let x43:IV:=IV.v (.string ⟨⟨aY (lQ (qZ x21) (qZ x25)).x1.den⟩⟩)
 let Vp:Int:=(lQ (qZ x21) (qZ x25)).x1.num
 let Vq:IV:=IV.v (.string ⟨⟨aD Vp.natAbs⟩⟩)
 let Vr:IV:=IV.v (.bool (decide (Vp<0)))
 let KT:IV:=IV.v (.string ⟨⟨aY (lQ (qZ x21) (qZ x25)).x0.den⟩⟩)
 let x48:Int:=(lQ (qZ x21) (qZ x25)).x0.num
 let PS:IV:=IV.v (.string ⟨⟨aD x48.natAbs⟩⟩)
 let ZC:IV:=IV.v (.bool (decide (x48<0)))
 let Xz:IV:=IV.v (.string {data:= #[]})
 let x52:List IV:=[IV.v (.bool false),Xz,IV.v (.bool false),Xz,IV.v (.bool false),rO,IV.v (.bool false),x24,x23,IV.v (.bool false),Xz,IV.v (.bool false),Xz,IV.v (.bool false),rO,IV.v (.bool false),x18,jR]
 let x53:List IV:=IV.v (.bool false)::IV.v (.bool (bif true then !al else false))::x52
 let x54:List IV:=IV.v (.bool false)::IV.v (.bool false)::x52
 let x55:Bool:=xI O.length (qH O)
 let x56:List Un:=nM O.length (qH O)
 let x57:List AV:=AV.c jR::AV.c x18:: .c (.v (.bool false))::AV.c rO:: .c (.v (.bool (decide (l.x<0)))):: .c (.v (.string ⟨⟨aD l.x.natAbs⟩⟩)):: .c (.v (.bool false))::AV.c rO:: .c (.v (.bool (decide (l.y<0)))):: .c (.v (.string ⟨⟨aD l.y.natAbs⟩⟩))::x20
 let x58:Bool:=K6 x57
 let x59:Bool:=Gt (qZ x57) (qZ x25)
 let x60:IV:=IV.v (.string ⟨⟨aY (lQ (qZ x57) (qZ x25)).y1.den⟩⟩)
 let x61:Int:=(lQ (qZ x57) (qZ x25)).y1.num
 let x62:IV:=IV.v (.string ⟨⟨aD x61.natAbs⟩⟩)
 let x63:IV:=IV.v (.bool (decide (x61<0)))
 let x64:IV:=IV.v (.string ⟨⟨aY (lQ (qZ x57) (qZ x25)).y0.den⟩⟩)
 let x65:Int:=(lQ (qZ x57) (qZ x25)).y0.num
 let x66:IV:=IV.v (.string ⟨⟨aD x65.natAbs⟩⟩)
 let x67:IV:=IV.v (.bool (decide (x65<0)))
 let x68:IV:=IV.v (.string ⟨⟨aY (lQ (qZ x57) (qZ x25)).x1.den⟩⟩)
 let x69:Int:=(lQ (qZ x57) (qZ x25)).x1.num
 let x70:IV:=IV.v (.string ⟨⟨aD x69.natAbs⟩⟩)
 let x71:IV:=IV.v (.bool (decide (x69<0)))
 let x72:IV:=IV.v (.string ⟨⟨aY (lQ (qZ x57) (qZ x25)).x0.den⟩⟩)
 let x73:Int:=(lQ (qZ x57) (qZ x25)).x0.num
 let x74:IV:=IV.v (.string ⟨⟨aD x73.natAbs⟩⟩)
 let x75:IV:=IV.v (.bool (decide (x73<0)))
 .need (bif x2 then true else true) (.ite (bif x2 then bif true then decide (i<6)else false else false) (.need (decide (0≤i∧i<x1)) (.need (fI x3 x4) (.need (decide (0≤x5)) (.need (decide (x5≤1000000)) (.need true (.need true (.need true (.need (decide (-9223372036854775808≤x6)) (.need (decide (x6≤9223372036854775807)) (.need x8 (.need x9 (.need iW (.need kL (.need true (.ite (jA==1) (.need true (.need true (.need true (.need true (.need iW (.need kL (.need x8 (.need x9 (.need true (.ite kM (.ite nu (.need xH (.need xL (.need x27 (.need x28 (.need true (.need x30 (.need x32 (.need true (.need Db (.need (xI x29 (dH m (qH O) λk=>List.take x34 (List.drop (k*x34) (x35::IV.v (.bool false)::Hl::x38::x39::IV.v (.bool false)::x41::Tg::x43::IV.v (.bool false)::Vq::Vr::KT::IV.v (.bool false)::PS::ZC::x53).reverse))) (.need xL (.ret (Sum.inl (((),x29,(),jA==0,i64.wrap (i+1),()),{t:=c.t,x:=c.x,y:=c.y,S:=mK c.S.length (yX c.S)},nM x29 (dH m (qH O) λk=>List.take x34 (List.drop (k*x34) (x35::IV.v (.bool false)::Hl::x38::x39::IV.v (.bool false)::x41::Tg::x43::IV.v (.bool false)::Vq::Vr::KT::IV.v (.bool false)::PS::ZC::x53).reverse)),qZ x25)))))))))))))) (.need xH (.need xL (.need x27 (.need x28 (.need true (.need x30 (.need x32 (.need true (.need Db (.need (xI x29 (dH m (qH O) λk=>List.take x34 (List.drop (k*x34) (x35::IV.v (.bool false)::Hl::x38::x39::IV.v (.bool false)::x41::Tg::x43::IV.v (.bool false)::Vq::Vr::KT::IV.v (.bool false)::PS::ZC::x54).reverse))) (.need xL (.ret (Sum.inl (((),x29,(),jA==0,i64.wrap (i+1),()),{t:=c.t,x:=c.x,y:=c.y,S:=mK c.S.length (yX c.S)},nM x29 (dH m (qH O) λk=>List.take x34 (List.drop (k*x34) (x35::IV.v (.bool false)::Hl::x38::x39::IV.v (.bool false)::x41::Tg::x43::IV.v (.bool false)::Vq::Vr::KT::IV.v (.bool false)::PS::ZC::x54).reverse)),qZ x25))))))))))))))) (.need true (.need Db (.need x55 (.need xL (.ret (Sum.inl (((),m,(),jA==0,i64.wrap (i+1),()),{t:=c.t,x:=c.x,y:=c.y,S:=mK c.S.length (yX c.S)},x56,qZ x25))))))))))))))))) (.need true (.ite kM (.ite nu (.need x58 (.need xL (.need x59 (.need x28 (.need true (.need x30 (.need x32 (.need true (.need Db (.need (xI x29 (dH m (qH O) λk=>List.take x34 (List.drop (k*x34) (x60::IV.v (.bool false)::x62::x63::x64::IV.v (.bool false)::x66::x67::x68::IV.v (.bool false)::x70::x71::x72::IV.v (.bool false)::x74::x75::x53).reverse))) (.need xL (.ret (Sum.inl (((),x29,(),jA==0,i64.wrap (i+1),()),{t:=c.t,x:=c.x,y:=c.y,S:=mK c.S.length (yX c.S)},nM x29 (dH m (qH O) λk=>List.take x34 (List.drop (k*x34) (x60::IV.v (.bool false)::x62::x63::x64::IV.v (.bool false)::x66::x67::x68::IV.v (.bool false)::x70::x71::x72::IV.v (.bool false)::x74::x75::x53).reverse)),qZ x25)))))))))))))) (.need x58 (.need xL (.need x59 (.need x28 (.need true (.need x30 (.need x32 (.need true (.need Db (.need (xI x29 (dH m (qH O) λk=>List.take x34 (List.drop (k*x34) (x60::IV.v (.bool false)::x62::x63::x64::IV.v (.bool false)::x66::x67::x68::IV.v (.bool false)::x70::x71::x72::IV.v (.bool false)::x74::x75::x54).reverse))) (.need xL (.ret (Sum.inl (((),x29,(),jA==0,i64.wrap (i+1),()),{t:=c.t,x:=c.x,y:=c.y,S:=mK c.S.length (yX c.S)},nM x29 (dH m (qH O) λk=>List.take x34 (List.drop (k*x34) (x60::IV.v (.bool false)::x62::x63::x64::IV.v (.bool false)::x66::x67::x68::IV.v (.bool false)::x70::x71::x72::IV.v (.bool false)::x74::x75::x54).reverse)),qZ x25))))))))))))))) (.need true (.need Db (.need x55 (.need xL (.ret (Sum.inl (((),m,(),jA==0,i64.wrap (i+1),()),{t:=c.t,x:=c.x,y:=c.y,S:=mK c.S.length (yX c.S)},x56,qZ x25)))))))))))))))))))))))) (.need x55 (.need x58 (.ret (Sum.inr ((m,(),al,()),x56,qZ x57))))))
def stI(l:Sm):List IV:=Vy l.t++(Vy l.t++([.v (.bool false),.v (.bool false)]++(KU (l.x:Rat)++(zIV++(KU (l.y:Rat)++zIV)))))
def ajJ(n:Nat)(el:Nat→List IV):Tr AV:=
 let W:=oV.list n el
 need (oV.oks n el)<| need (jL rL W)<| ret (oV.sl (mH rL W))
def M16(c:Cr):Tr AV:=
 let t:=i64.wrap (c.t.tmod 16)
 let x:=i64.wrap (c.x.tmod 64)
 let y:=i64.wrap (c.y.tmod 64)
 let s:=qz ⟨t,x,y⟩
 let S:=mK c.S.length (yX c.S)
 let O0:=nM 0 λ_=>([]:List IV)
 let r:=lS (O0,qZ s,true) S
 need true<| need true<| need true<| need (decide (-9223372036854775808≤t))<| need (decide (t≤9223372036854775807))<| need (decide (-9223372036854775808≤x))<| need (decide (x≤9223372036854775807))<|
  need (decide (-9223372036854775808≤y))<| need (decide (y≤9223372036854775807))<| need (xK c.S.length (yX c.S))<| need true<| need (K6 s)<| need (MU (((),0,(),true,0,()),(⟨c.t,c.x,c.y,S⟩,O0,qZ s)))<|
  Tr.ite r.2.2 (need (decide (r.1.length≤r.1.length))<| need true<| need (decide (r.1.length+1≤9223372036854775807))<| need (decide ((r.1.length+1)*408≤140737488355328))<| need (decide (r.1.length+1≤r.1.length+1))<|
   ajJ (r.1.length+1) (dH r.1.length (qH r.1) λk=>((stI r.2.1).drop (k*36)).take 36))
  (need (decide (r.1.length≤r.1.length))<| ajJ r.1.length (qH r.1))
theorem aat(x:T16):(exec prog (Js prog aoN (λ_=>false) 1010 1) dn 1010 (aR 0 (codeOf Tryz.f24)) (eY aar.nIn (aar.head x))).bind (aar.fin 0 0)=Fh x.1.2.1 x.1.2.2.2.1 x.1.2.2.2.2.1 x.2.1 x.2.2.1 x.2.2.2:=by
 obtain⟨⟨⟨⟩,m,⟨⟩,al,i,⟨⟩⟩,c,O,l⟩:=x
 kernel_rfl
theorem aoO(c:Cr):aN prog (Js prog aoN (λ_=>false) 1010 1) L16 1010 Tryz.f24 [.agg (DL c)]=M16 c:=by kernel_rfl
theorem xw(t x y:Int):[AV.c (.v (.bool (decide (t<0)))),AV.c (.v (.string ⟨⟨aD t.natAbs⟩⟩)),AV.c (.v (.bool false)),AV.c (.v (.string ⟨⟨aY 1⟩⟩)),AV.c (.v (.bool (decide (x<0)))),AV.c (.v (.string ⟨⟨aD x.natAbs⟩⟩)),AV.c (.v (.bool false)),AV.c (.v (.string ⟨⟨aY 1⟩⟩)),AV.c (.v (.bool (decide (y<0)))),AV.c (.v (.string ⟨⟨aD y.natAbs⟩⟩)),AV.c (.v (.bool false)),AV.c (.v (.string ⟨⟨aY 1⟩⟩))]=qz ⟨t,x,y⟩:=rfl
theorem Yz:(#[]:Array UInt8)={toList:=[]}:=rfl
theorem aru:KU 0=zIV:=vS (show av 0=Dk from EI)
def xA(l:Sm):Un:=⟨l.t,l.t,false,false,⟨(l.x:Rat),0,(l.y:Rat),0⟩⟩
theorem aoP(l:Sm):stI l=KV (xA l):=by
 unfold stI;rw[←aru];rfl
theorem aau(c:Cr)(O:List Un)(l:Sm)(al:Bool)(i:Nat)(hS:c.S.all Stp.ok=true)(hl:i<c.S.length)(h6:i<6)(hO:O.length≤100)(hs:xO l=true)(ht:l.t≤15+8*i)
  (Q:T16 ⊕ ((Nat×Unit×Bool×Unit)×(List Un×Sm))→Prop) (hq:Q (.inl (((),(iU (O,l,al) (c.S.getD i st0)).1.length,(),(iU (O,l,al) (c.S.getD i st0)).2.2,((i+1:Nat):Int),()),(c,(iU (O,l,al) (c.S.getD i st0)).1,(iU (O,l,al) (c.S.getD i st0)).2.1)))):
  (Fh O.length al (i:Nat) c O l).sat Q:=by
 have hk:(c.S.getD i st0).ok=true:=by
  have:c.S.getD i st0=c.S[i]:=by simp[dJ,hl]
  rw[this];exact List.all_eq_true.1 hS _ (List.getElem_mem hl)
 generalize hsd:c.S.getD i st0=s at*;simp only[Stp.ok,oZ,bI,dS]at hk;have hs2:=hs;simp only[xO,bI,dS]at hs2;obtain⟨l1,l2,l3,l4,l5,l6⟩:=hs2;have hw1:i64.wrap ((i:Int)+1)=((i+1:Nat):Int):=kU;have c1:decide ((0:Int)≤(i:Int)∧(i:Int)<(c.S.length:Int))=true:=dA;have c2:decide ((i:Int)<(c.S.length:Int))=true:=dA;have c3:decide ((i:Int)<6)=true:=dA;have tX:i64.wrap (s.x.tmod 64)=s.x%64:=by rw[Int.tmod_eq_emod_of_nonneg hk.2.1.1,wrap_i64 (by omega)]
 have tY:i64.wrap (s.y.tmod 64)=s.y%64:=by rw[Int.tmod_eq_emod_of_nonneg hk.2.2.1.1,wrap_i64 (by omega)]
 have tK:s.k.tmod 8=s.k%8:=Int.tmod_eq_emod_of_nonneg hk.2.2.2.1;have tT:i64.wrap (i64.wrap (l.t+1)+i64.wrap (s.t.tmod 8))=l.t+1+s.t%8:=by
  rw[Int.tmod_eq_emod_of_nonneg hk.1.1,wrap_i64 (x:=l.t+1) (by omega),wrap_i64 (x:=s.t%8) (by omega),wrap_i64 (by omega)]
 have r1:decide (0≤l.t)=true:=dK l1;have r2:decide (l.t≤1000000)=true:=dA;have r3: ∀z:Int,0≤z→z≤1000→decide (-9223372036854775808≤z)=true:=λz h k=>dA
 have r4: ∀z:Int,0≤z→z≤1000→decide (z≤9223372036854775807)=true:=λz h k=>dA
 have a1:=r3 (s.x%64) (by omega) (by omega);have a2:=r4 (s.x%64) (by omega) (by omega);have a3:=r3 (s.y%64) (by omega) (by omega);have a4:=r4 (s.y%64) (by omega) (by omega);have a5:=r3 (l.t+1+s.t%8) (by omega) (by omega);have a6:=r4 (l.t+1+s.t%8) (by omega) (by omega);have d1:decide (O.length+1≤9223372036854775807)=true:=dA;have d2:decide ((O.length+1)*408≤140737488355328)=true:=dA;have q1:Gt l ⟨l.t+1+s.t%8,s.x%64,s.y%64⟩=true:=by
  simp only[Gt,hs,Bool.true_and,bI,dS];omega
 have q2:Gt ⟨l.t,s.y%64,s.x%64⟩ ⟨l.t+1+s.t%8,s.x%64,s.y%64⟩=true:=by
  simp only[Gt,xO,bI,dS];omega
 have hcr:(⟨c.t,c.x,c.y,c.S⟩:Cr)=c:=rfl;have hle:(⟨l.t,l.x,l.y⟩:Sm)=l:=rfl;have hlen: ∀u:Un,(O++[u]).length=O.length+1:=λu=>by simp
 simp only[Fh,Int.toNat_natCast,hsd,mD,kR,tX,tY,tK,tT,Yz];by_cases k1:s.k%8=1
 ·have e1:(s.k%8==1)=true:=by simp[k1]
  have e2:(s.k%8 !=0)=true:=by simp[k1]
  have e3:(s.k%8==0)=false:=by simp[k1]
  have f1:decide (s.k%8=1)=true:=dK k1;have f2:decide (s.k%8=0)=false:=iB (by omega);by_cases hm:0<O.length
  ·have m1:decide (((O.length:Nat):Int)>0)=true:=dA
   have m2:decide (0<O.length)=true:=dK hm;simp only[iU,Pb,Kn,f1,f2,m2,cond_true,cond_false,Bool.true_and,hlen]at hq;simp only[↓zS, ↓zT, ↓zU, ↓zV,Fa,Fb,vW,vZ,wh,wm,kY,jP,nL,lJ,zJ,vV,ku,jI,vT,nN,sat_true,wo,rZ,Fe,zW,qh,qj,Bool.and_true,eq_self,decide_true,Nat.le_refl, ↓xw,hle,qg,nG,wu,ql hS,hcr,hw1,c1,c2,c3,r1,r2,a1,a2,a3,a4,a5,a6,d1,d2,q2,e1,e2,e3,m1,cond_true]
   repeat first
    | refine ah rfl ?_
    | refine aj (λh=>Bool.noConfusion h) (λ_=> ?_)
    | refine aj (λ_=> ?_) (λh=>Bool.noConfusion h)
   exact ak hq
  ·have m1:decide (((O.length:Nat):Int)>0)=false:=iB (by omega)
   have m2:decide (0<O.length)=false:=iB hm;simp only[iU,Pb,Kn,f1,f2,m2,cond_true,cond_false,Bool.false_and,hlen]at hq;simp only[↓zS, ↓zT, ↓zU, ↓zV,Fa,Fb,vW,vZ,wh,wm,kY,jP,nL,lJ,zJ,vV,ku,jI,vT,nN,sat_true,wo,rZ,Fe,zW,qh,qj,Bool.and_true,eq_self,decide_true,Nat.le_refl, ↓xw,hle,qg,nG,wu,ql hS,hcr,hw1,c1,c2,c3,r1,r2,a1,a2,a3,a4,a5,a6,d1,d2,q2,e1,e2,e3,m1,cond_true]
   repeat first
    | refine ah rfl ?_
    | refine aj (λh=>Bool.noConfusion h) (λ_=> ?_)
    | refine aj (λ_=> ?_) (λh=>Bool.noConfusion h)
   exact ak hq
 ·have e1:(s.k%8==1)=false:=by simp[k1]
  have f1:decide (s.k%8=1)=false:=iB k1;by_cases k0:s.k%8=0
  ·have e2:(s.k%8 !=0)=false:=by simp[k0]
   have e3:(s.k%8==0)=true:=by simp[k0]
   have f2:decide (s.k%8=0)=true:=dK k0;simp only[iU,Pb,Kn,f1,f2,cond_true,cond_false]at hq;simp only[↓zS, ↓zT, ↓zU, ↓zV,Fa,Fb,vW,vZ,wh,wm,kY,jP,nL,lJ,zJ,vV,ku,jI,vT,nN,sat_true,wo,rZ,Fe,zW,qh,qj,Bool.and_true,eq_self,decide_true,Nat.le_refl, ↓xw,hle,qg,nG,wu,ql hS,hcr,hw1,c1,c2,c3,r1,r2,a1,a2,a3,a4,a5,a6,d1,d2,e1,e2,e3,cond_true]
   repeat first
    | refine ah rfl ?_
    | refine aj (λh=>Bool.noConfusion h) (λ_=> ?_)
    | refine aj (λ_=> ?_) (λh=>Bool.noConfusion h)
   exact ak hq
  ·have e2:(s.k%8 !=0)=true:=by simp[k0]
   have e3:(s.k%8==0)=false:=by simp[k0]
   have f2:decide (s.k%8=0)=false:=iB k0;by_cases hm:0<O.length
   ·have m1:decide (((O.length:Nat):Int)>0)=true:=dA
    have m2:decide (0<O.length)=true:=dK hm;simp only[iU,Pb,Kn,f1,f2,m2,cond_true,cond_false,Bool.true_and,hlen]at hq;simp only[↓zS, ↓zT, ↓zU, ↓zV,Fa,Fb,vW,vZ,wh,wm,kY,jP,nL,lJ,zJ,vV,ku,jI,vT,nN,sat_true,wo,rZ,Fe,zW,qh,qj,Bool.and_true,eq_self,decide_true,Nat.le_refl, ↓xw,hle,qg,nG,wu,ql hS,hcr,hw1,c1,c2,c3,r1,r2,a1,a2,a3,a4,a5,a6,d1,d2,q1,e1,e2,e3,m1,cond_true]
    repeat first
     | refine ah rfl ?_
     | refine aj (λh=>Bool.noConfusion h) (λ_=> ?_)
     | refine aj (λ_=> ?_) (λh=>Bool.noConfusion h)
    exact ak hq
   ·have m1:decide (((O.length:Nat):Int)>0)=false:=iB (by omega)
    have m2:decide (0<O.length)=false:=iB hm;simp only[iU,Pb,Kn,f1,f2,m2,cond_true,cond_false,Bool.false_and,hlen]at hq;simp only[↓zS, ↓zT, ↓zU, ↓zV,Fa,Fb,vW,vZ,wh,wm,kY,jP,nL,lJ,zJ,vV,ku,jI,vT,nN,sat_true,wo,rZ,Fe,zW,qh,qj,Bool.and_true,eq_self,decide_true,Nat.le_refl, ↓xw,hle,qg,nG,wu,ql hS,hcr,hw1,c1,c2,c3,r1,r2,a1,a2,a3,a4,a5,a6,d1,d2,q1,e1,e2,e3,m1,cond_true]
    repeat first
     | refine ah rfl ?_
     | refine aj (λh=>Bool.noConfusion h) (λ_=> ?_)
     | refine aj (λ_=> ?_) (λh=>Bool.noConfusion h)
    exact ak hq
theorem Wo(c:Cr)(O:List Un)(l:Sm)(al:Bool)(Q:T16 ⊕ ((Nat×Unit×Bool×Unit)×(List Un×Sm))→Prop)(hq:Q (.inr ((O.length,(),al,()),(O,l)))):(Fh O.length al (c.S.length:Nat) c O l).sat Q:=by
 have c2:decide (((c.S.length:Nat):Int)<(c.S.length:Int))=false:=iB (by omega);have hle:(⟨l.t,l.x,l.y⟩:Sm)=l:=rfl;simp only[Fh,c2,cond_false];simp only[↓zS, ↓zT, ↓zU, ↓zV,Fa,Fb,vW,vZ,wh,wm,kY,jP,nL,lJ,zJ,vV,ku,jI,vT,nN,sat_true,wo,rZ,Fe,zW,qh,qj,Bool.and_true,eq_self,decide_true,Nat.le_refl, ↓xw,hle,qg,nG]
 repeat first
  | refine ah rfl ?_
  | refine aj (λh=>Bool.noConfusion h) (λ_=> ?_)
  | refine aj (λ_=> ?_) (λh=>Bool.noConfusion h)
 exact ak hq
end Go.bA
namespace Go.bA
open Go.Proofs
theorem Fj: ∀(l:List Un) (v:Un),vU l=true→Dl v=true→(∀u,l.getLast? =some u→F6 u v=true)→vU (l++[v])=true
 | [],v,_,hv,_=>by simp only[List.nil_append,vU,hv,Bool.and_self]
 | [u],v,h,hv,hl=>by
   have:=hl u rfl;have hu:=zI h
   show vU (u::[v])=true
   simp only[vU,hu,hv,this,Bool.and_self]
 | u::w::l,v,h,hv,hl=>by
   have ih:=Fj (w::l) v (zH h) hv (λx hx=>hl x (by rw[List.getLast?_cons_cons];exact hx))
   show vU (u::(w::(l++[v])))=true
   rw[vU,zI h,Mx h];exact ih
structure Inv (k:Int) (st:List Un×Sm×Bool):Prop where
 raw:vU st.1=true
 hd: ∀u l,st.1=u::l→u.oa=false
 len:(st.1.length:Int)≤k
 sm:xO st.2.1=true
 t:st.2.1.t≤15+8*k
 last: ∀u,st.1.getLast? =some u→u.a<u.b∧(bif st.2.2 then u.b<st.2.1.t else u.b=st.2.1.t)
 nil:st.1=[]→st.2.2=true
theorem Sr{k:Int}{st:List Un×Sm×Bool}{s:Stp}(h:Inv k st)(hk0:0≤k)(hk:k≤5)(hs:s.ok=true):Inv (k+1) (iU st s):=by
 obtain⟨O,l,al⟩:=st;obtain⟨h1,h2,h3,h4,h5,h6,h7⟩:=h;simp only at h1 h2 h3 h4 h5 h6 h7;simp only[Stp.ok,oZ,bI,dS]at hs;have hs2:=h4;simp only[xO,bI,dS]at hs2;obtain⟨l1,l2,l3,l4,l5,l6⟩:=hs2;have hn:xO (Kn l s)=true:=by
  simp only[xO,bI,dS];simp only[Kn];omega
 have hnt:(Kn l s).t≤15+8*(k+1):=by simp only[Kn];omega
 by_cases k0:s.k%8=0
 ·have f2:decide (s.k%8=0)=true:=dK k0
  have he:iU (O,l,al) s=(O,Kn l s,true):=by unfold iU;simp only[f2,cond_true]
  rw[he];refine⟨h1,h2,by show(O.length:Int)≤_;omega,hn,hnt,λu hu=> ?_,λ_=>rfl⟩;obtain⟨a,b⟩:=h6 u hu;refine⟨a,?_⟩
  show u.b<(Kn l s).t
  simp only[Kn];cases al with
  | true=>simp only[cond_true]at b;omega
  | false=>simp only[cond_false]at b;omega
 ·have f2:decide (s.k%8=0)=false:=iB k0
  have hft:(Pb l s).t=l.t:=by
   unfold Pb;cases decide (s.k%8=1)<;>rfl
  have hpre:Gt (Pb l s) (Kn l s)=true:=by
   have hsf:xO (Pb l s)=true:=by
    unfold Pb;cases decide (s.k%8=1)with
    | true=>simp only[cond_true,xO,bI,dS];omega
    | false=>exact h4
   simp only[Gt,hsf,hft,Bool.true_and,bI,dS];simp only[Kn];omega
  obtain⟨_,_,hlb⟩:=Sq hpre;generalize hv:(⟨(Pb l s).t,(Kn l s).t,decide (0<O.length)&& !al,false,lQ (Pb l s) (Kn l s)⟩:Un)=v;have he:iU (O,l,al) s=(O++[v],Kn l s,false):=by unfold iU;simp only[f2,cond_false,hv]
  rw[he];have va:v.a=l.t:=by rw[←hv];exact hft
  have vb:v.b=l.t+1+s.t%8:=by rw[←hv];rfl
  have vo:v.oa=(decide (0<O.length)&& !al):=by rw[←hv]
  have vob:v.ob=false:=by rw[←hv]
  have vf:lbB v.f=true:=by rw[←hv];exact hlb
  have hone:Dl v=true:=by
   simp only[lbB,bI]at vf;have e1:decide (v.a<v.b)=true:=dA;have e2:decide (0≤v.a)=true:=dA;have e3:decide (v.b≤63)=true:=dA;unfold Dl;rw[e1,e2,e3,vob,vf.1.1,vf.1.2,vf.2.1,vf.2.2];rfl
  have aeB: ∀u,O.getLast? =some u→F6 u v=true:=by
   intro u hu;obtain⟨a,b⟩:=h6 u hu;have hO:0<O.length:=by
    cases O with
    | nil=>simp at hu
    | cons x O=>simp
   have e1:decide (u.a<u.b)=true:=dK a;unfold F6;rw[vo,dK hO,e1,va];cases al with
   | true=>simp only[cond_true]at b;simp;omega
   | false=>simp only[cond_false]at b;simp;omega
  refine⟨Fj O v h1 hone aeB,?_,by simp;omega,hn,hnt,?_,λh=>absurd h (by simp)⟩
  ·intro u m hm
   cases O with
   | nil=>
     have:=h7 rfl;subst this;simp only[List.nil_append,List.cons.injEq]at hm;rw[←hm.1,vo];rfl
   | cons x O=>
     simp only[List.cons_append,List.cons.injEq]at hm;rw[←hm.1];exact h2 x O rfl
  ·intro u hu
   rw[List.getLast?_concat]at hu;cases hu;refine⟨by omega,?_⟩
   show v.b=(Kn l s).t
   rw[vb];rfl
theorem YA: ∀(S:List Stp) (k:Int) (st:List Un×Sm×Bool),Inv k st→0≤k→k+S.length≤6→S.all Stp.ok=true→Inv (k+S.length) (lS st S)
 | [],k,st,h,_,_,_=>by simpa[lS]using h
 | s::S,k,st,h,h0,hk,hs=>by
   simp only[List.all_cons,bI]at hs;simp only[List.length_cons]at hk;have h1:=Sr h h0 (by omega) hs.1;have h2:=YA S (k+1) _ h1 (by omega) (by omega) hs.2;have:k+((s::S).length:Int)=k+1+(S.length:Int):=by simp only[List.length_cons];omega
   rw[this];exact h2
def Cr.ok(c:Cr):Bool:=oZ c.t&&(oZ c.x&&(oZ c.y&&(c.S.all Stp.ok&&decide (c.S.length≤6))))
def Cr.s0(c:Cr):Sm:=⟨c.t%16,c.x%64,c.y%64⟩
def qA(c:Cr):List Un:=
 let r:=lS ([],c.s0,true) c.S
 bif r.2.2 then r.1++[xA r.2.1]else r.1
theorem YB{n:Int}{N D:Nat}(h:n.natAbs≤N)(hD:1≤D):yL N D (n:Rat)=true:=yM.2 ⟨h,hD⟩
theorem Sv{c:Cr}(h:c.ok=true):Inv c.S.length (lS ([],c.s0,true) c.S):=by
 simp only[Cr.ok,bI,dS]at h;obtain⟨h1,h2,h3,h4,h5⟩:=h;simp only[oZ,bI,dS]at h1 h2 h3;have h0:Inv 0 ([],c.s0,true):=by
  refine⟨rfl,λu l h=>by simp at h,by simp,?_,?_,λu hu=>by simp at hu,λ_=>rfl⟩
  ·simp only[xO,bI,dS];simp only[Cr.s0];omega
  ·simp only[Cr.s0];omega
 have:=YA c.S 0 _ h0 (by omega) (by omega) h4;simpa using this
theorem Sw{c:Cr}(h:c.ok=true):Mw (qA c)=true∧1≤(qA c).length∧(qA c).length≤7:=by
 have hi:=Sv h;have h5:c.S.length≤6:=by
  simp only[Cr.ok,bI,dS]at h;exact h.2.2.2.2
 unfold qA;generalize lS ([],c.s0,true) c.S=r at*;obtain⟨O,l,al⟩:=r;obtain⟨h1,h2,h3,h4,h6,h7,h8⟩:=hi;simp only at h1 h2 h3 h4 h6 h7 h8;simp only;cases al with
 | false=>
   simp only[cond_false];have hne:O≠ []:=λe=>by have:=h8 e;cases this
   cases O with
   | nil=>exact absurd rfl hne
   | cons u O=>
     refine⟨?_,by simp,by simp only[List.length_cons]at*;omega⟩;unfold Mw;rw[h1]
     show(!u.oa)=true
     rw[h2 u O rfl];rfl
 | true=>
   simp only[cond_true];simp only[xO,bI,dS]at h4;have hone:Dl (xA l)=true:=by
    have z:yL 63 8 0=true:=yM.2 ⟨by decide,by decide⟩;have e1:decide (0≤l.t)=true:=dA;have e2:decide (l.t≤63)=true:=dA;have e3:yL 32768 8 (l.x:Rat)=true:=YB (by omega) (by decide);have e4:yL 32768 8 (l.y:Rat)=true:=YB (by omega) (by decide);unfold Dl xA;simp only[e1,e2,e3,e4,z];simp
   have aeB: ∀u,O.getLast? =some u→F6 u (xA l)=true:=by
    intro u hu;obtain⟨a,b⟩:=h7 u hu;simp only[cond_true]at b;unfold F6 xA;rw[dK a];simp only[cond_false,Bool.true_and];exact dK b
   have hr:=Fj O (xA l) h1 hone aeB;refine⟨?_,by simp,by simp;omega⟩;cases O with
   | nil=>
     unfold Mw;rw[hr];rfl
   | cons u O=>
     unfold Mw;rw[hr]
     show(!u.oa)=true
     rw[h2 u O rfl];rfl
abbrev arv:T16→Tr (T16 ⊕ ((Nat×Unit×Bool×Unit)×(List Un×Sm))):=λx=>Fh x.1.2.1 x.1.2.2.2.1 x.1.2.2.2.2.1 x.2.1 x.2.2.1 x.2.2.2
theorem aeC(c:Cr)(hc:c.S.all Stp.ok=true)(h6:c.S.length≤6)(Q:(Nat×Unit×Bool×Unit)×(List Un×Sm)→Prop): ∀(k i:Nat) (O:List Un) (l:Sm) (al:Bool),i+k=c.S.length→Inv i (O,l,al)→
  Q (((lS (O,l,al) (c.S.drop i)).1.length,(),(lS (O,l,al) (c.S.drop i)).2.2,()),((lS (O,l,al) (c.S.drop i)).1,(lS (O,l,al) (c.S.drop i)).2.1))→
  aS arv Q (k+1) (((),O.length,(),al,(i:Nat),()),(c,O,l))
 | 0,i,O,l,al,he,hv,hq=>by
   obtain rfl:i=c.S.length:=by omega
   rw[List.drop_length]at hq;exact Wo c O l al _ hq
 | k+1,i,O,l,al,he,hv,hq=>by
   have hl:i<c.S.length:=by omega
   have hlen:(O.length:Int)≤i:=hv.len;have hsm:xO l=true:=hv.sm;have ht:l.t≤15+8*i:=hv.t;have hu:c.S.getD i st0=c.S[i]:=by simp[dJ,hl]
   refine aau c O l al i hc hl (by omega) (by omega) hsm ht _ ?_;have hok:(c.S.getD i st0).ok=true:=by rw[hu];exact List.all_eq_true.1 hc _ (List.getElem_mem hl)
   have hv2:=Sr hv (by omega) (by omega) hok;rw[List.drop_eq_getElem_cons hl, ←hu]at hq;have hrun:lS (O,l,al) (c.S.getD i st0::c.S.drop (i+1))=lS (iU (O,l,al) (c.S.getD i st0)) (c.S.drop (i+1)):=rfl;rw[hrun]at hq;generalize iU (O,l,al) (c.S.getD i st0)=st at*;obtain⟨O',l',al'⟩:=st;have hv3:Inv ((i+1:Nat):Int) (O',l',al'):=by
    have:((i+1:Nat):Int)=(i:Int)+1:=by omega
    rw[this];exact hv2
   exact aeC c hc h6 Q k (i+1) O' l' al' (by omega) hv3 hq
theorem aav:bB prog 0 L16 (codeOf Tryz.f24):=by
 refine gu (N:=1010) (L':=dn) (zD aI Yy 1) (aA 0 _) aas (λx=>aat x) ?_;rintro⟨⟨⟨⟩,m,⟨⟩,al,i,⟨⟩⟩,c,O,l⟩ hx;have hx:MU (((),m,(),al,i,()),(c,O,l))=true:=hx;simp only[MU,bI,dS]at hx;have h1:m=0:=hx.1;have h2:O.length=0:=hx.2.1;have h3:al=true:=hx.2.2.1;have h4:i=0:=hx.2.2.2.1;have h5:xO l=true:=hx.2.2.2.2.1;have h6:l.t≤15:=hx.2.2.2.2.2.1;have h7:c.S.all Stp.ok=true:=hx.2.2.2.2.2.2.1;have h8:c.S.length≤6:=hx.2.2.2.2.2.2.2;clear hx;have h9:O=[]:=List.eq_nil_of_length_eq_zero h2;subst h1 h3 h4 h9;have hv:Inv ((0:Nat):Int) ([],l,true):=⟨rfl,λu l h=>by simp at h,by simp,h5,by simpa using h6,λu hu=>by simp at hu,λ_=>rfl⟩
 exact⟨_,aeC c h7 h8 (· =aar.res (((),0,(),true,0,()),(c,[],l))) c.S.length 0 [] l true (by omega) hv rfl⟩
def wz(u:Un):Ul:=⟨⟨⟨u.a,0,false⟩,⟨u.b,0,false⟩,u.oa,u.ob⟩,u.f⟩
theorem ajK(u:Un):KV u=oV.iv (wz u):=by
 show Vy u.a++(Vy u.b++([.v (.bool u.oa),.v (.bool u.ob)]++Oz u.f))=(uS ⟨u.a,0,false⟩++(uS ⟨u.b,0,false⟩++[.v (.bool u.oa),.v (.bool u.ob)]))++Oz u.f
 unfold Vy uS;rw[←aru];simp only[List.append_assoc]
theorem ajL(U:List Un)(k:Nat)(hk:k<U.length):qH U k=oV.el (U.map wz) k:=by
 unfold qH kZ.el;have e:(U.map wz).getD k oV.d=wz (U.getD k u0):=by simp[dJ,hk]
 rw[e];exact ajK _
theorem aaw{U:List Un}{n:Nat}{el:Nat→List IV}(hn:n=U.length)(h: ∀k,k<n→el k=qH U k):oV.list n el=U.map wz∧oV.oks n el=true:=by
 subst hn;have key: ∀k,k<U.length→el k=oV.el (U.map wz) k:=λk hk=>(h k hk).trans (ajL U k hk)
 rw[oV.kK key,oV.mF key];have:=oV.aG (U.map wz);rw[List.length_map]at this;exact⟨this,oV.aP _ _⟩
theorem ajM(U:List Un)(u:Un)(iV:Nat→List IV)(he:iV 0=KV u): ∀k,k<U.length+1→dH U.length (qH U) iV k=qH (U++[u]) k:=by
 intro k hk;unfold dH qH;by_cases hlt:k<U.length
 ·rw[if_pos hlt]
  simp[dJ,List.getElem?_append_left hlt]
 ·have:k=U.length:=by omega
  subst this;rw[if_neg hlt,Nat.sub_self,he];simp[dJ]
theorem Sy{U:List Un}{n:Nat}{el:Nat→List IV}(hn:n=U.length)(h: ∀k,k<n→el k=qH U k)(ho:jL rL (U.map wz)=true):(ajJ n el).sat λr=>r=oV.sl (mH rL (U.map wz)):=by
 obtain⟨e1,e2⟩:=aaw hn h;unfold ajJ;simp only[e1,e2,ho,sat_true];exact ak rfl
theorem Sz{a b:Int}(h:a<b):fV ⟨(a:Rat),0,false⟩ ⟨(b:Rat),0,false⟩= -1:=by
 rw[rG ⟨rfl,rfl⟩ ⟨rfl,rfl⟩]
 show gq ((a:Rat)-(b:Rat)).num 0= -1
 have h1:(a:Rat)<(b:Rat):=by exact_mod_cast h
 rcases wZ ((a:Rat)-(b:Rat))with⟨k,e⟩|⟨k,e⟩|⟨k,e⟩
 ·exact e
 ·exfalso;grind
 ·exfalso;grind
theorem SC{a b:Int}(h:a=b):fV ⟨(a:Rat),0,false⟩ ⟨(b:Rat),0,false⟩=0:=by
 subst h;exact(j4 ⟨rfl,rfl⟩ ⟨rfl,rfl⟩).2 rfl
theorem YC{u:Un}(h:Dl u=true):0≤u.a∧u.b≤63∧u.a≤u.b:=by
 simp only[Dl,bI,Bool.or_eq_true,dS]at h;omega
theorem aeD{u:Un}(h:Dl u=true):qJ (wz u).i=true:=by
 simp only[Dl,bI,Bool.or_eq_true,dS,Bool.not_eq_true']at h;obtain⟨_,_,h3,_,_,_,_,h8⟩:=h;unfold qJ wz;dsimp only;rcases h8 with h8|⟨h8,h9,_⟩
 ·rw[Sz h8];rfl
 ·rw[SC h8,h3,h9];rfl
theorem MV: ∀{U:List Un} {u:Un},vU (u::U)=true→ ∀w∈U,u.b<w.a∨(u.b=w.a∧w.oa=true)
 | [],_,_,_,h=>by simp at h
 | v::m,u,h,w,hw=>by
   have hl:=Mx h;have ht:=zH h;have hv:=YC (zI ht);have h0:u.b<v.a∨(u.b=v.a∧v.oa=true):=by
    unfold F6 at hl;rw[bI]at hl;cases ho:v.oa with
    | true=>rw[ho]at hl;exact .inr ⟨iX hl.2,rfl⟩
    | false=>rw[ho]at hl;exact .inl (iX hl.2)
   rcases List.mem_cons.1 hw with e|e
   ·rw[e];exact h0
   ·rcases MV ht w e with k|⟨k,k2⟩
    ·left;omega
    ·by_cases e:u.b=w.a
     ·exact .inr ⟨e,k2⟩
     ·left;omega
theorem aeE{u w:Un}(h:u.b<w.a∨(u.b=w.a∧w.oa=true)):Bz (wz u).i (wz w).i=true:=by
 unfold Bz wz;dsimp only;rcases h with h|⟨h,h2⟩
 ·rw[Sz h];rfl
 ·rw[SC h,h2];simp
theorem HZ: ∀{U:List Un},vU U=true→ ∀u∈U,Dl u=true
 | [],_,_,h=>by simp at h
 | v::m,h,w,hw=>by
   rcases List.mem_cons.1 hw with e|e
   ·rw[e];exact zI h
   ·exact HZ (zH h) w e
theorem Ko: ∀{U:List Un},vU U=true→jK (U.map wz)
 | [],_=>⟨λ_ h=>by simp at h,λ_ h=>by simp at h,.nil⟩
 | u::U,h=>by
   have ih:=Ko (zH h);refine⟨λv hv=> ?_,λv hv=> ?_,?_⟩
   ·obtain⟨w,_,rfl⟩:=List.mem_map.1 hv
    exact⟨⟨rfl,rfl⟩,⟨rfl,rfl⟩⟩
   ·obtain⟨w,hw,rfl⟩:=List.mem_map.1 hv
    exact(rV ⟨⟨rfl,rfl⟩,⟨rfl,rfl⟩⟩).1 (aeD (HZ h w hw))
   ·refine List.pairwise_cons.2 ⟨λv hv=> ?_,ih.pw⟩
    obtain⟨w,hw,rfl⟩:=List.mem_map.1 hv;exact(OI _ _).1 (aeE (MV h w hw))
theorem YD{u:Un}(h:Dl u=true):Kk 20 u.f=true∧iH 6 (wz u).i.a=true∧iH 6 (wz u).i.b=true:=by
 obtain⟨l1,l2,l3⟩:=YC h;simp only[Dl,bI,Bool.or_eq_true,dS,Bool.not_eq_true']at h;obtain⟨_,_,h3,h4,h5,h6,h7,h8⟩:=h;have bi: ∀a:Int,0≤a→a≤63→iH 6 ⟨(a:Rat),0,false⟩=true:=λa h0 h=>by
  have b1:wX 6 (a:Rat)=true:=kJ.2 ⟨by show a.natAbs≤2^6;omega,by show 1≤2^6;omega⟩;have bz:wX 6 0=true:=kJ.2 (Bt.zero _)
  show(wX 6 (a:Rat)&&wX 6 0)=true
  rw[b1,bz];rfl
 have bb: ∀{N D:Nat} {q:Rat},yL N D q=true→N≤2^20→D≤2^20→wX 20 q=true:=λh a b=>kJ.2 (oU.mono (yM.1 h) a b)
 have bz:wX 20 0=true:=kJ.2 (Bt.zero _);refine⟨?_,bi _ l1 (by omega),bi _ (by omega) l2⟩
 show((wX 20 u.f.x0&&(wX 20 u.f.x1&&wX 20 0))&&(wX 20 u.f.y0&&(wX 20 u.f.y1&&wX 20 0)))=true
 rw[bb h4 (by decide) (by decide),bb h5 (by decide) (by decide),bb h6 (by decide) (by decide),bb h7 (by decide) (by decide),bz];rfl
theorem Kq{k l:Nat}{q:Rat}(h:wX k q=true)(hl:k≤l):wX l q=true:=kJ.2 ((kJ.1 h).mono hl)
theorem SE{k l:Nat}{q:Q3}(h:qI k q=true)(hl:k≤l):qI l q=true:=dG.2 ((dG.1 h).mono hl)
theorem Kr{k l:Nat}{x:R3}(h:iH k x=true)(hl:k≤l):iH l x=true:=by
 have h:(wX k x.p&&wX k x.r)=true:=h;rw[bI]at h
 show(wX l x.p&&wX l x.r)=true
 rw[Kq h.1 hl,Kq h.2 hl];rfl
theorem Fp{k l:Nat}{f:L4}(h:Kk k f=true)(hl:k≤l):Kk l f=true:=by
 simp only[Kk,bI]at h⊢;exact⟨SE h.1 hl,SE h.2 hl⟩
theorem ajN{c:Cr}(h:c.ok=true):jL rL ((qA c).map wz)=true:=by
 obtain⟨h1,h2,h3⟩:=Sw h;unfold Mw at h1;rw[bI]at h1;refine Yc rL (Ko h1.1) (λv hv=> ?_) (by rw[List.length_map];omega);obtain⟨w,hw,rfl⟩:=List.mem_map.1 hv;obtain⟨b1,b2,b3⟩:=YD (HZ h1.1 w hw);exact⟨Fp b1 (by decide),Kr b2 (by decide),Kr b3 (by decide)⟩
def pE(c:Cr):List Ul:=mH rL ((qA c).map wz)
theorem ajO(c:Cr)(h:c.ok=true):(M16 c).sat λr=>r=oV.sl (pE c):=by
 have hr:=ajN h;have hi:=Sv h;have h2:=h;simp only[Cr.ok,bI,dS]at h2;obtain⟨a1,a2,a3,hS,hS6⟩:=h2;simp only[oZ,bI,dS]at a1 a2 a3;have tT:i64.wrap (c.t.tmod 16)=c.t%16:=by rw[Int.tmod_eq_emod_of_nonneg a1.1,wrap_i64 (by omega)]
 have tX:i64.wrap (c.x.tmod 64)=c.x%64:=by rw[Int.tmod_eq_emod_of_nonneg a2.1,wrap_i64 (by omega)]
 have tY:i64.wrap (c.y.tmod 64)=c.y%64:=by rw[Int.tmod_eq_emod_of_nonneg a3.1,wrap_i64 (by omega)]
 have r3: ∀z:Int,0≤z→z≤1000→decide (-9223372036854775808≤z)=true:=λz h k=>dA
 have r4: ∀z:Int,0≤z→z≤1000→decide (z≤9223372036854775807)=true:=λz h k=>dA
 have b1:=r3 (c.t%16) (by omega) (by omega);have b2:=r4 (c.t%16) (by omega) (by omega);have b3:=r3 (c.x%64) (by omega) (by omega);have b4:=r4 (c.x%64) (by omega) (by omega);have b5:=r3 (c.y%64) (by omega) (by omega);have b6:=r4 (c.y%64) (by omega) (by omega);have e0:nM 0 (λ_=>([]:List IV))=[]:=rfl;have hcs:(⟨c.t%16,c.x%64,c.y%64⟩:Sm)=c.s0:=rfl;have hcr:(⟨c.t,c.x,c.y,c.S⟩:Cr)=c:=rfl;have hp:MU (((),0,(),true,0,()),(c,[],c.s0))=true:=by
  have hs:xO c.s0=true:=by simp only[xO,bI,dS];simp only[Cr.s0];omega
  have ht:decide (c.s0.t≤15)=true:=dK (by simp only[Cr.s0];omega);simp only[MU,hs,ht,hS,decide_true,Bool.true_and,List.length_nil,dK hS6]
 simp only[M16,tT,tX,tY,Yz,b1,b2,b3,b4,b5,b6,e0];simp only[↓xw,qg,nG,wu,ql hS,hcs,hcr,hp,sat_true];have hdef:qA c=bif (lS ([],c.s0,true) c.S).2.2 then(lS ([],c.s0,true) c.S).1++[xA (lS ([],c.s0,true) c.S).2.1]else(lS ([],c.s0,true) c.S).1:=rfl
 unfold pE;generalize lS ([],c.s0,true) c.S=r at*;obtain⟨O,l,al⟩:=r;have hlen:(O.length:Int)≤c.S.length:=hi.len;have d1:decide (O.length+1≤9223372036854775807)=true:=dA;have d2:decide ((O.length+1)*408≤140737488355328)=true:=dA;cases al with
 | true=>
   simp only[cond_true]at hdef;rw[hdef]at hr⊢;simp only[d1,d2,decide_true,Nat.le_refl,sat_true];exact aj (λ_=>ah rfl (ah rfl (ah rfl (ah rfl (ah rfl (Sy (by simp) (ajM O (xA l) (λk=>List.take 36 (List.drop (k*36) (stI l))) (by show List.take 36 (List.drop (0*36) (stI l))=_;rw[aoP];rfl)) hr)))))) (λh=>Bool.noConfusion h)
 | false=>
   simp only[cond_false]at hdef;rw[hdef]at hr⊢;simp only[decide_true,Nat.le_refl,sat_true];exact aj (λh=>Bool.noConfusion h) (λ_=>ah rfl (Sy rfl (λ_ _=>rfl) hr))
def K16:List AV→Option (AV×List Bool):=(F1 alb).K (λx=>oV.sl (pE x.1)) λx=> [x.1.ok]
theorem aoQ:aF prog 24 K16:=
 (F1 alb).pl (L:=L16) (zD aI Yy 1) (fn:=Tryz.f24) aav (λ_=>rfl) (M:=λx=>M16 x.1) (λx=>aoO x.1)
  λx h=>ajO x.1 (h _ (by simp))
end Go.bA
namespace Go.bA
open Go.Proofs
variable{F G H:Type}
structure Gd (T:List R3) (p:F→Prop) (U:List (Ue F)):Prop where
 good:jK U
 ins: ∀u∈U,u.i.a∈T∧u.i.b∈T
 fn: ∀u∈U,p u.f
structure Gu (T:List R3):Prop where
 ok: ∀t∈T,F7 t∧iH 6 t=true
 len:T.length≤7
theorem Gd.nil{T:List R3}{p:F→Prop}:Gd T p ([]:List (Ue F)):=⟨⟨λ_ h=>by simp at h,λ_ h=>by simp at h,.nil⟩,λ_ h=>by simp at h,λ_ h=>by simp at h⟩
theorem Gd.len{T:List R3}{p:F→Prop}{U:List (Ue F)}(hT:Gu T)(h:Gd T p U):U.length≤14:=by
 have:=adU h.good (T:=T) λu hu=>(h.ins u hu).1
 have:=hT.len;omega
theorem Gd.map{T:List R3}{p:F→Prop}{q:G→Prop}{U:List (Ue F)}(h:Gd T p U){g:Ue F→Ue G}(hi: ∀u,(g u).i=u.i)(hq: ∀u,p u.f→q (g u).f):Gd T q (U.map g):=by
 refine⟨⟨λv hv=> ?_,λv hv=> ?_,?_⟩,λv hv=> ?_,λv hv=> ?_⟩
 ·obtain⟨u,hu,rfl⟩:=List.mem_map.1 hv;rw[hi];exact h.good.ok u hu
 ·obtain⟨u,hu,rfl⟩:=List.mem_map.1 hv;rw[hi];exact h.good.vd u hu
 ·rw[List.pairwise_map];exact h.good.pw.imp fun{a b} k=>by rw[hi,hi];exact k
 ·obtain⟨u,hu,rfl⟩:=List.mem_map.1 hv;rw[hi];exact h.ins u hu
 ·obtain⟨u,hu,rfl⟩:=List.mem_map.1 hv;exact hq u (h.fn u hu)
theorem Gd.nrm{T:List R3}{p q:F→Prop}{U:List (Ue F)}(h:Gd T p U)(J:Rl F)(hp: ∀f,p f→q f)(hr: ∀f t,p f→t∈T→q (J.rd f t)):Gd T q (mH J U):=by
 have hm:=ai8 (J:=J) (p:=q) (q:=λt=>t∈T) h.good h.ins (λx hx=>hp _ (h.fn x hx)) λx hx t ht=>hr _ t (h.fn x hx) ht
 exact⟨adR h.good,λu hu=>(hm u hu).2,λu hu=>(hm u hu).1⟩
theorem Gu.bt{T:List R3}(hT:Gu T){t:R3}(h:t∈T):iH 100000 t=true:=Kr (hT.ok t h).2 (by decide)
theorem Gd.jL{T:List R3}(hT:Gu T){p:F→Prop}{U:List (Ue F)}(h:Gd T p U)(J:Rl F)(hp: ∀f,p f→J.bf f=true):jL J U=true:=
 Yc J h.good (λu hu=>⟨hp _ (h.fn u hu),hT.bt (h.ins u hu).1,hT.bt (h.ins u hu).2⟩) (by have:=h.len hT;omega)
theorem Gd.iI{T:List R3}(hT:Gu T){p:F→Prop}{U:List (Ue F)}(h:Gd T p U):iI U=true:=
 List.all_eq_true.2 λu hu=>by
  show(iH 100000 u.i.a&&iH 100000 u.i.b)=true
  rw[hT.bt (h.ins u hu).1,hT.bt (h.ins u hu).2];rfl
theorem aoR{T:List R3}{i j:Ig}(h1:i.a∈T∧i.b∈T)(h2:j.a∈T∧j.b∈T):(iY i j).a∈T∧(iY i j).b∈T:=by
 unfold iY;dsimp only;refine⟨?_,?_⟩<;>split
 ·exact h2.1
 ·exact h1.1
 ·exact h2.2
 ·exact h1.2
theorem Gd.refine{T:List R3}{p:F→Prop}{q:G→Prop}{A:List (Ue F)}{B:List (Ue G)}(hA:Gd T p A)(hB:Gd T q B): ∀b∈bA.refine A B,(b.i.a∈T∧b.i.b∈T)∧p b.f∧q b.g:=λb hb=>by
 obtain⟨x,hx,y,hy,rfl⟩:=VK hb;exact⟨aoR (hA.ins x hx) (hB.ins y hy),hA.fn x hx,hB.fn y hy⟩
theorem Gd.comb{T:List R3}{p:F→Prop}{q:G→Prop}{r:H→Prop}{A:List (Ue F)}{B:List (Ue G)}(hA:Gd T p A)(hB:Gd T q B){g:uW F G→Ue H}(hi: ∀b,(g b).i=b.i)(hr: ∀b,b.i.a∈T→p b.f→q b.g→r (g b).f):Gd T r ((bA.refine A B).map g):=by
 have hg:=RG hA.good hB.good;have hm:=hA.refine hB;refine⟨⟨λv hv=> ?_,λv hv=> ?_,?_⟩,λv hv=> ?_,λv hv=> ?_⟩
 ·obtain⟨u,hu,rfl⟩:=List.mem_map.1 hv;rw[hi];exact hg.ok u hu
 ·obtain⟨u,hu,rfl⟩:=List.mem_map.1 hv;rw[hi];exact hg.vd u hu
 ·rw[List.pairwise_map];exact hg.pw.imp fun{a b} k=>by rw[hi,hi];exact k
 ·obtain⟨u,hu,rfl⟩:=List.mem_map.1 hv;rw[hi];exact(hm u hu).1
 ·obtain⟨u,hu,rfl⟩:=List.mem_map.1 hv;exact hr u (hm u hu).1.1 (hm u hu).2.1 (hm u hu).2.2
theorem aoS{q:Q3}{t:R3}(ht:F7 t):w9 q t=⟨Av q t.p,0,0⟩:=by
 unfold w9 tH tJ;rw[ht.1];rfl
theorem ajP{k:Nat}{q:Q3}{t:R3}(h:sN k q)(ht:iH 6 t=true):Bt (3*k+14) (Av q t.p):=by
 have h6:(wX 6 t.p&&wX 6 t.r)=true:=ht;rw[bI]at h6;have hp:=kJ.1 h6.1;have:=h.c0.add (hp.mul (h.c1.add (hp.mul h.c2)));exact this.mono (by omega)
theorem BH{k:Nat}{q:Q3}{t:R3}(h:sN k q)(ht:F7 t∧iH 6 t=true):sN (3*k+14) (w9 q t):=by
 rw[aoS ht.1];exact⟨ajP h ht.2,Bt.zero _,Bt.zero _⟩
theorem arw{q:Q3}(h:q.c2=0):nR q≤1:=by
 unfold nR;rw[if_neg (by simp[h])]
 split
 ·omega
 ·split<;>omega
theorem MW{p q:Q3}(hp:p.c2=0)(hq:q.c2=0):Dn p q=true:=by
 have a:=arw hp;have b:=arw hq;unfold Dn;rw[iB (show¬2<nR p+nR q by omega)];simp
theorem aeF{k l:Nat}{p q:Q3}(h:sN k p)(h':sN l q):sN (3*k+3*l+2) (Ry p q):=
 ⟨(h.c0.mul h'.c0).mono (by omega),((h.c0.mul h'.c1).add (h.c1.mul h'.c0)).mono (by omega),(((h.c0.mul h'.c2).add (h.c2.mul h'.c0)).add (h.c1.mul h'.c1)).mono (by omega)⟩
theorem aoT{k l:Nat}{p q:Q3}(h:sN k p)(h':sN l q):sN (k+l+1) (ada p q):=⟨h.c0.add h'.c0,h.c1.add h'.c1,h.c2.add h'.c2⟩
def Pl(k:Nat)(f:L4):Prop:=Kk k f=true
def Pq(k:Nat)(f:Q3):Prop:=sN k f∧f.c2=0
theorem aoU{k:Nat}{f:L4}{t:R3}(h:Pl k f)(ht:F7 t∧iH 6 t=true):Pl (3*k+14) (rdL f t):=by
 have h:(qI k (qx f)&&qI k (qy f))=true:=h;rw[bI]at h;have h1:=BH (dG.1 h.1) ht;have h2:=BH (dG.1 h.2) ht
 show(qI _ (qx (rdL f t))&&qI _ (qy (rdL f t)))=true
 rw[bI];exact⟨dG.2 h1,dG.2 h2⟩
theorem Gd.asS{T:List R3}(hT:Gu T){k:Nat}{U:List Ul}(h:Gd T (Pl k) U):Gd T (Pl (3*k+14)) (mH rL U):=
 h.nrm rL (λf hf=>Fp hf (by omega)) λf t hf ht=>aoU hf (hT.ok t ht)
theorem Gd.aoV{T:List R3}(hT:Gu T){k:Nat}{U:List Uq}(h:Gd T (sN k) U):Gd T (sN (3*k+14)) (mH rQ U):=
 h.nrm rQ (λf hf=>hf.mono (by omega)) λf t hf ht=>BH hf (hT.ok t ht)
theorem Gd.mH{T:List R3}(hT:Gu T){k:Nat}{U:List Uq}(h:Gd T (Pq k) U):Gd T (Pq (3*k+14)) (mH rQ U):=
 h.nrm rQ (λf hf=>⟨hf.1.mono (by omega),hf.2⟩) λf t hf ht=>⟨BH hf.1 (hT.ok t ht),rfl⟩
theorem Gd.mono{T:List R3}{p q:F→Prop}{U:List (Ue F)}(h:Gd T p U)(hq: ∀f,p f→q f):Gd T q U:=⟨h.good,h.ins,λu hu=>hq _ (h.fn u hu)⟩
def YE(y:Bool)(A:List Ul):List Uq:=bA.mH rQ (A.map (R7 y))
theorem aoW{k:Nat}{y:Bool}{u:Ul}(h:Pl k u.f):Pq k (R7 y u).f:=by
 have h:(qI k (qx u.f)&&qI k (qy u.f))=true:=h;rw[bI]at h;cases y with
 | true=>exact⟨dG.1 h.2,rfl⟩
 | false=>exact⟨dG.1 h.1,rfl⟩
theorem aeG{T:List R3}{k:Nat}{A:List Ul}(h:Gd T (Pl k) A)(y:Bool):Gd T (Pq k) (A.map (R7 y)):=h.map (λ_=>rfl) λu hu=>aoW hu
theorem aoX{T:List R3}(hT:Gu T){k:Nat}{A:List Ul}(h:Gd T (Pl k) A)(y:Bool):Gd T (Pq (3*k+14)) (YE y A):=(aeG h y).mH hT
theorem SF{T:List R3}(hT:Gu T){k:Nat}(hk:k≤500){b:uW Q3 Q3}(hi:b.i.a∈T)(hf:Pq k b.f)(hg:Pq k b.g):R8 b=true∧sN 30000 (hPr b).f:=by
 have ht:=hT.ok _ hi;have f1:=BH hf.1 ht;have g1:=BH hg.1 ht;have m1:=aeF f1 g1;have m2:=BH m1 ht;have m3:=aeF hf.1 hg.1;unfold R8 hPr;rw[hT.bt hi];by_cases e:b.i.a=b.i.b
 ·rw[dK e,if_pos e,dG.2 (hf.1.mono (show k≤1000000 by omega)),dG.2 (hg.1.mono (show k≤1000000 by omega)),dG.2 (f1.mono (show 3*k+14≤100000 by omega)),dG.2 (g1.mono (show 3*k+14≤100000 by omega)),
   MW (show(w9 b.f b.i.a).c2=0 from rfl) (show(w9 b.g b.i.a).c2=0 from rfl),dG.2 (m1.mono (show _≤1000000 by omega))]
  exact⟨rfl,m2.mono (by omega)⟩
 ·rw[iB e,if_neg e,dG.2 (hf.1.mono (show k≤100000 by omega)),dG.2 (hg.1.mono (show k≤100000 by omega)),MW hf.2 hg.2]
  exact⟨rfl,m3.mono (by omega)⟩
theorem YF{T:List R3}(hT:Gu T){k:Nat}(hk:k≤500){A B:List Uq}(hA:Gd T (Pq k) A)(hB:Gd T (Pq k) B):(∀p∈R9 A B,p=true)∧Gd T (sN 100000) (V7 A B):=by
 have hc:Gd T (sN 30000) ((bA.refine A B).map hPr):=hA.comb hB (λ_=>rfl) λb hi hf hg=>(SF hT hk hi hf hg).2
 refine⟨?_,(hc.aoV hT).mono λf hf=>hf.mono (by omega)⟩;have e:(bA.refine A B).all R8=true:=List.all_eq_true.2 λb hb=>by
  obtain⟨⟨i1,i2⟩,hf,hg⟩:=hA.refine hB b hb;exact(SF hT hk i1 hf hg).1
 have l1:=hA.len hT;have l2:=hB.len hT;intro p hp;simp only[R9,List.mem_cons,List.not_mem_nil,or_false]at hp;rcases hp with rfl|rfl|rfl|rfl|rfl|rfl
 ·exact hA.iI hT
 ·exact hB.iI hT
 ·exact dA
 ·exact dA
 ·exact e
 ·exact hc.jL hT rQ λf hf=>dG.2 (hf.mono (by decide))
theorem ajQ{T:List R3}(hT:Gu T){k l:Nat}(hk:k≤100000)(hl:l≤100000){A B:List Uq}(hA:Gd T (sN k) A)(hB:Gd T (sN l) B):(∀p∈F9 A B,p=true)∧Gd T (sN 1000000) (R6 A B):=by
 have hc:Gd T (sN 200001) ((bA.refine A B).map hCb):=hA.comb hB (λ_=>rfl) λb hi hf hg=>(aoT hf hg).mono (by omega)
 refine⟨?_,(hc.aoV hT).mono λf hf=>hf.mono (by omega)⟩;have e:(bA.refine A B).all aap=true:=List.all_eq_true.2 λb hb=>by
  obtain⟨_,hf,hg⟩:=hA.refine hB b hb;unfold aap;rw[dG.2 (hf.mono (show k≤1000000 by omega)),dG.2 (hg.mono (show l≤1000000 by omega))];rfl
 have l1:=hA.len hT;have l2:=hB.len hT;intro p hp;simp only[F9,List.mem_cons,List.not_mem_nil,or_false]at hp;rcases hp with rfl|rfl|rfl|rfl|rfl|rfl
 ·exact hA.iI hT
 ·exact hB.iI hT
 ·exact dA
 ·exact dA
 ·exact e
 ·exact hc.jL hT rQ λf hf=>dG.2 (hf.mono (by decide))
theorem YG{x y:DW}(hx:KW x)(hy:KW y)(h:tL x y=true):jC x y∧ ¬jC y x:=by
 unfold tL at h;unfold jC;rw[rG hx hy,rG hy hx];simp only[Bool.or_eq_true,bI,dS,Bool.not_eq_true']at h;rcases h with h|⟨h,k1,k2⟩
 ·rcases wZ (x.t.p-y.t.p)with⟨a,e⟩|⟨a,e⟩|⟨a,e⟩
  ·rcases wZ (y.t.p-x.t.p)with⟨a',e'⟩|⟨a',e'⟩|⟨a',e'⟩
   ·exfalso;grind
   ·exfalso;grind
   ·rw[e,e'];simp
  ·exfalso;grind
  ·exfalso;grind
 ·rw[h,Rat.sub_self]
  refine⟨.inr ⟨rfl,λk=>by rw[k1]at k;cases k⟩,?_⟩;rintro(k|⟨_,k⟩)
  ·exact absurd k (by decide)
  ·rw[k k2]at k1;cases k1
theorem aeH{T:List R3}(hT:Gu T){i:Ig}(h1:i.a∈T)(h2:i.b∈T):AL i=true:=by
 have e: ∀t k,t∈T→qL ⟨⟨t,k⟩,0,0⟩=true:=λt k h=>by
  unfold qL;obtain⟨⟨a,b⟩,c⟩:=hT.ok t h;simp only[hT.bt h,a,b,decide_true];rfl
 show(qL _&&qL _)=true
 rw[bI];exact⟨e _ _ h1,e _ _ h2⟩
noncomputable def cnU (c:Rat)(A:List Uq):List Uq:=bA.mH rQ ((O8 (A.map Ue.i) []).map (V6 c))
theorem YH{T:List R3}(hT:Gu T){p:Q3→Prop}{A:List Uq}(hA:Gd T p A):(A.map Ue.i).all AL=true:=List.all_eq_true.2 λi hi=>by
 obtain⟨u,hu,rfl⟩:=List.mem_map.1 hi;exact aeH hT (hA.ins u hu).1 (hA.ins u hu).2
theorem aeI{T:List R3}(hT:Gu T){p:Q3→Prop}{A:List Uq}(hA:Gd T p A)(c:Rat):Gd T (λf=>f=⟨c,0,0⟩) ((O8 (A.map Ue.i) []).map (V6 c)):=by
 have l:=hA.len hT;have hu:=(Yv (A:=A.map Ue.i) (B:=[]) (by rw[List.length_map];omega) (by simp) (YH hT hA) rfl).1;have hin: ∀g∈O8 (A.map Ue.i) [],g.a∈T∧g.b∈T:=λg hg=>by
  obtain⟨⟨i,hi,h1⟩,⟨j,hj,h2⟩⟩:=hu.ends g hg;have key: ∀i,(i∈A.map Ue.i∨i∈([]:List Ig))→i.a∈T∧i.b∈T:=λi hi=>by
   rcases hi with hi|hi
   ·obtain⟨u,hu,rfl⟩:=List.mem_map.1 hi
    exact hA.ins u hu
   ·simp at hi
  have ki:=key i hi;have kj:=key j hj;refine⟨?_,?_⟩
  ·rcases h1 with h1|h1
   ·have:g.a=i.a:=congrArg DW.t h1
    rw[this];exact ki.1
   ·have:g.a=i.b:=congrArg DW.t h1
    rw[this];exact ki.2
  ·rcases h2 with h2|h2
   ·have:g.b=j.a:=congrArg DW.t h2
    rw[this];exact kj.1
   ·have:g.b=j.b:=congrArg DW.t h2
    rw[this];exact kj.2
 have hok: ∀g∈O8 (A.map Ue.i) [],nE g:=λg hg=>⟨(hT.ok _ (hin g hg).1).1,(hT.ok _ (hin g hg).2).1⟩
 refine⟨⟨λv hv=> ?_,λv hv=> ?_,?_⟩,λv hv=> ?_,λv hv=> ?_⟩
 ·obtain⟨g,hg,rfl⟩:=List.mem_map.1 hv;exact hok g hg
 ·obtain⟨g,hg,rfl⟩:=List.mem_map.1 hv
  exact(YG (hok g hg).f (hok g hg).l (hu.own g hg)).2
 ·rw[List.pairwise_map]
  exact hu.chain.imp_of_mem fun{a b} ha hb k=>(YG (hok a ha).l (hok b hb).f k).1
 ·obtain⟨g,hg,rfl⟩:=List.mem_map.1 hv;exact hin g hg
 ·obtain⟨g,hg,rfl⟩:=List.mem_map.1 hv;rfl
end Go.bA
namespace Go.bA
open Go.Proofs
def tms(t:Int):List Stp→List Int
 | []=> [t]
 | s::S=>t::tms (t+1+s.t%8) S
theorem Wp(t:Int)(S:List Stp):t∈tms t S:=by cases S<;>simp[tms]
theorem YI: ∀(S:List Stp) (t:Int),(tms t S).length=S.length+1
 | [],t=>rfl
 | s::S,t=>by simp only[tms,List.length_cons,YI S]
theorem YJ: ∀(S:List Stp) (t:Int),S.all Stp.ok=true→ ∀n∈tms t S,t≤n∧n≤t+8*S.length
 | [],t,_,n,h=>by simp only[tms,List.mem_singleton]at h;subst h;simp
 | s::S,t,hs,n,h=>by
   simp only[List.all_cons,bI]at hs;simp only[tms,List.mem_cons]at h;simp only[List.length_cons];rcases h with h|h
   ·omega
   ·have:=YJ S _ hs.2 n h
    omega
theorem run_in: ∀(S:List Stp) (O:List Un) (l:Sm) (al:Bool),(∀u∈(lS (O,l,al) S).1,u∈O∨(u.a∈tms l.t S∧u.b∈tms l.t S))∧(lS (O,l,al) S).2.1.t∈tms l.t S
 | [],O,l,al=>⟨λu h=> .inl h,Wp _ _⟩
 | s::S,O,l,al=>by
   have ih:=run_in S (iU (O,l,al) s).1 (iU (O,l,al) s).2.1 (iU (O,l,al) s).2.2;have hr:lS (O,l,al) (s::S)=lS ((iU (O,l,al) s).1,(iU (O,l,al) s).2.1,(iU (O,l,al) s).2.2) S:=rfl;have ht:(iU (O,l,al) s).2.1.t=l.t+1+s.t%8:=rfl;rw[ht]at ih;rw[hr];refine⟨λu hu=> ?_,List.mem_cons_of_mem _ ih.2⟩;rcases ih.1 u hu with h|h
   ·have ho:(iU (O,l,al) s).1=bif decide (s.k%8=0)then O else O++[⟨(Pb l s).t,(Kn l s).t,decide (0<O.length)&& !al,false,lQ (Pb l s) (Kn l s)⟩]:=rfl
    rw[ho]at h;cases hc:decide (s.k%8=0)with
    | true=>rw[hc]at h;exact .inl h
    | false=>
      rw[hc]at h;rcases List.mem_append.1 h with h|h
      ·exact .inl h
      ·rw[List.mem_singleton]at h
       subst h;have hf:(Pb l s).t=l.t:=by unfold Pb;cases decide (s.k%8=1)<;>rfl
       refine .inr ⟨?_,?_⟩
       ·show(Pb l s).t∈tms l.t (s::S)
        rw[hf];exact Wp _ _
       ·exact List.mem_cons_of_mem _ (Wp (l.t+1+s.t%8) S)
   ·exact .inr ⟨List.mem_cons_of_mem _ h.1,List.mem_cons_of_mem _ h.2⟩
def tmR(n:Int):R3:=⟨(n:Rat),0,false⟩
def AO(c:Cr):List R3:=(tms c.s0.t c.S).map tmR
theorem aoY{a:Int}(h0:0≤a)(h:a≤63):iH 6 (tmR a)=true:=by
 have b1:wX 6 (a:Rat)=true:=kJ.2 ⟨by show a.natAbs≤2^6;omega,by show 1≤2^6;omega⟩;have bz:wX 6 0=true:=kJ.2 (Bt.zero _)
 show(wX 6 (a:Rat)&&wX 6 0)=true
 rw[b1,bz];rfl
theorem sU{c:Cr}(h:c.ok=true):Gu (AO c):=by
 simp only[Cr.ok,bI,dS]at h;obtain⟨h1,h2,h3,h4,h5⟩:=h;simp only[oZ,bI,dS]at h1;refine⟨λt ht=> ?_,?_⟩
 ·obtain⟨n,hn,rfl⟩:=List.mem_map.1 ht
  have hb:=YJ c.S c.s0.t h4 n hn;have e:c.s0.t=c.t%16:=rfl;exact⟨⟨rfl,rfl⟩,aoY (by omega) (by omega)⟩
 ·unfold AO
  rw[List.length_map,YI];omega
theorem aeJ{c:Cr}: ∀u∈qA c,u.a∈tms c.s0.t c.S∧u.b∈tms c.s0.t c.S:=λu hu=>by
 have hr:=run_in c.S [] c.s0 true;unfold qA at hu;generalize lS ([],c.s0,true) c.S=r at*;obtain⟨O,l,al⟩:=r;have hO: ∀u∈O,u.a∈tms c.s0.t c.S∧u.b∈tms c.s0.t c.S:=λu hu=>(hr.1 u hu).elim (λh=>by simp at h) id
 cases al with
 | false=>exact hO u hu
 | true=>
   rcases List.mem_append.1 hu with h|h
   ·exact hO u h
   ·rw[List.mem_singleton]at h
    subst h;exact⟨hr.2,hr.2⟩
theorem SG{c:Cr}(h:c.ok=true):Gd (AO c) (Pl 100) (pE c):=by
 obtain⟨h1,_,_⟩:=Sw h;unfold Mw at h1;rw[bI]at h1;have hg:Gd (AO c) (Pl 20) ((qA c).map wz):=by
  refine⟨Ko h1.1,λv hv=> ?_,λv hv=> ?_⟩
  ·obtain⟨w,hw,rfl⟩:=List.mem_map.1 hv
   exact⟨List.mem_map.2 ⟨_,(aeJ w hw).1,rfl⟩,List.mem_map.2 ⟨_,(aeJ w hw).2,rfl⟩⟩
  ·obtain⟨w,hw,rfl⟩:=List.mem_map.1 hv
   exact(YD (HZ h1.1 w hw)).1
 exact(hg.asS (sU h)).mono λf hf=>Fp hf (by decide)
structure Wv where
 c:Cr
 k:Int
 g:Int
 p:Int
def BI(w:Wv):List Uq:=
 bif decide (w.k%4≥2)then V7 (YE (decide (w.k%2=1)) (pE w.c)) (YE false (pE w.c))else YE (decide (w.k%2=1)) (pE w.c)
theorem aoZ{w:Wv}(h:decide (w.k%4≥2)=true):BI w=V7 (YE (decide (w.k%2=1)) (pE w.c)) (YE false (pE w.c)):=by
 unfold BI;rw[h,cond_true]
theorem ao0{w:Wv}(h:decide (w.k%4≥2)=false):BI w=YE (decide (w.k%2=1)) (pE w.c):=by
 unfold BI;rw[h,cond_false]
noncomputable def K7 (w:Wv):List Uq:=R6 (BI w) (cnU ((w.p%8:Int):Rat) (BI w))
theorem Pf{w:Wv}(h:w.c.ok=true)(y:Bool):Gd (AO w.c) (Pq 400) (YE y (pE w.c)):=(aoX (sU h) (SG h) y).mono λf hf=>⟨hf.1.mono (by decide),hf.2⟩
theorem Pg{w:Wv}(h:w.c.ok=true):Gd (AO w.c) (sN 100000) (BI w):=by
 have h1:=Pf h (decide (w.k%2=1));have h2:=Pf h false;unfold BI;generalize YE (decide (w.k%2=1)) (pE w.c)=A at*;generalize YE false (pE w.c)=B at*;cases decide (w.k%4≥2)with
 | true=>rw[cond_true];exact(YF (sU h) (show 400≤500 by decide) h1 h2).2
 | false=>rw[cond_false];exact h1.mono λf hf=>hf.1.mono (by decide)
theorem ajR{n:Int}(h0:0≤n)(h1:n≤100):sN 20 ⟨(n:Rat),0,0⟩:=by
 have e:(n:Rat).num=n:=rfl;have e2:(n:Rat).den=1:=rfl;have p:(2:Nat)^20=1048576:=by decide
 refine⟨⟨?_,?_⟩,Bt.zero _,Bt.zero _⟩
 ·show(n:Rat).num.natAbs≤2^20
  rw[e,p];omega
 ·show(n:Rat).den≤2^20
  rw[e2,p];omega
theorem aeK{T:List R3}(hT:Gu T){p:Q3→Prop}{A:List Uq}(hA:Gd T p A){n:Int}(h0:0≤n)(h1:n≤100):Gd T (sN 20) ((O8 (A.map Ue.i) []).map (V6 (n:Rat))):=by
 refine(aeI hT hA (n:Rat)).mono λf hf=> ?_
 rw[hf];exact ajR h0 h1
theorem ao1{T:List R3}(hT:Gu T){p:Q3→Prop}{A:List Uq}(hA:Gd T p A){n:Int}(h0:0≤n)(h1:n≤100):Gd T (sN 100000) (cnU (n:Rat) A):=by
 unfold cnU;exact((aeK hT hA h0 h1).aoV hT).mono λf hf=>hf.mono (by decide)
theorem ao2{w:Wv}(h:w.c.ok=true):Gd (AO w.c) (sN 100000) (cnU ((w.p%8:Int):Rat) (BI w)):=
 ao1 (sU h) (Pg h) (by omega) (by omega)
theorem YK{w:Wv}(h:w.c.ok=true):(∀p∈F9 (BI w) (cnU ((w.p%8:Int):Rat) (BI w)),p=true)∧Gd (AO w.c) (sN 1000000) (K7 w):=
 ajQ (sU h) (Nat.le_refl _) (Nat.le_refl _) (Pg h) (ao2 h)
end Go.bA
namespace Go.bA
open Go.Proofs
def ao3(q:Rat):List IV:=KU q++(zR++[.v (.bool false)])
theorem Kt(q:Rat):(ao3 q).map AV.c=aQ ⟨q,0,false⟩:=by
 unfold ao3;rw[adY];rfl
def eFr:kZ Rat where
 n:=9
 iv:=ao3
 V:=λl=>(bK l).p
 ok:=λl=>dh l&&(decide ((bK l).r=0)&& !(bK l).neg)
 d:=0
 ok_eq:=by
  intro l h;simp only[bI,dS,Bool.not_eq_true']at h;obtain⟨h1,h2,h3⟩:=h;rw[Kt];have:bK l=⟨(bK l).p,0,false⟩:=by rw[←h2, ←h3]
  rw[←this];exact kW h1
 Dq:=by intro x;rw[Kt,bT]
 pY:=by
  intro x;rw[Kt,bT,dw];simp
 len:=λ_=>rfl
theorem aeL{q:Rat}(h:wX 1000000 q=true):uQ q.num=true∧uQ (q.den:Int)=true:=by
 have hb:=kJ.1 h;exact⟨dK (qp hb.1 (by decide)),dK (by rw[Int.natAbs_natCast];exact qp hb.2 (by decide))⟩
def ΓRc:FuncId→Option Spec:=λf=>bif beq f 228 then some (au K62)else bif beq f 153 then some (au Rq)else none
theorem Wq: ∀f s,ΓRc f=some s→aH prog f s:=step_ok anm.spec (bM Dc.spec)
def i5:AV:= .c (.v (.int .i64 5))
def i0:AV:= .c (.v (.int .i64 0))
def MRc(q:Rat):Tr AV:=
 let P:=av q
 need (aK P)<| need (uQ (ay P).num)<| need (uQ ((ay P).den:Int))<| need true<| Tr.ite false (ret i5)<| need true<| Tr.ite false (ret i5)<| Tr.ite true (Tr.ite false (ret i5) (ret i0)) (Tr.fail "real.go:29")
def kRc:List AV→Option (AV×List Bool):=(F1 eFr.jZ).K (λ_=>bR .i64 0) λx=> [wX 1000000 x.1]
theorem arx:aF prog 178 kRc:=
 (F1 eFr.jZ).pk Wq (fn:=Tryz.f178) (M:=λx=>MRc x.1) (λx=>by obtain⟨q,⟨⟩⟩:=x;kernel_rfl)
  λx h=>by
   have h1:=aeL (q:=x.1) (h (wX 1000000 x.1) (by simp));simp only[MRc,bS,dP,h1.1,h1.2,sat_true];exact aj (λh=>by cases h) λ_=>ah rfl (aj (λh=>by cases h) λ_=>aj (λ_=>aj (λh=>by cases h) λ_=>ak rfl) (λh=>by cases h))
inductive I4|a|b|c|d
def I4.v:I4→Int | .a=>0 | .b=>1 | .c=>2 | .d=>3
def arz:Arg I4 where
 get:=λa=>match a with | .c (.v (.int .i64 0))=>some (.a,[]) | .c (.v (.int .i64 1))=>some (.b,[]) | .c (.v (.int .i64 2))=>some (.c,[]) | .c (.v (.int .i64 3))=>some (.d,[]) | _=>none
 put:=λi=> .c (.v (.int .i64 i.v))
 ok:=by
  intro a x cs h hc
  split at h
  ·cases h;exact bL.refl _
  ·cases h;exact bL.refl _
  ·cases h;exact bL.refl _
  ·cases h;exact bL.refl _
  ·cases h
end Go.bA
namespace Go.bA
open Go.Proofs
structure Wr where
 t:Int
 x:Int
 y:Int
 m:Nat
 e:Nat→List IV
 k:Int
 g:Int
 p:Int
def wr0:Wr:=⟨0,0,0,0,λ_=> [],0,0,0⟩
def jQ:kZ Wr where
 n:=7
 iv:=λw=> [.v (.int .u8 w.t),.v (.int .u8 w.x),.v (.int .u8 w.y),.sl w.m 4 w.e,.v (.int .u8 w.k),.v (.int .u8 w.g),.v (.int .u8 w.p)]
 V:=λl=>match l with | [.c (.v (.int .u8 t)),.c (.v (.int .u8 x)),.c (.v (.int .u8 y)),.c (.sl m 4 e),.c (.v (.int .u8 k)),.c (.v (.int .u8 g)),.c (.v (.int .u8 p))]=>⟨t,x,y,m,e,k,g,p⟩ | _=>wr0
 ok:=λl=>match l with | [.c (.v (.int .u8 _)),.c (.v (.int .u8 _)),.c (.v (.int .u8 _)),.c (.sl _ 4 _),.c (.v (.int .u8 _)),.c (.v (.int .u8 _)),.c (.v (.int .u8 _))]=>true | _=>false
 d:=wr0
 ok_eq:=by
  intro l h
  split at h
  ·rfl
  ·cases h
 Dq:=λ_=>rfl
 pY:=λ_=>rfl
 len:=λ_=>rfl
structure Cv where
 i:Int
 D:List Uq
def K8:Cv:=⟨0,[]⟩
open Classical in
noncomputable def iJ:kZ Cv where
 n:=2
 iv:=λc=> [.v (.int .i64 c.i),.sl c.D.length 32 (bP.el c.D)]
 V:=λl=>match l with | [.c (.v (.int .i64 i)),.c (.sl m 32 e)]=>⟨i,bP.list m e⟩ | _=>K8
 ok:=λl=>match l with | [.c (.v (.int .i64 _)),.c (.sl m 32 e)]=>decide (bP.el (bP.list m e)=e) | _=>false
 d:=K8
 ok_eq:=by
  intro l h
  split at h
  ·rename_i i m e
   have h:=iX h
   show _=[AV.c (.v (.int .i64 i)),AV.c (.sl (bP.list m e).length 32 (bP.el (bP.list m e)))]
   rw[h,bP.sO]
  ·cases h
 Dq:=by
  intro x
  show Cv.mk x.i (bP.list x.D.length (bP.el x.D))=x
  rw[bP.aG]
 pY:=by
  intro x
  show decide (bP.el (bP.list x.D.length (bP.el x.D))=bP.el x.D)=true
  rw[bP.aG];exact dK rfl
 len:=λ_=>rfl
def Ku(i:Int)(D:List Uq):Cv:=⟨i,D⟩
abbrev ajS:=List Wr×Bool×Int×Unit
abbrev arA:=Bool×(List Wr×Bool×Unit)
def shB(W:List Wr):Bool:=W.all λw=>decide (w.m≤6)
def aax:bC ajS arA:=Tf {nt:=21,live:=[0,2,3]} {nt:=21,live:=[0,2]} (dU.pure (.cons jQ.arg (.cons kG (.cons aX .nil)))) (dU.pure (.cons jQ.arg (.cons kG .nil))) (λx=>(!shB x.1,(x.1,false,())))
 (λx=> !x.2.1&&(decide (x.2.2.1=0)&&decide (x.1.length≤9223372036854775807)))
def ajT(x:ajS):Tr (ajS ⊕ arA):=
 let W:=x.1
 let i:=x.2.2.1
 Tr.ite (decide (i<(W.length:Int)))
  (need (decide (0≤i∧i<(W.length:Int)))<| Tr.ite (decide (((W.getD i.toNat jQ.d).m:Int)>6)) (need (jQ.oks W.length (jQ.el W))<| ret (.inr (true,(jQ.list W.length (jQ.el W),false,()))))
   (need (jQ.oks W.length (jQ.el W))<| ret (.inl (jQ.list W.length (jQ.el W),x.2.1,i64.wrap (i+1),()))))
  (need (jQ.oks W.length (jQ.el W))<| ret (.inr (false,(jQ.list W.length (jQ.el W),x.2.1,()))))
theorem ajU(x:ajS):(exec prog Γ00 dn 1010 (aR 0 (codeOf Tryz.f6)) (eY aax.nIn (aax.head x))).bind (aax.fin 0 0)=ajT x:=by
 obtain⟨W,b,i,⟨⟩⟩:=x
 kernel_rfl
theorem arB(W:List Wr)(hn:W.length≤9223372036854775807): ∀(k i:Nat),i+k=W.length→aS ajT (· =(!shB (W.drop i),(W,false,()))) (k+1) (W,false,(i:Nat),())
 | 0,i,he=>by
   obtain rfl:i=W.length:=by omega
   rw[List.drop_length];unfold aS;simp only[ajT,jQ.aG,jQ.aP];exact aj (λh=>absurd (iX h) (by omega)) λ_=>ah rfl (ak rfl)
 | k+1,i,he=>by
   have hi:i<W.length:=by omega
   have w1:i64.wrap ((i:Int)+1)=((i+1:Nat):Int):=kU;have hu:W.getD i jQ.d=W[i]:=by simp[dJ,hi]
   rw[List.drop_eq_getElem_cons hi, ←hu];unfold aS;simp only[ajT,w1,cB,jQ.aG,jQ.aP,shB,List.all_cons];refine aj (λ_=>ah (dA) (aj (λh=> ?_) (λh=> ?_))) (λh=>absurd (of_decide_eq_false h) (by omega))
   ·have h:=iX h
    rw[iB (show¬(W.getD i jQ.d).m≤6 by omega)];exact ah rfl (ak rfl)
   ·have h:=of_decide_eq_false h
    rw[dK (show(W.getD i jQ.d).m≤6 by omega)];exact ah rfl (ak (arB W hn k (i+1) (by omega)))
def arC:List AV→Option (AV×List Bool):=(F1 jQ.arg).K (λx=>bJ (shB x.1&&decide (x.1.length≤4))) λx=> [decide (x.1.length≤9223372036854775807)]
def arD(W:List Wr):Tr AV:=
 let V:=jQ.list W.length (jQ.el W)
 need (jQ.oks W.length (jQ.el W))<| need (aax.pre (V,false,0,()))<| Tr.ite (!shB V) (ret (bJ false)) (ret (.c (.v (.bool (decide ((V.length:Int)≤4))))))
theorem ao4:aF prog 6 arC:=
 (F1 jQ.arg).ji (N:=1010) (L:=qK 0 aax) aI nD (fn:=Tryz.f6) (c:=codeOf Tryz.f6) (by kernel_rfl) (by kernel_rfl) (by kernel_rfl)
  (nk nD (oJ _ _ _ _ _ _) ajU λx hx=>by
   obtain⟨W,b,i,⟨⟩⟩:=x;have hx:(!b&&(decide (i=0)&&decide (W.length≤9223372036854775807)))=true:=hx;simp only[bI,dS,Bool.not_eq_true']at hx;obtain⟨rfl,rfl,h⟩:=hx;exact⟨_,arB W h W.length 0 (by omega)⟩) (λ_=>rfl) (M:=λx=>arD x.1) (λx=>by obtain⟨W,⟨⟩⟩:=x;kernel_rfl) λx h=>by
  obtain⟨W,⟨⟩⟩:=x;have h1:decide (W.length≤9223372036854775807)=true:=h _ (by simp);have hp:aax.pre (W,false,0,())=true:=by
   show(!false&&(decide ((0:Int)=0)&&decide (W.length≤9223372036854775807)))=true
   rw[h1];rfl
  simp only[arD,jQ.aG,jQ.aP,hp,sat_true]
  show Tr.sat (λr=>r=bJ (shB W&&decide (W.length≤4))) _
  refine aj (λh=> ?_) (λh=> ?_)
  ·simp only[Bool.not_eq_true']at h
   rw[h];exact ak rfl
  ·simp only[Bool.not_eq_false']at h
   rw[h,Bool.true_and];refine ak ?_;have:decide ((W.length:Int)≤4)=decide (W.length≤4):=decide_eq_decide.2 (by omega);rw[this];rfl
end Go.bA
namespace Go.bA
open Go.Proofs
def Wr.cr(w:Wr):Cr:=⟨w.t,w.x,w.y,mK w.m w.e⟩
def Wr.wv(w:Wr):Wv:=⟨w.cr,w.k,w.g,w.p⟩
def okW(w:Wr):Bool:=xK w.m w.e&&(w.cr.ok&&(oZ w.k&&(oZ w.g&&oZ w.p)))
noncomputable def BN:Int→List Wr→List Cv
 | _,[]=> []
 | id,w::l=>Ku (id+1+w.g%3) (K7 w.wv)::BN (id+1+w.g%3) l
theorem YL: ∀(W:List Wr) (id:Int),(BN id W).length=W.length
 | [],_=>rfl
 | w::l,id=>by simp only[BN,List.length_cons,YL l]
abbrev CuX:=(List Wr×Nat×Int×Int×Unit)×(List Cv×Unit)
abbrev CuR:=(Nat×Unit)×(List Cv×Unit)
noncomputable def lCu:bC CuX CuR:=lD {nt:=78,live:=[0,3,4,5],lifts:=[(3,2,30)]} {nt:=78,live:=[3],lifts:=[(3,2,30)]}
 (.with (.cons (iJ.ent 30) .nil) (.cons jQ.arg (.cons (dZ 0 2) (.cons aX (.cons aX .nil))))) (.with (.cons (iJ.ent 30) .nil) (.cons (dZ 0 2) .nil))
 (λx=>(((BN 0 x.1.1).length,()),(BN 0 x.1.1,())))
 (λx=>x.1.1.all okW&&(decide (x.1.1.length≤4)&&(decide (x.1.2.1=0)&&(decide (x.2.1.length=0)&&(decide (x.1.2.2.1=0)&&decide (x.1.2.2.2.1=0))))))
def ΓCu:FuncId→Option Spec:=λf=>bif beq f 24 then some (au K16)else bif beq f 25 then some (au kCo)else bif beq f 26 then some (au kPr)else bif beq f 28 then some (au Rs)else none
noncomputable def ao5:FuncId→Option Spec:=λf=>bif beq f 27 then some (au kCn)else bif beq f 29 then some (au KDo)else bif beq f 30 then some (au kAd)else ΓCu f
theorem YM: ∀f s,ao5 f=some s→aH prog f s:=step_ok aqL.spec (step_ok aro.spec (step_ok aqJ.spec (step_ok aoQ.spec (step_ok aqK.spec (step_ok aqN.spec (bM Df.spec))))))
def co1(P:List Ul)(y:Bool):Tr (List Uq):=
 let P':=VI.list P.length (VI.el P)
 need (VI.oks P.length (VI.el P))<| need (decide (P'.length≤100000))<| need (jL rQ (P'.map (R7 y)))<| ret (mH rQ (P'.map (R7 y)))
def pr1(A B:List Uq):Tr (List Uq):=
 let A':=bP.list A.length (bP.el A)
 let B':=bP.list B.length (bP.el B)
 need (bP.oks A.length (bP.el A))<| need (bP.oks B.length (bP.el B))<| Tr.needs (R9 A' B')<| ret (V7 A' B')
noncomputable def do1 (A:List Uq):Tr (List Ig):=
 let A':=bP.list A.length (bP.el A)
 need (bP.oks A.length (bP.el A))<| need (decide (A'.length≤20000))<| need ((A'.map Ue.i).all AL)<| ret (O8 (A'.map Ue.i) [])
def cn1(n:Int)(L:List Ig):Tr (List Uq):=
 let c:=ay (av (n:Rat))
 let L':=fQ.list L.length (fQ.el L)
 need (aK (av (n:Rat)))<| need (fQ.oks L.length (fQ.el L))<| need (decide (L'.length≤100000))<| need (jL rQ (L'.map (V6 c)))<| ret (mH rQ (L'.map (V6 c)))
def ad1(A B:List Uq):Tr (List Uq):=
 let A':=bP.list A.length (bP.el A)
 let B':=bP.list B.length (bP.el B)
 need (bP.oks A.length (bP.el A))<| need (bP.oks B.length (bP.el B))<| Tr.needs (F9 A' B')<| ret (R6 A' B')
noncomputable def tCu (x:CuX):Tr (CuX ⊕ CuR):=
 let W:=x.1.1
 let m:=x.1.2.1
 let id:=x.1.2.2.1
 let i:=x.1.2.2.2.1
 let O:=x.2.1
 let w:=W.getD i.toNat jQ.d
 let ix:=decide (0≤i∧i<(W.length:Int))
 let c:=decide (i<(W.length:Int))
 let id':=i64.wrap (i64.wrap (id+1)+i64.wrap (w.g.tmod 3))
 let p8:=i64.wrap (w.p.tmod 8)
 need (bif c then true else true)<| Tr.ite (bif c then bif true then decide (i<4)else false else false)
  (need ix<| need true<| need ix<| need (xK w.m w.e)<| need w.cr.ok<| need ix<| need true<| (co1 (pE w.cr) (w.k.tmod 2==1)).bind λN0=>need ix<| need true<|
   (Tr.ite (decide (w.k.tmod 4≥2)) ((co1 (pE w.cr) false).bind λM=>pr1 N0 M) (ret N0)).bind λN=>need ix<| need true<| need (decide (-9223372036854775808≤p8))<| need (decide (p8≤9223372036854775807))<|
    (do1 N).bind λD=>(cn1 p8 D).bind λC=>(ad1 N C).bind λU=>need (decide (m≤O.length))<| need true<| need (decide (m+1≤9223372036854775807))<| need (decide ((m+1)*32≤140737488355328))<|
     need (jQ.oks W.length (jQ.el W))<| need (iJ.oks (m+1) (dH m (iJ.el O) λk=>((iJ.iv (Ku id' U)).drop (k*2)).take 2))<|
      ret (.inl ((jQ.list W.length (jQ.el W),m+1,id',i64.wrap (i+1),()),(iJ.list (m+1) (dH m (iJ.el O) λk=>((iJ.iv (Ku id' U)).drop (k*2)).take 2),()))))
  (need (iJ.oks O.length (iJ.el O))<| ret (.inr ((m,()),(iJ.list O.length (iJ.el O),()))))
theorem ao6: ∀x,(exec prog ao5 dn 1010 (aR 0 (codeOf Tryz.f7)) (eY lCu.nIn (lCu.head x))).bind (lCu.fin 0 0)=tCu x:=λx=>by
 obtain⟨⟨W,m,id,i,⟨⟩⟩,⟨O,⟨⟩⟩⟩:=x
 kernel_rfl
end Go.bA
namespace Go.bA
open Go.Proofs
theorem YN{P:List Ul}{T:List R3}(hT:Gu T){k:Nat}(h:Gd T (Pl k) P)(hk:k≤1000000)(y:Bool){Q:List Uq→Prop}(hq:Q (YE y P)):(co1 P y).sat Q:=by
 have l:=h.len hT;have h2:jL rQ (P.map (R7 y))=true:=(aeG h y).jL hT rQ λf hf=>dG.2 (hf.1.mono hk)
 simp only[co1,VI.aG,VI.aP,h2,sat_true];exact ah (dA) (ah rfl (ak hq))
theorem ajV{A B:List Uq}(h: ∀p∈R9 A B,p=true){Q:List Uq→Prop}(hq:Q (V7 A B)):(pr1 A B).sat Q:=by
 simp only[pr1,bP.aG,bP.aP,sat_true];exact dR h (ak hq)
theorem ajW{A:List Uq}{T:List R3}(hT:Gu T){p:Q3→Prop}(h:Gd T p A){Q:List Ig→Prop}(hq:Q (O8 (A.map Ue.i) [])):(do1 A).sat Q:=by
 have l:=h.len hT;simp only[do1,bP.aG,bP.aP,YH hT h,sat_true];exact ah (dA) (ah rfl (ak hq))
theorem ajX{A:List Uq}{T:List R3}(hT:Gu T){p:Q3→Prop}(h:Gd T p A){n:Int}(h0:0≤n)(h1:n≤100){Q:List Uq→Prop}(hq:Q (cnU (n:Rat) A)):(cn1 n (O8 (A.map Ue.i) [])).sat Q:=by
 have hd:=aeI hT h (n:Rat);have l:=hd.len hT;rw[List.length_map]at l;have h2:jL rQ ((O8 (A.map Ue.i) []).map (V6 (n:Rat)))=true:=(aeK hT h h0 h1).jL hT rQ λf hf=>dG.2 (hf.mono (by decide))
 simp only[cn1,bS,dP,fQ.aG,fQ.aP,h2,sat_true];exact ah (dA) (ah rfl (ak hq))
theorem ajY{A B:List Uq}(h: ∀p∈F9 A B,p=true){Q:List Uq→Prop}(hq:Q (R6 A B)):(ad1 A B).sat Q:=by
 simp only[ad1,bP.aG,bP.aP,sat_true];exact dR h (ak hq)
theorem Ph{w:Wr}(h:okW w=true):xK w.m w.e=true∧w.cr.ok=true∧(0≤w.k∧w.k<256)∧(0≤w.g∧w.g<256)∧(0≤w.p∧w.p<256):=by
 simp only[okW,oZ,bI,dS]at h;exact⟨h.1,h.2.1,h.2.2.1,h.2.2.2.1,h.2.2.2.2⟩
theorem ao7(W:List Wr)(hW:W.all okW=true)(hl:W.length≤4)(i:Nat)(hi:i<W.length)(id:Int)(h0:0≤id)(h1:id≤100)(O:List Cv)(hO:O.length≤10){R:CuX ⊕ CuR→Prop}
  (hq:R (.inl ((W,(O++[Ku (id+1+(W.getD i jQ.d).g%3) (K7 (W.getD i jQ.d).wv)]).length,id+1+(W.getD i jQ.d).g%3,((i+1:Nat):Int),()),(O++[Ku (id+1+(W.getD i jQ.d).g%3) (K7 (W.getD i jQ.d).wv)],())))):
  (tCu ((W,O.length,id,(i:Nat),()),(O,()))).sat R:=by
 have hw:okW (W.getD i jQ.d)=true:=List.all_eq_true.1 hW _ (oN _ hi);generalize hwd:W.getD i jQ.d=w at*;obtain⟨a1,a2,a3,a4,a5⟩:=Ph hw;have w1:i64.wrap ((i:Int)+1)=((i+1:Nat):Int):=kU;have wi:i64.wrap (i64.wrap (id+1)+i64.wrap (w.g.tmod 3))=id+1+w.g%3:=by
  rw[Int.tmod_eq_emod_of_nonneg a4.1,wrap_i64 (x:=id+1) (by omega),wrap_i64 (x:=w.g%3) (by omega),wrap_i64 (by omega)]
 have wp:i64.wrap (w.p.tmod 8)=w.p%8:=by rw[Int.tmod_eq_emod_of_nonneg a5.1,wrap_i64 (by omega)]
 have k2:(w.k.tmod 2==1)=decide (w.k%2=1):=by rw[Int.tmod_eq_emod_of_nonneg a3.1];rfl
 have k4:w.k.tmod 4=w.k%4:=Int.tmod_eq_emod_of_nonneg a3.1;have c1:decide ((i:Int)<(W.length:Int))=true:=dA;have c2:decide ((i:Int)<4)=true:=dA;have c3:decide ((0:Int)≤(i:Int)∧(i:Int)<(W.length:Int))=true:=dA;have hT:=sU a2;have hP:=SG a2;have hN:=Pg (w:=w.wv) a2;have hU:=YK (w:=w.wv) a2;simp only[tCu,cB,hwd,w1,wi,wp,k2,k4,c1,c2,c3,a1,a2,cond_true,sat_true];refine aj (λ_=> ?_) (λh=>by cases h);simp only[sat_true];refine cK (YN hT hP (by decide) _ ?_);simp only[sat_true]
 have fin:(need (decide (-9223372036854775808≤w.p%8))<| need (decide (w.p%8≤9223372036854775807))<|
   (do1 (BI w.wv)).bind λD=>(cn1 (w.p%8) D).bind λC=>(ad1 (BI w.wv) C).bind λU=>need (decide (O.length≤O.length))<| need true<| need (decide (O.length+1≤9223372036854775807))<| need (decide ((O.length+1)*32≤140737488355328))<|
    need (jQ.oks W.length (jQ.el W))<| need (iJ.oks (O.length+1) (dH O.length (iJ.el O) λk=>((iJ.iv (Ku (id+1+w.g%3) U)).drop (k*2)).take 2))<|
     ret (.inl ((jQ.list W.length (jQ.el W),O.length+1,id+1+w.g%3,((i+1:Nat):Int),()),(iJ.list (O.length+1) (dH O.length (iJ.el O) λk=>((iJ.iv (Ku (id+1+w.g%3) U)).drop (k*2)).take 2),())):CuX ⊕ CuR)).sat R:=by
  refine ah (dA) (ah (dA) (cK (ajW hT hN (cK (ajX hT hN (by omega) (by omega) (cK (ajY hU.1 ?_)))))));obtain⟨s1,s2⟩:=iJ.snoc O (Ku (id+1+w.g%3) (K7 w.wv)) (λk=>((iJ.iv (Ku (id+1+w.g%3) (K7 w.wv))).drop (k*2)).take 2) rfl;refine ah (dK (Nat.le_refl _)) (ah rfl (ah (dA) (ah (dA) (ah (jQ.aP _ _) (ah s2 (ak ?_))))))
  show R (.inl ((jQ.list W.length (jQ.el W),O.length+1,id+1+w.g%3,((i+1:Nat):Int),()),(iJ.list (O.length+1) (dH O.length (iJ.el O) λk=>((iJ.iv (Ku (id+1+w.g%3) (K7 w.wv))).drop (k*2)).take 2),())))
  rw[s1,jQ.aG];rw[List.length_append]at hq;exact hq
 refine cK (aj (λh=> ?_) (λh=> ?_))
 ·have en:BI w.wv=V7 (YE (decide (w.k%2=1)) (pE w.cr)) (YE false (pE w.cr)):=aoZ (w:=w.wv) h
  refine cK (YN hT hP (by decide) _ (ajV (YF hT (show 400≤500 by decide) (Pf (w:=w.wv) a2 _) (Pf (w:=w.wv) a2 _)).1 ?_));rw[en]at fin;simp only[sat_true];exact fin
 ·have en:BI w.wv=YE (decide (w.k%2=1)) (pE w.cr):=ao0 (w:=w.wv) h
  rw[en]at fin;refine ak ?_;simp only[sat_true];exact fin
theorem ajZ(W:List Wr)(id:Int)(O:List Cv){R:CuX ⊕ CuR→Prop}(hq:R (.inr ((O.length,()),(O,())))):(tCu ((W,O.length,id,(W.length:Nat),()),(O,()))).sat R:=by
 have c1:decide (((W.length:Nat):Int)<(W.length:Int))=false:=iB (by omega);simp only[tCu,c1,cond_false,iJ.aG,iJ.aP,sat_true];exact aj (λh=>by cases h) (λ_=>ah rfl (ak hq))
theorem rCu(W:List Wr)(hW:W.all okW=true)(hl:W.length≤4)(Q:CuR→Prop): ∀(n i:Nat) (id:Int) (O:List Cv),i+n=W.length→O.length≤i→0≤id→id≤3*i→Q (((O++BN id (W.drop i)).length,()),(O++BN id (W.drop i),()))→
  aS tCu Q (n+1) ((W,O.length,id,(i:Nat),()),(O,()))
 | 0,i,id,O,he,hO,h0,h1,hq=>by
   obtain rfl:i=W.length:=by omega
   rw[List.drop_length]at hq;simp only[BN,List.append_nil]at hq;exact ajZ W id O hq
 | n+1,i,id,O,he,hO,h0,h1,hq=>by
   have hi:i<W.length:=by omega
   have hu:W.getD i jQ.d=W[i]:=by simp[dJ,hi]
   rw[List.drop_eq_getElem_cons hi, ←hu]at hq;refine ao7 W hW hl i hi id h0 (by omega) O (by omega) ?_;have ha:=(Ph (List.all_eq_true.1 hW _ (oN jQ.d hi))).2.2.2.1;refine rCu W hW hl Q n (i+1) _ _ (by omega) (by simp;omega) (by omega) (by omega) ?_;rw[List.append_assoc];exact hq
end Go.bA
namespace Go.bA
open Go.Proofs
def ckI(i:Ig):Int:=bif decide (uF (mU i) (lsB i)≥0)then 10 else 0
def ΓCi:FuncId→Option Spec:=λf=>bif beq f 178 then some (au kRc)else bif beq f 166 then some (au KFs)else bif beq f 167 then some (au KLs)else bif beq f 165 then some (au KBc)else none
theorem ao8: ∀f s,ΓCi f=some s→aH prog f s:=step_ok arx.spec (step_ok ak7.spec (step_ok ak8.spec (bM ael.spec)))
def MCi(i:Ig):Tr AV:=
 let I:=dO i
 let A:=aQ i.a
 let B:=aQ i.b
 let F:=(nT.iv (mU (uV I))).map AV.c
 let L:=(nT.iv (lsB (uV I))).map AV.c
 need (eFr.ok A)<| need (wX 1000000 (eFr.V A))<| need (eFr.ok B&&(wX 1000000 (eFr.V B)&&true))<| Tr.ite false (ret i5)<| need (qP I)<| need (qP I)<|
  need (nT.ok F)<| need (nT.ok L)<| need (iH 100000 (nT.V F).t)<| need (iH 100000 (nT.V L).t)<| Tr.ite (decide (uF (nT.V F) (nT.V L)≥0)) (ret (.c (.v (.int .i64 10)))) (ret i0)
def kCi:List AV→Option (AV×List Bool):=(F1 fQ.jZ).K (λx=> .c (.v (.int .i64 (ckI x.1)))) λx=> [AL x.1]
theorem Pj{i:Ig}(h:AL i=true):(iH 100000 i.a=true∧i.a.r=0∧i.a.neg=false)∧iH 100000 i.b=true∧i.b.r=0∧i.b.neg=false:=by
 have h:(qL ⟨mU i,0,0⟩&&qL ⟨lsB i,0,0⟩)=true:=h;rw[bI]at h;obtain⟨a1,a2⟩:=qM h.1;obtain⟨b1,b2⟩:=qM h.2;exact⟨⟨a1,a2.1,a2.2⟩,b1,b2.1,b2.2⟩
theorem YO{x:R3}(h:iH 100000 x=true)(h1:x.r=0)(h2:x.neg=false):eFr.ok (aQ x)=true∧wX 1000000 (eFr.V (aQ x))=true:=by
 have h:(wX 100000 x.p&&wX 100000 x.r)=true:=h;rw[bI]at h;have e:eFr.ok (aQ x)=(dh (aQ x)&&(decide ((bK (aQ x)).r=0)&& !(bK (aQ x)).neg)):=rfl;have e2:eFr.V (aQ x)=(bK (aQ x)).p:=rfl;rw[e,e2,dw,bT,h1,h2];exact⟨rfl,Kq h.1 (by decide)⟩
theorem arE:aF prog 129 kCi:=
 (F1 fQ.jZ).pk ao8 (fn:=Tryz.f129) (M:=λx=>MCi x.1) (λx=>by obtain⟨i,⟨⟩⟩:=x;kernel_rfl)
  λx h=>by
   obtain⟨i,⟨⟩⟩:=x;have h1:AL i=true:=h (AL i) (by simp);obtain⟨⟨a1,a2,a3⟩,b1,b2,b3⟩:=Pj h1;obtain⟨c1,c2⟩:=YO a1 a2 a3;obtain⟨d1,d2⟩:=YO b1 b2 b3;have g1:iH 100000 (mU i).t=true:=a1;have g2:iH 100000 (lsB i).t=true:=b1;simp only[MCi,c1,c2,d1,d2,jY,iy,nT.Dq,nT.pY,g1,g2,sat_true];refine ah rfl (aj (λh=>by cases h) λ_=> ?_);simp only[sat_true]
   show Tr.sat (λr=>r=AV.c (.v (.int .i64 (ckI i)))) _
   unfold ckI;refine aj (λh=>ak (by rw[h];rfl)) λh=>ak (by rw[h];rfl)
def aeM(i j:Ig):Bool:=cu [i.ob==j.ob,i.oa==j.oa,KY i.b j.b,KY i.a j.a].reverse
theorem aeN(i j:Ig):aeM i j=JU i j:=by
 have e: ∀x y:R3,decide (x=y)=RN x y:=λx y=>by
  cases h:RN x y with
  | true=>exact dK (JV.1 h)
  | false=>exact iB λk=>by rw[JV.2 k]at h;cases h
 simp only[aeM,zN,e];unfold JU;cases RN i.a j.a<;>cases RN i.b j.b<;>cases (i.oa==j.oa)<;>cases (i.ob==j.ob)<;>rfl
def aeO(t n:Nat):kr Unit where
 parse:=λe=>match e with | [some (.cells [.c (.v (.iface t' (.agg cs)))] ty)]=>bif beq t t'&&(cs.isEmpty&&beq n ty)then some ((),[])else none | _=>none
 ents:=λ_=> [some (.cells [.c (.v (.iface t (.agg #[])))] n)]
 ok:=by
  intro e x cs h hc
  split at h
  ·rename_i t' es ty
   cases hb:(beq t t'&&(es.isEmpty&&beq n ty))with
   | false=>rw[hb]at h;cases h
   | true=>
     simp only[bI,Array.isEmpty_iff]at hb;obtain⟨h0,rfl,h2⟩:=hb;obtain rfl:t=t':=by simpa using h0
     obtain rfl:n=ty:=by simpa using h2
     exact bX.refl _
  ·cases h
abbrev EqX:=(List Uq×Unit×Bool×List Uq×Int×Int×Unit)×Unit
abbrev EqR:=Bool×((Bool×Unit)×Unit)
def lEq:bC EqX EqR:=Tf {nt:=32,live:=[1,2,6,15,16,17]} {nt:=32,live:=[6]} (dU.with (aeO 233 168) (.cons bP.arg (.cons (Ve 180 0 0) (.cons kG (.cons bP.arg (.cons aX (.cons aX .nil))))))) (dU.with (aeO 233 168) (.cons kG .nil))
 (λx=>(!lM rQ x.1.2.2.2.1 x.1.1,((false,()),()))) (λx=> !x.1.2.2.1&&(decide (x.1.1.length=x.1.2.2.2.1.length)&&(decide (x.1.2.2.2.2.1=(x.1.2.2.2.1.length:Int))&&(decide (x.1.2.2.2.2.2.1=0)&&decide (x.1.2.2.2.1.length≤100000)))))
def ΓEq:FuncId→Option Spec:=λf=>bif beq f 360 then some (au (kEq rQ))else none
theorem aeP: ∀f s,ΓEq f=some s→aH prog f s:=bM adK.spec
def tEq(x:EqX):Tr (EqX ⊕ EqR):=
 let V:=x.1.1
 let b:=x.1.2.2.1
 let U:=x.1.2.2.2.1
 let n:=x.1.2.2.2.2.1
 let i:=x.1.2.2.2.2.2.1
 let u:=U.getD i.toNat bP.d
 let v:=V.getD i.toNat bP.d
 let QU:=bD u.f
 let QV:=bD v.f
 let e:=aeM u.i v.i
 Tr.ite (decide (i<n))
  (need (decide (0≤i∧i<(U.length:Int)))<| need (decide (0≤i∧i<(V.length:Int)))<| need (bif e then dB QU&&(dB QV&&true)else true)<|
   Tr.ite (!(bif e then bif true then eqQ (bH QU) (bH QV)else false else false)) (ret (.inr (true,((false,()),()))))
    (need (bP.oks V.length (bP.el V))<| need (bP.oks U.length (bP.el U))<| ret (.inl ((bP.list V.length (bP.el V),(),b,bP.list U.length (bP.el U),n,i64.wrap (i+1),()),()))))
  (ret (.inr (false,((b,()),()))))
theorem ao9: ∀x,(exec prog (Js prog ΓEq (λ_=>false) 1010 1) dn 1010 (aR 0 (codeOf Tryz.f179)) (eY lEq.nIn (lEq.head x))).bind (lEq.fin 1 0)=tEq x:=λx=>by
 obtain⟨⟨V,⟨⟩,b,U,n,i,⟨⟩⟩,⟨⟩⟩:=x
 kernel_rfl
end Go.bA
namespace Go.bA
open Go.Proofs
theorem rEq(U V:List Uq)(hn:U.length≤100000)(hl:V.length=U.length): ∀(k i:Nat),i+k=U.length→aS tEq (· =(!lM rQ (U.drop i) (V.drop i),((false,()),()))) (k+1) ((V,(),false,U,(U.length:Int),(i:Nat),()),())
 | 0,i,he=>by
   obtain rfl:i=U.length:=by omega
   rw[List.drop_length, ←hl,List.drop_length,hl];unfold aS;simp only[tEq];exact aj (λh=>absurd (iX h) (by omega)) λ_=>ak rfl
 | k+1,i,he=>by
   have hi:i<U.length:=by omega
   have w1:i64.wrap ((i:Int)+1)=((i+1:Nat):Int):=kU;have hu:U.getD i bP.d=U[i]:=by simp[dJ,hi]
   have hv:V.getD i bP.d=V[i]:=by simp[dJ,hl,hi]
   rw[List.drop_eq_getElem_cons hi,List.drop_eq_getElem_cons (show i<V.length by omega), ←hu, ←hv];have ih:=rEq U V hn hl k (i+1) (by omega);unfold aS;simp only[tEq,cB];generalize U.getD i bP.d=u at*;generalize V.getD i bP.d=v at*;simp only[dQ,fq,aeN,bP.aG,bP.aP,w1];have e:lM rQ (u::U.drop (i+1)) (v::V.drop (i+1))=((JU u.i v.i&&eqQ u.f v.f)&&lM rQ (U.drop (i+1)) (V.drop (i+1))):=rfl;refine aj (λ_=>ah (dA) (ah (dA) (ah (by cases JU u.i v.i<;>rfl) (aj (λh=> ?_) (λh=> ?_))))) (λh=>absurd (of_decide_eq_false h) (by omega))
   ·have h2:(JU u.i v.i&&eqQ u.f v.f)=false:=by
     revert h;cases JU u.i v.i<;>cases eqQ u.f v.f<;>simp
    rw[e,h2];exact ak rfl
   ·have h2:(JU u.i v.i&&eqQ u.f v.f)=true:=by
     revert h;cases JU u.i v.i<;>cases eqQ u.f v.f<;>simp
    rw[e,h2,Bool.true_and];exact ah rfl (ah rfl (ak ih))
end Go.bA
namespace Go.bA
open Go.Proofs
theorem aeQ{t n:Nat}{e:List (Option gJ)}{x:Unit}{cs:List Bool}(h:(aeO t n).parse e=some (x,cs)):e.length=1:=by
 simp only[aeO]at h
 split at h
 ·rfl
 ·cases h
theorem Ws{X Y:Type}{E:kr Y}{F:Form X}{e:List (Option gJ)}{l:List AV}{p:X×Y}{cs:List Bool}(h:(dU.with E F).parse e l=some (p,cs)): ∃ds,E.parse e=some (p.2,ds):=by
 change (match F.parse l,E.parse e with|some (x,cs),some (y,ds)=>some ((x,y),cs++ds) | _,_=>none)=some (p,cs)at h
 split at h
 ·rename_i x c1 y c2 h1 h2
  simp only[fu,Prod.mk.injEq]at h;obtain⟨rfl,rfl⟩:=h;exact⟨c2,h2⟩
 ·cases h
theorem dU.alc{P:Program}{Γ:FuncId→Option Spec}{N:Nat}{X:Type}(F:dU X){out:X→dx}{pre:X→List Bool}{xS:Bool}{L:Nat→Option (St→Tr (Ex×St))}(hm:P.follows .mixedOrders=true)(hΓ: ∀f s,Γ f=some s→aH P f s){f:FuncId}{fn:Func}{c:Code}(hf:P.funcs[f]? =some fn)
  (hb:fn.body=some c) (hn:dz fn=true) (hl: ∀e l x cs,F.parse e l=some (x,cs)→bB P e.length L c) {M:X→Tr dx} (hM: ∀x,jw P Γ L N xS fn (F.ents x) (F.args x)=M x)
  (h: ∀x,(∀p∈pre x,p=true)→(M x).sat (gW (out x))):fF P f (F.K out pre):=
 F.akM (L:=λ_=>L) hm hΓ hf hb hn hl (λ_ _ _=>rfl) λx hx=>by
  rw[hM x];exact h x hx
theorem aj0{X R:Type}{c:Code}{Γ:FuncId→Option Spec}{N id:Nat}{lp:bC X R}{step:X→Tr (X ⊕ R)}(hΓ: ∀f s,Γ f=some s→aH prog f s)(hg:lp.gH)
  (hs: ∀x,(exec prog Γ dn N (aR id c) (eY lp.nIn (lp.head x))).bind (lp.fin 1 id)=step x)
  (hr: ∀x,lp.pre x=true→ ∃n,aS step (· =lp.res x) n x) (hb:bW (λi=>beq i id) c=[(id,.loop (aR id c))]:=by kernel_rfl):bB prog 1 (λi=>bif beq i id then some (lp.g 1)else none) c:=by
 refine eP (d:=λi=>beq i id) (λi=>by cases beq i id<;>rfl) _ ?_;rw[hb];intro p hp g hg';simp only[List.mem_singleton]at hp;subst hp;have e:beq id id=true:=by simp
 rw[e]at hg';obtain rfl:g=lp.g 1:=(Option.some.inj hg').symm;exact bC.PO (N:=N) aI hΓ (L:=dn) (aA 1 _) hg hs hr
abbrev arF:dU ((List Uq×List Uq×Unit×Unit)×Unit):=dU.with (aeO 233 168) (.cons bP.arg (.cons bP.arg (.cons (Ve 180 0 0) .nil)))
def aay:List (Option gJ):=[some (.cells [.c (.v (.iface 233 (.agg #[])))] 168)]
def arG:iD:=arF.K (λx=>{val:=bJ (lM rQ x.1.1 x.1.2.1),outs:=aay}) λx=> [decide (x.1.1.length≤100000)]
def LEq:Nat→Option (St→Tr (Ex×St)):=λi=>bif beq i 0 then some (lEq.g 1)else none
def aj1(U V:List Uq):Tr dx:=
 let U':=bP.list U.length (bP.el U)
 let V':=bP.list V.length (bP.el V)
 Tr.ite ((U.length:Int) !=(V.length:Int)) (ret {val:=bJ false,outs:=aay})<| need (bP.oks V.length (bP.el V))<| need (bP.oks U.length (bP.el U))<| need (lEq.pre ((V',(),false,U',(U.length:Int),0,()),()))<|
  Tr.ite (!lM rQ U' V') (ret {val:=bJ false,outs:=aay}) (ret {val:=bJ true,outs:=aay})
theorem aaz: ∀{U V:List Uq},lM rQ U V=true→U.length=V.length:=λh=>by rw[rW.1 h]
theorem aj2: ∀U V,jw prog (Js prog ΓEq (λ_=>false) 1010 1) LEq 1010 true Tryz.f179 aay [bP.sl U,bP.sl V,.fn 180 [.ptr 0 0]]=aj1 U V:=λU V=>by kernel_rfl
theorem apa:fF prog 179 arG:=
 arF.alc (N:=1010) (xS:=true) (L:=LEq) aI (zD aI aeP 1) (fn:=Tryz.f179) (c:=codeOf Tryz.f179) (by kernel_rfl) (by kernel_rfl) (by kernel_rfl)
  (λe l x cs h=>by
   obtain⟨ds,h2⟩:=Ws h;rw[aeQ h2];exact aj0 (zD aI aeP 1) (oJ _ _ _ _ _ _) ao9 λx hx=>by
    obtain⟨⟨V,⟨⟩,b,U,n,i,⟨⟩⟩,⟨⟩⟩:=x;have hx:(!b&&(decide (V.length=U.length)&&(decide (n=(U.length:Int))&&(decide (i=0)&&decide (U.length≤100000)))))=true:=hx;simp only[bI,dS,Bool.not_eq_true']at hx;obtain⟨rfl,h1,rfl,rfl,h5⟩:=hx;exact⟨_,rEq U V h5 h1 U.length 0 (by omega)⟩)
  (M:=λx=>aj1 x.1.1 x.1.2.1) (λx=>aj2 x.1.1 x.1.2.1) λx h=>by
   obtain⟨⟨U,V,⟨⟩,⟨⟩⟩,⟨⟩⟩:=x;have h1:decide (U.length≤100000)=true:=h _ (by simp)
   show(aj1 U V).sat (gW {val:=bJ (lM rQ U V),outs:=aay})
   simp only[aj1,bP.aG,bP.aP];refine aj (λh=> ?_) (λh=> ?_)
   ·cases he:lM rQ U V with
    | true=>rw[aaz he]at h;simp at h
    | false=>exact ak (gW.refl _)
   ·have hl:U.length=V.length:=by
     have:((U.length:Int)==(V.length:Int))=true:=by
      cases hh:((U.length:Int)==(V.length:Int))with
      | true=>rfl
      | false=>rw[bne,hh]at h;cases h
     have:=eq_of_beq this;omega
    have hp:lEq.pre ((V,(),false,U,(U.length:Int),0,()),())=true:=by
     show(!false&&(decide (V.length=U.length)&&(decide ((U.length:Int)=(U.length:Int))&&(decide ((0:Int)=0)&&decide (U.length≤100000)))))=true
     rw[h1,dK hl.symm];simp
    refine ah rfl (ah rfl (ah hp (aj (λh=> ?_) (λh=> ?_))))
    ·rw[Bool.not_eq_true']at h
     rw[h];exact ak (gW.refl _)
    ·rw[Bool.not_eq_false']at h
     rw[h];exact ak (gW.refl _)
def asT:FuncId→Option Spec:=λf=>bif beq f 179 then some (eB arG)else none
theorem aj3: ∀f s,asT f=some s→aH prog f s:=bM apa.spec
def arH:List AV→Option (AV×List Bool):=(F3 (jH 233) bP.arg bP.arg).K (λx=>bJ (lM rQ x.2.1 x.2.2.1)) λx=> [decide (x.2.1.length≤100000)]
def arI(U V:List Uq):Tr AV:=
 let U':=bP.list U.length (bP.el U)
 let V':=bP.list V.length (bP.el V)
 need (bP.oks U.length (bP.el U))<| need (bP.oks V.length (bP.el V))<| need (decide (U'.length≤100000))<| ret (bJ (lM rQ U' V'))
theorem apb:aF prog 131 arH:=
 Form.pk _ aj3 (fn:=Tryz.f131) (M:=λx=>arI x.2.1 x.2.2.1) (λx=>by obtain⟨⟨⟩,U,V,⟨⟩⟩:=x;kernel_rfl) λx h=>by
  have h1:decide (x.2.1.length≤100000)=true:=h _ (by simp);simp only[arI,bP.aG,bP.aP,h1,sat_true];exact ak rfl
end Go.bA
namespace Go.bA
open Go.Proofs
def I4.isA:I4→Bool | .a=>true | _=>false
abbrev QcX:=Q3×I4×Unit
def lQc:bC QcX Unit:=lD {nt:=19,live:=[11,12]} {nt:=19,live:=[]} (dU.pure (.cons Aw.jZ (.cons arz .nil))) (dU.pure Form.nil) (λ_=>()) (λx=>qI 1000000 x.1&&x.2.1.isA)
def qcS(q:Q3)(c:Rat)(j:I4):Tr (QcX ⊕ Unit):=
 let C:=av c
 let Q:=bD q
 Tr.ite true (need true<| need (aK C)<| need (uQ (ay C).num)<| need (uQ ((ay C).den:Int))<| Tr.ite false (Tr.fail "out") (need (dB Q)<| ret (.inl (bH Q,j,())))) (ret (.inr ()))
def tQc(x:QcX):Tr (QcX ⊕ Unit):=match x.2.1 with
 | .a=>qcS x.1 x.1.c0 .b
 | .b=>qcS x.1 x.1.c1 .c
 | .c=>qcS x.1 x.1.c2 .d
 | .d=>Tr.ite false (Tr.fail "quadratic.go:24") (ret (.inr ()))
theorem apc: ∀x,(exec prog ΓRc dn 1010 (aR 0 (codeOf Tryz.f363)) (eY lQc.nIn (lQc.head x))).bind (lQc.fin 0 0)=tQc x:=λx=>by
 obtain⟨q,i,⟨⟩⟩:=x;cases i<;>kernel_rfl
theorem Pk{q:Q3}{c:Rat}{j:I4}(h:wX 1000000 c=true){R:QcX ⊕ Unit→Prop}(hq:R (.inl (q,j,()))):(qcS q c j).sat R:=by
 have h1:=aeL h;simp only[qcS,bS,dP,dQ,fq,h1.1,h1.2];exact aj (λ_=>ah rfl (ah rfl (ah rfl (ah rfl (aj (λh=>by cases h) λ_=>ah rfl (ak hq)))))) λh=>by cases h
theorem rQc{q:Q3}(h:qI 1000000 q=true):aS tQc (· =()) 4 (q,.a,()):=by
 have h:=dG.1 h;refine Pk (kJ.2 h.c0) ?_;refine Pk (kJ.2 h.c1) ?_;refine Pk (kJ.2 h.c2) ?_;exact aj (λh=>by cases h) λ_=>ak rfl
def kQc:List AV→Option (AV×List Bool):=(F1 Aw.jZ).K (λ_=> .c (.v (.int .i64 0))) λx=> [qI 1000000 x.1]
def MQc(q:Q3):Tr AV:=
 let Q:=bD q
 need (dB Q)<| need (lQc.pre (bH Q,.a,()))<| ret i0
theorem arJ:aF prog 363 kQc:=
 (F1 Aw.jZ).ji (N:=1010) (L:=qK 0 lQc) aI Wq (fn:=Tryz.f363) (c:=codeOf Tryz.f363) (by kernel_rfl) (by kernel_rfl) (by kernel_rfl)
  (nk Wq (cZ _ _ _ _ _ _) apc λx hx=>by
   obtain⟨q,i,⟨⟩⟩:=x;have hx:(qI 1000000 q&&i.isA)=true:=hx;rw[bI]at hx;cases i with
   | a=>exact⟨4,rQc hx.1⟩
   | _=>exact absurd hx.2 (by decide)) (λ_=>rfl) (M:=λx=>MQc x.1) (λx=>by obtain⟨q,⟨⟩⟩:=x;kernel_rfl) λx h=>by
  obtain⟨q,⟨⟩⟩:=x;have h1:qI 1000000 q=true:=h (qI 1000000 q) (by simp);have hp:lQc.pre (q,.a,())=true:=by
   show(qI 1000000 q&&true)=true
   rw[h1];rfl
  simp only[MQc,dQ,fq,hp,sat_true];exact ak rfl
def kQk:List AV→Option (AV×List Bool):=(F2 C8 Aw.jZ).K (λ_=> .c (.v (.int .i64 0))) λx=> [qI 1000000 x.2.1]
def ΓQk:FuncId→Option Spec:=λf=>bif beq f 363 then some (au kQc)else none
theorem apd: ∀f s,ΓQk f=some s→aH prog f s:=bM arJ.spec
def MQk(q:Q3):Tr AV:=
 let Q:=bD q
 need (dB Q)<| need (qI 1000000 (bH Q))<| ret i0
theorem arK:aF prog 359 kQk:=
 (F2 C8 Aw.jZ).pk apd (fn:=Tryz.f359) (M:=λx=>MQk x.2.1) (λx=>by obtain⟨⟨⟩,q,⟨⟩⟩:=x;kernel_rfl) λx h=>by
  have h1:qI 1000000 x.2.1=true:=h _ (by simp);simp only[MQk,dQ,fq,h1,sat_true];exact ak rfl
end Go.bA
namespace Go.bA
open Go.Proofs
def Gv(n:Int):AV:= .c (.v (.int .i64 n))
def ape:Option Uq→Ig→Bool
 | none,_=>false
 | some v,i=> !Bz v.i i
def Gw:Option Uq→List Uq→Int
 | _,[]=>0
 | p,u::l=>bif ckI u.i !=0 then ckI u.i else bif ape p u.i then 7 else Gw (some u) l
def K9(U:List Uq):Int:=bif decide (256<U.length)then 3 else bif Gw none U !=0 then Gw none U else bif lM rQ U (mH rQ U)then 0 else 5
def La(u:Uq):Bool:=AL u.i&&qI 1000000 u.f
def BJ(U:List Uq):Bool:=decide (U.length≤100000)&&(U.all La&&(Gw none U !=0 || jL rQ U))
abbrev CkX:=Unit×List Uq×Int×List Uq×Int×Int×Unit
abbrev CkR:=Bool×(Unit×List Uq×Int×Unit)
def lCk:bC CkX CkR:=Tf {nt:=64,live:=[0,1,4,14,15,16]} {nt:=64,live:=[0,1,4]} (dU.pure (.cons (jH 233) (.cons bP.arg (.cons aX (.cons bP.arg (.cons aX (.cons aX .nil))))))) (dU.pure (.cons (jH 233) (.cons bP.arg (.cons aX .nil))))
 (λx=>(Gw none x.2.1 !=0,((),x.2.1,Gw none x.2.1,()))) (λx=>decide (x.2.2.1=0)&&(lM rQ x.2.1 x.2.2.2.1&&(decide (x.2.2.2.2.1=(x.2.1.length:Int))&&(decide (x.2.2.2.2.2.1=0)&&(decide (x.2.1.length≤1000)&&x.2.1.all La)))))
def ΓCk:FuncId→Option Spec:=λf=>bif beq f 129 then some (au kCi)else bif beq f 130 then some (au ant)else bif beq f 359 then some (au kQk)else bif beq f 95 then some (au (kNm rQ 233))else bif beq f 131 then some (au arH)else none
theorem aeR: ∀f s,ΓCk f=some s→aH prog f s:=step_ok arE.spec (step_ok adq.spec (step_ok arK.spec (step_ok VY.spec (bM apb.spec))))
def fCk(U:List Uq)(b:Bool)(r:Int):Tr (CkX ⊕ CkR):=need (bP.oks U.length (bP.el U))<| ret (.inr (b,((),bP.list U.length (bP.el U),r,())))
def tCk(x:CkX):Tr (CkX ⊕ CkR):=
 let U:=x.2.1
 let r:=x.2.2.1
 let A:=x.2.2.2.1
 let n:=x.2.2.2.2.1
 let i:=x.2.2.2.2.2.1
 let j:=i64.wrap (i-1)
 let u:=A.getD i.toNat bP.d
 let v:=U.getD j.toNat bP.d
 let I:=dO u.i
 let J:=dO v.i
 let Q:=bD u.f
 let b:=decide (i>0)
 Tr.ite (decide (i<n))
  (need (decide (0≤i∧i<(A.length:Int)))<| need (qP I)<| need (AL (uV I))<| Tr.ite (ckI (uV I) !=0) (fCk U true (ckI (uV I)))<| need (dB Q)<| need (qI 1000000 (bH Q))<| Tr.ite false (fCk U true 0)<|
   need (bif b then decide (0≤j∧j<(U.length:Int))&&(qP J&&(qP I&&(iH 100000 (uV J).b&&(iH 100000 (uV I).a&&true))))else true)<|
    Tr.ite (bif b then bif true then !Bz (uV J) (uV I)else false else false) (fCk U true 7)
     (need (bP.oks U.length (bP.el U))<| need (bP.oks A.length (bP.el A))<| ret (.inl ((),bP.list U.length (bP.el U),r,bP.list A.length (bP.el A),n,i64.wrap (i+1),()))))
  (fCk U false r)
theorem apf: ∀x,(exec prog ΓCk dn 1010 (aR 0 (codeOf Tryz.f76)) (eY lCk.nIn (lCk.head x))).bind (lCk.fin 0 0)=tCk x:=λx=>by
 obtain⟨⟨⟩,U,r,A,n,i,⟨⟩⟩:=x
 kernel_rfl
theorem Pm{U:List Uq}{b:Bool}{r:Int}{R:CkX ⊕ CkR→Prop}(h:R (.inr (b,((),U,r,())))):(fCk U b r).sat R:=by
 simp only[fCk,bP.aG,bP.aP,sat_true];exact ak h
theorem SH{u:Uq}(h:La u=true):AL u.i=true∧qI 1000000 u.f=true:=by
 simpa only[La,bI]using h
theorem rCk(U:List Uq)(hU:U.length≤1000)(hb:U.all La=true): ∀(k i:Nat) (p:Option Uq),i+k=U.length→((p=none∧i=0)∨(0<i∧p=some (U.getD (i-1) bP.d)))→
  aS tCk (· =(Gw p (U.drop i) !=0,((),U,Gw p (U.drop i),()))) (k+1) ((),U,0,U,(U.length:Int),(i:Nat),())
 | 0,i,p,he,hp=>by
   obtain rfl:i=U.length:=by omega
   rw[List.drop_length];unfold aS;simp only[tCk];exact aj (λh=>absurd (iX h) (by omega)) λ_=>Pm rfl
 | k+1,i,p,he,hp=>by
   have hi:i<U.length:=by omega
   have w1:i64.wrap ((i:Int)+1)=((i+1:Nat):Int):=kU;have hu:U.getD i bP.d=U[i]:=by simp[dJ,hi]
   rw[List.drop_eq_getElem_cons hi, ←hu];have ih:=rCk U hU hb k (i+1) (some (U.getD i bP.d)) (by omega) (.inr ⟨by omega,rfl⟩);have hku:=SH (List.all_eq_true.1 hb _ (oN bP.d hi));have eu:=Pj hku.1
   have hg:(bif decide ((i:Int)>0)then decide (0≤i64.wrap ((i:Int)-1)∧i64.wrap ((i:Int)-1)<(U.length:Int))&&(true&&(true&&(iH 100000 (U.getD (i64.wrap ((i:Int)-1)).toNat bP.d).i.b&&(iH 100000 (U.getD i bP.d).i.a&&true))))else true)=true∧
     (bif decide ((i:Int)>0)then bif true then !Bz (U.getD (i64.wrap ((i:Int)-1)).toNat bP.d).i (U.getD i bP.d).i else false else false)=ape p (U.getD i bP.d).i:=by
    rcases hp with⟨rfl,h⟩|⟨h,rfl⟩
    ·rw[iB (show¬(i:Int)>0 by omega)];exact⟨rfl,rfl⟩
    ·have w2:i64.wrap ((i:Int)-1)=((i-1:Nat):Int):=kU
     have hv:=Pj (SH (List.all_eq_true.1 hb _ (oN bP.d (show i-1<U.length by omega)))).1;rw[dK (show(i:Int)>0 by omega),w2,cB,hv.2.1,eu.1.1,dK (show(0:Int)≤((i-1:Nat):Int)∧((i-1:Nat):Int)<(U.length:Int)by omega)];exact⟨rfl,rfl⟩
   generalize hu2:U.getD i bP.d=u at*;unfold aS;simp only[tCk,w1,cB,hu2,jY,iy,dQ,fq,hku.1,hku.2,hg.1,hg.2,bP.aG,bP.aP,sat_true];simp only[Gw];refine aj (λ_=>ah (dA) ?_) (λh=>absurd (of_decide_eq_false h) (by omega));simp only[sat_true];refine aj (λh=> ?_) (λh=> ?_)
   ·rw[h];exact Pm (by rw[cond_true,h])
   ·rw[h,cond_false]
    refine ah rfl (ah rfl (aj (λh=>by cases h) λ_=>ah rfl ?_));refine aj (λh2=> ?_) (λh2=> ?_)
    ·rw[h2];exact Pm rfl
    ·rw[h2,cond_false]
     exact ah rfl (ah rfl (ak ih))
def kCk:List AV→Option (AV×List Bool):=(F2 (jH 233) bP.arg).K (λx=>Gv (K9 x.2.1)) λx=> [BJ x.2.1]
def MCk(U:List Uq):Tr AV:=
 let V:=bP.list U.length (bP.el U)
 let W:=bP.list V.length (bP.el V)
 let N:=mH rQ W
 let s:=Gw none V
 Tr.ite (decide ((U.length:Int)>256)) (ret (Gv 3))<| need (bP.oks U.length (bP.el U))<| need (bP.oks U.length (bP.el U))<| need (lCk.pre ((),V,0,V,(U.length:Int),0,()))<|
  Tr.ite (s !=0) (ret (Gv s))<| need (bP.oks V.length (bP.el V))<| aoF rQ W<|
   need (bP.oks V.length (bP.el V)&&(bP.oks N.length (bP.el N)&&(decide (W.length≤100000)&&true)))<| Tr.ite (!lM rQ W (bP.list N.length (bP.el N))) (ret (Gv 5)) (ret (Gv 0))
theorem arL:aF prog 76 kCk:=
 (F2 (jH 233) bP.arg).ji (N:=1010) (L:=qK 0 lCk) aI aeR (fn:=Tryz.f76) (c:=codeOf Tryz.f76) (by kernel_rfl) (by kernel_rfl) (by kernel_rfl)
  (nk aeR (oJ _ _ _ _ _ _) apf λx hx=>by
   obtain⟨⟨⟩,U,r,A,n,i,⟨⟩⟩:=x;have hx:(decide (r=0)&&(lM rQ U A&&(decide (n=(U.length:Int))&&(decide (i=0)&&(decide (U.length≤1000)&&U.all La)))))=true:=hx;simp only[bI,dS,rW]at hx;obtain⟨rfl,rfl,rfl,rfl,h5,h6⟩:=hx;exact⟨_,rCk U h5 h6 U.length 0 none (by omega) (.inl ⟨rfl,rfl⟩)⟩) (λ_=>rfl) (M:=λx=>MCk x.2.1) (λx=>by obtain⟨⟨⟩,U,⟨⟩⟩:=x;kernel_rfl) λx h=>by
  obtain⟨⟨⟩,U,⟨⟩⟩:=x;have h1:BJ U=true:=h _ (by simp);simp only[BJ,bI]at h1;obtain⟨_,h1,h2⟩:=h1
  show Tr.sat (λr=>r=Gv (K9 U)) (MCk U)
  simp only[MCk,bP.aG,bP.aP,K9];refine aj (λh=> ?_) (λh=> ?_)
  ·rw[dK (show 256<U.length by have:=iX h;omega)]
   exact ak rfl
  ·have hl:=of_decide_eq_false h
   rw[iB (show¬256<U.length by omega)];have hp:lCk.pre ((),U,0,U,(U.length:Int),0,())=true:=by
    show(decide ((0:Int)=0)&&(lM rQ U U&&(decide ((U.length:Int)=(U.length:Int))&&(decide ((0:Int)=0)&&(decide (U.length≤1000)&&U.all La)))))=true
    rw[rW.2 rfl,h1,dK (show U.length≤1000 by omega)];simp
   refine ah rfl (ah rfl (ah hp (aj (λh=> ?_) (λh=> ?_))))
   ·rw[h];exact ak rfl
   ·rw[h,Bool.false_or]at h2
    rw[h,cond_false,cond_false];refine ah rfl (Sn h2 (ah ?_ ?_))
    ·rw[dK (show U.length≤100000 by omega)];rfl
    ·refine aj (λh=> ?_) (λh=> ?_)
     ·rw[Bool.not_eq_true']at h
      rw[h];exact ak rfl
     ·rw[Bool.not_eq_false']at h
      rw[h];exact ak rfl
def Kv:AV→List Uq
 | .c (.sl m sz e)=>bif beq sz 32 then bP.list m e else []
 | _=> []
def Wt:AV→Bool
 | .c (.sl m sz e)=>beq sz 32&&bP.oks m e
 | _=>false
def ald:Arg (List Uq) where
 get:=λa=>some (Kv a,[Wt a])
 put:=bP.sl
 ok:=by
  intro a x cs h hc;simp only[fu,Prod.mk.injEq]at h;obtain⟨rfl,rfl⟩:=h;have h:=hc (Wt a) (by simp);unfold Wt at h
  split at h
  ·rename_i m sz e
   simp only[bI]at h;obtain⟨h1,h2⟩:=h;obtain rfl:sz=32:=by simpa using h1
   have e1:Kv (.c (.sl m 32 e))=bP.list m e:=rfl;rw[e1];unfold kZ.sl;rw[bP.sO];exact bL.sl (bP.OG h2)
  ·cases h
def arM:List AV→Option (AV×List Bool):=(F1 ald).K (λx=>Gv (K9 x.1)) λx=> [BJ x.1]
def asU:FuncId→Option Spec:=λf=>bif beq f 65 then some (au (OO bP))else bif beq f 76 then some (au kCk)else none
theorem aj4: ∀f s,asU f=some s→aH prog f s:=step_ok RU.spec (bM arL.spec)
def arN(U:List Uq):Tr AV:=
 let V:=bP.list U.length (bP.el U)
 let W:=bP.list V.length (bP.el V)
 need (bP.oks U.length (bP.el U))<| need (decide (V.length≤100000))<| need (bP.oks V.length (bP.el V))<| need (BJ W)<| ret (Gv (K9 W))
theorem aj5:aF prog 31 arM:=
 (F1 ald).pk (iE aj4) (fn:=Tryz.f31) (M:=λx=>arN x.1) (λx=>by obtain⟨U,⟨⟩⟩:=x;kernel_rfl) λx h=>by
  have h1:BJ x.1=true:=h _ (by simp);have h2:=h1;unfold BJ at h2;rw[bI]at h2;simp only[arN,bP.aG,bP.aP,h1,h2.1,sat_true];exact ak rfl
end Go.bA
namespace Go.bA
open Go.Proofs
def usV(c:Cv):AV:= .c (.sl c.D.length 32 (bP.el c.D))
def aeS(i:Int):Bool:=decide (i<1) || decide (i>1073741824)
def aeT(p:Option Int)(i:Int):Bool:=match p with|none=>false|some q=>decide (i≤q)
def Gx(c:Cv):Int:=K9 (Kv (usV c))
def okN(c:Cv):Bool:=Wt (usV c)&&BJ (Kv (usV c))
def Tj:Option Int→List Cv→Int
 | _,[]=>0
 | p,c::l=>bif aeS c.i then 27 else bif aeT p c.i then 7 else bif Gx c !=0 then Gx c else Tj (some c.i) l
def MZ:Option Int→List Cv→Bool
 | _,[]=>true
 | p,c::l=>bif aeS c.i then true else bif aeT p c.i then true else okN c&&(bif Gx c !=0 then true else MZ (some c.i) l)
def Pn(C:List Cv):Int:=bif decide (64<C.length)then 3 else Tj none C
def ΓC8:FuncId→Option Spec:=λf=>bif beq f 31 then some (au arM)else none
theorem Po: ∀f s,ΓC8 f=some s→aH prog f s:=bM aj5.spec
abbrev C8X:=Int×Int×List Cv×Int×Int×Unit
abbrev C8R:=Bool×(Int×Unit)
noncomputable def lC8:bC C8X C8R:=Tf {nt:=44,live:=[2,3,10,11,12]} {nt:=44,live:=[2]} (dU.pure (.cons aX (.cons aX (.cons iJ.arg (.cons aX (.cons aX .nil)))))) (dU.pure (.cons aX .nil))
 (λx=>(Tj none x.2.2.1 !=0,(Tj none x.2.2.1,()))) (λx=>decide (x.1=0)&&(MZ none x.2.2.1&&(decide (x.2.2.2.1=(x.2.2.1.length:Int))&&(decide (x.2.2.2.2.1=0)&&decide (x.2.2.1.length≤1000)))))
noncomputable def tC8 (x:C8X):Tr (C8X ⊕ C8R):=
 let r:=x.1
 let last:=x.2.1
 let C:=x.2.2.1
 let n:=x.2.2.2.1
 let i:=x.2.2.2.2.1
 let c:=C.getD i.toNat iJ.d
 let b1:=decide (c.i<1)
 let b2:=decide (i>0)
 Tr.ite (decide (i<n))
  (need (decide (0≤i∧i<(C.length:Int)))<| need (bif b1 then true else true)<| Tr.ite (bif b1 then true else bif false then true else decide (c.i>1073741824)) (ret (.inr (true,(27,()))))
   (need (bif b2 then true else true)<| Tr.ite (bif b2 then bif true then decide (c.i≤last)else false else false) (ret (.inr (true,(7,()))))
    (need (Wt (usV c))<| need (BJ (Kv (usV c)))<| Tr.ite (K9 (Kv (usV c)) !=0) (ret (.inr (true,(K9 (Kv (usV c)),()))))
     (need (iJ.oks C.length (iJ.el C))<| ret (.inl (r,c.i,iJ.list C.length (iJ.el C),n,i64.wrap (i+1),()))))))
  (ret (.inr (false,(r,()))))
theorem apg: ∀x,(exec prog ΓC8 dn 1010 (aR 0 (codeOf Tryz.f8)) (eY lC8.nIn (lC8.head x))).bind (lC8.fin 0 0)=tC8 x:=λx=>by
 obtain⟨r,last,C,n,i,⟨⟩⟩:=x
 kernel_rfl
theorem or_eq(a b:Bool):(bif a then true else bif false then true else b)=(a || b):=by cases a<;>rfl
theorem and_eq(a b:Bool):(bif a then bif true then b else false else false)=(a&&b):=by cases a<;>rfl
theorem aeU(a:Bool):(bif a then true else true)=true:=by cases a<;>rfl
theorem rC8(C:List Cv)(hC:C.length≤1000): ∀(k i:Nat) (p:Option Int) (last:Int),i+k=C.length→((p=none∧i=0)∨(0<i∧p=some last))→MZ p (C.drop i)=true→
  aS tC8 (· =(Tj p (C.drop i) !=0,(Tj p (C.drop i),()))) (k+1) (0,last,C,(C.length:Int),(i:Nat),())
 | 0,i,p,last,he,hp,ho=>by
   obtain rfl:i=C.length:=by omega
   rw[List.drop_length];unfold aS;simp only[tC8];exact aj (λh=>absurd (iX h) (by omega)) λ_=>ak rfl
 | k+1,i,p,last,he,hp,ho=>by
   have hi:i<C.length:=by omega
   have w1:i64.wrap ((i:Int)+1)=((i+1:Nat):Int):=kU;have hu:C.getD i iJ.d=C[i]:=by simp[dJ,hi]
   rw[List.drop_eq_getElem_cons hi, ←hu]at ho⊢;have aj6: ∀z,(decide ((i:Int)>0)&&decide (z≤last))=aeT p z:=λz=>by
    rcases hp with⟨rfl,h⟩|⟨h,rfl⟩
    ·rw[iB (show¬(i:Int)>0 by omega)];rfl
    ·rw[dK (show(i:Int)>0 by omega)];rfl
   have ih:=rC8 C hC k (i+1) (some (C.getD i iJ.d).i) (C.getD i iJ.d).i (by omega) (.inr ⟨by omega,rfl⟩);generalize hc:C.getD i iJ.d=c at*;unfold aS;simp only[tC8,w1,cB,hc,or_eq,and_eq,aeU,aj6,iJ.aG,iJ.aP,sat_true];simp only[Tj,MZ,aeS,okN]at ho⊢;refine aj (λ_=>ah (dA) ?_) (λh=>absurd (of_decide_eq_false h) (by omega));simp only[sat_true];refine aj (λh=> ?_) (λh=> ?_)
   ·rw[h];exact ak rfl
   ·rw[h]at ho⊢
    simp only[cond_false,sat_true]at ho⊢;refine aj (λh2=> ?_) (λh2=> ?_)
    ·rw[h2];exact ak rfl
    ·rw[h2]at ho⊢
     simp only[cond_false,bI]at ho⊢;obtain⟨⟨h3,h4⟩,h5⟩:=ho;refine ah h3 (ah h4 (aj (λh6=> ?_) (λh6=> ?_)))
     ·have h6':(Gx c !=0)=true:=h6
      rw[h6'];exact ak (by show _=(Gx c !=0,(Gx c,()));rw[h6'];rfl)
     ·have h6':(Gx c !=0)=false:=h6
      rw[h6']at h5⊢;exact ah rfl (ak (ih h5))
noncomputable def kCc:List AV→Option (AV×List Bool):=(F1 iJ.arg).K (λx=> .c (.v (.int .i64 (Pn x.1)))) λx=> [decide (64<x.1.length) || MZ none x.1]
noncomputable def MC8 (C:List Cv):Tr AV:=
 let V:=iJ.list C.length (iJ.el C)
 let s:=Tj none V
 Tr.ite (decide ((C.length:Int)>64)) (ret (.c (.v (.int .i64 3))))<| need (iJ.oks C.length (iJ.el C))<| need (lC8.pre (0,0,V,(C.length:Int),0,()))<|
  Tr.ite (s !=0) (ret (.c (.v (.int .i64 s)))) (ret i0)
theorem arO:aF prog 8 kCc:=
 (F1 iJ.arg).ji (N:=1010) (L:=qK 0 lC8) aI Po (fn:=Tryz.f8) (c:=codeOf Tryz.f8) (by kernel_rfl) (by kernel_rfl) (by kernel_rfl)
  (nk Po (oJ _ _ _ _ _ _) apg λx hx=>by
   obtain⟨r,last,C,n,i,⟨⟩⟩:=x;have hx:(decide (r=0)&&(MZ none C&&(decide (n=(C.length:Int))&&(decide (i=0)&&decide (C.length≤1000)))))=true:=hx;simp only[bI,dS]at hx;obtain⟨rfl,h2,rfl,rfl,h5⟩:=hx;exact⟨_,rC8 C h5 C.length 0 none last (by omega) (.inl ⟨rfl,rfl⟩) h2⟩) (λ_=>rfl) (M:=λx=>MC8 x.1) (λx=>by obtain⟨C,⟨⟩⟩:=x;kernel_rfl) λx h=>by
  obtain⟨C,⟨⟩⟩:=x;have h1:(decide (64<C.length) || MZ none C)=true:=h _ (by simp);simp only[MC8,iJ.aG,iJ.aP]
  show Tr.sat (λr=>r=AV.c (.v (.int .i64 (Pn C)))) _
  unfold Pn;refine aj (λh=> ?_) (λh=> ?_)
  ·rw[dK (show 64<C.length by have:=iX h;omega)]
   exact ak rfl
  ·have hl:=of_decide_eq_false h
   rw[iB (show¬64<C.length by omega)]at h1⊢;have hp:lC8.pre (0,0,C,(C.length:Int),0,())=true:=by
    show(decide ((0:Int)=0)&&(MZ none C&&(decide ((C.length:Int)=(C.length:Int))&&(decide ((0:Int)=0)&&decide (C.length≤1000)))))=true
    simp only[Bool.false_or]at h1;rw[h1,dK (show C.length≤1000 by omega)];simp
   simp only[hp,sat_true];refine aj (λh=>ak rfl) λh=>ak ?_
   have:Tj none C=0:=by simpa using h
   rw[cond_false,this];rfl
end Go.bA
namespace Go.bA
open Go.Proofs
abbrev C9X:=List Cv×Int×Int×Unit
noncomputable def lC9:bC C9X C8R:=Tf {nt:=53,live:=[0,2,3]} {nt:=53,live:=[2]} (dU.pure (.cons iJ.arg (.cons aX (.cons aX .nil)))) (dU.pure (.cons aX .nil))
 (λx=>(Tj none x.1 !=0,(Tj none x.1,()))) (λx=>decide (x.2.1=0)&&(MZ none x.1&&(decide (x.2.2.1=0)&&decide (x.1.length≤1000))))
noncomputable def tC9 (x:C9X):Tr (C9X ⊕ C8R):=
 let C:=x.1
 let r:=x.2.1
 let i:=x.2.2.1
 let j:=i64.wrap (i-1)
 let c:=C.getD i.toNat iJ.d
 let d:=C.getD j.toNat iJ.d
 let b1:=decide (c.i<1)
 let b2:=decide (i>0)
 let ix:=decide (0≤i∧i<(C.length:Int))
 Tr.ite (decide (i<(C.length:Int)))
  (need ix<| need (bif b1 then true else ix&&true)<| Tr.ite (bif b1 then true else bif false then true else decide (c.i>1073741824)) (ret (.inr (true,(27,()))))
   (need (bif b2 then ix&&(decide (0≤j∧j<(C.length:Int))&&true)else true)<| Tr.ite (bif b2 then bif true then decide (c.i≤d.i)else false else false) (ret (.inr (true,(7,()))))
    (need ix<| need (Wt (usV c))<| need (BJ (Kv (usV c)))<| Tr.ite (K9 (Kv (usV c)) !=0) (ret (.inr (true,(K9 (Kv (usV c)),()))))
     (need (iJ.oks C.length (iJ.el C))<| ret (.inl (iJ.list C.length (iJ.el C),r,i64.wrap (i+1),()))))))
  (ret (.inr (false,(r,()))))
theorem aph: ∀x,(exec prog ΓC8 dn 1010 (aR 0 (codeOf Tryz.f9)) (eY lC9.nIn (lC9.head x))).bind (lC9.fin 0 0)=tC9 x:=λx=>by
 obtain⟨C,r,i,⟨⟩⟩:=x
 kernel_rfl
theorem rC9(C:List Cv)(hC:C.length≤1000): ∀(k i:Nat) (p:Option Int),i+k=C.length→((p=none∧i=0)∨(0<i∧p=some (C.getD (i-1) iJ.d).i))→MZ p (C.drop i)=true→
  aS tC9 (· =(Tj p (C.drop i) !=0,(Tj p (C.drop i),()))) (k+1) (C,0,(i:Nat),())
 | 0,i,p,he,hp,ho=>by
   obtain rfl:i=C.length:=by omega
   rw[List.drop_length];unfold aS;simp only[tC9];exact aj (λh=>absurd (iX h) (by omega)) λ_=>ak rfl
 | k+1,i,p,he,hp,ho=>by
   have hi:i<C.length:=by omega
   have w1:i64.wrap ((i:Int)+1)=((i+1:Nat):Int):=kU;have hu:C.getD i iJ.d=C[i]:=by simp[dJ,hi]
   have ix:decide ((0:Int)≤(i:Int)∧(i:Int)<(C.length:Int))=true:=dA;rw[List.drop_eq_getElem_cons hi, ←hu]at ho⊢;have aj6:(∀z,(decide ((i:Int)>0)&&decide (z≤(C.getD (i64.wrap ((i:Int)-1)).toNat iJ.d).i))=aeT p z)∧(bif decide ((i:Int)>0)then true&&decide (0≤i64.wrap ((i:Int)-1)∧i64.wrap ((i:Int)-1)<(C.length:Int))else true)=true:=by
    rcases hp with⟨rfl,h⟩|⟨h,rfl⟩
    ·rw[iB (show¬(i:Int)>0 by omega)];exact⟨λz=>rfl,rfl⟩
    ·have w2:i64.wrap ((i:Int)-1)=((i-1:Nat):Int):=kU
     rw[dK (show(i:Int)>0 by omega),w2,cB,dK (show(0:Int)≤((i-1:Nat):Int)∧((i-1:Nat):Int)<(C.length:Int)by omega)];exact⟨λz=>rfl,rfl⟩
   have ih:=rC9 C hC k (i+1) (some (C.getD i iJ.d).i) (by omega) (.inr ⟨by omega,rfl⟩);generalize hc:C.getD i iJ.d=c at*;unfold aS;simp only[tC9,w1,cB,hc,ix,or_eq,and_eq,aeU,aj6.1,aj6.2,iJ.aG,iJ.aP,Bool.and_true,sat_true];simp only[Tj,MZ,aeS,okN]at ho⊢;refine aj (λ_=> ?_) (λh=>absurd (of_decide_eq_false h) (by omega));simp only[aeU,sat_true];refine aj (λh=> ?_) (λh=> ?_)
   ·rw[h];exact ak rfl
   ·rw[h]at ho⊢
    simp only[cond_false,sat_true]at ho⊢;refine aj (λh2=> ?_) (λh2=> ?_)
    ·rw[h2];exact ak rfl
    ·rw[h2]at ho⊢
     simp only[cond_false,bI,sat_true]at ho⊢;obtain⟨⟨h3,h4⟩,h5⟩:=ho;refine ah h3 (ah h4 (aj (λh6=> ?_) (λh6=> ?_)))
     ·have h6':(Gx c !=0)=true:=h6
      rw[h6'];exact ak (by show _=(Gx c !=0,(Gx c,()));rw[h6'];rfl)
     ·have h6':(Gx c !=0)=false:=h6
      rw[h6']at h5⊢;exact ah rfl (ak (ih h5))
noncomputable def MC9 (C:List Cv):Tr AV:=
 let V:=iJ.list C.length (iJ.el C)
 let s:=Tj none V
 Tr.ite (decide ((C.length:Int)>64)) (ret (.c (.v (.int .i64 3))))<| need (iJ.oks C.length (iJ.el C))<| need (lC9.pre (V,0,0,()))<|
  Tr.ite (s !=0) (ret (.c (.v (.int .i64 s)))) (ret i0)
theorem arP:aF prog 9 kCc:=
 (F1 iJ.arg).ji (N:=1010) (L:=qK 0 lC9) aI Po (fn:=Tryz.f9) (c:=codeOf Tryz.f9) (by kernel_rfl) (by kernel_rfl) (by kernel_rfl)
  (nk Po (oJ _ _ _ _ _ _) aph λx hx=>by
   obtain⟨C,r,i,⟨⟩⟩:=x;have hx:(decide (r=0)&&(MZ none C&&(decide (i=0)&&decide (C.length≤1000))))=true:=hx;simp only[bI,dS]at hx;obtain⟨rfl,h2,rfl,h5⟩:=hx;exact⟨_,rC9 C h5 C.length 0 none (by omega) (.inl ⟨rfl,rfl⟩) h2⟩) (λ_=>rfl) (M:=λx=>MC9 x.1) (λx=>by obtain⟨C,⟨⟩⟩:=x;kernel_rfl) λx h=>by
  obtain⟨C,⟨⟩⟩:=x;have h1:(decide (64<C.length) || MZ none C)=true:=h _ (by simp);simp only[MC9,iJ.aG,iJ.aP]
  show Tr.sat (λr=>r=AV.c (.v (.int .i64 (Pn C)))) _
  unfold Pn;refine aj (λh=> ?_) (λh=> ?_)
  ·rw[dK (show 64<C.length by have:=iX h;omega)]
   exact ak rfl
  ·have hl:=of_decide_eq_false h
   rw[iB (show¬64<C.length by omega)]at h1⊢;have hp:lC9.pre (C,0,0,())=true:=by
    show(decide ((0:Int)=0)&&(MZ none C&&(decide ((0:Int)=0)&&decide (C.length≤1000))))=true
    simp only[Bool.false_or]at h1;rw[h1,dK (show C.length≤1000 by omega)];rfl
   simp only[hp,sat_true];refine aj (λh=>ak rfl) λh=>ak ?_
   have:Tj none C=0:=by simpa using h
   rw[cond_false,this];rfl
end Go.bA
namespace Go.bA
open Go.Proofs
noncomputable def apj (O:List Cv):dx:={val:= .fK 0 O.length 2,outs:=[],new:=some (.arr O.length 2 (iJ.el O) 30)}
noncomputable def arQ:iD:=(dU.pure (F1 jQ.arg)).K (λx=>apj (BN 0 x.1)) λx=> [x.1.all okW,decide (x.1.length≤4)]
noncomputable def aj7 (W:List Wr):Tr dx:=
 let V:=jQ.list W.length (jQ.el W)
 need (jQ.oks W.length (jQ.el W))<| need true<| need (lCu.pre ((V,0,0,0,()),(iJ.list 0 (λ_=> []),())))<| ret (apj (BN 0 V))
theorem aj8: ∀W,jw prog ao5 (qK 0 lCu) 1010 false Tryz.f7 [] [jQ.sl W]=aj7 W:=λW=>by kernel_rfl
theorem apk:bB prog 0 (qK 0 lCu) (codeOf Tryz.f7):=
 nk YM (cZ _ _ _ _ _ _) ao6 λx hx=>by
  obtain⟨⟨W,m,id,i,⟨⟩⟩,⟨O,⟨⟩⟩⟩:=x;have hx:(W.all okW&&(decide (W.length≤4)&&(decide (m=0)&&(decide (O.length=0)&&(decide (id=0)&&decide (i=0))))))=true:=hx;simp only[bI,dS]at hx;obtain⟨h1,h2,rfl,h4,rfl,rfl⟩:=hx;obtain rfl:O=[]:=List.length_eq_zero_iff.1 h4;exact⟨_,rCu W h1 h2 (· =(((BN 0 W).length,()),(BN 0 W,()))) W.length 0 0 [] (by omega) (by simp) (by omega) (by omega) rfl⟩
theorem apl:fF prog 7 arQ:=
 (dU.pure (F1 jQ.arg)).alc (N:=1010) (xS:=false) (L:=qK 0 lCu) aI YM (fn:=Tryz.f7) (c:=codeOf Tryz.f7) (by kernel_rfl) (by kernel_rfl) (by kernel_rfl)
  (λe l x cs h=>by
   cases e with
   | nil=>exact apk
   | cons _ _=>cases h)
  (M:=λx=>aj7 x.1) (λx=>aj8 x.1) λx h=>by
   obtain⟨W,⟨⟩⟩:=x;have h1:W.all okW=true:=h (W.all okW) (by simp);have h2:decide (W.length≤4)=true:=h (decide (W.length≤4)) (by simp);have hp:lCu.pre ((W,0,0,0,()),([],()))=true:=by
    show(W.all okW&&(decide (W.length≤4)&&(decide (0=0)&&(decide (([]:List Cv).length=0)&&(decide ((0:Int)=0)&&decide ((0:Int)=0))))))=true
    rw[h1,h2];rfl
   have e0:iJ.list 0 (λ_=> [])=[]:=rfl
   show(aj7 W).sat (gW (apj (BN 0 W)))
   simp only[aj7,jQ.aG,jQ.aP,e0,hp,sat_true];exact ak (gW.refl _)
def YP:Arg Int where
 get:=λa=>match a with | .c (.v (.int .u8 n))=>some (n,[]) | _=>none
 put:=λn=> .c (.v (.int .u8 n))
 ok:=by
  intro a x cs h hc
  split at h
  ·cases h;exact bL.refl _
  ·cases h
abbrev IdX:=(List Int×Int×Nat×Int×Unit)×(List Cv×Unit)
abbrev IdR:=(Int×Nat×Unit)×(List Cv×Unit)
def nId:Norm:={nt:=94,live:=[1,2,7,8]}
def oId:Norm:={nt:=94,live:=[2,7]}
noncomputable def FId:dU IdX:= .with (.cons (iJ.ent 30) .nil) (.cons mV.arg (.cons YP (.cons (dZ 0 2) (.cons aX .nil))))
noncomputable def GId:dU IdR:= .with (.cons (iJ.ent 30) .nil) (.cons YP (.cons (dZ 0 2) .nil))
noncomputable def tId (x:IdX):Tr (IdX ⊕ IdR):=
 let I:=x.1.1
 let a:=x.1.2.1
 let m:=x.1.2.2.1
 let i:=x.1.2.2.2.1
 let O:=x.2.1
 let c:=decide (i<(m:Int))
 let E:=aT (iJ.el O) i.toNat 0 [.v (.int .i64 (I.getD i.toNat mV.d))]
 need (bif c then true else true)<| Tr.ite (bif c then bif true then decide (i<(I.length:Int))else false else false)
  (need (decide (0≤i∧i<(I.length:Int)))<| need (decide (0≤i∧i<(m:Int)))<| need (decide (i.toNat<O.length))<| need (mV.oks I.length (mV.el I))<| need (iJ.oks O.length E)<|
   ret (.inl ((mV.list I.length (mV.el I),a,m,i64.wrap (i+1),()),(iJ.list O.length E,()))))
  (need (iJ.oks O.length (iJ.el O))<| ret (.inr ((a,m,()),(iJ.list O.length (iJ.el O),()))))
theorem YQ(x:IdX):(tId x).one=true:=rfl
noncomputable def lId:bC IdX IdR:=lD nId oId FId GId (λx=>(BA tId 10 x).getD ((0,0,()),([],()))) (λx=>decide (x.1.2.2.1=x.2.1.length)&&(decide (x.1.2.2.2.1=0)&&decide (x.2.1.length≤4)))
structure M0 (C O:List Cv):Prop where
 len:O.length=C.length
 D: ∀k,(O.getD k K8).D=(C.getD k K8).D
theorem aeV(O:List Cv)(i:Nat)(c:Cv)(k:Nat):(O.set i c).getD k K8=if i=k∧i<O.length then c else O.getD k K8:=by
 simp only[dJ,List.getElem?_set];by_cases hk:i=k
 ·subst hk
  by_cases hl:i<O.length
  ·simp[hl]
  ·simp[hl]
 ·simp[hk]
theorem M0.set{C O:List Cv}(h:M0 C O)(i:Nat)(n:Int):M0 C (O.set i ⟨n,(O.getD i K8).D⟩):=by
 refine⟨by rw[List.length_set];exact h.len,λk=> ?_⟩;rw[aeV]
 split
 ·rename_i hh;rw[←hh.1];exact h.D i
 ·exact h.D k
theorem rId(C:List Cv)(hC:C.length≤4)(I:List Int)(a:Int): ∀(n i:Nat) (O:List Cv),i+n=C.length→M0 C O→
  aS tId (λr=>r.1=(a,C.length,())∧M0 C r.2.1) (n+1) ((I,a,C.length,(i:Nat),()),(O,()))
 | 0,i,O,he,hs=>by
   obtain rfl:i=C.length:=by omega
   unfold aS;simp only[tId,iJ.aG,iJ.aP];rw[iB (show¬((C.length:Nat):Int)<(C.length:Int)by omega)];simp only[cond_false,sat_true];exact aj (λh=>by cases h) λ_=>ah rfl (ak ⟨rfl,hs⟩)
 | n+1,i,O,he,hs=>by
   have hi:i<C.length:=by omega
   have w1:i64.wrap ((i:Int)+1)=((i+1:Nat):Int):=kU;have hl:=hs.len;obtain⟨s1,s2⟩:=iJ.set O i (by omega) 0 [.v (.int .i64 (I.getD i mV.d))] ⟨I.getD i mV.d,(O.getD i K8).D⟩ rfl;unfold aS;simp only[tId,w1,cB,s1,s2,mV.aG,mV.aP,iJ.aG,iJ.aP];rw[dK (show((i:Nat):Int)<(C.length:Int)by omega)];simp only[cond_true,sat_true];refine aj (λh=> ?_) (λh=>ah rfl (ak ⟨rfl,hs⟩));have h:=iX h;refine ah (dA) (ah (dA) (ah (dA) (ah rfl (ah rfl (ak ?_)))));exact rId C hC I a n (i+1) _ (by omega) (hs.set i _)
theorem aj9(C:List Cv)(hC:C.length≤4)(I:List Int)(a:Int): ∃O,lId.res ((I,a,C.length,0,()),(C,()))=((a,C.length,()),(O,()))∧M0 C O:=by
 have h:=(aS.res YQ (m:=10) (by omega) (rId C hC I a C.length 0 C (by omega) ⟨rfl,λ_=>rfl⟩) ((0,0,()),([],()))).1;have e:lId.res ((I,a,C.length,0,()),(C,()))=(BA tId 10 ((I,a,C.length,((0:Nat):Int),()),(C,()))).getD ((0,0,()),([],())):=rfl;rw[e];generalize (BA tId 10 ((I,a,C.length,((0:Nat):Int),()),(C,()))).getD ((0,0,()),([],()))=r at h;obtain⟨r1,⟨O,⟨⟩⟩⟩:=r;have h1:r1=(a,C.length,()):=h.1;exact⟨O,by rw[h1],h.2⟩
theorem aeW(x:IdX)(hx:lId.pre x=true): ∃n,aS tId (· =lId.res x) n x:=by
 obtain⟨⟨I,a,m,i,⟨⟩⟩,⟨O,⟨⟩⟩⟩:=x;have hx:(decide (m=O.length)&&(decide (i=0)&&decide (O.length≤4)))=true:=hx;simp only[bI,dS]at hx;obtain⟨rfl,rfl,h3⟩:=hx;exact⟨10,(aS.res YQ (m:=10) (by omega) (rId O h3 I a O.length 0 O (by omega) ⟨rfl,λ_=>rfl⟩) ((0,0,()),([],()))).2⟩
end Go.bA
namespace Go.bA
open Go.Proofs
theorem aeX: ∀(C:List Cv) (p:Option Int),(∀c∈C,okN c=true)→MZ p C=true
 | [],_,_=>rfl
 | c::C,p,h=>by
   have h1:=h c (by simp);have h2:=aeX C (some c.i) λd hd=>h d (by simp[hd])
   simp only[MZ,h1,h2,Bool.true_and];cases aeS c.i<;>cases aeT p c.i<;>cases (Gx c !=0)<;>rfl
theorem YR{T:List R3}(hT:Gu T){D:List Uq}(h:Gd T (sN 1000000) D):D.all La=true∧jL rQ D=true:=
 ⟨List.all_eq_true.2 λu hu=>by
  unfold La;rw[aeH hT (h.ins u hu).1 (h.ins u hu).2,dG.2 (h.fn u hu)];rfl,h.jL hT rQ λf hf=>dG.2 hf⟩
theorem aeY{T:List R3}(hT:Gu T){D:List Uq}(h:Gd T (sN 1000000) D):BJ D=true:=by
 obtain⟨h1,h2⟩:=YR hT h;have l:=h.len hT;unfold BJ;rw[h1,h2,dK (show D.length≤100000 by omega)];simp
theorem aeZ{T:List R3}(hT:Gu T){u:Uq}{D:List Uq}(h:Gd T (sN 1000000) (u::D)):BJ (u::u::D)=true:=by
 obtain⟨h1,h2⟩:=YR hT h;have hv:=h.good.vd u (by simp);have ha:Bz u.i u.i=false:=by
  cases e:Bz u.i u.i with
  | false=>rfl
  | true=>exact absurd ((OI _ _).1 e) hv
 have h3:La u=true:=List.all_eq_true.1 h1 u (by simp);have hs:(Gw none (u::u::D) !=0)=true:=by
  simp only[Gw,ape,ha,Bool.not_false,cond_true,cond_false];cases hc:(ckI u.i !=0)with
  | true=>exact hc
  | false=>rfl
 have l:=h.len hT;unfold BJ;rw[hs,List.all_cons,h3,h1,dK (show(u::u::D).length≤100000 by simp only[List.length_cons]at l⊢;omega)];rfl
theorem ae0(c:Cv):okN c=BJ c.D:=by
 have e1:Wt (usV c)=bP.oks c.D.length (bP.el c.D):=rfl;have e2:Kv (usV c)=bP.list c.D.length (bP.el c.D):=rfl;unfold okN;rw[e1,e2,bP.aP,bP.aG];rfl
theorem YS: ∀(W:List Wr) (id:Int) (k:Nat),k<W.length→ ∃j,(BN id W).getD k K8=Ku j (K7 (W.getD k wr0).wv)
 | [],_,_,h=>by simp at h
 | w::W,id,0,_=>⟨_,rfl⟩
 | w::W,id,k+1,h=>by
   obtain⟨j,hj⟩:=YS W (id+1+w.g%3) k (by simpa using h);exact⟨j,hj⟩
structure Gc (c:Cv):Prop where
 ex: ∃T:List R3,Gu T∧Gd T (sN 1000000) c.D
theorem Gc.one{c:Cv}(h:Gc c):okN c=true:=by
 obtain⟨T,hT,hD⟩:=h;rw[ae0];exact aeY hT hD
theorem Gc.len{c:Cv}(h:Gc c):c.D.length≤14:=by
 obtain⟨T,hT,hD⟩:=h;exact hD.len hT
theorem Gc.two{c:Cv}(h:Gc c)(h0:0<c.D.length)(i:Int):okN ⟨i,c.D.getD 0 bP.d::c.D⟩=true:=by
 obtain⟨T,hT,hD⟩:=h;obtain⟨j,D⟩:=c;cases D with
 | nil=>simp at h0
 | cons u D=>
   rw[ae0];exact aeZ hT hD
theorem ae1{W:List Wr}(hW:W.all okW=true){k:Nat}(hk:k<W.length):Gc ((BN 0 W).getD k K8):=by
 obtain⟨j,hj⟩:=YS W 0 k hk;have hw:okW (W.getD k wr0)=true:=List.all_eq_true.1 hW _ (oN wr0 hk);obtain⟨_,a2,_⟩:=Ph hw;have hg:Gd (AO (W.getD k wr0).cr) (sN 1000000) (K7 (W.getD k wr0).wv):=(YK (w:=(W.getD k wr0).wv) a2).2;rw[hj];generalize K7 (W.getD k wr0).wv=D at*;exact⟨AO (W.getD k wr0).cr,sU a2,hg⟩
end Go.bA
namespace Go.bA
open Go.Proofs
def zC:List IV:=[.v (.int .i64 0),.v (.slice none 0 0)]
def zE:Nat→List IV:=λ_=>zC
def z65:List AV:=[.c (.sl 65 2 zE)]
def z64:List AV:=[.c (.sl 64 2 zE)]
theorem akb:eG prog (λ_=>none) 1010 Tryz.f8 z65=some (Gv 3,[]):=by kernel_rfl
theorem akc:eG prog (λ_=>none) 1010 Tryz.f8 z64=some (Gv 27,[]):=by kernel_rfl
theorem ale:aF prog 8 (eG prog (λ_=>none) 1010 Tryz.f8):=jc aI eH (fn:=Tryz.f8) (c:=codeOf Tryz.f8) (by kernel_rfl) (by kernel_rfl) (by kernel_rfl)
open Classical in
noncomputable def isZ (n:Nat)(el:Nat→List IV):Bool:=decide ((n=65∨n=64)∧el=zE)
noncomputable def DN (n:Nat)(el:Nat→List IV):Int:=bif isZ n el then(bif beq n 65 then 3 else 27)else Pn (iJ.list n el)
noncomputable def YT (n:Nat)(el:Nat→List IV):Bool:=isZ n el || (iJ.oks n el&&(decide (64<(iJ.list n el).length) || MZ none (iJ.list n el)))
noncomputable def KC8:List AV→Option (AV×List Bool)
 | [.c (.sl n sz el)]=>some (Gv (DN n el),[beq sz 2,YT n el])
 | _=>none
open Classical in
theorem H6{n:Nat}{el:Nat→List IV}:isZ n el=true↔(n=65∨n=64)∧el=zE:=⟨λh=>iX h,λh=>dK h⟩
theorem apm:aF prog 8 KC8 where
 sound:=by
  intro args v cs h;unfold KC8 at h
  split at h
  ·rename_i n sz el
   cases h;refine⟨rfl,λA w vs hA hc hargs=> ?_⟩;have h2:beq sz 2=true:=hc _ (by simp);obtain rfl:sz=2:=by simpa using h2
   have h3:YT n el=true:=hc _ (by simp);unfold YT at h3;cases hz:isZ n el with
   | true=>
     obtain⟨hn,rfl⟩:=H6.1 hz;unfold DN;rw[hz,cond_true];rcases hn with rfl|rfl
     ·exact(ale.sound z65 _ _ akb).2 A w vs hA (λp hp=>by simp at hp) hargs
     ·exact(ale.sound z64 _ _ akc).2 A w vs hA (λp hp=>by simp at hp) hargs
   | false=>
     unfold DN;rw[hz,cond_false];rw[hz,Bool.false_or,bI]at h3;have hk:kCc [.c (.sl n 2 el)]=some (Gv (Pn (iJ.list n el)),[iJ.oks n el,decide (64<(iJ.list n el).length) || MZ none (iJ.list n el)]):=rfl;exact(arO.sound _ _ _ hk).2 A w vs hA (λp hp=>by
      simp only[List.mem_cons,List.not_mem_nil,or_false]at hp;rcases hp with rfl|rfl
      ·exact h3.1
      ·exact h3.2) hargs
  ·cases h
def K5:List AV→Option (AV×List Bool)
 | []=>some (bJ true,[])
 | _=>none
end Go.bA
namespace Go.bA
open Go.Proofs
noncomputable def Γ3:FuncId→Option Spec:=λf=>bif beq f 5 then some (au K5)else bif beq f 6 then some (au arC)else bif beq f 7 then some (eB arQ)else bif beq f 8 then some (au KC8)else bif beq f 9 then some (au kCc)else none
def t6(t:Tr AV):Tr AV:=need true<| need true<| need true<| need true<| need true<| need true t
noncomputable def akd:Tr AV:=t6<| need (YT (Int.toNat 64) zE)<| ret (.c (.v (.bool (bif true then DN (Int.toNat 64) zE==27 else false))))
noncomputable def ae2 (l n:Nat)(el:Nat→List IV):Tr AV:=
 let V:=iJ.list n el
 need (decide (n≤l))<| need true<| need (YT n el)<| need (decide (n≤l))<| need (iJ.oks n el)<| need (decide (64<V.length) || MZ none V)<|
  Tr.ite (DN n el==Pn V)
   (t6<| need (YT (Int.toNat 65) zE)<| Tr.ite (bif true then DN (Int.toNat 65) zE==3 else false) akd (ret (.c (.v (.bool false)))))
   (Tr.ite false akd (ret (.c (.v (.bool false)))))
def Pp(D:List Uq):Nat→List IV:=dH 1 (λq=>((bP.iv (D.getD (Int.toNat 0) bP.d)).drop (q*32)).take 32) (bP.el D)
noncomputable def M3 (W:List Wr)(I:List Int)(a:Int):Tr AV:=
 let ow:=jQ.oks W.length (jQ.el W)
 let W':=jQ.list W.length (jQ.el W)
 let C:=BN 0 W'
 let x:IdX:=((mV.list I.length (mV.el I),a,C.length,0,()),(iJ.list C.length (iJ.el C),()))
 let r:=lId.res x
 let a':=r.1.1
 let m:=r.1.2.1
 let O:=r.2.1
 let k:=i64.wrap (IntKind.u8.wrap (a'.tdiv 2))
 let b:=a'.tmod 2==1
 let ck:=bif true then decide (k<(m:Int))else false
 let ix:=decide (0≤k∧k<(m:Int))
 let ik:=decide (k.toNat<O.length)
 let D:=(O.getD k.toNat K8).D
 let g:=bif true then decide ((D.length:Int)>0)else false
 let ii:=ix&&(ik&&true)
 need (bif !true then true else ow&&(decide (W'.length≤9223372036854775807)&&true))<| Tr.ite (bif !true then true else bif false then true else !(shB W'&&decide (W'.length≤4))) (ret (.c (.v (.bool true))))<|
  need ow<| need (W'.all okW)<| need (decide (W'.length≤4))<| need (mV.oks I.length (mV.el I))<| need (iJ.oks C.length (iJ.el C))<| need (lId.pre x)<| need true<| need true<|
   need (bif b then bif ck then ii else true else bif false then ii else true)<| Tr.ite (bif b then bif ck then g else false else bif false then g else false)
    (need ix<| need ik<| need (decide ((0:Int)≤0∧0<(D.length:Int)))<| need ix<| need ik<| need true<| need (decide (1+D.length≤9223372036854775807))<| need (decide ((1+D.length)*360≤140737488355328))<|
     need ix<| need (decide (1+D.length≤1+D.length))<| need ik<| ae2 O.length m (aT (iJ.el O) k.toNat (0+1) [.sl (1+D.length) 32 (Pp D)]))
    (ae2 O.length m (iJ.el O))
theorem arR: ∀W I a,aN prog Γ3 (qK 0 lId) 1010 Tryz.f3 [jQ.sl W,mV.sl I,.c (.v (.int .u8 a))]=M3 W I a:=λW I a=>by kernel_rfl
end Go.bA
namespace Go.bA
open Go.Proofs
theorem ae3:isZ 65 zE=true:=H6.2 ⟨.inl rfl,rfl⟩
theorem ae4:isZ 64 zE=true:=H6.2 ⟨.inr rfl,rfl⟩
theorem ae5:akd.sat λr=>r=bJ true:=by
 have e1:YT (Int.toNat 64) zE=true:=by
  show YT 64 zE=true
  unfold YT;rw[ae4];rfl
 have e2:DN (Int.toNat 64) zE=27:=by
  show DN 64 zE=27
  unfold DN;rw[ae4];rfl
 unfold akd t6;rw[e1,e2];exact ah rfl (ah rfl (ah rfl (ah rfl (ah rfl (ah rfl (ah rfl (ak rfl)))))))
theorem SI{l n:Nat}{el:Nat→List IV}{V:List Cv}(h1:iJ.list n el=V)(h2:iJ.oks n el=true)(hn:n≤4)(hl:n≤l)(hok: ∀c∈V,okN c=true):(ae2 l n el).sat λr=>r=bJ true:=by
 have hz:isZ n el=false:=by
  cases h:isZ n el with
  | false=>rfl
  | true=>have:=(H6.1 h).1;omega
 have e0:(decide (64<V.length) || MZ none V)=true:=by rw[aeX V none hok];simp
 have e1:YT n el=true:=by
  unfold YT;rw[hz,h2,h1,e0];rfl
 have e2:DN n el=Pn V:=by
  unfold DN;rw[hz,h1];rfl
 have e3:YT (Int.toNat 65) zE=true:=by
  show YT 65 zE=true
  unfold YT;rw[ae3];rfl
 have e4:DN (Int.toNat 65) zE=3:=by
  show DN 65 zE=3
  unfold DN;rw[ae3];rfl
 unfold ae2;simp only[h1,h2,e0,e1,e2,e3,e4,t6];rw[dK hl];refine ah rfl (ah rfl (ah rfl (ah rfl (ah rfl (ah rfl (aj (λ_=> ?_) (λh=> ?_)))))))
 ·exact ah rfl (ah rfl (ah rfl (ah rfl (ah rfl (ah rfl (ah rfl (aj (λ_=>ae5) λh=>by cases h)))))))
 ·simp at h
theorem aaA(u:Uq)(D:List Uq):Pp (u::D)=bP.el (u::u::D):=by
 funext k
 unfold Pp dH;by_cases h:k<1
 ·obtain rfl:k=0:=by omega
  rw[if_pos h];rfl
 ·obtain⟨j,rfl⟩: ∃j,k=j+1:=⟨k-1,by omega⟩
  rw[if_neg h];rfl
def okV(w:Wr):Bool:=xK w.m w.e&&(oZ w.t&&(oZ w.x&&(oZ w.y&&(oZ w.k&&(oZ w.g&&oZ w.p)))))
theorem arS{w:Wr}(h:okV w=true)(h6:w.m≤6):okW w=true:=by
 simp only[okV,bI]at h;obtain⟨h0,h1,h2,h3,h4,h5,h7⟩:=h;have hs:=(Km h0).2;have hc:w.cr.ok=true:=by
  show(oZ w.t&&(oZ w.x&&(oZ w.y&&((mK w.m w.e).all Stp.ok&&decide ((mK w.m w.e).length≤6)))))=true
  rw[h1,h2,h3,hs,Fg,dK h6];rfl
 unfold okW;rw[h0,hc,h4,h5,h7];rfl
theorem apn(W:List Wr)(I:List Int)(a:Int)(hW:W.all okV=true)(hl:W.length≤9223372036854775807)(ha:oZ a=true):(M3 W I a).sat λr=>r=bJ true:=by
 have hl1:decide (W.length≤9223372036854775807)=true:=dK hl;cases hs:(shB W&&decide (W.length≤4))with
 | false=>
   simp only[M3,jQ.aG,jQ.aP,hl1,hs];exact ah rfl (aj (λ_=>ak rfl) λh=>by cases h)
 | true=>
   have hs2:=hs;simp only[bI,dS]at hs2;obtain⟨hsh,h4⟩:=hs2;have hk:W.all okW=true:=List.all_eq_true.2 λw hw=>arS (List.all_eq_true.1 hW w hw) (iX (List.all_eq_true.1 hsh w hw))
   have hcl:=YL W 0;obtain⟨O,hr,hu⟩:=aj9 (BN 0 W) (by omega) I a;have hp:lId.pre ((I,a,(BN 0 W).length,0,()),(BN 0 W,()))=true:=by
    show(decide ((BN 0 W).length=(BN 0 W).length)&&(decide ((0:Int)=0)&&decide ((BN 0 W).length≤4)))=true
    rw[dK (show(BN 0 W).length≤4 by omega)];simp
   simp only[oZ,bI,dS]at ha;have hol:=hu.len;have hgc: ∀k,k<O.length→Gc (O.getD k K8):=λk hk'=>by
    have g:=ae1 hk (k:=k) (by omega);obtain⟨T,hT,hD⟩:=g;exact⟨T,hT,by rw[hu.D];exact hD⟩
   have hgo: ∀c∈O,okN c=true:=λc hc=>by
    obtain⟨k,hk',rfl⟩:=List.mem_iff_getElem.1 hc;have:=(hgc k hk').one;have e:O.getD k K8=O[k]:=by simp[dJ,hk']
    rw[e]at this;exact this
   have hkk:i64.wrap (IntKind.u8.wrap (a.tdiv 2))=((a/2).toNat:Int):=by
    rw[Int.tdiv_eq_ediv_of_nonneg ha.1];have e1:IntKind.u8.wrap (a/2)=a/2:=by rw[wrap_u8];omega
    rw[e1,wrap_i64 (by omega)];omega
   simp only[M3,jQ.aG,jQ.aP,mV.aG,mV.aP,iJ.aG,iJ.aP,hl1,hsh,hk,dK h4,hr,hp,hkk,cB];generalize (a/2).toNat=k;have asV:(ae2 O.length (BN 0 W).length (iJ.el O)).sat λr=>r=bJ true:=by
    rw[←hol];exact SI (iJ.aG O) (iJ.aP O _) (by omega) (Nat.le_refl _) hgo
   refine ah rfl (aj (λh=>by cases h) λ_=>ah rfl (ah rfl (ah rfl (ah rfl (ah rfl (ah rfl (ah rfl (ah rfl (ah ?_ ?_)))))))))
   ·cases (a.tmod 2==1)with
    | false=>rfl
    | true=>
      by_cases hi:k<O.length
      ·rw[dK (show((k:Nat):Int)<((BN 0 W).length:Int)by omega),dK (show(0:Int)≤((k:Nat):Int)∧((k:Nat):Int)<((BN 0 W).length:Int)by omega),dK hi];rfl
      ·rw[iB (show¬((k:Nat):Int)<((BN 0 W).length:Int)by omega)];rfl
   ·refine aj (λh=> ?_) (λ_=>asV)
    have hi:k<O.length:=by
     cases hb:(a.tmod 2==1)with
     | false=>rw[hb]at h;cases h
     | true=>
       rw[hb]at h;by_cases hi:k<O.length
       ·exact hi
       ·rw[iB (show¬((k:Nat):Int)<((BN 0 W).length:Int)by omega)]at h;cases h
    have hd:0<(O.getD k K8).D.length:=by
     cases hb:(a.tmod 2==1)with
     | false=>rw[hb]at h;cases h
     | true=>
       rw[hb,dK (show((k:Nat):Int)<((BN 0 W).length:Int)by omega)]at h;have h:decide ((((O.getD k K8).D.length:Nat):Int)>0)=true:=h;have:=iX h;omega
    have g:=hgc k hi;have gl:=g.len;have g2:=g.two hd (O.getD k K8).i;have ix:decide ((0:Int)≤((k:Nat):Int)∧((k:Nat):Int)<((BN 0 W).length:Int))=true:=dA;rw[ix,dK hi];refine ah rfl (ah rfl (ah (dA) (ah rfl (ah rfl (ah rfl (ah (dA) (ah (dA) (ah rfl (ah (dK (Nat.le_refl _)) (ah rfl ?_))))))))));obtain⟨u,D,hD⟩: ∃u D,(O.getD k K8).D=u::D:=by
     cases h:(O.getD k K8).D with
     | nil=>rw[h]at hd;simp at hd
     | cons u D=>exact⟨u,D,rfl⟩
    rw[hD]at g2;obtain⟨s1,s2⟩:=iJ.set O k hi (0+1) [.sl (1+(O.getD k K8).D.length) 32 (Pp (O.getD k K8).D)] ⟨(O.getD k K8).i,u::u::D⟩ (by
     rw[hD,aaA,Nat.add_comm 1 (u::D).length];rfl)
    rw[←hol];refine SI s1 s2 (by omega) (Nat.le_refl _) λc hc=> ?_
    rcases List.mem_or_eq_of_mem_set hc with hc|hc
    ·exact hgo c hc
    ·rw[hc];exact g2
end Go.bA
namespace Go.bA
open Go.RowKit
def aaB(P:Program)(fn:Func)(q:Ex×St):Tr AV:=
 match q.1 with
 | .exit _=> .fail "exit"
 | _=>
   match nY P q.2 fn.results.toList with
   | some v=>Tr.needs (fM q.2.mem v).2 (.ret (fM q.2.mem v).1)
   | none=> .fail "results"
def Pt(P:Program)(Γ:FuncId→Option Spec)(L:Nat→Option (St→Tr (Ex×St)))(N:Nat)(fn:Func)(cut:St→Tr AV):Nat→Code→St→Tr AV
 | 0,_,S=>cut S
 | n+1,.seq a b,S=>(exec P Γ L N a S).bind λq=>
   match q.1 with
   | .normal=>Pt P Γ L N fn cut n b q.2
   | _=>aaB P fn q
 | _+1,_,_=> .fail "cut"
def Kw:Nat→Code→Code
 | n+1,.seq _ b=>Kw n b
 | _,c=>c
def ake(P:Program)(Γ:FuncId→Option Spec)(L:Nat→Option (St→Tr (Ex×St)))(N:Nat)(fn:Func)(c:Code)(S:St):Tr AV:=(exec P Γ L N c S).bind (aaB P fn)
section
variable{P:Program}{Γ:FuncId→Option Spec}{L:Nat→Option (St→Tr (Ex×St))}{N:Nat}
theorem AP{k:Nat}: ∀(n:Nat) (c:Code),bB P k L c→bB P k L (Kw n c)
 | 0,c,h=>by cases c<;>exact h
 | n+1,.seq a b,h=>AP n b h.2
 | n+1,.skip,h=>h
 | n+1,.region ..,h=>h
 | n+1,.cond ..,h=>h
 | n+1,.block ..,h=>h
 | n+1,.loop ..,h=>h
 | n+1,.scope ..,h=>h
 | n+1,.rangeFunc ..,h=>h
 | n+1,.exit _,h=>h
 | n+1,.label _,h=>h
 | n+1,.goto _,h=>h
 | n+1,.ret,h=>h
 | n+1,.refuse _,h=>h
theorem DR{C:Ctx}{fn:Func}{cut:St→Tr AV}(hm:P.follows .mixedOrders=true)(hΓ: ∀f s,Γ f=some s→lG C P f s)(hC:C.Ok): ∀(n:Nat) (c:Code),bB P C.k L c→
  (∀(Q:AV→Prop) (S:St) (B:dI) (a:Act) (w:World),(cut S).sat Q→Holds C B S a w→(Kw n c).wp P (Am C λq=>(aaB P fn q).sat Q) a w)→
  ∀(Q:AV→Prop) (S:St) (B:dI) (a:Act) (w:World),(Pt P Γ L N fn cut n c S).sat Q→Holds C B S a w→c.wp P (Am C λq=>(aaB P fn q).sat Q) a w
 | 0,c,hl,hcut,Q,S,B,a,w,h,H=>by
   have:Kw 0 c=c:=by cases c<;>rfl
   rw[←this];exact hcut Q S B a w (by cases c<;>exact h) H
 | n+1,.seq x y,hl,hcut,Q,S,B,a,w,h,H=>by
   unfold Pt at h;refine wp_seq (Code.wp_mono ?_ (pQ<| eU hm hΓ hC x hl.1 _ S B a w (Tr.cK h) H));rintro e a' w' ⟨ex,S',B',rfl,H',hq⟩;cases ex with
   | normal=>exact DR hm hΓ hC n y hl.2 hcut Q S' B' a' w' hq H'
   | exit id=>exact⟨.exit id,S',B',rfl,H',hq⟩
   | ret=>exact⟨.ret,S',B',rfl,H',hq⟩
 | n+1,.skip,_,_,_,_,_,_,_,h,_=>h.elim
 | n+1,.region ..,_,_,_,_,_,_,_,h,_=>h.elim
 | n+1,.cond ..,_,_,_,_,_,_,_,h,_=>h.elim
 | n+1,.block ..,_,_,_,_,_,_,_,h,_=>h.elim
 | n+1,.loop ..,_,_,_,_,_,_,_,h,_=>h.elim
 | n+1,.scope ..,_,_,_,_,_,_,_,h,_=>h.elim
 | n+1,.rangeFunc ..,_,_,_,_,_,_,_,h,_=>h.elim
 | n+1,.exit _,_,_,_,_,_,_,_,h,_=>h.elim
 | n+1,.label _,_,_,_,_,_,_,_,h,_=>h.elim
 | n+1,.goto _,_,_,_,_,_,_,_,h,_=>h.elim
 | n+1,.ret,_,_,_,_,_,_,_,h,_=>h.elim
 | n+1,.refuse _,_,_,_,_,_,_,_,h,_=>h.elim
theorem Lb{f:FuncId}{fn:Func}{c:Code}(hf:P.funcs[f]? =some fn)(hb:fn.body=some c)
  {args:List AV} {Q:AV→Prop} {A:Nat→Prop} {w:World} {vs:List Value} (hA: ∀b,A b→b<w.heap.size) (hargs:dN A (λ_=>none) w args vs)
  (h: ∀(C:Ctx) (a:Act),C.Ok→C.k=0→Holds C (λ_=>none) (start args fn.ntmps) a w→c.wp P (Am C λq=>(aaB P fn q).sat λr=>bA.dY r=true∧Q r) a w):
  Calls P f vs.toArray w λe w'=> ∃r v,Q r∧bA.dY r=true∧e= .returned v∧aV A (λ_=>none) w' r v∧Below w.heap.size w w':=by
 refine calls_of_wp hf hb ?_;have hown: ∀b,aU A (λ_=>none) (start args fn.ntmps).mem b↔A b:=λb=>by
  constructor
  ·intro h
   rcases h with h|⟨s,e,h1,_⟩
   ·exact h
   ·cases h1
  ·exact λh=>Or.inl h
 have Qv: ∀{x:AV} {v:Value},aV A (λ_=>none) w x v→aV (aU A (λ_=>none) (start args fn.ntmps).mem) (λ_=>none) w x v:=
  λh=>h.trans (Trans.refl _ _) (λb _ hb=>(hown b).1 hb) (λ_ _ h=>h)
 have hlen:vs.length=args.length:=hargs.1;have H:Holds ⟨A,λ_=>False,w,0,λ_=>none⟩ (λ_=>none) (start args fn.ntmps) {tmps:=vs.toArray++Array.replicate (fn.ntmps-vs.toArray.size) undef,defers:=[]} w:=by
  refine{defers:=rfl,size:=by simp[start,hlen],tm:=?_,mem:=λs e he=>(by cases he),inj:=λ_ _ _ _ _ h=>(by cases h),kept:=Kept.refl _ _,old:=λs β h=>(by cases h),fresh:=λ_ _=>rfl,base:=λ_ _=>rfl,sW:=Nat.zero_le _};intro t ht;by_cases hlt:t<args.length
  ·have:=Qv (hargs.2 t hlt)
   have hlt':t<vs.length:=by omega
   simpa[start,dJ,nS,List.getElem?_append_left hlt,Array.getElem?_append,hlt,hlt']using this
  ·have ht':t-args.length<fn.ntmps-args.length:=by simp only[start,List.length_append,List.length_replicate]at ht;omega
   have hlt': ¬t<vs.length:=by omega
   have e1:(start args fn.ntmps).tm.getD t .any= .c (.v undef):=by
    simp[start,dJ,List.getElem?_append_right (Nat.le_of_not_lt hlt),List.getElem?_replicate,ht']
   have e2:(vs.toArray++Array.replicate (fn.ntmps-vs.toArray.size) undef).getD t undef=undef:=by
    simp[nS,Array.getElem?_append,hlt',Array.getElem?_replicate,hlen,ht',hlt]
   show aV _ _ _ _ _
   rw[e1];simp only[]at e2⊢;rw[e2];exact aV.lit _
 refine Code.wp_mono ?_ (h ⟨A,λ_=>False,w,0,λ_=>none⟩ _ ⟨hA,λ_ h=>h.elim,λ_ _ h=>h⟩ rfl H);rintro e a' w' ⟨ex,S',B',rfl,H',hq⟩
 have key:(match nY P S' fn.results.toList with|some v=>Tr.needs (fM S'.mem v).2 (.ret (fM S'.mem v).1)|none=>Tr.fail "results").sat (λr=>bA.dY r=true∧Q r)→
   a'.defers=[]∧ ∃v,(results fn a'.tmps).run P w'= .ok v w'∧ ∃r v',Q r∧bA.dY r=true∧Ending.returned v= .returned v'∧aV A (λ_=>none) w' r v'∧Below w.heap.size w w':=by
  intro hs;cases hr:nY P S' fn.results.toList with
  | none=>rw[hr]at hs;exact hs.elim
  | some x=>
    rw[hr]at hs;obtain⟨hcs,hn,hQ⟩:=Tr.dR hs;obtain⟨v,hrun,hrel⟩:=oz H' hr;have aa0:=pK H' (A:=A) (λb hb=> .inl hb) x v hrel (λb hb=>by
     rintro⟨s,_,e,_,h2⟩;rcases(H'.old s b h2).1 with h3|h3
     ·exact absurd (hA b hb) (Nat.not_lt.2 h3)
     ·exact h3) hcs
    exact⟨H'.defers,v,hrun,_,v,hQ,hn,rfl,aa0.dY hn _,H'.kept.below⟩
 cases ex with
 | normal=>exact key hq
 | ret=>exact key hq
 | exit id=>exact hq.elim
end
end Go.bA
namespace Go.bA
open Go.RowKit
def zX(nt tb p:Nat)(box x:AV):List AV:=((List.replicate nt .any).set tb box).set p x
def Ky(P:Program)(N nt tb p:Nat)(assign body:Code)(ents:List (Option gJ))(x:AV):Tr dx:=
 (exec P (λ_=>none) dn N assign {tm:=zX nt tb p (.ptr 0 0) x,mem:=fD ents,nx:=ents.length}).bind λq=>
  match q.1 with
  | .normal=>(exec P (λ_=>none) dn N body q.2).bind λq=>
    match q.1 with
    | .normal=>
      match FU ents.length q.2 (bJ true)with
      | some o=> .ret o
      | none=> .fail "round: pack"
    | _=> .fail "round: body"
  | _=> .fail "round: assign"
def Wu(P:Program)(N nt tb p:Nat)(assign body:Code)(l:Nat):iD
 | ents,[.ptr 0 0,.c (.v (.func (.yield l') f1 c1)),x]=>bif f1.isEmpty&&c1.isEmpty then(Ky P N nt tb p assign body ents x).run.map λo=>{o with conds:=decide (l'=l)::o.conds}else none
 | _,_=>none
def Pv(P:Program)(N nt tb p:Nat)(assign body:Code)(l box:Nat):Spec:=λslot m args=>eB (Wu P N nt tb p assign body l) slot m (.ptr box 0::args)
theorem BK{A:Nat→Prop}{w:World}{l:Nat}{o o':Obj}(hl:w.heap[l]? =some o)(hc: ∀D t fz,o≠ .cells D t fz)(hA:A l):Trans A w (w.putObj l o'):=
 ⟨by simp,λb hb hn=>World.putObj_heap_other (λe=>hn (e ▸ hA)),λb hb D t fz hD=>⟨D,t,fz,by
  rw[World.putObj_heap_other]
  ·exact hD
  ·rintro rfl
   rw[hl]at hD;cases hD;exact hc D t fz rfl,rfl⟩⟩
section
variable{P:Program}{C:Ctx}{B:dI}{S:St}{a:Act}{w:World}
theorem zY(hC:C.Ok)(H:Holds C B S a w){s b:Nat}(hs:B s=some b): ¬C.A0 b:=λhb=>by
 rcases(H.old s b hs).1 with h|h
 ·exact absurd (hC.a0 b hb) (Nat.not_lt.2 h)
 ·exact hC.Il b hb h
theorem M4(hC:C.Ok)(H:Holds C B S a w){l:Nat}{o o':Obj}(hl:w.heap[l]? =some o)(hc: ∀D t fz,o≠ .cells D t fz)(hA:C.A0 l):
  (∀t,t<S.tm.length→aV (aU C.A0 B S.mem) B (w.putObj l o') (S.tm.getD t .any) (a.tmps.getD t undef))∧
  (∀s e,S.mem s=some e→(∃β,B s=some β∧fZ (aU C.A0 B S.mem) B (w.putObj l o') e (w.putObj l o').heap[β]?)∨(B s=none∧e.none0)):=by
 have ht:Trans (aU C.A0 B S.mem) w (w.putObj l o'):=BK hl hc (.inl hA);refine⟨λt h=>(H.tm t h).trans ht (λ_ _ h=>h) (λ_ _ h=>h),λs e he=> ?_⟩;rcases H.mem s e he with⟨β,h1,h2⟩|h
 ·refine .inl ⟨β,h1,?_⟩
  rw[World.putObj_heap_other (λe=>zY hC H h1 (by rw[e];exact hA))];exact h2.trans ht (λ_ _ h=>h) (λ_ _ h=>h)
 ·exact .inr h
theorem Holds.akf(hC:C.Ok)(H:Holds C B S a w){l:Nat}{o o':Obj}(hl:w.heap[l]? =some o)(hc: ∀D t fz,o≠ .cells D t fz)(hA:C.A0 l):
  (Ctx.mk C.A0 (λb=> ∃s,B s=some b) (w.putObj l o') C.k C.B0).Ok∧Holds ⟨C.A0,λb=> ∃s,B s=some b,w.putObj l o',C.k,C.B0⟩ B S a (w.putObj l o'):=by
 obtain⟨h1,h2⟩:=M4 hC H (o':=o') hl hc hA;refine⟨⟨λb hb=> ?_,λb ⟨s,hs⟩=> ?_,λb hb ⟨s,hs⟩=>zY hC H hs hb⟩,?_⟩
 ·rw[World.putObj_size];exact Nat.lt_of_lt_of_le (hC.a0 b hb) H.kept.size
 ·rw[World.putObj_size];exact(H.old s b hs).2
 ·exact{defers:=H.defers,size:=H.size,tm:=h1,mem:=h2,inj:=H.inj,kept:=Kept.refl _ _,old:=λs β hs=>⟨.inr ⟨s,hs⟩,by rw[World.putObj_size];exact(H.old s β hs).2⟩,fresh:=H.fresh,base:=H.base,sW:=H.sW}
theorem Pw{nt tb p:Nat}{box x:AV}{t:Nat}(ht:t<nt):(zX nt tb p box x).getD t .any=if t=p then x else if t=tb then box else .any:=by
 unfold zX;by_cases h1:t=p
 ·subst h1;simp[dJ,List.getElem?_set,ht]
 ·by_cases h2:t=tb
  ·subst h2;simp[dJ,List.getElem?_set,ht,h1,Ne.symm h1]
  ·simp[dJ,List.getElem?_set,ht,h1,h2,Ne.symm h1,Ne.symm h2]
theorem ae6(hm:P.follows .mixedOrders=true){N nt tb p:Nat}{assign body:Code}{fn:FuncId}{tmps:Array Value}{D:Nat}{l:Nat}{Bs:Nat}
  (hnt:tmps.size=nt) (htb:tmps.getD tb undef= .pointer (some ⟨Bs,0,none⟩)) (hpt:p≠tb)
  {ents:List (Option gJ)} {o:dx} {x:AV} {v:Value} {w:World} {C:Ctx} {B:dI} (hrun:(Ky P N nt tb p assign body ents x).run=some o) (hC:C.Ok) (hk:C.k=ents.length) (hw:C.w0=w) (hA:C.A0 l)
  (hl:w.heap[l]? =some (.loop {state:= .ready,pending:=none,fn,tmps,params:= #[p],assign,body,defers:=D})) (H:Holds C B (mJ ents ents.length) Gl w) (hB0:B 0=some Bs)
  (hx:aV (aU C.A0 B (fD ents)) B w x v):
  gF P jo #[pF l,v] w λe w'=> ∃v B',e= .returned v∧Holds C B' (mJ (o.outs++[o.new]) (ents.length+1)) Gl w'∧aV (aU C.A0 B' (fD (o.outs++[o.new]))) B' w' o.val v:=by
 subst hw;have hlt:l<C.w0.heap.size:=hC.a0 l hA;refine .inr ⟨rfl,l, #[v],rfl,fn,_,assign,body,run_yield hl rfl,roundIn_of_wpIn (F:=Fence.wide) (n:=0) trivial ?_⟩;have arT:=Tr.wO hrun;unfold Ky at arT;have hs1:=Tr.cK arT
 let S0:St:={tm:=zX nt tb p (.ptr 0 0) x,mem:=fD ents,nx:=ents.length}
 have hlen:S0.tm.length=nt:=by simp[S0,zX]
 have H0:Holds C B S0 {tmps:=(#[p].zip #[v]).foldl (λtmps (t,a)=>tmps.setIfInBounds t a) tmps,defers:=[]} C.w0:=by
  have hz:(#[p].zip #[v]).foldl (λ(tmps:Array Value) (q:Tmp×Value)=>match q with|(t,a)=>tmps.setIfInBounds t a) tmps=tmps.setIfInBounds p v:=by simp
  refine{H with defers:=rfl,size:=?_,tm:=?_}
  ·show Array.size (Array.foldl _ tmps (#[p].zip #[v]))=_
   rw[hz];rw[Array.size_setIfInBounds,hnt,hlen]
  ·intro t ht
   rw[hlen]at ht
   show aV _ _ _ ((zX nt tb p (.ptr 0 0) x).getD t .any) (Array.getD (Array.foldl _ tmps (#[p].zip #[v])) t undef)
   rw[hz];rw[Pw ht];have hts:t<tmps.size:=by omega
   by_cases h1:t=p
   ·subst h1
    simp only[if_true];rw[show(tmps.setIfInBounds t v).getD t undef=v by simp[nS,hts]];exact hx
   ·rw[if_neg h1]
    by_cases h2:t=tb
    ·subst h2
     simp only[if_true];rw[show(tmps.setIfInBounds p v).getD t undef=tmps.getD t undef by simp[nS,Array.getElem?_setIfInBounds_ne (Ne.symm h1)],htb];exact .ptr 0 0 Bs hB0
    ·rw[if_neg h2];exact .any _
 refine oq ?_ (eU (ro:=some l) hm (Γ:=λ_=>none) (L:=dn) (λf s h=>by cases h) hC assign (aA _ _) _ S0 B _ _ hs1 H0);rintro e a1 W1 ⟨ex,S1,B1,rfl,H1,hq⟩;cases ex with
 | exit j=>exact hq.elim
 | ret=>exact hq.elim
 | normal=>
 simp only at hq;have hl1:W1.heap[l]? =some (.loop {state:= .ready,pending:=none,fn,tmps,params:= #[p],assign,body,defers:=D}):=(H1.kept.block l hlt (hC.Il l hA)).trans hl;refine⟨_,run_beginRound hl1 rfl,?_⟩;obtain⟨hC2,H2⟩:=Holds.akf hC H1 (o':= .loop {state:= .busy,pending:=none,fn,tmps,params:= #[p],assign,body,defers:=D}) hl1 (λ_ _ _ h=>by cases h) hA;refine oq ?_ (eU (ro:=some l) hm (Γ:=λ_=>none) (L:=dn) (λf s h=>by cases h) hC2 body (aA _ _) _ S1 B1 _ _ (Tr.cK hq) H2);rintro e a3 W3 ⟨ex,S3,B3,rfl,H3,hq3⟩;cases ex with
 | exit j=>exact hq3.elim
 | ret=>exact hq3.elim
 | normal=>
 simp only at hq3;have arU:l<W1.heap.size:=lt_of_heap hl1;have hl2:(W1.putObj l (.loop {state:= .busy,pending:=none,fn,tmps,params:= #[p],assign,body,defers:=D})).heap[l]? =some (.loop {state:= .busy,pending:=none,fn,tmps,params:= #[p],assign,body,defers:=D}):=World.putObj_heap_same arU;have hl3:W3.heap[l]? =some (.loop {state:= .busy,pending:=none,fn,tmps,params:= #[p],assign,body,defers:=D}):=
  (H3.kept.block l (by rw[World.putObj_size];exact arU) (λ⟨s,hs⟩=>zY hC H1 hs hA)).trans hl2
 refine⟨_,_,run_endRound none hl3,?_⟩
 let W4:=W3.putObj l (.loop {state:= .ready,pending:=none,fn,tmps,params:= #[p],assign,body,defers:=D})
 have hl4:W4.heap[l]? =some (.loop {state:= .ready,pending:=none,fn,tmps,params:= #[p],assign,body,defers:=D}):=World.putObj_heap_same (lt_of_heap hl3);obtain⟨r1,r2⟩:=M4 (o':= .loop {state:= .ready,pending:=none,fn,tmps,params:= #[p],assign,body,defers:=D}) hC2 H3 hl3 (λ_ _ _ h=>by cases h) hA;have ata:W1.heap.size≤W3.heap.size:=by have:=H3.kept.size;simpa using this
 have H4:Holds C B3 S3 a3 W4:=by
  refine{defers:=H3.defers,size:=H3.size,tm:=r1,mem:=r2,inj:=H3.inj,kept:=?_,old:=?_,fresh:=H3.fresh,base:=H3.base,sW:=H3.sW}
  ·refine⟨?_,?_,?_,?_,?_,?_⟩
   ·exact H3.kept.os.trans H1.kept.os
   ·exact H3.kept.tape.trans H1.kept.tape
   ·exact H3.kept.output.trans H1.kept.output
   ·have h1:=H1.kept.size
    show C.w0.heap.size≤(W3.putObj l _).heap.size
    rw[World.putObj_size];omega
   ·intro k hk hX
    by_cases hkl:k=l
    ·rw[hkl,hl4,hl]
    ·show(W3.putObj l _).heap[k]? =_
     rw[World.putObj_heap_other hkl];have h1:=H1.kept.size;rw[H3.kept.block k (by rw[World.putObj_size];omega) (λ⟨s,hs⟩=>by
      rcases(H1.old s k hs).1 with h|h
      ·exact absurd hk (Nat.not_lt.2 h)
      ·exact hX h),World.putObj_heap_other hkl,H1.kept.block k hk hX]
   ·intro k D' t fz hD
    have hkl:k≠l:=by rintro rfl;rw[hl]at hD;cases hD
    obtain⟨D1,t1,f1,h1,e1⟩:=H1.kept.rows k D' t fz hD;obtain⟨D3,t3,f3,h3,e3⟩:=H3.kept.rows k D1 t1 f1 (by rw[World.putObj_heap_other hkl];exact h1);exact⟨D3,t3,f3,(World.putObj_heap_other hkl).trans h3,e3.trans e1⟩
  ·intro s β hs
   have h3:=H3.old s β hs;refine⟨?_,by show β<(W3.putObj l _).heap.size;rw[World.putObj_size];exact h3.2⟩;have h1:=H1.kept.size;rcases h3.1 with h|⟨s',hs'⟩
   ·simp only[World.putObj_size]at h;exact .inl (by omega)
   ·exact(H1.old s' β hs').1
 split at hq3
 ·rename_i o' ho'
  obtain rfl:o'=o:=hq3;obtain⟨B',g1,g2,g3⟩:=uh hk H4 (x:=bJ true) (v:= .bool true) (aV.lit _) ho';exact⟨.bool true,B',rfl,g1,g2⟩
 ·exact hq3.elim
theorem ae7(hm:P.follows .mixedOrders=true){N nt tb p:Nat}{assign body:Code}{fn:FuncId}{tmps:Array Value}{D:Nat}{l box:Nat}{Bs:Nat}
  (hnt:tmps.size=nt) (htb:tmps.getD tb undef= .pointer (some ⟨Bs,0,none⟩)) (hpt:p≠tb) (hC:C.Ok) (hA:C.A0 l) (asW:box<C.k) (hBs:C.B0 box=some Bs)
  (hl:C.w0.heap[l]? =some (.loop {state:= .ready,pending:=none,fn,tmps,params:= #[p],assign,body,defers:=D})):lG C P jo (Pv P N nt tb p assign body l box) where
 look:=λslot m m' args r h hk=>Cx _ slot m m' _ r h hk
 sound:=by
  intro slot args r B S a w vs hr _ H hs hnx hc hv;have hlt:l<C.w0.heap.size:=hC.a0 l hA;have hB:B box=some Bs:=(H.base box asW).trans hBs;have hl':w.heap[l]? =some (.loop {state:= .ready,pending:=none,fn,tmps,params:= #[p],assign,body,defers:=D}):=(H.kept.block l hlt (hC.Il l hA)).trans hl;have hv':dN (aU C.A0 B S.mem) B w (.ptr box 0::args) (.pointer (some ⟨Bs,0,none⟩)::vs):=hv.cons (.ptr box 0 Bs hB);have main:=Aq (K:=Wu P N nt tb p assign body l) (C:=C)
   (D:=λvs w R=>vs.toList.head? =some (.pointer (some ⟨Bs,0,none⟩))→gF P jo vs.toList.tail.toArray w R) (λh hr hh=>(h hh).mono hr)
   (I:=λw=>w.heap[l]? =some (.loop {state:= .ready,pending:=none,fn,tmps,params:= #[p],assign,body,defers:=D}))
   (λents args o C' B w vs ho hC' hk hw0 hA' hI H hr hc=>by
    intro hhead;unfold Wu at ho
    split at ho
    ·rename_i l' f1 c1 x
     cases hfc:(f1.isEmpty&&c1.isEmpty)with
     | false=>rw[hfc]at ho;cases ho
     | true=>
     rw[hfc]at ho;simp only[cond_true]at ho;simp only[bI,Array.isEmpty_iff]at hfc;obtain⟨rfl,rfl⟩:=hfc;obtain⟨o1,ho1,rfl⟩:=Option.map_eq_some_iff.1 ho;have hll:l'=l:=iX (hc _ (List.mem_cons_self ..));obtain⟨v0,vs0,rfl,h0,hr⟩:=hr.head;obtain⟨v1,vs1,rfl,h1,hr⟩:=hr.head;obtain⟨v2,vs2,rfl,h2,hr⟩:=hr.head;obtain rfl:=hr.nZ;obtain⟨β,hβ,rfl⟩:=h0.lV;have hv1:=h1.plain;subst hv1 hll;simp only[List.head?_cons,fu,Value.pointer.injEq,Addr.mk.injEq,and_true]at hhead;subst hhead;have:=ae6 hm hnt htb hpt ho1 hC' hk hw0 (hA' _ hA) hI H hβ h2;simpa[pF]using this
    ·cases ho)
   slot (.ptr box 0::args) r B S a w (.pointer (some ⟨Bs,0,none⟩)::vs) hr hC H hl' hs hnx hc hv' (by simp)
  simpa using main
end
end Go.bA
namespace Go.bA
open Go.RowKit
def Gf:Value→Value→Bool
 | .bool a,.bool b=>a==b
 | .int k a,.int k' b=>decide (k=k')&&decide (a=b)
 | .string s,.string t=>s.data.toList==t.data.toList
 | .slice none a b,.slice none c d=>beq a c&&beq b d
 | _,_=>false
theorem DT{a b:Value}(h:Gf a b=true):a=b:=by
 unfold Gf at h
 split at h
 ·rw[eq_of_beq h]
 ·simp only[bI,dS]at h
  rw[h.1,h.2]
 ·rename_i s t
  have:=eq_of_beq h
  congr 1
  cases s with|mk s=>cases t with|mk t=>exact congrArg ByteArray.mk (Array.ext' this)
 ·simp only[bI]at h
  rw[Nat.eq_of_beq_eq_true h.1,Nat.eq_of_beq_eq_true h.2]
 ·cases h
def ae8:List IV→List IV→Bool
 | [],[]=>true
 | .v a::l,.v b::m=>Gf a b&&ae8 l m
 | _,_=>false
theorem Px: ∀{l m:List IV},ae8 l m=true→l=m
 | [],[],_=>rfl
 | .v a::l,.v b::m,h=>by
   simp only[ae8,bI]at h;rw[DT h.1,Px h.2]
 | [],.v _::_,h=>by cases h
 | [],.sl .. ::_,h=>by cases h
 | [],.mp _::_,h=>by cases h
 | [],.mq _::_,h=>by cases h
 | .v _::_,[],h=>by cases h
 | .v _::_,.sl .. ::_,h=>by cases h
 | .v _::_,.mp _::_,h=>by cases h
 | .v _::_,.mq _::_,h=>by cases h
 | .sl .. ::_,[],h=>by cases h
 | .sl .. ::_,.v _::_,h=>by cases h
 | .sl .. ::_,.sl .. ::_,h=>by cases h
 | .sl .. ::_,.mp _::_,h=>by cases h
 | .mp _::_,[],h=>by cases h
 | .mp _::_,.v _::_,h=>by cases h
 | .mp _::_,.sl .. ::_,h=>by cases h
 | .mp _::_,.mp _::_,h=>by cases h
def eqZ(f:IV→IV→Bool):List IV→List IV→Bool
 | [],[]=>true
 | x::l,y::m=>f x y&&eqZ f l m
 | _,_=>false
theorem YU{f:IV→IV→Bool}: ∀{l m:List IV},eqZ f l m=true→l.length=m.length∧ ∀j,j<l.length→f (l.getD j (.v undef)) (m.getD j (.v undef))=true
 | [],[],_=>⟨rfl,λj hj=>by simp at hj⟩
 | x::l,y::m,h=>by
   simp only[eqZ,bI]at h;obtain⟨h1,h2⟩:=YU h.2;refine⟨by simp[h1],λj hj=> ?_⟩;cases j with
   | zero=>simpa using h.1
   | succ j=>simpa using h2 j (by simpa using hj)
 | [],_::_,h=>by cases h
 | _::_,[],h=>by cases h
def eqJ:Nat→IV→IV→Bool
 | 0,.v a,.v b=>Gf a b
 | 0,_,_=>false
 | _+1,.v a,.v b=>Gf a b
 | d+1,.sl n sz el,.sl n' sz' iV=>beq n n'&&(beq sz sz'&&(List.range n).all λk=>eqZ (eqJ d) (el k) (iV k))
 | _+1,_,_=>false
theorem SK: ∀(d:Nat) {x y:IV},eqJ d x y=true→ ∀(A:Nat→Prop) (w:World) (v:Value),jd A w x v→jd A w y v
 | 0,.v a,.v b,h,A,w,v,hx=>by
   rw[←DT (show Gf a b=true from h)];exact hx
 | 0,.v _,.sl ..,h,A,w,v,hx=>by cases h
 | 0,.v _,.mp _,h,A,w,v,hx=>by cases h
 | 0,.v _,.mq _,h,A,w,v,hx=>by cases h
 | 0,.sl ..,_,h,A,w,v,hx=>by cases h
 | 0,.mp _,_,h,A,w,v,hx=>by cases h
 | 0,.mq _,_,h,A,w,v,hx=>by cases h
 | _+1,.v a,.v b,h,A,w,v,hx=>by
   rw[←DT (show Gf a b=true from h)];exact hx
 | _+1,.v _,.sl ..,h,A,w,v,hx=>by cases h
 | _+1,.v _,.mp _,h,A,w,v,hx=>by cases h
 | _+1,.v _,.mq _,h,A,w,v,hx=>by cases h
 | _+1,.mp _,_,h,A,w,v,hx=>by cases h
 | _+1,.mq _,_,h,A,w,v,hx=>by cases h
 | _+1,.sl ..,.v _,h,A,w,v,hx=>by cases h
 | _+1,.sl ..,.mp _,h,A,w,v,hx=>by cases h
 | _+1,.sl ..,.mq _,h,A,w,v,hx=>by cases h
 | d+1,.sl n sz el,.sl n' sz' iV,h,A,w,v,hx=>by
   have h:(beq n n'&&(beq sz sz'&&(List.range n).all λk=>eqZ (eqJ d) (el k) (iV k)))=true:=h;simp only[bI]at h;obtain⟨h1,h2,h3⟩:=h;obtain rfl:=Nat.eq_of_beq_eq_true h1;obtain rfl:=Nat.eq_of_beq_eq_true h2;have key: ∀k,k<n→(el k).length=(iV k).length∧ ∀j,j<(el k).length→eqJ d ((el k).getD j (.v undef)) ((iV k).getD j (.v undef))=true:=λk hk=>YU (List.all_eq_true.1 h3 k (List.mem_range.2 hk))
   cases hx with
   | nil=>exact .nil _ _
   | zero=>exact .zero _ _ _
   | sl _ _ _ b off cap hA hb hn hl hs hh=>
     refine .sl n sz iV b off cap hA hb hn (λk hk=>by rw[←(key k hk).1];exact hl k hk) hs λk j hk hj=> ?_
     exact SK d ((key k hk).2 j (by rw[hl k hk];exact hj)) A w _ (hh k j hk hj)
def eqI:IV→IV→Bool
 | .v a,.v b=>Gf a b
 | .sl n sz el,.sl n' sz' iV=>beq n n'&&(beq sz sz'&&((List.range n).all λk=>ae8 (el k) (iV k))) || eqJ 4 (.sl n sz el) (.sl n' sz' iV)
 | _,_=>false
theorem SL{x y:IV}(h:eqI x y=true):bL (.c x) (.c y):=by
 unfold eqI at h
 split at h
 ·rw[DT h];exact bL.refl _
 ·rw[Bool.or_eq_true]at h
  rcases h with h|h
  ·simp only[bI]at h
   obtain⟨h1,h2,h3⟩:=h;obtain rfl:=Nat.eq_of_beq_eq_true h1;obtain rfl:=Nat.eq_of_beq_eq_true h2;exact bL.sl λk hk=>Px (List.all_eq_true.1 h3 k (List.mem_range.2 hk))
  ·intro A B w u hu
   cases hu with
   | c _ _ hi=>exact .c _ _ (SK 4 h A w u hi)
 ·cases h
def eqP:List IV→List IV→Bool
 | [x],[y]=>eqI x y
 | _,_=>false
theorem ae9{l m:List IV}(h:eqP l m=true):bL (.fB l) (.fB m):=by
 unfold eqP at h
 split at h
 ·rename_i x y
  intro A B w u hu;cases hu with
  | fB _ b off hn hb hj=>
    refine .fB _ b off hn hb λj hj'=> ?_
    obtain rfl:j=0:=by simpa using hj'
    obtain⟨h1,h2⟩:=hj 0 (by simp);refine⟨h1,?_⟩;have:=SL h A B w _ (.c _ _ h2);cases this with
    | c _ _ hc=>exact hc
 ·cases h
def eqC:AV→AV→Bool
 | .c x,.c y=>eqI x y
 | .fB l,.fB m=>eqP l m
 | _,_=>false
theorem Kz{x y:AV}(h:eqC x y=true):bL x y:=by
 unfold eqC at h
 split at h
 ·exact SL h
 ·exact ae9 h
 ·cases h
def aaC:List AV→List AV→Bool
 | [],[]=>true
 | x::l,y::m=>eqC x y&&aaC l m
 | _,_=>false
theorem zZ: ∀{l m:List AV},aaC l m=true→dW l m
 | [],[],_=> .nil
 | x::l,y::m,h=>by
   simp only[aaC,bI]at h;exact .cons (Kz h.1) (zZ h.2)
 | [],_::_,h=>by cases h
 | _::_,[],h=>by cases h
theorem bL.fnL{f:FuncId}{l m:List AV}(h:dW l m):bL (.fn f l) (.fn f m):=λA B w u hu=>by
 obtain⟨cs,rfl,hr⟩:=hu.Im;have hr':=h.NG hr;exact .fn f m cs.toArray (by simpa using hr'.1) λj hj=>by simpa[nS,dJ]using hr'.2 j hj
def SN:AV→AV→Bool
  | .agg l,.agg m=>aaC l m
  | .fG l,.fG m=>afa l m
  | .fn f l,.fn g m=>beq f g&&aaC l m
  | x,y=>eqC x y
 where afa:List AV→List AV→Bool
  | [],[]=>true
  | .agg l::r,.agg m::s=>aaC l m&&afa r s
  | x::r,y::s=>eqC x y&&afa r s
  | _,_=>false
theorem aaD: ∀{l m:List AV},SN.afa l m=true→dW l m:=by
 intro l m h
 fun_induction SN.afa l m with
 | case1=>exact .nil
 | case2 l r m s ih=>
   simp only[bI]at h;exact .cons (bL.agg (zZ h.1)) (ih h.2)
 | case3 x r y s _ ih=>
   simp only[bI]at h;exact .cons (Kz h.1) (ih h.2)
 | case4=>cases h
theorem Fq{x y:AV}(h:SN x y=true):bL x y:=by
 unfold SN at h
 split at h
 ·exact bL.agg (zZ h)
 ·exact bL.fG (aaD h)
 ·simp only[bI]at h
  rw[Nat.eq_of_beq_eq_true h.1];exact bL.fnL (zZ h.2)
 ·exact Kz h
def M5:List AV→List AV→Bool
 | [],[]=>true
 | x::l,y::m=>SN x y&&M5 l m
 | _,_=>false
theorem BL: ∀{l m:List AV},M5 l m=true→dW l m
 | [],[],_=> .nil
 | x::l,y::m,h=>by
   simp only[M5,bI]at h;exact .cons (Fq h.1) (BL h.2)
 | [],_::_,h=>by cases h
 | _::_,[],h=>by cases h
def nH:List (List AV×AV)→List AV→Option (AV×List Bool)
 | [],_=>none
 | r::l,args=>bif M5 args r.1 then some (r.2,[])else nH l args
def rowOk(K:List AV→Option (AV×List Bool))(r:List AV×AV):Bool:=
 match K r.1 with
 | some (u,cs)=>cs.isEmpty&&(dY r.2&&SN u r.2)
 | none=>false
theorem aF.sees{P:Program}{f:FuncId}{K K':List AV→Option (AV×List Bool)}(h:aF P f K)
  (hw: ∀args v cs,K' args=some (v,cs)→bA.dY v=true∧((∀p∈cs,p)→ ∃Jd v0 cs0,dW args Jd∧K Jd=some (v0,cs0)∧(∀p∈cs0,p)∧bL v0 v)):aF P f K' where
 sound:=by
  intro args v cs hk;obtain⟨hn,hw⟩:=hw args v cs hk;refine⟨hn,λA w vs hA hc hr=> ?_⟩;obtain⟨Jd,v0,cs0,hs,h0,hc0,hv⟩:=hw hc;refine((h.sound Jd v0 cs0 h0).2 A w vs hA hc0 (hs.NG hr)).mono ?_;rintro e w' ⟨u,he,hu,hb⟩;exact⟨u,he,hv _ _ _ _ hu,hb⟩
theorem sV{P:Program}{f:FuncId}{K:List AV→Option (AV×List Bool)}(h:aF P f K): ∀{rows:List (List AV×AV)},(∀r∈rows,rowOk K r=true)→aF P f (nH rows):=by
 intro rows hrows;refine h.sees ?_
 induction rows with
 | nil=>intro args v cs hk;cases hk
 | cons r l ih=>
   intro args v cs hk;unfold nH at hk;cases hb:M5 args r.1 with
   | false=>rw[hb]at hk;exact ih (λr hr=>hrows r (List.mem_cons_of_mem _ hr)) args v cs hk
   | true=>
     rw[hb]at hk;cases hk;have hr:=hrows r (List.mem_cons_self ..);unfold rowOk at hr
     split at hr
     ·rename_i u cs0 hu
      simp only[bI,List.isEmpty_iff]at hr;obtain⟨rfl,h2,h3⟩:=hr;exact⟨h2,λ_=>⟨r.1,u,[],BL hb,hu,λp hp=>by(cases hp),Fq h3⟩⟩
     ·cases hr
end Go.bA
namespace Go.bA
open Go.RowKit
end Go.bA
namespace Go.bA
open Go.RowKit
def Tr.yY:Tr AV→Option AV
 | .ret a=>bif dY a then some a else none
 | .ite c t e=>bif c then t.yY else e.yY
 | .need p t=>bif p then t.yY else none
 | .both a b=>
   match a.yY,b.yY with
   | some x,some y=>bif SN y x then some x else none
   | _,_=>none
 | .fail _=>none
theorem Tr.oQ: ∀{t:Tr AV} {v:AV},t.yY=some v→dY v=true∧t.sat λr=>dY r=true∧bL r v
 | .ret a,v,h=>by
   unfold Tr.yY at h;cases hn:dY a with
   | false=>rw[hn]at h;cases h
   | true=>
     rw[hn]at h;simp only[cond_true,fu]at h;subst h;exact⟨hn,hn,bL.refl _⟩
 | .ite c t e,v,h=>by
   cases c with
   | true=>
     have:=Tr.oQ (t:=t) (v:=v) (by simpa[Tr.yY]using h);exact⟨this.1,λ_=>this.2,λh=>by cases h⟩
   | false=>
     have:=Tr.oQ (t:=e) (v:=v) (by simpa[Tr.yY]using h);exact⟨this.1,(λh=>by cases h),λ_=>this.2⟩
 | .need p t,v,h=>by
   cases p with
   | true=>
     have:=Tr.oQ (t:=t) (v:=v) (by simpa[Tr.yY]using h);exact⟨this.1,rfl,λ_=>this.2⟩
   | false=>simp[Tr.yY]at h
 | .both a b,v,h=>by
   unfold Tr.yY at h
   split at h
   ·rename_i x y hx hy
    cases he:SN y x with
    | false=>rw[he]at h;cases h
    | true=>
      rw[he]at h;simp only[cond_true,fu]at h;subst h;obtain⟨hn,h1⟩:=Tr.oQ hx;obtain⟨_,h2⟩:=Tr.oQ hy;exact⟨hn,h1,Tr.aZ (λr hr=>⟨hr.1,hr.2.trans (Fq he)⟩) h2⟩
   ·cases h
 | .fail _,v,h=>by simp[Tr.yY]at h
def z8(P:Program)(Γ:FuncId→Option Spec)(N:Nat)(fn:Func)(args:List AV):Option (AV×List Bool):=
 match (aN P Γ dn N fn args).yY with
 | some v=>some (v,[])
 | none=>none
section
variable{P:Program}{Γ:FuncId→Option Spec}{N:Nat}
theorem Py(hm:P.follows .mixedOrders=true)(hΓ: ∀f s,Γ f=some s→aH P f s){f:FuncId}{fn:Func}{c:Code}(hf:P.funcs[f]? =some fn)(hb:fn.body=some c)(hn:dz fn=true):aF P f (z8 P Γ N fn):=by
 have hk: ∀args v cs,z8 P Γ N fn args=some (v,cs)→(aN P Γ dn N fn args).yY=some v:=by
  intro args v cs h;unfold z8 at h
  split at h
  ·rename_i u hu
   simp only[fu,Prod.mk.injEq]at h;obtain⟨rfl,_⟩:=h;exact hu
  ·cases h
 refine lH hm hΓ hf hb (cO hf hb hn) (L:=dn) (N:=N) (aA 0 c) (λargs v cs h=>(Tr.oQ (hk args v cs h)).1) λargs v cs h _=> ?_
 exact(Tr.oQ (hk args v cs h)).2
end
end Go.bA
namespace Go.bA
open Go.Proofs
def Γk:FuncId→Option Spec:=λf=>bif beq f 306 then some (au ni)else bif beq f 261 then some (au GD)else bif beq f 122 then some (au JE)else bif beq f 121 then some (au JF)else bif beq f 120 then some (au Ru)else bif beq f 168 then some (au acM)else bif beq f 151 then some (au ZX)else bif beq f 153 then some (au Rq)else bif beq f 192 then some (au acN)else bif beq f 28 then some (au Rs)else none
theorem DU: ∀f s,Γk f=some s→aH prog f s:=
 step_ok (aa5 Xg).spec (step_ok (aa6 Xr).spec (step_ok uz.spec (step_ok uD.spec (step_ok Dj.spec (step_ok XJ.spec (step_ok Ou.spec (step_ok Dc.spec (step_ok XK.spec (bM Df.spec)))))))))
def bsK(l:List UInt8):ByteArray:=⟨⟨l⟩⟩
def rzK(n:Bool)(m:List UInt8):List IV:=[.v (.bool n),.v (.string (bsK m)),.v (.bool false),.v (.string (bsK []))]
def zK:List IV:=rzK false []
def reK(m d:List UInt8):List IV:=[.v (.bool false),.v (.string (bsK m)),.v (.bool false),.v (.string (bsK d)),.v (.bool false),.v (.string (bsK [])),.v (.bool false),.v (.string (bsK [])),.v (.bool false)]
def H7(a b:List IV)(o p:Bool):List IV:=a++b++[.v (.bool o),.v (.bool p)]
def j6(l:List IV):AV:= .agg (l.map .c)
def H8(n:Nat)(l:List (List IV)):AV:= .c (.sl l.length n λk=>l.getD k [])
def nu1:List IV:=H7 (reK [] []) (reK [4] []) false false++(zK++(rzK false [1]++zK))
def nu2:List IV:=H7 (reK [] []) (reK [4] []) false false++(rzK false [4]++(rzK true [1]++zK))
def cv(i:Int)(u:List IV):List IV:=[.v (.int .i64 i),.sl 1 32 λk=> [u].getD k []]
def xP:AV:=H8 2 [cv 1 nu1,cv 2 nu2]
def xB:List IV:=H7 (reK [] []) (reK [4] []) false false
def AQ:FuncId→Bool:=λf=> [98,99,146,147,187,232,188,240,270,56,57,107,158,205,279,280,300,315,182,183,231,265].any λg=>beq f g
def Fu:List IV:=reK [] []
def ra1:List IV:=reK [1] []
def DV:List IV:=reK [2] []
def ra3:List IV:=reK [3] []
def Fv:List IV:=reK [4] []
def ids(l:List Int):AV:= .c (.sl l.length 1 λk=> [.v (.int .i64 (l.getD k 0))])
end Go.bA
