/- Helpers for the proof: no statement of its own. -/
import Derived.Test.YtclnfoepcemloaaGreatDoorT00
import Derived.Test.YtclnfoepcemloaaGreatDoorT02
import Derived.Test.YtclnfoepcemloaaGreatDoorT01
set_option linter.unusedVariables false
set_option linter.unusedSimpArgs false
set_option linter.unnecessarySimpa false
set_option linter.deprecated false
set_option maxRecDepth 1000000
open Go.IntKind(i64 u64 u32)
open Nat(beq)
open Go.Proofs.Tryz(prog)
open Go.bA.Tr(need ret)
namespace Go.bA
open Go.Proofs
def JB(k:Nat):Nat:=256^k
def BIG:Nat:=JB 1000000
theorem acs(k:Nat){n:Nat}(h:n<JB k):(aD n).length≤k:=CB n k h
theorem ag9{n:Nat}(h:n<BIG):(aD n).length≤1000000:=by
 unfold BIG at h;exact acs _ h
theorem ZJ(k:Nat){n:Nat}(h:n<JB k*JB k):(aD n).length≤k+k:=CB n (k+k) (by
 have e:JB k*JB k=256^(k+k):=by unfold JB;rw[←Nat.pow_add]
 rw[←e];exact h)
theorem acu{n:Nat}(h:n<BIG*BIG):(aD n).length≤2000000:=by
 unfold BIG at h;exact Nat.le_trans (ZJ _ h) (by decide)
theorem acv(k:Nat)(hk:8≤k):18446744073709551616≤JB k:=by
 unfold JB
 calc 18446744073709551616=256^8:=by decide
  _≤256^k:=Nat.pow_le_pow_right (by omega) hk
theorem acw(m k:Nat)(hk:k<8*m):2^k<JB m:=by
 unfold JB;have e:(256:Nat)=2^8:=rfl;rw[e, ←Nat.pow_mul];exact Nat.pow_lt_pow_right (by decide) hk
theorem uy:18446744073709551616≤BIG:=by
 unfold BIG;exact acv _ (by decide)
theorem Ho{n m:Nat}(h:n≤m):(aD n).length≤(aD m).length:=CB n _ (Nat.lt_of_le_of_lt h (by
 have:=uj (aD m)
 rwa [iM]at this))
def aha:List AV→Option (AV×List Bool)
 | [.agg [.c (.v (.bool p)),.c (.v (.string a))],.agg [.c (.v (.bool q)),.c (.v (.string b))]]=>some (.fG [bY (iv p a/iv q b),bY (iv p a%iv q b),bR .i64 0],[fI p a,fI q b,decide (0<iv q b),decide (a.data.toList.length≤90000000),decide (b.data.toList.length≤90000000)])
 | _=>none
def ahb:List AV→Option (AV×List Bool)
 | [.agg [.c (.v (.bool p)),.c (.v (.string a))],.agg [.c (.v (.bool q)),.c (.v (.string b))]]=>some (bY (iv p a/iv q b),[fI p a,fI q b,decide (0<iv q b),decide (a.data.toList.length≤90000000),decide (b.data.toList.length≤90000000)])
 | _=>none
def amx:FuncId→Option Spec:=λf=>bif beq f 257 then some (au amq)else bif beq f 225 then some (au abH)else bif beq f 227 then some (au abJ)else bif beq f 125 then some (au NM)else none
theorem ahc: ∀f s,amx f=some s→aH prog f s:=step_ok acj.spec (step_ok Xt.spec (step_ok Xv.spec (bM zf.spec)))
def amy:FuncId→Option Spec:=λf=>bif beq f 245 then some (au aha)else none
def amz(p:Bool)(q:Bool)(a:ByteArray)(b:ByteArray):Tr AV:=
 let x1:List UInt8:=b.data.toList
 let x2:List UInt8:=a.data.toList
 let x3:Bool:=decide (x1.length≤100000000)
 let x4:List UInt8:=aD (aM x2%aM x1)
 let x5:List UInt8:=aD (aM x2/aM x1)
 let x6:Nat:=x5.length
 let x7:Nat:=x4.length
 let x8:Nat:=aM x4
 let x9:Bool:= !p==q
 let x10:List UInt8:=aD (aM x5+aM [1])
 let iW:List AV:=[.c (.v (.int i64 0))]
 .ite (x1==[]) (.ret (AV.fG [AV.agg [.c (.v (.bool false)),.c (.v (.string {data:= #[]}))],AV.agg [.c (.v (.bool false)),.c (.v (.string {data:= #[]}))],.c (.v (.int i64 6))])) (.need (canon x2) (.need (canon x1) (.need (decide (x2.length≤100000000)) (.need x3 (.need (decide (aM x1≠0)) (.need (bif p then true else true) (.ite (bif p then bif true then !x4==[]else false else false) (.need (decide (x6≤100000000)) (.need true (.need x3 (.need (decide (x7≤100000000)) (.need (decide (x8≤aM x1)) (.ret (AV.fG (AV.agg [.c (.v (.bool (x9&& !x10==[]))),.c (.v (.string ⟨⟨x10⟩⟩))]::AV.agg [.c (.v (.bool false)),.c (.v (.string ⟨⟨aD (aM x1-x8)⟩⟩))]::iW)))))))) (.ret (AV.fG (AV.agg [.c (.v (.bool (x9&& !x5==[]))),.c (.v (.string ⟨⟨x5⟩⟩))]::AV.agg [.c (.v (.bool false)),.c (.v (.string ⟨⟨x4⟩⟩))]::iW))))))))))
def amA(p:Bool)(q:Bool)(a:ByteArray)(b:ByteArray):Tr AV:=
 let x1:Int:=iv p a/iv q b
 .need (fI p a) (.need (fI q b) (.need (decide (0<iv q b)) (.need (decide (a.data.toList.length≤90000000)) (.need (decide (b.data.toList.length≤90000000)) (.ret (AV.agg [.c (.v (.bool (decide (x1<0)))),.c (.v (.string ⟨⟨aD x1.natAbs⟩⟩))]))))))
theorem ahd(p q:Bool)(a b:ByteArray):aN prog amx dn 1010 Tryz.f245 [.agg [.c (.v (.bool p)),.c (.v (.string a))],.agg [.c (.v (.bool q)),.c (.v (.string b))]]=amz p q a b:=by kernel_rfl
theorem ahe(p q:Bool)(a b:ByteArray):aN prog amy dn 1010 Tryz.f222 [.agg [.c (.v (.bool p)),.c (.v (.string a))],.agg [.c (.v (.bool q)),.c (.v (.string b))]]=amA p q a b:=by kernel_rfl
theorem ZK{n:Nat}(h:n<18446744073709551616):(aD n).length≤8:=CB n 8 (by omega)
theorem XD(n m:Nat)(hm:0<m):(-(n:Int))/(m:Int)=(if n%m=0 then -((n/m:Nat):Int)else -((n/m+1:Nat):Int))∧(-(n:Int))%(m:Int)=(if n%m=0 then 0 else((m-n%m:Nat):Int)):=by
 have h1:=Nat.div_add_mod n m;have h2:=Nat.mod_lt n hm;rw[Int.ediv_emod_unique (by omega)];generalize hq:n/m=q at*;generalize n%m=r at*;have h3:(m:Int)*(q:Int)+(r:Int)=(n:Int):=by rw[←h1,Int.natCast_add,Int.natCast_mul]
 by_cases hr:r=0
 ·rw[if_pos hr,if_pos hr]
  subst hr;rw[Int.mul_neg];omega
 ·rw[if_neg hr,if_neg hr,Int.mul_neg,Int.natCast_add,Int.mul_add]
  omega
theorem amB{q:Bool}{b:ByteArray}(h:0<iv q b):q=false∧0<aM b.data.toList:=by
 cases q
 ·exact⟨rfl,by simp only[iv,cond_false]at h;omega⟩
 ·simp only[iv,cond_true]at h;omega
theorem sI(n:Nat):AV.agg [.c (.v (.bool false)),nQ (aD n)]=bY (n:Int):=by
 have:=pW false n;simp only[Bool.false_and,cond_false]at this;exact this
theorem acy(p q:Bool)(a b:ByteArray)(h1:fI p a=true)(h2:fI q b=true)(hb:0<iv q b)(la:a.data.toList.length≤90000000)(lb:b.data.toList.length≤90000000):(amz p q a b).sat λr=>r= .fG [bY (iv p a/iv q b),bY (iv p a%iv q b),bR .i64 0]:=by
 obtain⟨rfl,hm⟩:=amB hb;have ca:=je h1;have cb:=je h2;have hne:(b.data.toList==[])=false:=by
  cases hh:b.data.toList with
  | nil=>rw[hh]at hm;simp[aM]at hm
  | cons c l=>rfl
 have eb:iv false b=((aM b.data.toList:Nat):Int):=rfl;rw[eb];unfold amz;have l1:(aD (aM a.data.toList/aM b.data.toList)).length≤a.data.toList.length:=by
  have:=Ho (Nat.div_le_self (aM a.data.toList) (aM b.data.toList))
  rwa [gX _ ca]at this
 have l2:(aD (aM a.data.toList%aM b.data.toList)).length≤a.data.toList.length:=by
  have:=Ho (Nat.mod_le (aM a.data.toList) (aM b.data.toList))
  rwa [gX _ ca]at this
 generalize hxb:b.data.toList=lb' at*;generalize hxa:a.data.toList=la' at*;have hr:aM la'%aM lb'<aM lb':=Nat.mod_lt _ hm;have hone:aM [1]=1:=rfl;refine aj (λh=>by rw[hne]at h;cases h) (λ_=>ah ca (ah cb (ah (dA) (ah (dA) (ah (dA) (ah (by cases p<;>rfl) (aj (λh=> ?_) (λh=>ak ?_))))))))
 ·cases p with
  | false=>cases h
  | true=>
    simp only[cond_true,vN,Bool.not_eq_true',decide_eq_false_iff_not]at h;simp only[iM,hone];refine ah (dA) (ah rfl (ah (dA) (ah (dA) (ah (dA) (ak ?_)))));have ea:iv true a= -((aM la':Nat):Int):=by show -((aM a.data.toList:Nat):Int)=_;rw[hxa]
    obtain⟨d1,d2⟩:=XD (aM la') (aM lb') hm;rw[if_neg h]at d1 d2;rw[ea,d1,d2];have m1:=pW true (aM la'/aM lb'+1);have m2:=sI (aM lb'-aM la'%aM lb');simp only[cond_true]at m1;rw[←m1, ←m2];rfl
 ·cases p with
  | false=>
    have ea:iv false a=((aM la':Nat):Int):=by show((aM a.data.toList:Nat):Int)=_;rw[hxa]
    rw[ea, ←Int.natCast_ediv, ←Int.natCast_emod];rw[←sI, ←sI];rfl
  | true=>
    simp only[cond_true,vN,Bool.not_eq_false',dS]at h;have ea:iv true a= -((aM la':Nat):Int):=by show -((aM a.data.toList:Nat):Int)=_;rw[hxa]
    obtain⟨d1,d2⟩:=XD (aM la') (aM lb') hm;rw[if_pos h]at d1 d2;rw[ea,d1,d2];have m1:=pW true (aM la'/aM lb');have m2:=sI 0;simp only[cond_true]at m1;rw[←m1];rw[h];have e0:bY ((0:Nat):Int)=bY 0:=rfl;rw[←e0, ←m2];rfl
theorem ahf:aF prog 245 aha:=by
 refine vE ahc (fn:=Tryz.f245) ?_ ?_
 ·intro args v cs h
  unfold aha at h
  split at h
  ·cases h;rfl
  ·cases h
 ·intro args v cs h hc
  unfold aha at h
  split at h
  ·rename_i p a q b
   cases h;have h1:fI p a=true:=hc (fI p a) (by simp);have h2:fI q b=true:=hc (fI q b) (by simp);have h3:0<iv q b:=dec (hc (decide (0<iv q b)) (by simp));have h4:a.data.toList.length≤90000000:=dec (hc (decide (a.data.toList.length≤90000000)) (by simp));have h5:b.data.toList.length≤90000000:=dec (hc (decide (b.data.toList.length≤90000000)) (by simp));have hs:=acy p q a b h1 h2 h3 h4 h5;rw[←ahd]at hs;generalize aN prog amx dn 1010 Tryz.f245 [.agg [.c (.v (.bool p)),.c (.v (.string a))],.agg [.c (.v (.bool q)),.c (.v (.string b))]]=T at hs⊢;generalize iv p a/iv q b=z at hs⊢;generalize iv p a%iv q b=y at hs⊢;exact Tr.aZ (λr hr=>⟨by subst hr;rfl,bL.of_eq hr⟩) hs
  ·cases h
theorem ahg: ∀f s,amy f=some s→aH prog f s:=bM ahf.spec
theorem acz(p q:Bool)(a b:ByteArray)(h1:fI p a=true)(h2:fI q b=true)(h3:0<iv q b)(h4:a.data.toList.length≤90000000)(h5:b.data.toList.length≤90000000):(amA p q a b).sat λr=>r=bY (iv p a/iv q b):=by
 unfold amA;exact ah h1 (ah h2 (ah (dK h3) (ah (dK h4) (ah (dK h5) (ak rfl)))))
theorem ahh:aF prog 222 ahb:=by
 refine vE ahg (fn:=Tryz.f222) ?_ ?_
 ·intro args v cs h
  unfold ahb at h
  split at h
  ·cases h;rfl
  ·cases h
 ·intro args v cs h hc
  unfold ahb at h
  split at h
  ·rename_i p a q b
   cases h;have h1:fI p a=true:=hc (fI p a) (by simp);have h2:fI q b=true:=hc (fI q b) (by simp);have h3:0<iv q b:=dec (hc (decide (0<iv q b)) (by simp));have h4:a.data.toList.length≤90000000:=dec (hc (decide (a.data.toList.length≤90000000)) (by simp));have h5:b.data.toList.length≤90000000:=dec (hc (decide (b.data.toList.length≤90000000)) (by simp));have hs:=acz p q a b h1 h2 h3 h4 h5;rw[←ahe]at hs;generalize aN prog amy dn 1010 Tryz.f222 [.agg [.c (.v (.bool p)),.c (.v (.string a))],.agg [.c (.v (.bool q)),.c (.v (.string b))]]=T at hs⊢;generalize iv p a/iv q b=z at hs⊢;exact Tr.aZ (λr hr=>⟨by subst hr;rfl,bL.of_eq hr⟩) hs
  ·cases h
end Go.bA
namespace Go.bA
open Go.Proofs
def amC:Jt (Bool×ByteArray) where
 get:=λe=>match e with|some (.cells [.c (.v (.bool p)),.c (.v (.string s))] 32)=>some ((p,s),[]) | _=>none
 put:=λx=>some (.cells [.c (.v (.bool x.1)),.c (.v (.string x.2))] 32)
 ok:=by
  intro e x cs h hc
  split at h
  ·simp only[fu,Prod.mk.injEq]at h
   obtain⟨rfl,rfl⟩:=h;exact .refl _
  ·cases h
def XE:Jt Unit where
 get:=λe=>match e with|some (.cells [.c (.v (.bool false)),.c (.v (.string ⟨⟨[]⟩⟩))] 32)=>some ((),[]) | _=>none
 put:=λ_=>some (.cells [.c (.v (.bool false)),.c (.v (.string ⟨⟨[]⟩⟩))] 32)
 ok:=by
  intro e x cs h hc
  split at h
  ·exact .refl _
  ·cases h
abbrev GiX:=(Unit×ByteArray×Int×Int×Unit)×(Unit×Unit)
abbrev aqi:dU GiX:= .with (.cons XE .nil) (.cons (mP 0 0) (.cons EA (.cons (wT .u64) (.cons (wT .u64) .nil))))
def Rp(x:GiX):Bool:=iK x.1.2.2.1&&iK x.1.2.2.2.1
def ZL:bC GiX GiX:=lD {nt:=45,live:=[4,5,7,8]} {nt:=45,live:=[4,5,7,8]} aqi aqi (λx=>match x with|(((),s,u,v,()),((),()))=>(((),s,((Nat.gcd u.toNat v.toNat:Nat):Int),0,()),((),()))) Rp
theorem ZM:ZL.gH:=cZ _ _ _ _ _ _
def LGi:Nat→Option (St→Tr (Ex×St)):=λid=>bif beq id 2 then some (ZL.g 0)else none
def ZN(x y:ByteArray):ByteArray:=⟨⟨aD (aM x.data.toList%aM y.data.toList)⟩⟩
def mR:Nat→ByteArray→ByteArray→Bool×ByteArray
 | 0,x,_=>(false,x)
 | n+1,x,y=>bif y.data.toList==[]then(false,x)else bif fH x&&fH y then(true,x)else mR n y (ZN x y)
def Gn(x y:ByteArray):ByteArray:=⟨⟨aD (Nat.gcd (aM x.data.toList) (aM y.data.toList))⟩⟩
abbrev GcX:=(Unit×ByteArray×ByteArray×Unit)×(Unit×Unit)
abbrev GcR:=(Unit×ByteArray×Unit)×((Bool×ByteArray)×Unit)
def aqj(x:GcX):Bool×GcR:=match x with
 | (((),a,b,()),((),()))=>((mR (aM b.data.toList+1) a b).1,(((),(mR (aM b.data.toList+1) a b).2,()),(bif (mR (aM b.data.toList+1) a b).1 then(false,Gn a b)else(false,⟨⟨[]⟩⟩),())))
def Ml(x:GcX):Bool:=match x with
 | (((),a,b,()),((),()))=>canon a.data.toList&&(canon b.data.toList&&(decide (a.data.toList.length≤90000000)&&decide (b.data.toList.length≤90000000)))
def ZO:bC GcX (Bool×GcR):=Tf {nt:=45,live:=[4,5,6]} {nt:=45,live:=[4,5]} (.with (.cons XE .nil) (.cons (mP 0 0) (.cons EA (.cons EA .nil)))) (.with (.cons amC .nil) (.cons (mP 0 0) (.cons EA .nil))) aqj Ml
theorem ZP:ZO.gH:=oJ _ _ _ _ _ _
def LGc:Nat→Option (St→Tr (Ex×St)):=λid=>bif beq id 0 then some (ZO.g 0)else none
def ahi:FuncId→Option Spec:=λf=>bif beq f 256 then some (au QJ)else bif beq f 126 then some (au NQ)else bif beq f 125 then some (au NM)else bif beq f 257 then some (au amq)else none
theorem XF: ∀f s,ahi f=some s→aH prog f s:=step_ok CJ.spec (step_ok zi.spec (step_ok zf.spec (bM acj.spec)))
def Vu(s:ByteArray)(u:Int)(v:Int):Tr (GiX ⊕ GiX):=
 Tr.ite (v !=0) (need (decide (v≠0)) (ret (Sum.inl (((),s,v,u.tmod v,()),(),())))) (ret (Sum.inr (((),s,u,v,()),(),())))
def Om(a:ByteArray)(b:ByteArray):Tr (GcX ⊕ Bool×GcR):=
 let x1:List UInt8:=b.data.toList
 let x2:Int:= ↑((gI a).toNat.gcd (gI b).toNat)
 let x3:List UInt8:=a.data.toList
 Tr.ite (!x1==[])
  (Tr.ite (fH a&&fH b)
   (need (Rp (((),a,gI a,gI b,()),(),()))
    (need (iK x2) (ret (Sum.inr (true,((),a,()),(false,{data:={toList:=aD x2.toNat}}),())))))
   (need (canon x3)
    (need (canon x1)
     (need (decide (x3.length≤100000000))
      (need (decide (x1.length≤100000000))
       (need (decide (aM x1≠0)) (ret (Sum.inl (((),b,{data:={toList:=aD (aM x3%aM x1)}},()),(),())))))))))
  (ret (Sum.inr (false,((),a,()),(false,{data:={toList:=[]}}),())))
def amD(p:Bool)(q:Bool)(a:ByteArray)(b:ByteArray):Tr AV:=
 let x1:Bool:=(mR (aM b.data.toList+1) a b).fst
 .need (Ml (((),a,b,()),(),())) (.ite x1 (.ret (AV.agg [.c (.v (.bool (bif x1 then(false,Gn a b)else(false,⟨⟨[]⟩⟩)).fst)),.c (.v (.string (bif x1 then(false,Gn a b)else(false,⟨⟨[]⟩⟩)).snd))])) (.ret (AV.agg [.c (.v (.bool false)),.c (.v (.string (mR (aM b.data.toList+1) a b).snd))])))
theorem ZQ(x:GiX):(exec prog (λ_=>none) dn 1010 (aR 2 (codeOf Tryz.f221)) (eY ZL.nIn (ZL.head x))).bind (ZL.fin 0 2)=Vu x.1.2.1 x.1.2.2.1 x.1.2.2.2.1:=by
 obtain⟨⟨⟨⟩,s,u,v,⟨⟩⟩,⟨⟩,⟨⟩⟩:=x
 kernel_rfl
theorem ZR(x:GcX):(exec prog ahi LGi 1010 (aR 0 (codeOf Tryz.f221)) (eY ZO.nIn (ZO.head x))).bind (ZO.fin 0 0)=Om x.1.2.1 x.1.2.2.1:=by
 obtain⟨⟨⟨⟩,a,b,⟨⟩⟩,⟨⟩,⟨⟩⟩:=x
 kernel_rfl
theorem acA(s:ByteArray)(Q:GiX→Prop): ∀(n u v:Nat),v<n→Q (((),s,((Nat.gcd u v:Nat):Int),0,()),((),()))→aS (λx:GiX=>Vu x.1.2.1 x.1.2.2.1 x.1.2.2.2.1) Q n (((),s,(u:Nat),(v:Nat),()),((),()))
 | 0,u,v,h,_=>absurd h (Nat.not_lt_zero _)
 | n+1,u,v,h,hq=>by
   unfold aS
   change Tr.sat _ (Vu s (u:Nat) (v:Nat))
   by_cases hv:v=0
   ·subst hv
    refine aj (λhc=>by simp at hc) (λ_=>ak ?_);have:Nat.gcd u 0=u:=Nat.gcd_zero_right u;rw[this]at hq;exact hq
   ·refine aj (λ_=>ah (dA) (ak ?_)) (λhc=>by simp at hc;omega)
    have e1:((u:Nat):Int).tmod ((v:Nat):Int)=((u%v:Nat):Int):=(Int.ofNat_tmod u v).symm;rw[e1];have hlt:u%v<v:=Nat.mod_lt _ (by omega);refine acA s Q n v (u%v) (by omega) ?_;have:Nat.gcd v (u%v)=Nat.gcd u v:=by rw[Nat.gcd_comm v, ←Nat.gcd_rec,Nat.gcd_comm]
    rw[this];exact hq
theorem amE:bB prog 0 LGi (aR 0 (codeOf Tryz.f221)):=by
 refine gu (N:=1010) (L':=dn) eH (aA 0 _) ZM ZQ ?_;rintro⟨⟨⟨⟩,s,u,v,⟨⟩⟩,⟨⟩,⟨⟩⟩ hx;have hx:Rp (((),s,u,v,()),((),()))=true:=hx;simp only[Rp,bI,iK,dS]at hx;obtain⟨u,rfl⟩: ∃k:Nat,u=k:=⟨u.toNat,by omega⟩
 obtain⟨v,rfl⟩: ∃k:Nat,v=k:=⟨v.toNat,by omega⟩
 exact⟨_,acA s (· =ZL.res (((),s,(u:Nat),(v:Nat),()),((),()))) (v+1) u v (by omega) rfl⟩
theorem Mq{a b:ByteArray}(hb:aM b.data.toList≠0):Gn b (ZN a b)=Gn a b:=by
 unfold Gn ZN;simp only[iM];rw[Nat.gcd_comm (aM b.data.toList), ←Nat.gcd_rec,Nat.gcd_comm]
theorem acB{b:ByteArray}(h:(b.data.toList==[])=true):aM b.data.toList=0:=by
 have:b.data.toList=[]:=by simpa using h
 rw[this];rfl
theorem ZT(a b:ByteArray)(ha:canon a.data.toList=true)(hb:canon b.data.toList=true)(la:a.data.toList.length≤90000000)(lb:b.data.toList.length≤90000000){R:GcX ⊕ Bool×GcR→Prop}
  (h0:(b.data.toList==[])=true→R (.inr (false,((),a,()),((false,⟨⟨[]⟩⟩),()))))
  (h1:(b.data.toList==[])=false→(fH a&&fH b)=true→R (.inr (true,((),a,()),((false,Gn a b),()))))
  (h2:(b.data.toList==[])=false→(fH a&&fH b)=false→R (.inl (((),b,ZN a b,()),((),())))):(Om a b).sat R:=by
 unfold Om;refine aj (λh=> ?_) (λh=>ak (h0 (by simpa using h)));have h:(b.data.toList==[])=false:=by simpa using h
 refine aj (λhw=> ?_) (λhw=> ?_)
 ·have hw':=hw
  simp only[bI]at hw';have ea:=oI a hw'.1;have eb:=oI b hw'.2;have xa:=rP a hw'.1;have xb:=rP b hw'.2;have xg:Nat.gcd (aM a.data.toList) (aM b.data.toList)<18446744073709551616:=by
   rcases Nat.eq_zero_or_pos (aM a.data.toList)with h0|h0
   ·rw[h0,Nat.gcd_zero_left];omega
   ·have:=Nat.gcd_le_left (aM b.data.toList) h0;omega
  refine ah ?_ (ah ?_ (ak ?_))
  ·rw[ea,eb];simp only[iK,Rp,bI,dS];omega
  ·rw[ea,eb];simp only[Int.toNat_natCast,iK,bI,dS];omega
  ·rw[ea,eb];simp only[Int.toNat_natCast];exact h1 h hw
 ·have hz:aM b.data.toList≠0:=by
   intro hh;rw[(jG hb).1 hh]at h;cases h
  exact ah ha (ah hb (ah (dA) (ah (dA) (ah (dK hz) (ak (h2 h hw))))))
theorem acC(Q:Bool×GcR→Prop): ∀(n:Nat) (a b:ByteArray),canon a.data.toList=true→canon b.data.toList=true→a.data.toList.length≤90000000→b.data.toList.length≤90000000→aM b.data.toList<n→
  Q ((mR n a b).1,(((),(mR n a b).2,()),(bif (mR n a b).1 then(false,Gn a b)else(false,⟨⟨[]⟩⟩),())))→aS (λx:GcX=>Om x.1.2.1 x.1.2.2.1) Q n (((),a,b,()),((),()))
 | 0,a,b,ha,hb,la,lb,hn,hq=>absurd hn (Nat.not_lt_zero _)
 | n+1,a,b,ha,hb,la,lb,hn,hq=>by
   refine ZT a b ha hb la lb (λh=> ?_) (λh hw=> ?_) (λh hw=> ?_)
   ·simp only[mR,h,cond_true,cond_false]at hq
    exact hq
   ·simp only[mR,h,hw,cond_true,cond_false]at hq
    exact hq
   ·have hz:aM b.data.toList≠0:=by
     intro hh;rw[(jG hb).1 hh]at h;cases h
    have hlt:aM a.data.toList%aM b.data.toList<aM b.data.toList:=Nat.mod_lt _ (Nat.pos_of_ne_zero hz);have l2:(aD (aM a.data.toList%aM b.data.toList)).length≤a.data.toList.length:=by
     have:=Ho (Nat.mod_le (aM a.data.toList) (aM b.data.toList))
     rwa [gX _ ha]at this
    refine acC Q n b (ZN a b) hb (wP _) lb (Nat.le_trans l2 la) ?_ ?_
    ·show aM (aD _)<n
     rw[iM];omega
    ·simp only[mR,h,hw,cond_true,cond_false]at hq
     rw[Mq hz];exact hq
theorem JC: ∀(n:Nat) (a b:ByteArray),canon a.data.toList=true→canon b.data.toList=true→aM b.data.toList<n→(mR n a b).1=false→(mR n a b).2=Gn a b
 | 0,a,b,ha,hb,hn,h=>absurd hn (Nat.not_lt_zero _)
 | n+1,a,b,ha,hb,hn,h=>by
   unfold mR at h⊢;cases h0:(b.data.toList==[])with
   | true=>
     simp only[h0,cond_true];unfold Gn;rw[acB h0,Nat.gcd_zero_right,gX _ ha]
   | false=>
     cases hw:(fH a&&fH b)with
     | true=>simp only[h0,hw,cond_true,cond_false]at h;cases h
     | false=>
       simp only[h0,hw,cond_false]at h⊢;have hz:aM b.data.toList≠0:=by
        intro hh;rw[(jG hb).1 hh]at h0;cases h0
       have hlt:aM a.data.toList%aM b.data.toList<aM b.data.toList:=Nat.mod_lt _ (Nat.pos_of_ne_zero hz);rw[JC n b (ZN a b) hb (wP _) (by show aM (aD _)<n;rw[iM];omega) h,Mq hz]
theorem amF:bB prog 0 LGc (codeOf Tryz.f221):=by
 refine gu (N:=1010) (L':=LGi) XF amE ZP ZR ?_;rintro⟨⟨⟨⟩,a,b,⟨⟩⟩,⟨⟩,⟨⟩⟩ hx;have hx:Ml (((),a,b,()),((),()))=true:=hx;simp only[Ml,bI,dS]at hx;obtain⟨h1,h2,h3,h4⟩:=hx;exact⟨_,acC (· =ZO.res (((),a,b,()),((),()))) (aM b.data.toList+1) a b h1 h2 h3 h4 (Nat.lt_succ_self _) rfl⟩
theorem ahj(p q:Bool)(a b:ByteArray):aN prog ahi LGc 1010 Tryz.f221 [.agg [.c (.v (.bool p)),.c (.v (.string a))],.agg [.c (.v (.bool q)),.c (.v (.string b))]]=amD p q a b:=by kernel_rfl
def acD:List AV→Option (AV×List Bool)
 | [.agg [.c (.v (.bool p)),.c (.v (.string a))],.agg [.c (.v (.bool q)),.c (.v (.string b))]]=>some (bY (Int.gcd (iv p a) (iv q b):Nat),[fI p a,fI q b,decide (a.data.toList.length≤90000000),decide (b.data.toList.length≤90000000)])
 | _=>none
theorem rR(p:Bool)(a:ByteArray):(iv p a).natAbs=aM a.data.toList:=by cases p<;>simp[iv]
theorem acE(p q:Bool)(a b:ByteArray)(ha:fI p a=true)(hb:fI q b=true)(la:a.data.toList.length≤90000000)(lb:b.data.toList.length≤90000000):(amD p q a b).sat λr=>r=bY (Int.gcd (iv p a) (iv q b):Nat):=by
 have ca:=je ha;have cb:=je hb;have hg:Int.gcd (iv p a) (iv q b)=Nat.gcd (aM a.data.toList) (aM b.data.toList):=by unfold Int.gcd;rw[rR,rR]
 have hm:AV.agg [AV.c (.v (.bool false)),AV.c (.v (.string (Gn a b)))]=bY (Int.gcd (iv p a) (iv q b):Nat):=by
  rw[hg];exact sI _
 have hp:Ml (((),a,b,()),((),()))=true:=by
  simp only[Ml,bI,dS];exact⟨ca,cb,la,lb⟩
 have hv:=JC (aM b.data.toList+1) a b ca cb (Nat.lt_succ_self _);unfold amD;generalize mR (aM b.data.toList+1) a b=g at*;obtain⟨g1,g2⟩:=g;cases g1 with
 | true=>exact ah hp (aj (λ_=>ak hm) (λh=>by cases h))
 | false=>
   refine ah hp (aj (λh=>by cases h) (λ_=>ak ?_));have hv:g2=Gn a b:=hv rfl;rw[hv];exact hm
theorem XG:aF prog 221 acD:=by
 refine poL (N:=1010) XF amF (fn:=Tryz.f221) ?_ ?_
 ·intro args v cs h
  unfold acD at h
  split at h
  ·cases h;rfl
  ·cases h
 ·intro args v cs h hc
  unfold acD at h
  split at h
  ·rename_i p a q b
   cases h;have h1:fI p a=true:=hc (fI p a) (by simp);have h2:fI q b=true:=hc (fI q b) (by simp);have h4:a.data.toList.length≤90000000:=dec (hc (decide (a.data.toList.length≤90000000)) (by simp));have h5:b.data.toList.length≤90000000:=dec (hc (decide (b.data.toList.length≤90000000)) (by simp));have hs:=acE p q a b h1 h2 h4 h5;rw[←ahj]at hs;generalize aN prog ahi LGc 1010 Tryz.f221 [.agg [.c (.v (.bool p)),.c (.v (.string a))],.agg [.c (.v (.bool q)),.c (.v (.string b))]]=T at hs⊢;generalize Int.gcd (iv p a) (iv q b)=z at hs⊢;exact Tr.aZ (λr hr=>⟨by subst hr;rfl,bL.of_eq hr⟩) hs
  ·cases h
end Go.bA
namespace Go.bA
open Go.Proofs
def uQ(z:Int):Bool:=decide (z.natAbs<BIG)
def ZU:List AV→Option (AV×List Bool)
 | []=>some (bY 1,[])
 | _=>none
def ZV:List AV→Option (AV×List Bool)
 | [.agg [.c (.v (.bool p)),.c (.v (.string a))],.agg [.c (.v (.bool q)),.c (.v (.string b))]]=>some (oK (Rat.divInt (iv p a) (iv q b)),[fI p a,fI q b,decide (iv q b≠0),decide (a.data.toList.length≤90000000),decide (b.data.toList.length≤90000000)])
 | _=>none
def ZW:List AV→Option (AV×List Bool)
 | [.agg l]=>some (bY ((ay l).den:Nat),[aK l])
 | _=>none
def ZX:List AV→Option (AV×List Bool)
 | [.agg l]=>some (oK (hold (-(ay l))),[aK l])
 | _=>none
def Rq:List AV→Option (AV×List Bool)
 | [.agg l]=>some (bR .i64 (gq (ay l).num 0),[aK l])
 | _=>none
def Rs:List AV→Option (AV×List Bool)
 | [.c (.v (.int .i64 n))]=>some (oK (n:Rat),[decide (-9223372036854775808≤n),decide (n≤9223372036854775807)])
 | _=>none
def amG:FuncId→Option Spec:=λf=>bif beq f 70 then some (au abv)else none
def amH:FuncId→Option Spec:=λf=>bif beq f 193 then some (au Uw)else bif beq f 191 then some (au abr)else bif beq f 221 then some (au acD)else bif beq f 222 then some (au ahb)else bif beq f 223 then some (au ZU)else none
def amI:FuncId→Option Spec:=λf=>bif beq f 223 then some (au ZU)else none
def amJ:FuncId→Option Spec:=λf=>bif beq f 191 then some (au abr)else none
def amK:FuncId→Option Spec:=λf=>bif beq f 193 then some (au Uw)else none
def amL:FuncId→Option Spec:=λf=>bif beq f 70 then some (au abv)else none
def aqk:Tr AV:=
 .need true (.need true (.ret (AV.agg [.c (.v (.bool false)),.c (.v (.string ⟨⟨aD (Int.natAbs 1)⟩⟩))])))
def amM(x:Int)(y:Int):Tr AV:=
 let x1:ByteArray:=⟨⟨aD y.natAbs⟩⟩
 let x2:Int:=iv (decide (y<0)) x1
 let x3:Int:=gq x2 0
 let x4:ByteArray:=⟨⟨aD x.natAbs⟩⟩
 let x5:Int:=iv (decide (x<0)) x4
 let x6:Int:= -x5
 let x7:List UInt8:=aD x6.natAbs
 let x8:ByteArray:=⟨⟨x7⟩⟩
 let x9:Int:= -x2
 let x10:List UInt8:=aD x9.natAbs
 let iW:ByteArray:=⟨⟨x10⟩⟩
 let kL:Nat:=x7.length
 let jA:Nat:=x10.length
 let kM:Int:=iv (decide (x6<0)) x8
 let mO:Int:=iv (decide (x9<0)) iW
 let nu:Int:= ↑(kM.gcd mO)
 let jR:List UInt8:=aD nu.natAbs
 let x18:ByteArray:=⟨⟨jR⟩⟩
 let rO:Int:=iv (decide (nu<0)) x18
 let x20:Nat:=jR.length
 let x21:Int:=mO/rO
 let xH:List UInt8:=aD x21.natAbs
 let x23:List UInt8:=aD (Int.natAbs 1)
 let x24:Int:=kM/rO
 let x25:List AV:=[.c (.v (.bool false)),.c (.v (.string {data:= #[]}))]
 let xL:Int:= ↑(x5.gcd x2)
 let x27:List UInt8:=aD xL.natAbs
 let x28:ByteArray:=⟨⟨x27⟩⟩
 let x29:Int:=iv (decide (xL<0)) x28
 let x30:Nat:=x27.length
 let x31:Int:=x2/x29
 let x32:List UInt8:=aD x31.natAbs
 let Db:Int:=x5/x29
 .need (fI (decide (y<0)) x1) (.ite (decide (x3<0)) (.need (fI (decide (x<0)) x4) (.need (fI (decide (y<0)) x1) (.need (fI (decide (x6<0)) x8) (.need (fI (decide (x9<0)) iW) (.need (decide (kL≤90000000)) (.need (decide (jA≤90000000)) (.need (fI (decide (x6<0)) x8) (.need (fI (decide (nu<0)) x18) (.need (decide (0<rO)) (.need (decide (kL≤90000000)) (.need (decide (x20≤90000000)) (.need (fI (decide (x9<0)) iW) (.need (fI (decide (nu<0)) x18) (.need (decide (0<rO)) (.need (decide (jA≤90000000)) (.need (decide (x20≤90000000)) (.ite (cu [xH==x23,decide (x21<0)==decide ((1:Int)<0)].reverse) (.ret (AV.agg (.c (.v (.bool (decide (x24<0)))):: .c (.v (.string ⟨⟨aD x24.natAbs⟩⟩))::x25))) (.ret (AV.agg [.c (.v (.bool (decide (x24<0)))),.c (.v (.string ⟨⟨aD x24.natAbs⟩⟩)),.c (.v (.bool (decide (x21<0)))),.c (.v (.string ⟨⟨xH⟩⟩))]))))))))))))))))))) (.need (fI (decide (x<0)) x4) (.need (fI (decide (y<0)) x1) (.need (decide ((aD x.natAbs).length≤90000000)) (.need (decide ((aD y.natAbs).length≤90000000)) (.need (fI (decide (x<0)) x4) (.need (fI (decide (xL<0)) x28) (.need (decide (0<x29)) (.need (decide ((aD x.natAbs).length≤90000000)) (.need (decide (x30≤90000000)) (.need (fI (decide (y<0)) x1) (.need (fI (decide (xL<0)) x28) (.need (decide (0<x29)) (.need (decide ((aD y.natAbs).length≤90000000)) (.need (decide (x30≤90000000)) (.ite (cu [x32==x23,decide (x31<0)==decide ((1:Int)<0)].reverse) (.ret (AV.agg (.c (.v (.bool (decide (Db<0)))):: .c (.v (.string ⟨⟨aD Db.natAbs⟩⟩))::x25))) (.ret (AV.agg [.c (.v (.bool (decide (Db<0)))),.c (.v (.string ⟨⟨aD Db.natAbs⟩⟩)),.c (.v (.bool (decide (x31<0)))),.c (.v (.string ⟨⟨x32⟩⟩))]))))))))))))))))))
def amN(x:Rat):Tr AV:=
 .ite (cu [aY x.den==[],false==false].reverse) (.ret (AV.agg [.c (.v (.bool false)),.c (.v (.string ⟨⟨aD (Int.natAbs 1)⟩⟩))])) (.ret (AV.agg [.c (.v (.bool false)),.c (.v (.string ⟨⟨aY x.den⟩⟩))]))
def amO(x:Rat):Tr AV:=
 let x1:ByteArray:=⟨⟨aD x.num.natAbs⟩⟩
 let x2:Int:= -iv (decide (x.num<0)) x1
 .need (fI (decide (x.num<0)) x1) (.ret (AV.agg [.c (.v (.bool (decide (x2<0)))),.c (.v (.string ⟨⟨aD x2.natAbs⟩⟩)),.c (.v (.bool false)),.c (.v (.string ⟨⟨aY x.den⟩⟩))]))
def amP(x:Rat):Tr AV:=
 let x1:ByteArray:=⟨⟨aD x.num.natAbs⟩⟩
 .need (fI (decide (x.num<0)) x1) (.ret (.c (.v (.int i64 (gq (iv (decide (x.num<0)) x1) 0)))))
def aql(n:Int):Tr AV:=
 .need (decide (-9223372036854775808≤n)) (.need (decide (n≤9223372036854775807)) (.ret (AV.agg [.c (.v (.bool (decide (n<0)))),.c (.v (.string ⟨⟨aD n.natAbs⟩⟩)),.c (.v (.bool false)),.c (.v (.string {data:= #[]}))])))
theorem ahk:aN prog amG dn 1010 Tryz.f223 []=aqk:=by kernel_rfl
theorem ahl(x y:Int):aN prog amH dn 1010 Tryz.f172 [bY x,bY y]=amM x y:=by kernel_rfl
theorem ahm(x:Rat):aN prog amI dn 1010 Tryz.f174 [.agg (av x)]=amN x:=by kernel_rfl
theorem ahn(x:Rat):aN prog amJ dn 1010 Tryz.f151 [.agg (av x)]=amO x:=by kernel_rfl
theorem aho(x:Rat):aN prog amK dn 1010 Tryz.f153 [.agg (av x)]=amP x:=by kernel_rfl
theorem ahp(n:Int):aN prog amL dn 1010 Tryz.f28 [.c (.v (.int .i64 n))]=aql n:=by kernel_rfl
theorem ahq{d e:Nat}(h:d≠e):beq d e=false:=by
 cases hh:beq d e with
 | true=>exact absurd (Nat.eq_of_beq_eq_true hh) h
 | false=>rfl
theorem ahr(a b:Nat):(aD a==aD b)=decide (a=b):=by
 by_cases h:a=b
 ·subst h;simp
 ·rw[iB h]
  have:aD a≠aD b:=λhh=>h (I6 hh)
  simpa using this
theorem EH(a b:Int):(cu [aD a.natAbs==aD b.natAbs,decide (a<0)==decide (b<0)].reverse)=decide (a=b):=by
 show((decide (a<0)==decide (b<0))&&(aD a.natAbs==aD b.natAbs))=decide (a=b)
 rw[ahr];by_cases h:a=b
 ·subst h;simp
 ·rw[iB h]
  by_cases h1:a<0<;>by_cases h2:b<0<;>simp[h1,h2]<;>omega
theorem JD(d:Nat)(h:d≠0):(aY d==[])=decide (d=1):=by
 unfold aY;by_cases h1:d=1
 ·subst h1;rfl
 ·have:beq d 1=false:=ahq h1
  rw[this,iB h1];simp only[cond_false,vN,iB h]
theorem ahs(d e:Nat)(h:d≠0)(k:e≠0):(aY d==aY e)=decide (d=e):=by
 by_cases h1:d=e
 ·subst h1;simp
 ·rw[iB h1]
  have:aY d≠aY e:=by
   intro hh;have e1:=zF d h;have e2:=zF e k;rw[hh]at e1;exact h1 (e1.symm.trans e2)
  simpa using this
theorem acF:aqk.sat λr=>r=bY 1:=ah rfl (ah rfl (ak rfl))
theorem Rt(x y:Int)(h:y≠0):0<Int.gcd x y:=Int.gcd_pos_of_ne_zero_right x h
theorem aht(x y:Int)(h:y≠0):Int.gcd x y≤y.natAbs:=Nat.gcd_le_right _ (by omega)
theorem Mr(x y:Int)(hy:0<y):(cu [aD (y/(Int.gcd x y:Nat)).natAbs==aD (Int.natAbs 1),decide (y/((Int.gcd x y:Nat):Int)<0)==decide ((1:Int)<0)].reverse=true→AV.agg [.c (.v (.bool (decide (x/((Int.gcd x y:Nat):Int)<0)))),.c (.v (.string ⟨⟨aD (x/((Int.gcd x y:Nat):Int)).natAbs⟩⟩)),.c (.v (.bool false)),.c (.v (.string ⟨#[]⟩))]=oK (Rat.divInt x y))∧
  (cu [aD (y/(Int.gcd x y:Nat)).natAbs==aD (Int.natAbs 1),decide (y/((Int.gcd x y:Nat):Int)<0)==decide ((1:Int)<0)].reverse=false→AV.agg [.c (.v (.bool (decide (x/((Int.gcd x y:Nat):Int)<0)))),.c (.v (.string ⟨⟨aD (x/((Int.gcd x y:Nat):Int)).natAbs⟩⟩)),.c (.v (.bool (decide (y/((Int.gcd x y:Nat):Int)<0)))),.c (.v (.string ⟨⟨aD (y/((Int.gcd x y:Nat):Int)).natAbs⟩⟩))]=oK (Rat.divInt x y)):=by
 have hg:=Rt x y (by omega);have hd:((Int.gcd x y:Nat):Int) ∣ y:=Int.gcd_dvd_right ..;have hq:0<y/((Int.gcd x y:Nat):Int):=Int.ediv_pos_of_pos_of_dvd hy (by omega) hd;unfold oK;rw[Ol x y hy];rw[EH];constructor
 ·intro h
  have h:=iX h;rw[h];rfl
 ·intro h
  have h:=of_decide_eq_false h;have h1:aY (y/((Int.gcd x y:Nat):Int)).natAbs=aD (y/((Int.gcd x y:Nat):Int)).natAbs:=by
   unfold aY;have:beq (y/((Int.gcd x y:Nat):Int)).natAbs 1=false:=by
    have:(y/((Int.gcd x y:Nat):Int)).natAbs≠1:=by omega
    exact ahq this
   rw[this];rfl
  have h2:decide (y/((Int.gcd x y:Nat):Int)<0)=false:=iB (by omega);rw[h1,h2];rfl
theorem acG(x y:Int)(hy:y≠0)(lx:(aD x.natAbs).length≤90000000)(ly:(aD y.natAbs).length≤90000000):(amM x y).sat λr=>r=oK (Rat.divInt x y):=by
 have nx:(-x).natAbs=x.natAbs:=Int.natAbs_neg x;have ny:(-y).natAbs=y.natAbs:=Int.natAbs_neg y;have lx':(aD (-x).natAbs).length≤90000000:=by rw[nx];exact lx
 have ly':(aD (-y).natAbs).length≤90000000:=by rw[ny];exact ly
 have ng:Int.gcd (-x) (-y)=Int.gcd x y:=by simp[Int.gcd]
 have gp:=Rt x y hy;have gl:=aht x y hy;have lg:(aD ((Int.gcd x y:Nat):Int).natAbs).length≤90000000:=Nat.le_trans (Ho (by rw[Int.natAbs_natCast];exact gl)) ly;simp only[amM,mD,kR,ng];refine ah rfl (aj (λh=> ?_) (λh=> ?_))
 ·have hneg:y<0:=by
   have h:=iX h;unfold gq at h
   split at h
   ·assumption
   ·split at h<;>omega
  have e0:Rat.divInt x y=Rat.divInt (-x) (-y):=(Rat.neg_divInt_neg x y).symm;have hf:=Mr (-x) (-y) (by omega);rw[ng]at hf;rw[e0];refine ah rfl (ah rfl (ah rfl (ah rfl (ah (dK lx') (ah (dK ly') (ah rfl (ah rfl (ah (dA) (ah (dK lx') (ah (dK lg) (ah rfl (ah rfl (ah (dA) (ah (dK ly') (ah (dK lg) (aj (λhh=>ak ?_) (λhh=>ak ?_)))))))))))))))))
  ·exact hf.1 hh
  ·exact hf.2 hh
 ·have hpos:0<y:=by
   have h:=of_decide_eq_false h;unfold gq at h
   split at h
   ·omega
   ·omega
  have hf:=Mr x y hpos;refine ah rfl (ah rfl (ah (dK lx) (ah (dK ly) (ah rfl (ah rfl (ah (dA) (ah (dK lx) (ah (dK lg) (ah rfl (ah rfl (ah (dA) (ah (dK ly) (ah (dK lg) (aj (λhh=>ak ?_) (λhh=>ak ?_)))))))))))))))
  ·exact hf.1 hh
  ·exact hf.2 hh
theorem acH(x:Rat):(amN x).sat λr=>r=bY (x.den:Nat):=by
 have h0:=x.den_nz;unfold amN;refine aj (λh=>ak ?_) (λh=>ak ?_)
 ·have h:(aY x.den==[])=true:=by simpa[cu]using h
  rw[JD _ h0]at h;rw[iX h];rfl
 ·have h:(aY x.den==[])=false:=by simpa[cu]using h
  rw[JD _ h0]at h;have h:=of_decide_eq_false h;have h1:aY x.den=aD x.den:=by
   unfold aY;have:beq x.den 1=false:=ahq h;rw[this];rfl
  rw[h1];exact sI x.den
theorem acI(x:Rat):(amO x).sat λr=>r=oK (hold (-x)):=by
 rw[fU];simp only[amO,mD,kR];refine ah rfl (ak ?_);unfold oK av;rw[Rat.neg_num,Rat.neg_den];rfl
theorem acJ(x:Rat):(amP x).sat λr=>r=bR .i64 (gq x.num 0):=by
 simp only[amP,mD,kR];exact ah rfl (ak rfl)
theorem acK(n:Int)(h1: -9223372036854775808≤n)(h2:n≤9223372036854775807):(aql n).sat λr=>r=oK (n:Rat):=ah (dK h1) (ah (dK h2) (ak rfl))
theorem ahu: ∀f s,amG f=some s→aH prog f s:=bM Xi.spec
theorem Oo:aF prog 223 ZU:=by
 refine vE ahu (fn:=Tryz.f223) ?_ ?_
 ·intro args v cs h
  unfold ZU at h
  split at h
  ·cases h;rfl
  ·cases h
 ·intro args v cs h hc
  unfold ZU at h
  split at h
  ·skip
   cases h;have hs:=acF;rw[←ahk]at hs;generalize aN prog amG dn 1010 Tryz.f223 []=T at hs⊢;exact Tr.aZ (λr hr=>⟨by subst hr;rfl,bL.of_eq hr⟩) hs
  ·cases h
theorem ahv: ∀f s,amH f=some s→aH prog f s:=step_ok GN.spec (step_ok Xh.spec (step_ok XG.spec (step_ok ahh.spec (bM Oo.spec))))
theorem Oq:aF prog 172 ZV:=by
 refine vE ahv (fn:=Tryz.f172) ?_ ?_
 ·intro args v cs h
  unfold ZV at h
  split at h
  ·cases h;rfl
  ·cases h
 ·intro args v cs h hc
  unfold ZV at h
  split at h
  ·rename_i p a q b
   cases h;have h1:fI p a=true:=hc (fI p a) (by simp);have h2:fI q b=true:=hc (fI q b) (by simp);have h3:iv q b≠0:=dec (hc (decide (iv q b≠0)) (by simp));have h4:a.data.toList.length≤90000000:=dec (hc (decide (a.data.toList.length≤90000000)) (by simp));have h5:b.data.toList.length≤90000000:=dec (hc (decide (b.data.toList.length≤90000000)) (by simp));have l1:(aD (iv p a).natAbs).length≤90000000:=by rw[rR,gX _ (je h1)];exact h4
   have l2:(aD (iv q b).natAbs).length≤90000000:=by rw[rR,gX _ (je h2)];exact h5
   rw[zk h1,zk h2];generalize iv p a=x at*;generalize iv q b=y at*;have hs:=acG x y h3 l1 l2;rw[←ahl]at hs;generalize aN prog amH dn 1010 Tryz.f172 [bY x,bY y]=T at hs⊢;generalize Rat.divInt x y=z at hs⊢;exact Tr.aZ (λr hr=>⟨by subst hr;rfl,bL.of_eq hr⟩) hs
  ·cases h
theorem ahw: ∀f s,amI f=some s→aH prog f s:=bM Oo.spec
theorem Ot:aF prog 174 ZW:=by
 refine vE ahw (fn:=Tryz.f174) ?_ ?_
 ·intro args v cs h
  unfold ZW at h
  split at h
  ·cases h;rfl
  ·cases h
 ·intro args v cs h hc
  unfold ZW at h
  split at h
  ·rename_i l
   cases h;have h1:aK l=true:=hc (aK l) (by simp);obtain⟨x,rfl⟩: ∃x,l=av x:=⟨_,dD h1⟩
   simp only[bS]at*;have hs:=acH x;rw[←ahm]at hs;generalize aN prog amI dn 1010 Tryz.f174 [.agg (av x)]=T at hs⊢;exact Tr.aZ (λr hr=>⟨by subst hr;rfl,bL.of_eq hr⟩) hs
  ·cases h
theorem ahx: ∀f s,amJ f=some s→aH prog f s:=bM Xh.spec
theorem Ou:aF prog 151 ZX:=by
 refine vE ahx (fn:=Tryz.f151) ?_ ?_
 ·intro args v cs h
  unfold ZX at h
  split at h
  ·cases h;rfl
  ·cases h
 ·intro args v cs h hc
  unfold ZX at h
  split at h
  ·rename_i l
   cases h;have h1:aK l=true:=hc (aK l) (by simp);obtain⟨x,rfl⟩: ∃x,l=av x:=⟨_,dD h1⟩
   simp only[bS]at*;have hs:=acI x;rw[←ahn]at hs;generalize aN prog amJ dn 1010 Tryz.f151 [.agg (av x)]=T at hs⊢;generalize hold (-x)=z at hs⊢;exact Tr.aZ (λr hr=>⟨by subst hr;rfl,bL.of_eq hr⟩) hs
  ·cases h
theorem ahy: ∀f s,amK f=some s→aH prog f s:=bM GN.spec
theorem Dc:aF prog 153 Rq:=by
 refine vE ahy (fn:=Tryz.f153) ?_ ?_
 ·intro args v cs h
  unfold Rq at h
  split at h
  ·cases h;rfl
  ·cases h
 ·intro args v cs h hc
  unfold Rq at h
  split at h
  ·rename_i l
   cases h;have h1:aK l=true:=hc (aK l) (by simp);obtain⟨x,rfl⟩: ∃x,l=av x:=⟨_,dD h1⟩
   simp only[bS]at*;have hs:=acJ x;rw[←aho]at hs;generalize aN prog amK dn 1010 Tryz.f153 [.agg (av x)]=T at hs⊢;generalize gq x.num 0=z at hs⊢;exact Tr.aZ (λr hr=>⟨by subst hr;rfl,bL.of_eq hr⟩) hs
  ·cases h
theorem ahz: ∀f s,amL f=some s→aH prog f s:=bM Xi.spec
theorem Df:aF prog 28 Rs:=by
 refine vE ahz (fn:=Tryz.f28) ?_ ?_
 ·intro args v cs h
  unfold Rs at h
  split at h
  ·cases h;rfl
  ·cases h
 ·intro args v cs h hc
  unfold Rs at h
  split at h
  ·rename_i n
   cases h;have h1: -9223372036854775808≤n:=dec (hc (decide (-9223372036854775808≤n)) (by simp));have h2:n≤9223372036854775807:=dec (hc (decide (n≤9223372036854775807)) (by simp));have hs:=acK n h1 h2;rw[←ahp]at hs;generalize aN prog amL dn 1010 Tryz.f28 [.c (.v (.int .i64 n))]=T at hs⊢;generalize (n:Rat)=z at hs⊢;exact Tr.aZ (λr hr=>⟨by subst hr;rfl,bL.of_eq hr⟩) hs
  ·cases h
end Go.bA
namespace Go.bA
open Go.Proofs
def sJ(x y:Rat):Bool:=uQ x.num&&uQ x.den&&uQ y.num&&uQ y.den
def jB(x y:Rat):Bool:=sJ x y&&uQ (x.num*y.den+y.num*x.den)&&uQ (x.den*y.den)
def j5(x y:Rat):Bool:=sJ x y&&uQ (x.num*y.num)&&uQ (x.den*y.den)
def Ov(x y:Rat):Bool:=sJ x y&&uQ (x.num*y.den)&&uQ (x.den*y.num)
def Dh(x y:Rat):Int×Int×Int:=if x.den=y.den then(x.num,y.num,x.den)else(x.num*y.den,y.num*x.den,x.den*y.den)
def acL:List AV→Option (AV×List Bool)
 | [.agg l,.agg m]=>some (.fG [bY (Dh (ay l) (ay m)).1,bY (Dh (ay l) (ay m)).2.1,bY (Dh (ay l) (ay m)).2.2],[aK l,aK m,sJ (ay l) (ay m)])
 | _=>none
def JE:List AV→Option (AV×List Bool)
 | [.agg l,.agg m]=>some (oK (hold (ay l+ay m)),[aK l,aK m,jB (ay l) (ay m)])
 | _=>none
def JF:List AV→Option (AV×List Bool)
 | [.agg l,.agg m]=>some (oK (hold (ay l*ay m)),[aK l,aK m,j5 (ay l) (ay m)])
 | _=>none
def Ru:List AV→Option (AV×List Bool)
 | [.agg l,.agg m]=>some (oK (hold (ay l-ay m)),[aK l,aK m,jB (ay l) (-(ay m))])
 | _=>none
def ahA:List AV→Option (AV×List Bool)
 | [.agg [.c (.v (.bool p)),.c (.v (.string a))],.agg [.c (.v (.bool q)),.c (.v (.string b))]]=>some (.fG [oK (Rat.divInt (iv p a) (iv q b)),bR .i64 0],[fI p a,fI q b,decide (iv q b≠0),decide (a.data.toList.length≤90000000),decide (b.data.toList.length≤90000000)])
 | _=>none
def acM:List AV→Option (AV×List Bool)
 | [.agg l,.agg m]=>some (.fG [oK (hold (ay l/ay m)),bR .i64 0],[aK l,aK m,Ov (ay l) (ay m),decide (ay m≠0)])
 | _=>none
def acN:List AV→Option (AV×List Bool)
 | [.agg l,.agg m]=>some (bR .i64 (gq ((ay l).num*(ay m).den) ((ay m).num*(ay l).den)),[aK l,aK m,sJ (ay l) (ay m)])
 | _=>none
def amQ:FuncId→Option Spec:=λf=>bif beq f 174 then some (au ZW)else bif beq f 173 then some (au ZI)else none
def amR:FuncId→Option Spec:=λf=>bif beq f 175 then some (au acL)else bif beq f 176 then some (au ag3)else bif beq f 172 then some (au ZV)else none
def amS:FuncId→Option Spec:=λf=>bif beq f 173 then some (au ZI)else bif beq f 174 then some (au ZW)else bif beq f 172 then some (au ZV)else none
def amT:FuncId→Option Spec:=λf=>bif beq f 151 then some (au ZX)else bif beq f 122 then some (au JE)else none
def amU:FuncId→Option Spec:=λf=>bif beq f 193 then some (au Uw)else bif beq f 172 then some (au ZV)else none
def amV:FuncId→Option Spec:=λf=>bif beq f 174 then some (au ZW)else bif beq f 173 then some (au ZI)else bif beq f 215 then some (au ahA)else none
def amW:FuncId→Option Spec:=λf=>bif beq f 175 then some (au acL)else bif beq f 241 then some (au acn)else none
def amX(x:Rat)(y:Rat):Tr AV:=
 let x1:List UInt8:=aD x.num.natAbs
 let x2:ByteArray:=⟨⟨x1⟩⟩
 let x3:List AV:=[.c (.v (.bool (decide (x.num<0)))),.c (.v (.string x2)),.c (.v (.bool false)),.c (.v (.string ⟨⟨aY x.den⟩⟩))]
 let x4:List UInt8:=aD y.num.natAbs
 let x5:ByteArray:=⟨⟨x4⟩⟩
 let x6:Int:= ↑(ay x3).den
 let x7:List UInt8:=aD x6.natAbs
 let x8:ByteArray:=⟨⟨x7⟩⟩
 let x9:List AV:=[.c (.v (.bool (decide (y.num<0)))),.c (.v (.string x5)),.c (.v (.bool false)),.c (.v (.string ⟨⟨aY y.den⟩⟩))]
 let x10:Int:= ↑(ay x9).den
 let iW:List UInt8:=aD x10.natAbs
 let kL:ByteArray:=⟨⟨iW⟩⟩
 let jA:Nat:=iW.length
 let kM:Nat:=x7.length
 let mO:Int:=iv (decide (x10<0)) kL
 let nu:Int:=iv (decide (x.num<0)) x2*mO
 let jR:Int:=iv (decide (x6<0)) x8
 let x18:Int:=iv (decide (y.num<0)) x5*jR
 .ite (cu [aY x.den==aY y.den,false==false].reverse) (.need (aK x3) (.ret (AV.fG [AV.agg [.c (.v (.bool (decide (x.num<0)))),.c (.v (.string x2))],AV.agg [.c (.v (.bool (decide (y.num<0)))),.c (.v (.string x5))],AV.agg [.c (.v (.bool false)),.c (.v (.string x8))]]))) (.need (aK x9) (.need (fI (decide (x.num<0)) x2) (.need (fI (decide (x10<0)) kL) (.need (decide (x1.length≤100000000)) (.need (decide (jA≤100000000)) (.need (aK x3) (.need (fI (decide (y.num<0)) x5) (.need (fI (decide (x6<0)) x8) (.need (decide (x4.length≤100000000)) (.need (decide (kM≤100000000)) (.need (aK x3) (.need (aK x9) (.need (fI (decide (x6<0)) x8) (.need (fI (decide (x10<0)) kL) (.need (decide (kM≤100000000)) (.need (decide (jA≤100000000)) (.ret (AV.fG [AV.agg [.c (.v (.bool (decide (nu<0)))),.c (.v (.string ⟨⟨aD nu.natAbs⟩⟩))],AV.agg [.c (.v (.bool (decide (x18<0)))),.c (.v (.string ⟨⟨aD x18.natAbs⟩⟩))],AV.agg [.c (.v (.bool false)),.c (.v (.string ⟨⟨aD (jR*mO).natAbs⟩⟩))]]))))))))))))))))))
def amY(x:Rat)(y:Rat):Tr AV:=
 let x1:List AV:=[.c (.v (.bool (decide (x.num<0)))),.c (.v (.string ⟨⟨aD x.num.natAbs⟩⟩)),.c (.v (.bool false)),.c (.v (.string ⟨⟨aY x.den⟩⟩))]
 let x2:List AV:=[.c (.v (.bool (decide (y.num<0)))),.c (.v (.string ⟨⟨aD y.num.natAbs⟩⟩)),.c (.v (.bool false)),.c (.v (.string ⟨⟨aY y.den⟩⟩))]
 let x3:Int:=(Dh (ay x1) (ay x2)).fst
 let x4:List UInt8:=aD x3.natAbs
 let x5:ByteArray:=⟨⟨x4⟩⟩
 let x6:Int:=(Dh (ay x1) (ay x2)).snd.fst
 let x7:List UInt8:=aD x6.natAbs
 let x8:ByteArray:=⟨⟨x7⟩⟩
 let x9:Nat:=x4.length
 let x10:Nat:=x7.length
 let iW:Int:=iv (decide (x3<0)) x5+iv (decide (x6<0)) x8
 let kL:List UInt8:=aD iW.natAbs
 let jA:ByteArray:=⟨⟨kL⟩⟩
 let kM:Int:=(Dh (ay x1) (ay x2)).snd.snd
 let mO:List UInt8:=aD kM.natAbs
 let nu:ByteArray:=⟨⟨mO⟩⟩
 let jR:Int:=iv (decide (kM<0)) nu
 let x18:Nat:=kL.length
 let rO:Nat:=mO.length
 let x20:Int:=(Rat.divInt (iv (decide (iW<0)) jA) jR).num
 .need (aK x1) (.need (aK x2) (.need (sJ (ay x1) (ay x2)) (.need (fI (decide (x3<0)) x5) (.need (fI (decide (x6<0)) x8) (.need (decide (x9≤100000000)) (.need (decide (x10≤100000000)) (.need (fI (decide (iW<0)) jA) (.need (fI (decide (kM<0)) nu) (.need (decide (jR≠0)) (.need (decide (x18≤90000000)) (.need (decide (rO≤90000000)) (.ret (AV.agg [.c (.v (.bool (decide (x20<0)))),.c (.v (.string ⟨⟨aD x20.natAbs⟩⟩)),.c (.v (.bool false)),.c (.v (.string ⟨⟨aY (Rat.divInt (iv (decide (iW<0)) jA) jR).den⟩⟩))])))))))))))))
def amZ(x:Rat)(y:Rat):Tr AV:=
 let x1:List UInt8:=aD x.num.natAbs
 let x2:ByteArray:=⟨⟨x1⟩⟩
 let x3:List UInt8:=aD y.num.natAbs
 let x4:ByteArray:=⟨⟨x3⟩⟩
 let x5:List AV:=[.c (.v (.bool (decide (x.num<0)))),.c (.v (.string x2)),.c (.v (.bool false)),.c (.v (.string ⟨⟨aY x.den⟩⟩))]
 let x6:List AV:=[.c (.v (.bool (decide (y.num<0)))),.c (.v (.string x4)),.c (.v (.bool false)),.c (.v (.string ⟨⟨aY y.den⟩⟩))]
 let x7:Int:= ↑(ay x5).den
 let x8:List UInt8:=aD x7.natAbs
 let x9:ByteArray:=⟨⟨x8⟩⟩
 let x10:Int:= ↑(ay x6).den
 let iW:List UInt8:=aD x10.natAbs
 let kL:ByteArray:=⟨⟨iW⟩⟩
 let jA:Nat:=x8.length
 let kM:Nat:=iW.length
 let mO:Int:=iv (decide (x.num<0)) x2*iv (decide (y.num<0)) x4
 let nu:List UInt8:=aD mO.natAbs
 let jR:ByteArray:=⟨⟨nu⟩⟩
 let x18:Int:=iv (decide (x7<0)) x9*iv (decide (x10<0)) kL
 let rO:List UInt8:=aD x18.natAbs
 let x20:ByteArray:=⟨⟨rO⟩⟩
 let x21:Int:=iv (decide (x18<0)) x20
 let xH:Nat:=nu.length
 let x23:Nat:=rO.length
 let x24:Int:=(Rat.divInt (iv (decide (mO<0)) jR) x21).num
 .need (fI (decide (x.num<0)) x2) (.need (fI (decide (y.num<0)) x4) (.need (decide (x1.length≤100000000)) (.need (decide (x3.length≤100000000)) (.need (aK x5) (.need (aK x6) (.need (fI (decide (x7<0)) x9) (.need (fI (decide (x10<0)) kL) (.need (decide (jA≤100000000)) (.need (decide (kM≤100000000)) (.need (fI (decide (mO<0)) jR) (.need (fI (decide (x18<0)) x20) (.need (decide (x21≠0)) (.need (decide (xH≤90000000)) (.need (decide (x23≤90000000)) (.ret (AV.agg [.c (.v (.bool (decide (x24<0)))),.c (.v (.string ⟨⟨aD x24.natAbs⟩⟩)),.c (.v (.bool false)),.c (.v (.string ⟨⟨aY (Rat.divInt (iv (decide (mO<0)) jR) x21).den⟩⟩))]))))))))))))))))
def am0(x:Rat)(y:Rat):Tr AV:=
 let x1:List AV:=[.c (.v (.bool (decide (y.num<0)))),.c (.v (.string ⟨⟨aD y.num.natAbs⟩⟩)),.c (.v (.bool false)),.c (.v (.string ⟨⟨aY y.den⟩⟩))]
 let x2:List AV:=[.c (.v (.bool (decide (x.num<0)))),.c (.v (.string ⟨⟨aD x.num.natAbs⟩⟩)),.c (.v (.bool false)),.c (.v (.string ⟨⟨aY x.den⟩⟩))]
 let x3:Int:=(hold (-ay x1)).num
 let x4:List AV:=[.c (.v (.bool (decide (x3<0)))),.c (.v (.string ⟨⟨aD x3.natAbs⟩⟩)),.c (.v (.bool false)),.c (.v (.string ⟨⟨aY (hold (-ay x1)).den⟩⟩))]
 let x5:Int:=(hold (ay x2+ay x4)).num
 .need (aK x1) (.need (aK x2) (.need (aK x4) (.need (jB (ay x2) (ay x4)) (.ret (AV.agg [.c (.v (.bool (decide (x5<0)))),.c (.v (.string ⟨⟨aD x5.natAbs⟩⟩)),.c (.v (.bool false)),.c (.v (.string ⟨⟨aY (hold (ay x2+ay x4)).den⟩⟩))])))))
def am1(x:Int)(y:Int):Tr AV:=
 let x1:ByteArray:=⟨⟨aD y.natAbs⟩⟩
 let x2:Int:=iv (decide (y<0)) x1
 let x3:ByteArray:=⟨⟨aD x.natAbs⟩⟩
 let x4:Int:=(Rat.divInt (iv (decide (x<0)) x3) x2).num
 .need (fI (decide (y<0)) x1) (.ite (gq x2 0==0) (.ret (AV.fG [AV.agg [.c (.v (.bool false)),.c (.v (.string {data:= #[]})),.c (.v (.bool false)),.c (.v (.string {data:= #[]}))],.c (.v (.int i64 6))])) (.need (fI (decide (x<0)) x3) (.need (fI (decide (y<0)) x1) (.need (decide (x2≠0)) (.need (decide ((aD x.natAbs).length≤90000000)) (.need (decide ((aD y.natAbs).length≤90000000)) (.ret (AV.fG [AV.agg [.c (.v (.bool (decide (x4<0)))),.c (.v (.string ⟨⟨aD x4.natAbs⟩⟩)),.c (.v (.bool false)),.c (.v (.string ⟨⟨aY (Rat.divInt (iv (decide (x<0)) x3) x2).den⟩⟩))],.c (.v (.int i64 0))]))))))))
def am2(x:Rat)(y:Rat):Tr AV:=
 let x1:List UInt8:=aD y.num.natAbs
 let x2:ByteArray:=⟨⟨x1⟩⟩
 let x3:List AV:=[.c (.v (.bool (decide (y.num<0)))),.c (.v (.string x2)),.c (.v (.bool false)),.c (.v (.string ⟨⟨aY y.den⟩⟩))]
 let x4:List UInt8:=aD x.num.natAbs
 let x5:ByteArray:=⟨⟨x4⟩⟩
 let x6:Int:= ↑(ay x3).den
 let x7:List UInt8:=aD x6.natAbs
 let x8:ByteArray:=⟨⟨x7⟩⟩
 let x9:Nat:=x7.length
 let x10:List AV:=[.c (.v (.bool (decide (x.num<0)))),.c (.v (.string x5)),.c (.v (.bool false)),.c (.v (.string ⟨⟨aY x.den⟩⟩))]
 let iW:Int:= ↑(ay x10).den
 let kL:List UInt8:=aD iW.natAbs
 let jA:ByteArray:=⟨⟨kL⟩⟩
 let kM:Nat:=kL.length
 let mO:Int:=iv (decide (x.num<0)) x5*iv (decide (x6<0)) x8
 let nu:List UInt8:=aD mO.natAbs
 let jR:ByteArray:=⟨⟨nu⟩⟩
 let x18:Int:=iv (decide (iW<0)) jA*iv (decide (y.num<0)) x2
 let rO:List UInt8:=aD x18.natAbs
 let x20:ByteArray:=⟨⟨rO⟩⟩
 let x21:Int:=iv (decide (x18<0)) x20
 let xH:Nat:=nu.length
 let x23:Nat:=rO.length
 let x24:Int:=(Rat.divInt (iv (decide (mO<0)) jR) x21).num
 .need (aK x3) (.need (fI (decide (x.num<0)) x5) (.need (fI (decide (x6<0)) x8) (.need (decide (x4.length≤100000000)) (.need (decide (x9≤100000000)) (.need (aK x10) (.need (fI (decide (iW<0)) jA) (.need (fI (decide (y.num<0)) x2) (.need (decide (kM≤100000000)) (.need (decide (x1.length≤100000000)) (.need (fI (decide (mO<0)) jR) (.need (fI (decide (x18<0)) x20) (.need (decide (x21≠0)) (.need (decide (xH≤90000000)) (.need (decide (x23≤90000000)) (.ret (AV.fG [AV.agg [.c (.v (.bool (decide (x24<0)))),.c (.v (.string ⟨⟨aD x24.natAbs⟩⟩)),.c (.v (.bool false)),.c (.v (.string ⟨⟨aY (Rat.divInt (iv (decide (mO<0)) jR) x21).den⟩⟩))],.c (.v (.int i64 0))]))))))))))))))))
def am3(x:Rat)(y:Rat):Tr AV:=
 let x1:List UInt8:=aD x.num.natAbs
 let x2:List UInt8:=aD y.num.natAbs
 let x3:List AV:=[.c (.v (.bool (decide (x.num<0)))),.c (.v (.string ⟨⟨x1⟩⟩)),.c (.v (.bool false)),.c (.v (.string ⟨⟨aY x.den⟩⟩))]
 let x4:List AV:=[.c (.v (.bool (decide (y.num<0)))),.c (.v (.string ⟨⟨x2⟩⟩)),.c (.v (.bool false)),.c (.v (.string ⟨⟨aY y.den⟩⟩))]
 let x5:Int:=(Dh (ay x3) (ay x4)).fst
 let x6:ByteArray:=⟨⟨aD x5.natAbs⟩⟩
 let x7:Int:=(Dh (ay x3) (ay x4)).snd.fst
 let x8:ByteArray:=⟨⟨aD x7.natAbs⟩⟩
 .ite (cu [cu [aY x.den==aY y.den,false==false].reverse,cu [x1==x2,decide (x.num<0)==decide (y.num<0)].reverse].reverse) (.ret (.c (.v (.int i64 0)))) (.need (aK x3) (.need (aK x4) (.need (sJ (ay x3) (ay x4)) (.need (fI (decide (x5<0)) x6) (.need (fI (decide (x7<0)) x8) (.ret (.c (.v (.int i64 (gq (iv (decide (x5<0)) x6) (iv (decide (x7<0)) x8)))))))))))
theorem ahB(x y:Rat):aN prog amQ dn 1010 Tryz.f175 [.agg (av x),.agg (av y)]=amX x y:=by kernel_rfl
theorem ahC(x y:Rat):aN prog amR dn 1010 Tryz.f122 [.agg (av x),.agg (av y)]=amY x y:=by kernel_rfl
theorem ahD(x y:Rat):aN prog amS dn 1010 Tryz.f121 [.agg (av x),.agg (av y)]=amZ x y:=by kernel_rfl
theorem ahE(x y:Rat):aN prog amT dn 1010 Tryz.f120 [.agg (av x),.agg (av y)]=am0 x y:=by kernel_rfl
theorem ahF(x y:Int):aN prog amU dn 1010 Tryz.f215 [bY x,bY y]=am1 x y:=by kernel_rfl
theorem ahG(x y:Rat):aN prog amV dn 1010 Tryz.f168 [.agg (av x),.agg (av y)]=am2 x y:=by kernel_rfl
theorem ahH(x y:Rat):aN prog amW dn 1010 Tryz.f192 [.agg (av x),.agg (av y)]=am3 x y:=by kernel_rfl
theorem sat_true{α:Type}{t:Tr α}{Q:α→Prop}:(need true t).sat Q=t.sat Q:=propext ⟨λh=>h.2 rfl,λh=>⟨rfl,λ_=>h⟩⟩
theorem aqm{z:Int}(h:uQ z=true):(aD z.natAbs).length≤1000000:=ag9 (iX h)
theorem Gp{z:Int}(h:uQ z=true):decide ((aD z.natAbs).length≤100000000)=true:=dK (Nat.le_trans (aqm h) (by omega))
theorem F5{z:Int}(h:uQ z=true):decide ((aD z.natAbs).length≤90000000)=true:=dK (Nat.le_trans (aqm h) (by omega))
theorem akS{z:Int}(h:z.natAbs<BIG*BIG):decide ((aD z.natAbs).length≤100000000)=true:=dK (Nat.le_trans (acu h) (by omega))
theorem Ms{a b:Int}(h:uQ a=true)(k:uQ b=true):(a*b).natAbs<BIG*BIG:=by
 have h:=iX h;have k:=iX k;rw[Int.natAbs_mul];exact Nat.mul_lt_mul'' h k
theorem XH{a:Int}(h:uQ a=true):a.natAbs<BIG*BIG:=by
 have h:=iX h;refine Nat.lt_of_lt_of_le h ?_;have h1:1≤BIG:=Nat.le_trans (by decide) uy;have:=Nat.mul_le_mul_left BIG h1
 rwa [Nat.mul_one]at this
theorem yI{x y:Rat}(h:sJ x y=true):uQ x.num=true∧uQ x.den=true∧uQ y.num=true∧uQ y.den=true:=by
 simp only[sJ,bI]at h;exact⟨h.1.1.1,h.1.1.2,h.1.2,h.2⟩
theorem Rv(d:Nat):AV.agg [.c (.v (.bool false)),.c (.v (.string ⟨⟨aD ((d:Nat):Int).natAbs⟩⟩))]=bY (d:Int):=sI d
theorem Rw(x y:Rat):(cu [aY x.den==aY y.den,false==false].reverse)=decide (x.den=y.den):=by
 rw[ahs _ _ x.den_nz y.den_nz];simp[cu]
theorem acO(x y:Rat)(h:sJ x y=true):(amX x y).sat λr=>r= .fG [bY (Dh x y).1,bY (Dh x y).2.1,bY (Dh x y).2.2]:=by
 obtain⟨h1,h2,h3,h4⟩:=yI h;simp only[amX,fP,eT,mD,kR,Gp h1,Gp h2,Gp h3,Gp h4,sat_true,Rw];refine aj (λhd=> ?_) (λhd=> ?_)<;>simp only[sat_true]<;>refine ak ?_
 ·have hd:=iX hd
  unfold Dh;rw[if_pos hd];simp only[Rv];rfl
 ·have hd:=of_decide_eq_false hd
  unfold Dh;rw[if_neg hd];have e:((x.den:Nat):Int)*((y.den:Nat):Int)=((x.den*y.den:Nat):Int):=by simp
  simp only[e,Rv];rfl
theorem ZY{x y:Rat}(h:sJ x y=true):(Dh x y).1.natAbs<BIG*BIG∧(Dh x y).2.1.natAbs<BIG*BIG:=by
 obtain⟨h1,h2,h3,h4⟩:=yI h;unfold Dh
 split
 ·exact⟨XH h1,XH h3⟩
 ·exact⟨Ms h1 h4,Ms h3 h2⟩
theorem ahI(x y:Rat):Rat.divInt ((Dh x y).1+(Dh x y).2.1) (Dh x y).2.2=x+y:=by
 have hx:=x.den_nz;have hy:=y.den_nz;have e:x+y=Rat.divInt (x.num*y.den+y.num*x.den) (x.den*y.den:Int):=by
  rw[Rat.add_def', ←Rat.divInt_ofNat,Int.natCast_mul]
 unfold Dh
 split
 ·rename_i hd
  change Rat.divInt (x.num+y.num) (x.den:Int)=x+y
  rw[e,hd];rw[Rat.divInt_eq_divInt_iff (by omega) (Int.mul_ne_zero (by omega) (by omega))]
  grind
 ·exact e.symm
theorem ahJ(x y:Rat):0<(Dh x y).2.2:=by
 have hx:=x.den_pos;have hy:=y.den_pos;unfold Dh
 split
 ·simp only[];omega
 ·simp only[];exact Int.mul_pos (by omega) (by omega)
theorem ahK{x y:Rat}(h:jB x y=true):uQ ((Dh x y).1+(Dh x y).2.1)=true∧uQ (Dh x y).2.2=true:=by
 simp only[jB,bI]at h;obtain⟨⟨h0,h5⟩,h6⟩:=h;obtain⟨h1,h2,h3,h4⟩:=yI h0;unfold Dh
 split
 ·rename_i hd
  refine⟨?_,h2⟩;have h5:=iX h5;refine dK ?_;rw[hd, ←Int.add_mul,Int.natAbs_mul,Int.natAbs_natCast]at h5;have hy:=y.den_pos;exact Nat.lt_of_le_of_lt (Nat.le_mul_of_pos_right _ hy) h5
 ·exact⟨h5,h6⟩
theorem acP(x y:Rat)(h:jB x y=true):(amY x y).sat λr=>r=oK (hold (x+y)):=by
 have h0:sJ x y=true:=by simp only[jB,bI]at h;exact h.1.1
 obtain⟨b1,b2⟩:=ZY h0;obtain⟨b3,b4⟩:=ahK h;have hp:=ahJ x y;have hz:decide ((Dh x y).2.2≠0)=true:=dA;simp only[amY,fP,eT,mD,kR,h0,akS b1,akS b2,F5 b3,F5 b4,hz,sat_true,fU,ahI];exact ak rfl
theorem Vv(x y:Rat):Rat.divInt (x.num*y.num) (x.den*y.den:Int)=x*y:=by
 rw[Rat.mul_def', ←Rat.divInt_ofNat,Int.natCast_mul]
theorem Vw(x y:Rat):decide (((x.den:Nat):Int)*((y.den:Nat):Int)≠0)=true:=by
 have hx:=x.den_pos;have hy:=y.den_pos;have:=Int.mul_pos (a:=(x.den:Int)) (b:=(y.den:Int)) (by omega) (by omega);exact dA
theorem acQ(x y:Rat)(h:j5 x y=true):(amZ x y).sat λr=>r=oK (hold (x*y)):=by
 simp only[j5,bI]at h;obtain⟨⟨h0,h5⟩,h6⟩:=h;obtain⟨h1,h2,h3,h4⟩:=yI h0;simp only[amZ,fP,eT,mD,kR,Gp h1,Gp h2,Gp h3,Gp h4,F5 h5,F5 h6,Vw,sat_true,fU,Vv];exact ak rfl
theorem acR(x y:Rat)(h:jB x (-y)=true):(am0 x y).sat λr=>r=oK (hold (x-y)):=by
 simp only[am0,fP,eT,fU,h,sat_true,Rat.sub_eq_add_neg];exact ak rfl
theorem acS(x y:Int)(hy:y≠0)(bx:(aD x.natAbs).length≤90000000)(D7:(aD y.natAbs).length≤90000000):(am1 x y).sat λr=>r= .fG [oK (Rat.divInt x y),bR .i64 0]:=by
 have lx:decide ((aD x.natAbs).length≤90000000)=true:=dK bx;have ly:decide ((aD y.natAbs).length≤90000000)=true:=dK D7;have hz:decide (y≠0)=true:=dK hy;have hs:(gq y 0==0)=false:=by
  unfold gq
  split
  ·rfl
  ·split
   ·rfl
   ·omega
 simp only[am1,mD,kR,lx,ly,hz,hs,sat_true];refine aj (λh=>by cases h) (λ_=> ?_);simp only[sat_true];exact ak rfl
theorem JG(x y:Rat):Rat.divInt (x.num*y.den) ((x.den:Int)*y.num)=x/y:=by
 rw[Rat.div_def,Rat.inv_def]
 conv=>rhs;rw[←Rat.num_divInt_den x]
 rw[Rat.divInt_mul_divInt]
theorem acT(x y:Rat)(h:Ov x y=true)(hy:y≠0):(am2 x y).sat λr=>r= .fG [oK (hold (x/y)),bR .i64 0]:=by
 simp only[Ov,bI]at h;obtain⟨⟨h0,h5⟩,h6⟩:=h;obtain⟨h1,h2,h3,h4⟩:=yI h0;have hn:y.num≠0:=λhh=>hy (Rat.num_eq_zero.1 hh)
 have hz:decide (((x.den:Nat):Int)*y.num≠0)=true:=dK (Int.mul_ne_zero (by have:=x.den_nz;omega) hn);simp only[am2,fP,eT,mD,kR,Gp h1,Gp h2,Gp h3,Gp h4,F5 h5,F5 h6,hz,sat_true,fU,JG];exact ak rfl
theorem Di(x y:Rat):(cu [cu [aY x.den==aY y.den,false==false].reverse,cu [aD x.num.natAbs==aD y.num.natAbs,decide (x.num<0)==decide (y.num<0)].reverse].reverse)=decide (x=y):=by
 rw[Rw,EH]
 show(decide (x.num=y.num)&&decide (x.den=y.den))=decide (x=y)
 by_cases h:x=y
 ·subst h;simp
 ·rw[iB h]
  by_cases h1:x.num=y.num
  ·have h2:x.den≠y.den:=λh2=>h (Rat.ext h1 h2)
   rw[iB h2,Bool.and_false]
  ·rw[iB h1,Bool.false_and]
theorem ahL(a b d:Int)(h:0<d):gq (a*d) (b*d)=gq a b:=by
 have h1:a*d<b*d↔a<b:=Int.mul_lt_mul_right h;have h2:b*d<a*d↔b<a:=Int.mul_lt_mul_right h;simp only[gq,gt_iff_lt,h1,h2]
theorem acU(x y:Rat)(h:sJ x y=true):(am3 x y).sat λr=>r=bR .i64 (gq (x.num*y.den) (y.num*x.den)):=by
 simp only[am3,fP,eT,mD,kR,h,sat_true,Di];refine aj (λhh=>ak ?_) (λ_=> ?_)
 ·have hh:=iX hh
  subst hh;have:gq (x.num*x.den) (x.num*x.den)=0:=by simp[gq]
  rw[this];rfl
 ·simp only[sat_true]
  refine ak ?_;unfold Dh
  split
  ·rename_i hd
   rw[hd,ahL _ _ _ (by have:=y.den_pos;omega)];rfl
  ·rfl
theorem ahM: ∀f s,amQ f=some s→aH prog f s:=step_ok Ot.spec (bM Oj.spec)
theorem XI:aF prog 175 acL:=by
 refine vE ahM (fn:=Tryz.f175) ?_ ?_
 ·intro args v cs h
  unfold acL at h
  split at h
  ·cases h;rfl
  ·cases h
 ·intro args v cs h hc
  unfold acL at h
  split at h
  ·rename_i l m
   cases h;have h1:aK l=true:=hc (aK l) (by simp);have h2:aK m=true:=hc (aK m) (by simp);have h3:sJ (ay l) (ay m)=true:=hc (sJ (ay l) (ay m)) (by simp);obtain⟨x,rfl⟩: ∃x,l=av x:=⟨_,dD h1⟩
   obtain⟨y,rfl⟩: ∃y,m=av y:=⟨_,dD h2⟩
   simp only[bS]at*;have hs:=acO x y h3;rw[←ahB]at hs;generalize aN prog amQ dn 1010 Tryz.f175 [.agg (av x),.agg (av y)]=T at hs⊢;generalize Dh x y=z at hs⊢;exact Tr.aZ (λr hr=>⟨by subst hr;rfl,bL.of_eq hr⟩) hs
  ·cases h
theorem ahN: ∀f s,amR f=some s→aH prog f s:=step_ok XI.spec (step_ok ag7.spec (bM Oq.spec))
theorem uz:aF prog 122 JE:=by
 refine vE ahN (fn:=Tryz.f122) ?_ ?_
 ·intro args v cs h
  unfold JE at h
  split at h
  ·cases h;rfl
  ·cases h
 ·intro args v cs h hc
  unfold JE at h
  split at h
  ·rename_i l m
   cases h;have h1:aK l=true:=hc (aK l) (by simp);have h2:aK m=true:=hc (aK m) (by simp);have h3:jB (ay l) (ay m)=true:=hc (jB (ay l) (ay m)) (by simp);obtain⟨x,rfl⟩: ∃x,l=av x:=⟨_,dD h1⟩
   obtain⟨y,rfl⟩: ∃y,m=av y:=⟨_,dD h2⟩
   simp only[bS]at*;have hs:=acP x y h3;rw[←ahC]at hs;generalize aN prog amR dn 1010 Tryz.f122 [.agg (av x),.agg (av y)]=T at hs⊢;generalize hold (x+y)=z at hs⊢;exact Tr.aZ (λr hr=>⟨by subst hr;rfl,bL.of_eq hr⟩) hs
  ·cases h
theorem ahO: ∀f s,amS f=some s→aH prog f s:=step_ok Oj.spec (step_ok Ot.spec (bM Oq.spec))
theorem uD:aF prog 121 JF:=by
 refine vE ahO (fn:=Tryz.f121) ?_ ?_
 ·intro args v cs h
  unfold JF at h
  split at h
  ·cases h;rfl
  ·cases h
 ·intro args v cs h hc
  unfold JF at h
  split at h
  ·rename_i l m
   cases h;have h1:aK l=true:=hc (aK l) (by simp);have h2:aK m=true:=hc (aK m) (by simp);have h3:j5 (ay l) (ay m)=true:=hc (j5 (ay l) (ay m)) (by simp);obtain⟨x,rfl⟩: ∃x,l=av x:=⟨_,dD h1⟩
   obtain⟨y,rfl⟩: ∃y,m=av y:=⟨_,dD h2⟩
   simp only[bS]at*;have hs:=acQ x y h3;rw[←ahD]at hs;generalize aN prog amS dn 1010 Tryz.f121 [.agg (av x),.agg (av y)]=T at hs⊢;generalize hold (x*y)=z at hs⊢;exact Tr.aZ (λr hr=>⟨by subst hr;rfl,bL.of_eq hr⟩) hs
  ·cases h
theorem ahP: ∀f s,amT f=some s→aH prog f s:=step_ok Ou.spec (bM uz.spec)
theorem Dj:aF prog 120 Ru:=by
 refine vE ahP (fn:=Tryz.f120) ?_ ?_
 ·intro args v cs h
  unfold Ru at h
  split at h
  ·cases h;rfl
  ·cases h
 ·intro args v cs h hc
  unfold Ru at h
  split at h
  ·rename_i l m
   cases h;have h1:aK l=true:=hc (aK l) (by simp);have h2:aK m=true:=hc (aK m) (by simp);have h3:jB (ay l) (-(ay m))=true:=hc (jB (ay l) (-(ay m))) (by simp);obtain⟨x,rfl⟩: ∃x,l=av x:=⟨_,dD h1⟩
   obtain⟨y,rfl⟩: ∃y,m=av y:=⟨_,dD h2⟩
   simp only[bS]at*;have hs:=acR x y h3;rw[←ahE]at hs;generalize aN prog amT dn 1010 Tryz.f120 [.agg (av x),.agg (av y)]=T at hs⊢;generalize hold (x-y)=z at hs⊢;exact Tr.aZ (λr hr=>⟨by subst hr;rfl,bL.of_eq hr⟩) hs
  ·cases h
theorem ahQ: ∀f s,amU f=some s→aH prog f s:=step_ok GN.spec (bM Oq.spec)
theorem ahR:aF prog 215 ahA:=by
 refine vE ahQ (fn:=Tryz.f215) ?_ ?_
 ·intro args v cs h
  unfold ahA at h
  split at h
  ·cases h;rfl
  ·cases h
 ·intro args v cs h hc
  unfold ahA at h
  split at h
  ·rename_i p a q b
   cases h;have h1:fI p a=true:=hc (fI p a) (by simp);have h2:fI q b=true:=hc (fI q b) (by simp);have h3:iv q b≠0:=dec (hc (decide (iv q b≠0)) (by simp));have h4:a.data.toList.length≤90000000:=dec (hc (decide (a.data.toList.length≤90000000)) (by simp));have h5:b.data.toList.length≤90000000:=dec (hc (decide (b.data.toList.length≤90000000)) (by simp));have l1:(aD (iv p a).natAbs).length≤90000000:=by rw[rR,gX _ (je h1)];exact h4
   have l2:(aD (iv q b).natAbs).length≤90000000:=by rw[rR,gX _ (je h2)];exact h5
   rw[zk h1,zk h2];generalize iv p a=x at*;generalize iv q b=y at*;have hs:=acS x y h3 l1 l2;rw[←ahF]at hs;generalize aN prog amU dn 1010 Tryz.f215 [bY x,bY y]=T at hs⊢;generalize Rat.divInt x y=z at hs⊢;exact Tr.aZ (λr hr=>⟨by subst hr;rfl,bL.of_eq hr⟩) hs
  ·cases h
theorem ahS: ∀f s,amV f=some s→aH prog f s:=step_ok Ot.spec (step_ok Oj.spec (bM ahR.spec))
theorem XJ:aF prog 168 acM:=by
 refine vE ahS (fn:=Tryz.f168) ?_ ?_
 ·intro args v cs h
  unfold acM at h
  split at h
  ·cases h;rfl
  ·cases h
 ·intro args v cs h hc
  unfold acM at h
  split at h
  ·rename_i l m
   cases h;have h1:aK l=true:=hc (aK l) (by simp);have h2:aK m=true:=hc (aK m) (by simp);have h3:Ov (ay l) (ay m)=true:=hc (Ov (ay l) (ay m)) (by simp);have h4:ay m≠0:=dec (hc (decide (ay m≠0)) (by simp));obtain⟨x,rfl⟩: ∃x,l=av x:=⟨_,dD h1⟩
   obtain⟨y,rfl⟩: ∃y,m=av y:=⟨_,dD h2⟩
   simp only[bS]at*;have hs:=acT x y h3 h4;rw[←ahG]at hs;generalize aN prog amV dn 1010 Tryz.f168 [.agg (av x),.agg (av y)]=T at hs⊢;generalize hold (x/y)=z at hs⊢;exact Tr.aZ (λr hr=>⟨by subst hr;rfl,bL.of_eq hr⟩) hs
  ·cases h
theorem ahT: ∀f s,amW f=some s→aH prog f s:=step_ok XI.spec (bM XC.spec)
theorem XK:aF prog 192 acN:=by
 refine vE ahT (fn:=Tryz.f192) ?_ ?_
 ·intro args v cs h
  unfold acN at h
  split at h
  ·cases h;rfl
  ·cases h
 ·intro args v cs h hc
  unfold acN at h
  split at h
  ·rename_i l m
   cases h;have h1:aK l=true:=hc (aK l) (by simp);have h2:aK m=true:=hc (aK m) (by simp);have h3:sJ (ay l) (ay m)=true:=hc (sJ (ay l) (ay m)) (by simp);obtain⟨x,rfl⟩: ∃x,l=av x:=⟨_,dD h1⟩
   obtain⟨y,rfl⟩: ∃y,m=av y:=⟨_,dD h2⟩
   simp only[bS]at*;have hs:=acU x y h3;rw[←ahH]at hs;generalize aN prog amW dn 1010 Tryz.f192 [.agg (av x),.agg (av y)]=T at hs⊢;generalize gq (x.num*y.den) (y.num*x.den)=z at hs⊢;exact Tr.aZ (λr hr=>⟨by subst hr;rfl,bL.of_eq hr⟩) hs
  ·cases h
end Go.bA
namespace Go.bA
open Go.Proofs
structure Q3 where
 c0:Rat
 c1:Rat
 c2:Rat
structure R3 where
 p:Rat
 r:Rat
 neg:Bool
structure L4 where
 x0:Rat
 x1:Rat
 y0:Rat
 y1:Rat
def bD(q:Q3):List AV:=av q.c0++(av q.c1++av q.c2)
def aQ(x:R3):List AV:=av x.p++(av x.r++[.c (.v (.bool x.neg))])
def jD(x:L4):List AV:=av x.x0++(av x.x1++(av x.y0++av x.y1))
def oL(q:Q3):AV:= .agg (bD q)
def yJ(x:R3):AV:= .agg (aQ x)
def akT(x:L4):AV:= .agg (jD x)
def pq:List AV→Bool
 | [.c (.v (.bool b))]=>b
 | _=>false
def sK:List AV→Bool
 | [.c (.v (.bool b))]=>true
 | _=>false
def bH(l:List AV):Q3:=⟨ay (l.take 4),ay ((l.drop 4).take 4),ay (l.drop 8)⟩
def dB(l:List AV):Bool:=aK (l.take 4)&&aK ((l.drop 4).take 4)&&aK (l.drop 8)
def bK(l:List AV):R3:=⟨ay (l.take 4),ay ((l.drop 4).take 4),pq (l.drop 8)⟩
def dh(l:List AV):Bool:=aK (l.take 4)&&aK ((l.drop 4).take 4)&&sK (l.drop 8)
def vO(l:List AV):L4:=⟨ay (l.take 4),ay ((l.drop 4).take 4),ay ((l.drop 8).take 4),ay (l.drop 12)⟩
def wV(l:List AV):Bool:=aK (l.take 4)&&aK ((l.drop 4).take 4)&&aK ((l.drop 8).take 4)&&aK (l.drop 12)
theorem mE{l:List AV}(h:dB l=true):l=bD (bH l):=by
 simp only[dB,bI]at h;obtain⟨⟨h1,h2⟩,h3⟩:=h;have e1:=dD h1;have e2:=dD h2;have e3:=dD h3
 show l=av (ay (l.take 4))++(av (ay ((l.drop 4).take 4))++av (ay (l.drop 8)))
 rw[←e1, ←e2, ←e3];have:=List.take_append_drop 4 (l.drop 4);rw[List.drop_drop]at this;rw[this,List.take_append_drop]
theorem kW{l:List AV}(h:dh l=true):l=aQ (bK l):=by
 simp only[dh,bI]at h;obtain⟨⟨h1,h2⟩,h3⟩:=h;have e1:=dD h1;have e2:=dD h2;have e3:l.drop 8=[.c (.v (.bool (pq (l.drop 8))))]:=by
  unfold sK at h3
  split at h3
  ·rename_i b hb;rw[hb];rfl
  ·cases h3
 show l=av (ay (l.take 4))++(av (ay ((l.drop 4).take 4))++[.c (.v (.bool (pq (l.drop 8))))])
 rw[←e1, ←e2, ←e3];have:=List.take_append_drop 4 (l.drop 4);rw[List.drop_drop]at this;rw[this,List.take_append_drop]
theorem Mt{l:List AV}(h:wV l=true):l=jD (vO l):=by
 simp only[wV,bI]at h;obtain⟨⟨⟨h1,h2⟩,h3⟩,h4⟩:=h;have e1:=dD h1;have e2:=dD h2;have e3:=dD h3;have e4:=dD h4
 show l=av (ay (l.take 4))++(av (ay ((l.drop 4).take 4))++(av (ay ((l.drop 8).take 4))++av (ay (l.drop 12))))
 rw[←e1, ←e2, ←e3, ←e4];have h8:=List.take_append_drop 4 (l.drop 8);rw[List.drop_drop]at h8;have:=List.take_append_drop 4 (l.drop 4);rw[List.drop_drop]at this;rw[h8,this,List.take_append_drop]
theorem dQ(q:Q3):bH (bD q)=q:=by
 show Q3.mk (ay (av q.c0)) (ay (av q.c1)) (ay (av q.c2))=q
 rw[bS,bS,bS]
theorem bT(x:R3):bK (aQ x)=x:=by
 show R3.mk (ay (av x.p)) (ay (av x.r)) x.neg=x
 rw[bS,bS]
theorem ku(x:L4):vO (jD x)=x:=by
 show L4.mk (ay (av x.x0)) (ay (av x.x1)) (ay (av x.y0)) (ay (av x.y1))=x
 rw[bS,bS,bS,bS]
section
variable(a1 a2 a3 a4 b1 b2 b3 b4 c1 c2 c3 c4 d1 d2 d3 d4:AV)
theorem jf:bH [a1,a2,a3,a4,b1,b2,b3,b4,c1,c2,c3,c4]=⟨ay [a1,a2,a3,a4],ay [b1,b2,b3,b4],ay [c1,c2,c3,c4]⟩:=rfl
theorem iq:dB [a1,a2,a3,a4,b1,b2,b3,b4,c1,c2,c3,c4]=(aK [a1,a2,a3,a4]&&aK [b1,b2,b3,b4]&&aK [c1,c2,c3,c4]):=rfl
theorem jg(b:Bool):bK [a1,a2,a3,a4,b1,b2,b3,b4,.c (.v (.bool b))]=⟨ay [a1,a2,a3,a4],ay [b1,b2,b3,b4],b⟩:=rfl
theorem iw(b:Bool):dh [a1,a2,a3,a4,b1,b2,b3,b4,.c (.v (.bool b))]=(aK [a1,a2,a3,a4]&&aK [b1,b2,b3,b4]&&true):=rfl
theorem kX:vO [a1,a2,a3,a4,b1,b2,b3,b4,c1,c2,c3,c4,d1,d2,d3,d4]=⟨ay [a1,a2,a3,a4],ay [b1,b2,b3,b4],ay [c1,c2,c3,c4],ay [d1,d2,d3,d4]⟩:=rfl
theorem jO:wV [a1,a2,a3,a4,b1,b2,b3,b4,c1,c2,c3,c4,d1,d2,d3,d4]=(aK [a1,a2,a3,a4]&&aK [b1,b2,b3,b4]&&aK [c1,c2,c3,c4]&&aK [d1,d2,d3,d4]):=rfl
end
def uR(p q:Q3):Q3:=⟨p.c0-q.c0,p.c1-q.c1,p.c2-q.c2⟩
def Av(q:Q3)(t:Rat):Rat:=q.c0+t*(q.c1+t*q.c2)
def yK(q:Q3)(t:Rat):Rat:=q.c1+(q.c2+q.c2)*t
def qO(x y:Rat):Bool:=jB x (-y)
def kH(p q:Q3):Bool:=qO p.c0 q.c0&&qO p.c1 q.c1&&qO p.c2 q.c2
def qo(q:Q3)(t:Rat):Bool:=j5 t q.c2&&jB q.c1 (t*q.c2)&&j5 t (q.c1+t*q.c2)&&jB q.c0 (t*(q.c1+t*q.c2))
def mY(q:Q3)(t:Rat):Bool:=jB q.c2 q.c2&&j5 (q.c2+q.c2) t&&jB q.c1 ((q.c2+q.c2)*t)
def mkP(p q r:Rat):Rat:=bif decide (r=0)then p+q*0 else p
def mkR(p q r:Rat):Rat:=bif decide (r=0)then 0 else q*q*r
def mkN(p q r:Rat):Bool:=bif decide (r=0)then false else decide (q.num<0)
def XL(p q r:Rat):Bool:=(decide (r=0) || decide (r=2))&&j5 q 0&&jB p (q*0)&&j5 q q&&j5 (q*q) r
def mZ(a b r:Rat):Int:=
 let m:=gq a.num 0
 let n:=gq b.num 0*gq r.num 0
 if n=0∨m=n then m else if m=0 then n else m*gq ((a*a).num*(b*b*r).den) ((b*b*r).num*(a*a).den)
def rD(a b r:Rat):Bool:=j5 a a&&j5 b b&&j5 (b*b) r&&sJ (a*a) (b*b*r)
theorem oM(a b:Int):gq a b= -1∨gq a b=0∨gq a b=1:=by
 unfold gq;by_cases h:a<b
 ·rw[if_pos h];exact .inl rfl
 ·rw[if_neg h]
  by_cases k:a>b
  ·rw[if_pos k];exact .inr (.inr rfl)
  ·rw[if_neg k];exact .inr (.inl rfl)
end Go.bA
namespace Go.bA
open Go.Proofs
def ahU:List AV→Option (AV×List Bool)
 | [.agg l1,.agg l2]=>some (oL ⟨hold ((bH l1).c0-(bH l2).c0),hold ((bH l1).c1-(bH l2).c1),hold ((bH l1).c2-(bH l2).c2)⟩,[dB l1,dB l2,kH (bH l1) (bH l2)])
 | _=>none
def ahV:List AV→Option (AV×List Bool)
 | [.agg l1,.agg l2]=>some (oK (hold (Av (bH l1) (ay l2))),[dB l1,aK l2,qo (bH l1) (ay l2)])
 | _=>none
def ahW:List AV→Option (AV×List Bool)
 | [.agg l1,.agg l2]=>some (oK (hold (yK (bH l1) (ay l2))),[dB l1,aK l2,mY (bH l1) (ay l2)])
 | _=>none
def ahX:List AV→Option (AV×List Bool)
 | [.agg l1,.agg l2,.agg l3]=>some (bR .i64 (mZ (ay l1) (ay l2) (ay l3)),[aK l1,aK l2,aK l3,rD (ay l1) (ay l2) (ay l3)])
 | _=>none
def am4:FuncId→Option Spec:=λf=>bif beq f 120 then some (au Ru)else none
def am5:FuncId→Option Spec:=λf=>bif beq f 121 then some (au JF)else bif beq f 122 then some (au JE)else none
def am6:FuncId→Option Spec:=λf=>bif beq f 121 then some (au JF)else bif beq f 122 then some (au JE)else none
def am7:FuncId→Option Spec:=λf=>bif beq f 153 then some (au Rq)else bif beq f 121 then some (au JF)else bif beq f 192 then some (au acN)else none
def am8(v1:Q3)(v2:Q3):Tr AV:=
 let x1:List AV:=[.c (.v (.bool (decide (v1.c0.num<0)))),.c (.v (.string ⟨⟨aD v1.c0.num.natAbs⟩⟩)),.c (.v (.bool false)),.c (.v (.string ⟨⟨aY v1.c0.den⟩⟩))]
 let x2:List AV:=[.c (.v (.bool (decide (v2.c0.num<0)))),.c (.v (.string ⟨⟨aD v2.c0.num.natAbs⟩⟩)),.c (.v (.bool false)),.c (.v (.string ⟨⟨aY v2.c0.den⟩⟩))]
 let x3:List AV:=[.c (.v (.bool (decide (v1.c1.num<0)))),.c (.v (.string ⟨⟨aD v1.c1.num.natAbs⟩⟩)),.c (.v (.bool false)),.c (.v (.string ⟨⟨aY v1.c1.den⟩⟩))]
 let x4:List AV:=[.c (.v (.bool (decide (v2.c1.num<0)))),.c (.v (.string ⟨⟨aD v2.c1.num.natAbs⟩⟩)),.c (.v (.bool false)),.c (.v (.string ⟨⟨aY v2.c1.den⟩⟩))]
 let x5:List AV:=[.c (.v (.bool (decide (v1.c2.num<0)))),.c (.v (.string ⟨⟨aD v1.c2.num.natAbs⟩⟩)),.c (.v (.bool false)),.c (.v (.string ⟨⟨aY v1.c2.den⟩⟩))]
 let x6:List AV:=[.c (.v (.bool (decide (v2.c2.num<0)))),.c (.v (.string ⟨⟨aD v2.c2.num.natAbs⟩⟩)),.c (.v (.bool false)),.c (.v (.string ⟨⟨aY v2.c2.den⟩⟩))]
 let x7:Int:=(hold (ay x1-ay x2)).num
 let x8:Int:=(hold (ay x3-ay x4)).num
 let x9:Int:=(hold (ay x5-ay x6)).num
 .need (aK x1) (.need (aK x2) (.need (jB (ay x1) (-ay x2)) (.need (aK x3) (.need (aK x4) (.need (jB (ay x3) (-ay x4)) (.need (aK x5) (.need (aK x6) (.need (jB (ay x5) (-ay x6)) (.ret (AV.agg [.c (.v (.bool (decide (x7<0)))),.c (.v (.string ⟨⟨aD x7.natAbs⟩⟩)),.c (.v (.bool false)),.c (.v (.string ⟨⟨aY (hold (ay x1-ay x2)).den⟩⟩)),.c (.v (.bool (decide (x8<0)))),.c (.v (.string ⟨⟨aD x8.natAbs⟩⟩)),.c (.v (.bool false)),.c (.v (.string ⟨⟨aY (hold (ay x3-ay x4)).den⟩⟩)),.c (.v (.bool (decide (x9<0)))),.c (.v (.string ⟨⟨aD x9.natAbs⟩⟩)),.c (.v (.bool false)),.c (.v (.string ⟨⟨aY (hold (ay x5-ay x6)).den⟩⟩))]))))))))))
def am9(v1:Q3)(v2:Rat):Tr AV:=
 let x1:List AV:=[.c (.v (.bool (decide (v2.num<0)))),.c (.v (.string ⟨⟨aD v2.num.natAbs⟩⟩)),.c (.v (.bool false)),.c (.v (.string ⟨⟨aY v2.den⟩⟩))]
 let x2:List AV:=[.c (.v (.bool (decide (v1.c2.num<0)))),.c (.v (.string ⟨⟨aD v1.c2.num.natAbs⟩⟩)),.c (.v (.bool false)),.c (.v (.string ⟨⟨aY v1.c2.den⟩⟩))]
 let x3:List AV:=[.c (.v (.bool (decide (v1.c1.num<0)))),.c (.v (.string ⟨⟨aD v1.c1.num.natAbs⟩⟩)),.c (.v (.bool false)),.c (.v (.string ⟨⟨aY v1.c1.den⟩⟩))]
 let x4:Int:=(hold (ay x1*ay x2)).num
 let x5:List AV:=[.c (.v (.bool (decide (x4<0)))),.c (.v (.string ⟨⟨aD x4.natAbs⟩⟩)),.c (.v (.bool false)),.c (.v (.string ⟨⟨aY (hold (ay x1*ay x2)).den⟩⟩))]
 let x6:Int:=(hold (ay x3+ay x5)).num
 let x7:List AV:=[.c (.v (.bool (decide (x6<0)))),.c (.v (.string ⟨⟨aD x6.natAbs⟩⟩)),.c (.v (.bool false)),.c (.v (.string ⟨⟨aY (hold (ay x3+ay x5)).den⟩⟩))]
 let x8:List AV:=[.c (.v (.bool (decide (v1.c0.num<0)))),.c (.v (.string ⟨⟨aD v1.c0.num.natAbs⟩⟩)),.c (.v (.bool false)),.c (.v (.string ⟨⟨aY v1.c0.den⟩⟩))]
 let x9:Int:=(hold (ay x1*ay x7)).num
 let x10:List AV:=[.c (.v (.bool (decide (x9<0)))),.c (.v (.string ⟨⟨aD x9.natAbs⟩⟩)),.c (.v (.bool false)),.c (.v (.string ⟨⟨aY (hold (ay x1*ay x7)).den⟩⟩))]
 let iW:Int:=(hold (ay x8+ay x10)).num
 .need (aK x1) (.need (aK x2) (.need (j5 (ay x1) (ay x2)) (.need (aK x3) (.need (aK x5) (.need (jB (ay x3) (ay x5)) (.need (aK x1) (.need (aK x7) (.need (j5 (ay x1) (ay x7)) (.need (aK x8) (.need (aK x10) (.need (jB (ay x8) (ay x10)) (.ret (AV.agg [.c (.v (.bool (decide (iW<0)))),.c (.v (.string ⟨⟨aD iW.natAbs⟩⟩)),.c (.v (.bool false)),.c (.v (.string ⟨⟨aY (hold (ay x8+ay x10)).den⟩⟩))])))))))))))))
def ana(v1:Q3)(v2:Rat):Tr AV:=
 let x1:List AV:=[.c (.v (.bool (decide (v1.c2.num<0)))),.c (.v (.string ⟨⟨aD v1.c2.num.natAbs⟩⟩)),.c (.v (.bool false)),.c (.v (.string ⟨⟨aY v1.c2.den⟩⟩))]
 let x2:Int:=(hold (ay x1+ay x1)).num
 let x3:List AV:=[.c (.v (.bool (decide (x2<0)))),.c (.v (.string ⟨⟨aD x2.natAbs⟩⟩)),.c (.v (.bool false)),.c (.v (.string ⟨⟨aY (hold (ay x1+ay x1)).den⟩⟩))]
 let x4:List AV:=[.c (.v (.bool (decide (v2.num<0)))),.c (.v (.string ⟨⟨aD v2.num.natAbs⟩⟩)),.c (.v (.bool false)),.c (.v (.string ⟨⟨aY v2.den⟩⟩))]
 let x5:List AV:=[.c (.v (.bool (decide (v1.c1.num<0)))),.c (.v (.string ⟨⟨aD v1.c1.num.natAbs⟩⟩)),.c (.v (.bool false)),.c (.v (.string ⟨⟨aY v1.c1.den⟩⟩))]
 let x6:Int:=(hold (ay x3*ay x4)).num
 let x7:List AV:=[.c (.v (.bool (decide (x6<0)))),.c (.v (.string ⟨⟨aD x6.natAbs⟩⟩)),.c (.v (.bool false)),.c (.v (.string ⟨⟨aY (hold (ay x3*ay x4)).den⟩⟩))]
 let x8:Int:=(hold (ay x5+ay x7)).num
 .need (aK x1) (.need (aK x1) (.need (jB (ay x1) (ay x1)) (.need (aK x3) (.need (aK x4) (.need (j5 (ay x3) (ay x4)) (.need (aK x5) (.need (aK x7) (.need (jB (ay x5) (ay x7)) (.ret (AV.agg [.c (.v (.bool (decide (x8<0)))),.c (.v (.string ⟨⟨aD x8.natAbs⟩⟩)),.c (.v (.bool false)),.c (.v (.string ⟨⟨aY (hold (ay x5+ay x7)).den⟩⟩))]))))))))))
def anb(v1:Rat)(v2:Rat)(v3:Rat):Tr AV:=
 let x1:List AV:=[.c (.v (.bool (decide (v1.num<0)))),.c (.v (.string ⟨⟨aD v1.num.natAbs⟩⟩)),.c (.v (.bool false)),.c (.v (.string ⟨⟨aY v1.den⟩⟩))]
 let x2:List AV:=[.c (.v (.bool (decide (v2.num<0)))),.c (.v (.string ⟨⟨aD v2.num.natAbs⟩⟩)),.c (.v (.bool false)),.c (.v (.string ⟨⟨aY v2.den⟩⟩))]
 let x3:List AV:=[.c (.v (.bool (decide (v3.num<0)))),.c (.v (.string ⟨⟨aD v3.num.natAbs⟩⟩)),.c (.v (.bool false)),.c (.v (.string ⟨⟨aY v3.den⟩⟩))]
 let x4:Int:=i64.wrap (gq (ay x2).num 0*gq (ay x3).num 0)
 let x5:Int:=gq (ay x1).num 0
 let x6:Int:=(hold (ay x2*ay x2)).num
 let x7:List AV:=[.c (.v (.bool (decide (x6<0)))),.c (.v (.string ⟨⟨aD x6.natAbs⟩⟩)),.c (.v (.bool false)),.c (.v (.string ⟨⟨aY (hold (ay x2*ay x2)).den⟩⟩))]
 let x8:Int:=(hold (ay x1*ay x1)).num
 let x9:List AV:=[.c (.v (.bool (decide (x8<0)))),.c (.v (.string ⟨⟨aD x8.natAbs⟩⟩)),.c (.v (.bool false)),.c (.v (.string ⟨⟨aY (hold (ay x1*ay x1)).den⟩⟩))]
 let x10:Int:=(hold (ay x7*ay x3)).num
 let iW:List AV:=[.c (.v (.bool (decide (x10<0)))),.c (.v (.string ⟨⟨aD x10.natAbs⟩⟩)),.c (.v (.bool false)),.c (.v (.string ⟨⟨aY (hold (ay x7*ay x3)).den⟩⟩))]
 .need (aK x1) (.need (aK x2) (.need (aK x3) (.need (bif x4==0 then true else true) (.ite (bif x4==0 then true else bif false then true else x5==x4) (.ret (.c (.v (.int i64 x5)))) (.ite (x5==0) (.ret (.c (.v (.int i64 x4)))) (.need (aK x1) (.need (aK x1) (.need (j5 (ay x1) (ay x1)) (.need (aK x2) (.need (aK x2) (.need (j5 (ay x2) (ay x2)) (.need (aK x7) (.need (aK x3) (.need (j5 (ay x7) (ay x3)) (.need (aK x9) (.need (aK iW) (.need (sJ (ay x9) (ay iW)) (.ret (.c (.v (.int i64 (i64.wrap (x5*gq ((ay x9).num* ↑(ay iW).den) ((ay iW).num* ↑(ay x9).den))))))))))))))))))))))))
theorem ahY(v1:Q3)(v2:Q3):aN prog am4 dn 1010 Tryz.f91 [.agg (bD v1),.agg (bD v2)]=am8 v1 v2:=by kernel_rfl
theorem ahZ(v1:Q3)(v2:Rat):aN prog am5 dn 1010 Tryz.f119 [.agg (bD v1),.agg (av v2)]=am9 v1 v2:=by kernel_rfl
theorem ah0(v1:Q3)(v2:Rat):aN prog am6 dn 1010 Tryz.f123 [.agg (bD v1),.agg (av v2)]=ana v1 v2:=by kernel_rfl
theorem ah1(v1:Rat)(v2:Rat)(v3:Rat):aN prog am7 dn 1010 Tryz.f152 [.agg (av v1),.agg (av v2),.agg (av v3)]=anb v1 v2 v3:=by kernel_rfl
theorem acV(v1:Q3)(v2:Q3)(c1:kH v1 v2=true):(am8 v1 v2).sat λr=>r=oL ⟨hold (v1.c0-v2.c0),hold (v1.c1-v2.c1),hold (v1.c2-v2.c2)⟩:=by
 simp only[kH,qO,bI]at c1;simp only[am8,fP,eT,jf,iq,jg,iw,kX,jO,mX,kV,iN,gN,fU,Bool.and_self,sat_true,c1];exact ak rfl
theorem acW(v1:Q3)(v2:Rat)(c1:qo v1 v2=true):(am9 v1 v2).sat λr=>r=oK (hold (Av v1 v2)):=by
 simp only[qo,bI]at c1;simp only[am9,fP,eT,jf,iq,jg,iw,kX,jO,mX,kV,iN,gN,fU,Bool.and_self,sat_true,c1];exact ak rfl
theorem acX(v1:Q3)(v2:Rat)(c1:mY v1 v2=true):(ana v1 v2).sat λr=>r=oK (hold (yK v1 v2)):=by
 simp only[mY,bI]at c1;simp only[ana,fP,eT,jf,iq,jg,iw,kX,jO,mX,kV,iN,gN,fU,Bool.and_self,sat_true,c1];exact ak rfl
theorem acY(v1:Rat)(v2:Rat)(v3:Rat)(c1:rD v1 v2 v3=true):(anb v1 v2 v3).sat λr=>r=bR .i64 (mZ v1 v2 v3):=by
 simp only[rD,bI]at c1;have hw:i64.wrap (gq v2.num 0*gq v3.num 0)=gq v2.num 0*gq v3.num 0:=by
  rcases oM v2.num 0 with h|h|h<;>rcases oM v3.num 0 with k|k|k<;>rw[h,k]<;>rfl
 have hw2: ∀a b:Int,i64.wrap (gq v1.num 0*gq a b)=gq v1.num 0*gq a b:=by
  intro a b;rcases oM v1.num 0 with h|h|h<;>rcases oM a b with k|k|k<;>rw[h,k]<;>rfl
 simp only[anb,fP,eT,jf,iq,jg,iw,kX,jO,mX,kV,iN,gN,fU,Bool.and_self,sat_true,c1,hw,hw2];have hs: ∀z:Int,z=mZ v1 v2 v3→AV.c (.v (.int .i64 z))=bR .i64 (mZ v1 v2 v3):=λz hz=>by rw[hz];rfl
 refine ah (by cases (gq v2.num 0*gq v3.num 0==0)<;>rfl) (aj (λh=>ak (hs _ ?_)) (λh=>aj (λk=>ak (hs _ ?_)) (λk=> ?_)))
 ·unfold mZ
  simp only[];rw[if_pos];cases h0:(gq v2.num 0*gq v3.num 0==0)with
  | true=>exact .inl (eq_of_beq h0)
  | false=>rw[h0]at h;exact .inr (eq_of_beq h)
 ·unfold mZ
  simp only[];cases h0:(gq v2.num 0*gq v3.num 0==0)with
  | true=>rw[h0]at h;cases h
  | false=>
    rw[h0]at h;have h1: ¬(gq v2.num 0*gq v3.num 0=0∨gq v1.num 0=gq v2.num 0*gq v3.num 0):=by
     rintro(h1|h1)
     ·rw[h1]at h0;cases h0
     ·have:(gq v1.num 0==gq v2.num 0*gq v3.num 0)=true:=by rw[h1];simp
      rw[this]at h;cases h
    rw[if_neg h1,if_pos (eq_of_beq k)]
 ·simp only[sat_true]
  refine ak (hs _ ?_);unfold mZ;simp only[];cases h0:(gq v2.num 0*gq v3.num 0==0)with
  | true=>rw[h0]at h;cases h
  | false=>
    rw[h0]at h;have h1: ¬(gq v2.num 0*gq v3.num 0=0∨gq v1.num 0=gq v2.num 0*gq v3.num 0):=by
     rintro(h1|h1)
     ·rw[h1]at h0;cases h0
     ·have:(gq v1.num 0==gq v2.num 0*gq v3.num 0)=true:=by rw[h1];simp
      rw[this]at h;cases h
    have k1: ¬gq v1.num 0=0:=by
     intro hh;rw[hh]at k;cases k
    rw[if_neg h1,if_neg k1]
theorem ah2: ∀f s,am4 f=some s→aH prog f s:=bM Dj.spec
theorem ah3:aF prog 91 ahU:=by
 refine vE ah2 (fn:=Tryz.f91) ?_ ?_
 ·intro args v cs h
  unfold ahU at h
  split at h
  ·cases h;rfl
  ·cases h
 ·intro args v cs h hc
  unfold ahU at h
  split at h
  ·rename_i l1 l2
   cases h;have h1:dB l1=true:=hc (dB l1) (by simp);have h2:dB l2=true:=hc (dB l2) (by simp);have c1:kH (bH l1) (bH l2)=true:=hc (kH (bH l1) (bH l2)) (by simp);obtain⟨v1,rfl⟩: ∃x,l1=bD x:=⟨_,mE h1⟩
   obtain⟨v2,rfl⟩: ∃x,l2=bD x:=⟨_,mE h2⟩
   simp only[dQ]at*;have hs:=acV v1 v2 c1;rw[←ahY]at hs;generalize aN prog am4 dn 1010 Tryz.f91 [.agg (bD v1),.agg (bD v2)]=T at hs⊢;generalize hold (v1.c0-v2.c0)=z0 at hs⊢;generalize hold (v1.c1-v2.c1)=z1 at hs⊢;generalize hold (v1.c2-v2.c2)=z2 at hs⊢;exact Tr.aZ (λr hr=>⟨by subst hr;rfl,bL.of_eq hr⟩) hs
  ·cases h
theorem ah4: ∀f s,am5 f=some s→aH prog f s:=step_ok uD.spec (bM uz.spec)
theorem ah5:aF prog 119 ahV:=by
 refine vE ah4 (fn:=Tryz.f119) ?_ ?_
 ·intro args v cs h
  unfold ahV at h
  split at h
  ·cases h;rfl
  ·cases h
 ·intro args v cs h hc
  unfold ahV at h
  split at h
  ·rename_i l1 l2
   cases h;have h1:dB l1=true:=hc (dB l1) (by simp);have h2:aK l2=true:=hc (aK l2) (by simp);have c1:qo (bH l1) (ay l2)=true:=hc (qo (bH l1) (ay l2)) (by simp);obtain⟨v1,rfl⟩: ∃x,l1=bD x:=⟨_,mE h1⟩
   obtain⟨v2,rfl⟩: ∃x,l2=av x:=⟨_,dD h2⟩
   simp only[dQ,bS]at*;have hs:=acW v1 v2 c1;rw[←ahZ]at hs;generalize aN prog am5 dn 1010 Tryz.f119 [.agg (bD v1),.agg (av v2)]=T at hs⊢;generalize hold (Av v1 v2)=z at hs⊢;exact Tr.aZ (λr hr=>⟨by subst hr;rfl,bL.of_eq hr⟩) hs
  ·cases h
theorem ah6: ∀f s,am6 f=some s→aH prog f s:=step_ok uD.spec (bM uz.spec)
theorem ah7:aF prog 123 ahW:=by
 refine vE ah6 (fn:=Tryz.f123) ?_ ?_
 ·intro args v cs h
  unfold ahW at h
  split at h
  ·cases h;rfl
  ·cases h
 ·intro args v cs h hc
  unfold ahW at h
  split at h
  ·rename_i l1 l2
   cases h;have h1:dB l1=true:=hc (dB l1) (by simp);have h2:aK l2=true:=hc (aK l2) (by simp);have c1:mY (bH l1) (ay l2)=true:=hc (mY (bH l1) (ay l2)) (by simp);obtain⟨v1,rfl⟩: ∃x,l1=bD x:=⟨_,mE h1⟩
   obtain⟨v2,rfl⟩: ∃x,l2=av x:=⟨_,dD h2⟩
   simp only[dQ,bS]at*;have hs:=acX v1 v2 c1;rw[←ah0]at hs;generalize aN prog am6 dn 1010 Tryz.f123 [.agg (bD v1),.agg (av v2)]=T at hs⊢;generalize hold (yK v1 v2)=z at hs⊢;exact Tr.aZ (λr hr=>⟨by subst hr;rfl,bL.of_eq hr⟩) hs
  ·cases h
theorem ah8: ∀f s,am7 f=some s→aH prog f s:=step_ok Dc.spec (step_ok uD.spec (bM XK.spec))
theorem ah9:aF prog 152 ahX:=by
 refine vE ah8 (fn:=Tryz.f152) ?_ ?_
 ·intro args v cs h
  unfold ahX at h
  split at h
  ·cases h;rfl
  ·cases h
 ·intro args v cs h hc
  unfold ahX at h
  split at h
  ·rename_i l1 l2 l3
   cases h;have h1:aK l1=true:=hc (aK l1) (by simp);have h2:aK l2=true:=hc (aK l2) (by simp);have h3:aK l3=true:=hc (aK l3) (by simp);have c1:rD (ay l1) (ay l2) (ay l3)=true:=hc (rD (ay l1) (ay l2) (ay l3)) (by simp);obtain⟨v1,rfl⟩: ∃x,l1=av x:=⟨_,dD h1⟩
   obtain⟨v2,rfl⟩: ∃x,l2=av x:=⟨_,dD h2⟩
   obtain⟨v3,rfl⟩: ∃x,l3=av x:=⟨_,dD h3⟩
   simp only[bS]at*;have hs:=acY v1 v2 v3 c1;rw[←ah1]at hs;generalize aN prog am7 dn 1010 Tryz.f152 [.agg (av v1),.agg (av v2),.agg (av v3)]=T at hs⊢;generalize mZ v1 v2 v3=z at hs⊢;exact Tr.aZ (λr hr=>⟨by subst hr;rfl,bL.of_eq hr⟩) hs
  ·cases h
end Go.bA
namespace Go.bA
open Go.Proofs
def Dk:List AV:=[.c (.v (.bool false)),.c (.v (.string ⟨⟨[]⟩⟩)),.c (.v (.bool false)),.c (.v (.string ⟨⟨[]⟩⟩))]
end Go.bA
namespace Go.bA
open Go.Proofs
def wW(b:Bool):Rat:=bif b then -1 else 1
def byQ(q:Q3)(t:R3):Rat:=bif t.neg then -(yK q t.p)else yK q t.p
def XM(q:Q3)(t:R3):Rat:=Av q t.p+q.c2*t.r
def aqn(q:Q3)(t:R3):Bool:=qo q t.p&&j5 q.c2 t.r&&jB (Av q t.p) (q.c2*t.r)&&mY q t.p&&XL (XM q t) (byQ q t) t.r
def atP(q:Q3)(t:R3):Rat:=mkP (XM q t) (byQ q t) t.r
def atR(q:Q3)(t:R3):Rat:=mkR (XM q t) (byQ q t) t.r
def atN(q:Q3)(t:R3):Bool:=mkN (XM q t) (byQ q t) t.r
def tH(q:Q3)(t:R3):Rat:=bif decide (t.r=0)then Av q t.p else q.c0+q.c2*(t.r-t.p*t.p)
def tJ(q:Q3)(t:R3):Rat:=bif decide (t.r=0)then 0 else yK q t.p
def jX(q:Q3)(t:R3):Bool:=bif decide (t.r=0)then qo q t.p else j5 t.p t.p&&qO t.r (t.p*t.p)&&j5 q.c2 (t.r-t.p*t.p)&&jB q.c0 (q.c2*(t.r-t.p*t.p))&&mY q t.p
def iG(t v u w:Rat):Rat:=(w-v)/(u-t)
def sM(t v u w:Rat):Bool:=qO w v&&qO u t&&Ov (w-v) (u-t)&&decide (u-t≠0)&&j5 (iG t v u w) t&&qO v (iG t v u w*t)
theorem pX:ay [.c (.v (.bool false)),.c (.v (.string ⟨⟨[]⟩⟩)),.c (.v (.bool false)),.c (.v (.string ⟨⟨[]⟩⟩))]=0:=iN
theorem nK:aK [.c (.v (.bool false)),.c (.v (.string ⟨⟨[]⟩⟩)),.c (.v (.bool false)),.c (.v (.string ⟨⟨[]⟩⟩))]=true:=gN
theorem rT(b:Bool):pq [.c (.v (.bool b))]=b:=rfl
theorem rU(x:Rat):(cu [cu [aY x.den==[],false==false].reverse,cu [aD x.num.natAbs==[],decide (x.num<0)==false].reverse].reverse)=decide (x=0):=by
 have h:=Di x 0;have e1:aY (0:Rat).den=[]:=rfl;have e2:aD (0:Rat).num.natAbs=[]:=gB;have e3:decide ((0:Rat).num<0)=false:=rfl;rw[e1,e2,e3]at h;exact h
theorem EI:av 0=Dk:=by
 unfold av nQ Dk;rw[show(0:Rat).num.natAbs=0 from rfl,gB];rfl
def as6:List AV→Option (AV×List Bool)
 | [.agg l1]=>some (.fG [.agg Dk,bJ (decide ((ay l1)=0))],[aK l1,decide ((ay l1)=0) || decide ((ay l1)=2)])
 | _=>none
def aia:List AV→Option (AV×List Bool)
 | [.agg l1]=>some (oK (hold (wW (bK l1).neg)),[dh l1])
 | _=>none
def as7:List AV→Option (AV×List Bool)
 | [.agg l1,.agg l2,.agg l3]=>some (.fG [yJ ⟨hold (mkP (ay l1) (ay l2) (ay l3)),hold (mkR (ay l1) (ay l2) (ay l3)),mkN (ay l1) (ay l2) (ay l3)⟩,bR .i64 0],[aK l1,aK l2,aK l3,XL (ay l1) (ay l2) (ay l3)])
 | _=>none
def as8:List AV→Option (AV×List Bool)
 | [.agg l1,.agg l2]=>some (yJ ⟨hold (atP (bH l1) (bK l2)),hold (atR (bH l1) (bK l2)),atN (bH l1) (bK l2)⟩,[dB l1,dh l2,aqn (bH l1) (bK l2)])
 | _=>none
def aib:List AV→Option (AV×List Bool)
 | [.agg l1]=>some (.fG [oK (hold (bif decide ((bK l1).r=0)then(bK l1).p else 0)),bJ (decide ((bK l1).r=0))],[dh l1])
 | _=>none
def acZ:List AV→Option (AV×List Bool)
 | [.agg l1,.agg l2]=>some (.agg (av (hold (tH (bH l1) (bK l2)))++(av (hold (tJ (bH l1) (bK l2)))++Dk)),[dB l1,dh l2,jX (bH l1) (bK l2)])
 | _=>none
def aic:List AV→Option (AV×List Bool)
 | [.agg l1,.agg l2,.agg l3]=>some (bJ (decide (tH (uR (bH l1) (bH l2)) (bK l3)=0)&&decide (tJ (uR (bH l1) (bH l2)) (bK l3)=0)),[dB l1,dB l2,dh l3,kH (bH l1) (bH l2),jX (uR (bH l1) (bH l2)) (bK l3)])
 | _=>none
def aie:List AV→Option (AV×List Bool)
 | [.agg l1,.agg l2,.agg l3,.agg l4]=>some (.fG [.agg (av (hold ((ay l2)-iG (ay l1) (ay l2) (ay l3) (ay l4)*(ay l1)))++(av (hold (iG (ay l1) (ay l2) (ay l3) (ay l4)))++Dk)),bR .i64 0],[aK l1,aK l2,aK l3,aK l4,sM (ay l1) (ay l2) (ay l3) (ay l4)])
 | _=>none
def anc:FuncId→Option Spec:=λf=>bif beq f 28 then some (au Rs)else none
def ac0:FuncId→Option Spec:=λf=>bif beq f 118 then some (au aib)else bif beq f 119 then some (au ahV)else bif beq f 121 then some (au JF)else bif beq f 120 then some (au Ru)else bif beq f 122 then some (au JE)else bif beq f 123 then some (au ahW)else none
def ane:FuncId→Option Spec:=λf=>bif beq f 91 then some (au ahU)else bif beq f 67 then some (au acZ)else none
def ac1:FuncId→Option Spec:=λf=>bif beq f 120 then some (au Ru)else bif beq f 168 then some (au acM)else bif beq f 121 then some (au JF)else none
def anf(v1:R3):Tr AV:=
 let x1:List AV:=[.c (.v (.bool false)),.c (.v (.string ⟨⟨aY 1⟩⟩))]
 .ite v1.neg (.need true (.need true (.ret (AV.agg (.c (.v (.bool true)):: .c (.v (.string ⟨⟨aD (-1).natAbs⟩⟩))::x1))))) (.need true (.need true (.ret (AV.agg (.c (.v (.bool false)):: .c (.v (.string ⟨⟨aD (Int.natAbs 1)⟩⟩))::x1)))))
def ang(v1:R3):Tr AV:=
 .ite (!cu [cu [aY v1.r.den==[],false==false].reverse,cu [aD v1.r.num.natAbs==[],decide (v1.r.num<0)==false].reverse].reverse) (.ret (AV.fG [AV.agg [.c (.v (.bool false)),.c (.v (.string {data:= #[]})),.c (.v (.bool false)),.c (.v (.string {data:= #[]}))],.c (.v (.bool false))])) (.ret (AV.fG [AV.agg [.c (.v (.bool (decide (v1.p.num<0)))),.c (.v (.string ⟨⟨aD v1.p.num.natAbs⟩⟩)),.c (.v (.bool false)),.c (.v (.string ⟨⟨aY v1.p.den⟩⟩))],.c (.v (.bool true))]))
def anh(v1:Q3)(v2:R3):Tr AV:=
 let x1:List AV:=[.c (.v (.bool (decide (v2.p.num<0)))),.c (.v (.string ⟨⟨aD v2.p.num.natAbs⟩⟩)),.c (.v (.bool false)),.c (.v (.string ⟨⟨aY v2.p.den⟩⟩)),.c (.v (.bool (decide (v2.r.num<0)))),.c (.v (.string ⟨⟨aD v2.r.num.natAbs⟩⟩)),.c (.v (.bool false)),.c (.v (.string ⟨⟨aY v2.r.den⟩⟩)),.c (.v (.bool v2.neg))]
 let x2:List AV:=[.c (.v (.bool (decide (v1.c2.num<0)))),.c (.v (.string ⟨⟨aD v1.c2.num.natAbs⟩⟩)),.c (.v (.bool false)),.c (.v (.string ⟨⟨aY v1.c2.den⟩⟩))]
 let x3:List AV:= .c (.v (.bool (decide (v1.c0.num<0)))):: .c (.v (.string ⟨⟨aD v1.c0.num.natAbs⟩⟩)):: .c (.v (.bool false)):: .c (.v (.string ⟨⟨aY v1.c0.den⟩⟩)):: .c (.v (.bool (decide (v1.c1.num<0)))):: .c (.v (.string ⟨⟨aD v1.c1.num.natAbs⟩⟩)):: .c (.v (.bool false)):: .c (.v (.string ⟨⟨aY v1.c1.den⟩⟩))::x2
 let x4:Int:=(hold (bif decide (ay (List.take 4 (List.drop 4 x1))=0)then ay (List.take 4 x1)else 0)).num
 let x5:List AV:=[.c (.v (.bool (decide (x4<0)))),.c (.v (.string ⟨⟨aD x4.natAbs⟩⟩)),.c (.v (.bool false)),.c (.v (.string ⟨⟨aY (hold (bif decide (ay (List.take 4 (List.drop 4 x1))=0)then ay (List.take 4 x1)else 0)).den⟩⟩))]
 let x6:Int:=(hold (Av (bH x3) (ay x5))).num
 let x7:List AV:=[.c (.v (.bool false)),.c (.v (.string {data:= #[]})),.c (.v (.bool false)),.c (.v (.string {data:= #[]}))]
 let x8:List AV:=[.c (.v (.bool (decide (v2.p.num<0)))),.c (.v (.string ⟨⟨aD v2.p.num.natAbs⟩⟩)),.c (.v (.bool false)),.c (.v (.string ⟨⟨aY v2.p.den⟩⟩))]
 let x9:List AV:=[.c (.v (.bool (decide (v2.r.num<0)))),.c (.v (.string ⟨⟨aD v2.r.num.natAbs⟩⟩)),.c (.v (.bool false)),.c (.v (.string ⟨⟨aY v2.r.den⟩⟩))]
 let x10:Int:=(hold (ay x8*ay x8)).num
 let iW:List AV:=[.c (.v (.bool (decide (x10<0)))),.c (.v (.string ⟨⟨aD x10.natAbs⟩⟩)),.c (.v (.bool false)),.c (.v (.string ⟨⟨aY (hold (ay x8*ay x8)).den⟩⟩))]
 let kL:Int:=(hold (ay x9-ay iW)).num
 let jA:List AV:=[.c (.v (.bool (decide (kL<0)))),.c (.v (.string ⟨⟨aD kL.natAbs⟩⟩)),.c (.v (.bool false)),.c (.v (.string ⟨⟨aY (hold (ay x9-ay iW)).den⟩⟩))]
 let kM:List AV:=[.c (.v (.bool (decide (v1.c0.num<0)))),.c (.v (.string ⟨⟨aD v1.c0.num.natAbs⟩⟩)),.c (.v (.bool false)),.c (.v (.string ⟨⟨aY v1.c0.den⟩⟩))]
 let mO:Int:=(hold (ay x2*ay jA)).num
 let nu:List AV:=[.c (.v (.bool (decide (mO<0)))),.c (.v (.string ⟨⟨aD mO.natAbs⟩⟩)),.c (.v (.bool false)),.c (.v (.string ⟨⟨aY (hold (ay x2*ay jA)).den⟩⟩))]
 let jR:Int:=(hold (ay kM+ay nu)).num
 let x18:Int:=(hold (yK (bH x3) (ay x8))).num
 .need (dh x1) (.ite (decide (ay (List.take 4 (List.drop 4 x1))=0)) (.need (dB x3) (.need (aK x5) (.need (qo (bH x3) (ay x5)) (.ret (AV.agg (.c (.v (.bool (decide (x6<0)))):: .c (.v (.string ⟨⟨aD x6.natAbs⟩⟩)):: .c (.v (.bool false)):: .c (.v (.string ⟨⟨aY (hold (Av (bH x3) (ay x5))).den⟩⟩)):: .c (.v (.bool false)):: .c (.v (.string {data:= #[]})):: .c (.v (.bool false)):: .c (.v (.string {data:= #[]}))::x7)))))) (.need (aK x8) (.need (aK x8) (.need (j5 (ay x8) (ay x8)) (.need (aK x9) (.need (aK iW) (.need (jB (ay x9) (-ay iW)) (.need (aK x2) (.need (aK jA) (.need (j5 (ay x2) (ay jA)) (.need (aK kM) (.need (aK nu) (.need (jB (ay kM) (ay nu)) (.need (dB x3) (.need (aK x8) (.need (mY (bH x3) (ay x8)) (.ret (AV.agg (.c (.v (.bool (decide (jR<0)))):: .c (.v (.string ⟨⟨aD jR.natAbs⟩⟩)):: .c (.v (.bool false)):: .c (.v (.string ⟨⟨aY (hold (ay kM+ay nu)).den⟩⟩)):: .c (.v (.bool (decide (x18<0)))):: .c (.v (.string ⟨⟨aD x18.natAbs⟩⟩)):: .c (.v (.bool false)):: .c (.v (.string ⟨⟨aY (hold (yK (bH x3) (ay x8))).den⟩⟩))::x7)))))))))))))))))))
def ani(v1:Q3)(v2:Q3)(v3:R3):Tr AV:=
 let x1:List AV:=[.c (.v (.bool (decide (v1.c0.num<0)))),.c (.v (.string ⟨⟨aD v1.c0.num.natAbs⟩⟩)),.c (.v (.bool false)),.c (.v (.string ⟨⟨aY v1.c0.den⟩⟩)),.c (.v (.bool (decide (v1.c1.num<0)))),.c (.v (.string ⟨⟨aD v1.c1.num.natAbs⟩⟩)),.c (.v (.bool false)),.c (.v (.string ⟨⟨aY v1.c1.den⟩⟩)),.c (.v (.bool (decide (v1.c2.num<0)))),.c (.v (.string ⟨⟨aD v1.c2.num.natAbs⟩⟩)),.c (.v (.bool false)),.c (.v (.string ⟨⟨aY v1.c2.den⟩⟩))]
 let x2:List AV:=[.c (.v (.bool (decide (v2.c0.num<0)))),.c (.v (.string ⟨⟨aD v2.c0.num.natAbs⟩⟩)),.c (.v (.bool false)),.c (.v (.string ⟨⟨aY v2.c0.den⟩⟩)),.c (.v (.bool (decide (v2.c1.num<0)))),.c (.v (.string ⟨⟨aD v2.c1.num.natAbs⟩⟩)),.c (.v (.bool false)),.c (.v (.string ⟨⟨aY v2.c1.den⟩⟩)),.c (.v (.bool (decide (v2.c2.num<0)))),.c (.v (.string ⟨⟨aD v2.c2.num.natAbs⟩⟩)),.c (.v (.bool false)),.c (.v (.string ⟨⟨aY v2.c2.den⟩⟩))]
 let x3:Int:=(hold (ay (List.take 4 x1)-ay (List.take 4 x2))).num
 let x4:Int:=(hold (ay (List.take 4 (List.drop 4 x1))-ay (List.take 4 (List.drop 4 x2)))).num
 let x5:Int:=(hold (ay (List.drop 8 x1)-ay (List.drop 8 x2))).num
 let x6:List AV:=[.c (.v (.bool (decide (x3<0)))),.c (.v (.string ⟨⟨aD x3.natAbs⟩⟩)),.c (.v (.bool false)),.c (.v (.string ⟨⟨aY (hold (ay (List.take 4 x1)-ay (List.take 4 x2))).den⟩⟩)),.c (.v (.bool (decide (x4<0)))),.c (.v (.string ⟨⟨aD x4.natAbs⟩⟩)),.c (.v (.bool false)),.c (.v (.string ⟨⟨aY (hold (ay (List.take 4 (List.drop 4 x1))-ay (List.take 4 (List.drop 4 x2)))).den⟩⟩)),.c (.v (.bool (decide (x5<0)))),.c (.v (.string ⟨⟨aD x5.natAbs⟩⟩)),.c (.v (.bool false)),.c (.v (.string ⟨⟨aY (hold (ay (List.drop 8 x1)-ay (List.drop 8 x2))).den⟩⟩))]
 let x7:List AV:=[.c (.v (.bool (decide (v3.p.num<0)))),.c (.v (.string ⟨⟨aD v3.p.num.natAbs⟩⟩)),.c (.v (.bool false)),.c (.v (.string ⟨⟨aY v3.p.den⟩⟩)),.c (.v (.bool (decide (v3.r.num<0)))),.c (.v (.string ⟨⟨aD v3.r.num.natAbs⟩⟩)),.c (.v (.bool false)),.c (.v (.string ⟨⟨aY v3.r.den⟩⟩)),.c (.v (.bool v3.neg))]
 let x8:List Bool:=[false==false]
 let x9:Int:=(hold (tJ (bH x6) (bK x7))).num
 let x10:Int:=(hold (tH (bH x6) (bK x7))).num
 .need (dB x1) (.need (dB x2) (.need (kH (bH x1) (bH x2)) (.need (dB x6) (.need (dh x7) (.need (jX (bH x6) (bK x7)) (.ret (.c (.v (.bool (cu [cu [cu ((([]:List UInt8)==[])::x8).reverse,cu ((([]:List UInt8)==[])::x8).reverse].reverse,cu [cu ((aY (hold (tJ (bH x6) (bK x7))).den==[])::x8).reverse,cu [aD x9.natAbs==[],decide (x9<0)==false].reverse].reverse,cu [cu ((aY (hold (tH (bH x6) (bK x7))).den==[])::x8).reverse,cu [aD x10.natAbs==[],decide (x10<0)==false].reverse].reverse].reverse))))))))))
def anj(v1:Rat)(v2:Rat)(v3:Rat)(v4:Rat):Tr AV:=
 let x1:List AV:=[.c (.v (.bool (decide (v4.num<0)))),.c (.v (.string ⟨⟨aD v4.num.natAbs⟩⟩)),.c (.v (.bool false)),.c (.v (.string ⟨⟨aY v4.den⟩⟩))]
 let x2:List AV:=[.c (.v (.bool (decide (v2.num<0)))),.c (.v (.string ⟨⟨aD v2.num.natAbs⟩⟩)),.c (.v (.bool false)),.c (.v (.string ⟨⟨aY v2.den⟩⟩))]
 let x3:List AV:=[.c (.v (.bool (decide (v3.num<0)))),.c (.v (.string ⟨⟨aD v3.num.natAbs⟩⟩)),.c (.v (.bool false)),.c (.v (.string ⟨⟨aY v3.den⟩⟩))]
 let x4:List AV:=[.c (.v (.bool (decide (v1.num<0)))),.c (.v (.string ⟨⟨aD v1.num.natAbs⟩⟩)),.c (.v (.bool false)),.c (.v (.string ⟨⟨aY v1.den⟩⟩))]
 let x5:Int:=(hold (ay x1-ay x2)).num
 let x6:List AV:=[.c (.v (.bool (decide (x5<0)))),.c (.v (.string ⟨⟨aD x5.natAbs⟩⟩)),.c (.v (.bool false)),.c (.v (.string ⟨⟨aY (hold (ay x1-ay x2)).den⟩⟩))]
 let x7:Int:=(hold (ay x3-ay x4)).num
 let x8:List AV:=[.c (.v (.bool (decide (x7<0)))),.c (.v (.string ⟨⟨aD x7.natAbs⟩⟩)),.c (.v (.bool false)),.c (.v (.string ⟨⟨aY (hold (ay x3-ay x4)).den⟩⟩))]
 let x9:List AV:=[.c (.v (.bool false)),.c (.v (.string {data:= #[]})),.c (.v (.bool false)),.c (.v (.string {data:= #[]}))]
 let x10:List AV:=[.c (.v (.int i64 0))]
 let iW:Int:=(hold (ay x6/ay x8)).num
 let kL:List AV:=[.c (.v (.bool (decide (iW<0)))),.c (.v (.string ⟨⟨aD iW.natAbs⟩⟩)),.c (.v (.bool false)),.c (.v (.string ⟨⟨aY (hold (ay x6/ay x8)).den⟩⟩))]
 let jA:Int:=(hold (ay kL*ay x4)).num
 let kM:List AV:=[.c (.v (.bool (decide (jA<0)))),.c (.v (.string ⟨⟨aD jA.natAbs⟩⟩)),.c (.v (.bool false)),.c (.v (.string ⟨⟨aY (hold (ay kL*ay x4)).den⟩⟩))]
 let mO:Int:=(hold (ay x2-ay kM)).num
 .need (aK x1) (.need (aK x2) (.need (jB (ay x1) (-ay x2)) (.need (aK x3) (.need (aK x4) (.need (jB (ay x3) (-ay x4)) (.need (aK x6) (.need (aK x8) (.need (Ov (ay x6) (ay x8)) (.need (decide (ay x8≠0)) (.ite false (.ret (AV.fG (AV.agg (.c (.v (.bool false)):: .c (.v (.string {data:= #[]})):: .c (.v (.bool false)):: .c (.v (.string {data:= #[]})):: .c (.v (.bool false)):: .c (.v (.string {data:= #[]})):: .c (.v (.bool false)):: .c (.v (.string {data:= #[]}))::x9)::x10))) (.need (aK kL) (.need (aK x4) (.need (j5 (ay kL) (ay x4)) (.need (aK x2) (.need (aK kM) (.need (jB (ay x2) (-ay kM)) (.ret (AV.fG (AV.agg (.c (.v (.bool (decide (mO<0)))):: .c (.v (.string ⟨⟨aD mO.natAbs⟩⟩)):: .c (.v (.bool false)):: .c (.v (.string ⟨⟨aY (hold (ay x2-ay kM)).den⟩⟩)):: .c (.v (.bool (decide (iW<0)))):: .c (.v (.string ⟨⟨aD iW.natAbs⟩⟩)):: .c (.v (.bool false)):: .c (.v (.string ⟨⟨aY (hold (ay x6/ay x8)).den⟩⟩))::x9)::x10)))))))))))))))))))
theorem aif(v1:R3):aN prog anc dn 1010 Tryz.f150 [.agg (aQ v1)]=anf v1:=by kernel_rfl
theorem aii(v1:R3):aN prog (λ_=>none) dn 1010 Tryz.f118 [.agg (aQ v1)]=ang v1:=by kernel_rfl
theorem aij(v1:Q3)(v2:R3):aN prog (IZ prog ac0 70 3) dn 1010 Tryz.f67 [.agg (bD v1),.agg (aQ v2)]=anh v1 v2:=by kernel_rfl
theorem aik(v1:Q3)(v2:Q3)(v3:R3):aN prog ane dn 1010 Tryz.f358 [.agg (bD v1),.agg (bD v2),.agg (aQ v3)]=ani v1 v2 v3:=by kernel_rfl
theorem ail(v1:Rat)(v2:Rat)(v3:Rat)(v4:Rat):aN prog (IZ prog ac1 70 3) dn 1010 Tryz.f114 [.agg (av v1),.agg (av v2),.agg (av v3),.agg (av v4)]=anj v1 v2 v3 v4:=by kernel_rfl
theorem ac2(v1:R3):(anf v1).sat λr=>r=oK (hold (wW v1.neg)):=by
 obtain⟨p,r,neg⟩:=v1;simp only[anf,sat_true,fU];cases neg
 ·refine aj (λh=>by cases h) (λ_=> ?_)
  simp only[sat_true];exact ak rfl
 ·refine aj (λ_=> ?_) (λh=>by cases h)
  simp only[sat_true];exact ak rfl
theorem ac3(v1:R3):(ang v1).sat λr=>r= .fG [oK (hold (bif decide (v1.r=0)then v1.p else 0)),bJ (decide (v1.r=0))]:=by
 obtain⟨p,r,neg⟩:=v1;simp only[ang,fP,eT,jf,iq,jg,iw,kX,jO,mX,kV,iN,gN,pX,nK,rT,List.take_succ_cons,List.take_zero,List.drop_succ_cons,List.drop_zero,fU,Bool.and_self,rU,sat_true];refine aj (λh=> ?_) (λh=> ?_)
 ·have h:decide (r=0)=false:=by simpa using h
  rw[h];refine ak ?_;simp only[cond_false,oK,EI];rfl
 ·have h:decide (r=0)=true:=by simpa using h
  rw[h];exact ak rfl
theorem ac4(v1:Q3)(v2:R3)(c1:jX v1 v2=true):(anh v1 v2).sat λr=>r= .agg (av (hold (tH v1 v2))++(av (hold (tJ v1 v2))++Dk)):=by
 obtain⟨a0,a1,a2⟩:=v1;obtain⟨p,r,neg⟩:=v2;simp only[anh,fP,eT,jf,iq,jg,iw,kX,jO,mX,kV,iN,gN,pX,nK,rT,List.take_succ_cons,List.take_zero,List.drop_succ_cons,List.drop_zero,fU,Bool.and_self,rU,sat_true];refine aj (λh=> ?_) (λh=> ?_)
 ·simp only[jX,h,cond_true,bI]at c1
  simp only[fP,eT,jf,iq,jg,iw,kX,jO,mX,kV,iN,gN,pX,nK,rT,List.take_succ_cons,List.take_zero,List.drop_succ_cons,List.drop_zero,fU,Bool.and_self,rU,sat_true,h,cond_true,c1,tH,tJ,EI];exact ak rfl
 ·simp only[jX,qO,h,cond_false,bI]at c1
  simp only[fP,eT,jf,iq,jg,iw,kX,jO,mX,kV,iN,gN,pX,nK,rT,List.take_succ_cons,List.take_zero,List.drop_succ_cons,List.drop_zero,fU,Bool.and_self,rU,sat_true,c1];refine ak ?_;simp only[tH,tJ,h,cond_false];rfl
theorem ac5(v1:Q3)(v2:Q3)(v3:R3)(c1:kH v1 v2=true)(c2:jX (uR v1 v2) v3=true):(ani v1 v2 v3).sat λr=>r=bJ (decide (tH (uR v1 v2) v3=0)&&decide (tJ (uR v1 v2) v3=0)):=by
 obtain⟨a0,a1,a2⟩:=v1;obtain⟨b0,b1,b2⟩:=v2;obtain⟨p,r,neg⟩:=v3;simp only[uR]at c2⊢;simp only[ani,fP,eT,jf,iq,jg,iw,kX,jO,mX,kV,iN,gN,pX,nK,rT,List.take_succ_cons,List.take_zero,List.drop_succ_cons,List.drop_zero,fU,Bool.and_self,rU,sat_true,c1,c2];refine ak ?_
 show AV.c (.v (.bool (decide (tH ⟨a0-b0,a1-b1,a2-b2⟩ ⟨p,r,neg⟩=0)&&(decide (tJ ⟨a0-b0,a1-b1,a2-b2⟩ ⟨p,r,neg⟩=0)&&true))))=_
 rw[Bool.and_true];rfl
theorem ac6(v1:Rat)(v2:Rat)(v3:Rat)(v4:Rat)(c1:sM v1 v2 v3 v4=true):(anj v1 v2 v3 v4).sat λr=>r= .fG [.agg (av (hold (v2-iG v1 v2 v3 v4*v1))++(av (hold (iG v1 v2 v3 v4))++Dk)),bR .i64 0]:=by
 simp only[sM,qO,bI]at c1;obtain⟨⟨⟨⟨⟨c1,c2⟩,c3⟩,c4⟩,c5⟩,c6⟩:=c1;unfold iG at c5 c6;simp only[anj,iG,fP,eT,jf,iq,jg,iw,kX,jO,mX,kV,iN,gN,pX,nK,rT,List.take_succ_cons,List.take_zero,List.drop_succ_cons,List.drop_zero,fU,Bool.and_self,rU,sat_true,c1,c2,c3,c4,c5,c6];refine aj (λh=>by cases h) (λ_=> ?_);simp only[sat_true];exact ak rfl
theorem ain: ∀f s,anc f=some s→aH prog f s:=bM Df.spec
theorem aio:aF prog 150 aia:=by
 refine vE ain (fn:=Tryz.f150) ?_ ?_
 ·intro args v cs h
  unfold aia at h
  split at h
  ·cases h;rfl
  ·cases h
 ·intro args v cs h hc
  unfold aia at h
  split at h
  ·rename_i l1
   cases h;have h1:dh l1=true:=hc (dh l1) (by simp);obtain⟨v1,rfl⟩: ∃x,l1=aQ x:=⟨_,kW h1⟩
   simp only[bT]at*;have hs:=ac2 v1;rw[←aif]at hs;generalize aN prog anc dn 1010 Tryz.f150 [.agg (aQ v1)]=T at hs⊢;generalize hold (wW v1.neg)=z at hs⊢;exact Tr.aZ (λr hr=>⟨by subst hr;rfl,bL.of_eq hr⟩) hs
  ·cases h
theorem aip:aF prog 118 aib:=by
 refine vE eH (fn:=Tryz.f118) ?_ ?_
 ·intro args v cs h
  unfold aib at h
  split at h
  ·cases h;rfl
  ·cases h
 ·intro args v cs h hc
  unfold aib at h
  split at h
  ·rename_i l1
   cases h;have h1:dh l1=true:=hc (dh l1) (by simp);obtain⟨v1,rfl⟩: ∃x,l1=aQ x:=⟨_,kW h1⟩
   simp only[bT]at*;have hs:=ac3 v1;rw[←aii]at hs;generalize aN prog (λ_=>none) dn 1010 Tryz.f118 [.agg (aQ v1)]=T at hs⊢;generalize hold (bif decide (v1.r=0)then v1.p else 0)=z0 at hs⊢;generalize decide (v1.r=0)=z1 at hs⊢;exact Tr.aZ (λr hr=>⟨by subst hr;rfl,bL.of_eq hr⟩) hs
  ·cases h
theorem ac7: ∀f s,ac0 f=some s→aH prog f s:=step_ok aip.spec (step_ok ah5.spec (step_ok uD.spec (step_ok Dj.spec (step_ok uz.spec (bM ah7.spec)))))
theorem Ow:aF prog 67 acZ:=by
 refine vE (I5 (N:=70) aI ac7 3) (fn:=Tryz.f67) ?_ ?_
 ·intro args v cs h
  unfold acZ at h
  split at h
  ·cases h;rfl
  ·cases h
 ·intro args v cs h hc
  unfold acZ at h
  split at h
  ·rename_i l1 l2
   cases h;have h1:dB l1=true:=hc (dB l1) (by simp);have h2:dh l2=true:=hc (dh l2) (by simp);have c1:jX (bH l1) (bK l2)=true:=hc (jX (bH l1) (bK l2)) (by simp);obtain⟨v1,rfl⟩: ∃x,l1=bD x:=⟨_,mE h1⟩
   obtain⟨v2,rfl⟩: ∃x,l2=aQ x:=⟨_,kW h2⟩
   simp only[dQ,bT]at*;have hs:=ac4 v1 v2 c1;rw[←aij]at hs;generalize aN prog (IZ prog ac0 70 3) dn 1010 Tryz.f67 [.agg (bD v1),.agg (aQ v2)]=T at hs⊢;generalize hold (tH v1 v2)=z0 at hs⊢;generalize hold (tJ v1 v2)=z1 at hs⊢;exact Tr.aZ (λr hr=>⟨by subst hr;rfl,bL.of_eq hr⟩) hs
  ·cases h
theorem aiq: ∀f s,ane f=some s→aH prog f s:=step_ok ah3.spec (bM Ow.spec)
theorem air:aF prog 358 aic:=by
 refine vE aiq (fn:=Tryz.f358) ?_ ?_
 ·intro args v cs h
  unfold aic at h
  split at h
  ·cases h;rfl
  ·cases h
 ·intro args v cs h hc
  unfold aic at h
  split at h
  ·rename_i l1 l2 l3
   cases h;have h1:dB l1=true:=hc (dB l1) (by simp);have h2:dB l2=true:=hc (dB l2) (by simp);have h3:dh l3=true:=hc (dh l3) (by simp);have c1:kH (bH l1) (bH l2)=true:=hc (kH (bH l1) (bH l2)) (by simp);have c2:jX (uR (bH l1) (bH l2)) (bK l3)=true:=hc (jX (uR (bH l1) (bH l2)) (bK l3)) (by simp);obtain⟨v1,rfl⟩: ∃x,l1=bD x:=⟨_,mE h1⟩
   obtain⟨v2,rfl⟩: ∃x,l2=bD x:=⟨_,mE h2⟩
   obtain⟨v3,rfl⟩: ∃x,l3=aQ x:=⟨_,kW h3⟩
   simp only[dQ,bT]at*;have hs:=ac5 v1 v2 v3 c1 c2;rw[←aik]at hs;generalize aN prog ane dn 1010 Tryz.f358 [.agg (bD v1),.agg (bD v2),.agg (aQ v3)]=T at hs⊢;generalize (decide (tH (uR v1 v2) v3=0)&&decide (tJ (uR v1 v2) v3=0))=z at hs⊢;exact Tr.aZ (λr hr=>⟨by subst hr;rfl,bL.of_eq hr⟩) hs
  ·cases h
theorem ac8: ∀f s,ac1 f=some s→aH prog f s:=step_ok Dj.spec (step_ok XJ.spec (bM uD.spec))
theorem ais:aF prog 114 aie:=by
 refine vE (I5 (N:=70) aI ac8 3) (fn:=Tryz.f114) ?_ ?_
 ·intro args v cs h
  unfold aie at h
  split at h
  ·cases h;rfl
  ·cases h
 ·intro args v cs h hc
  unfold aie at h
  split at h
  ·rename_i l1 l2 l3 l4
   cases h;have h1:aK l1=true:=hc (aK l1) (by simp);have h2:aK l2=true:=hc (aK l2) (by simp);have h3:aK l3=true:=hc (aK l3) (by simp);have h4:aK l4=true:=hc (aK l4) (by simp);have c1:sM (ay l1) (ay l2) (ay l3) (ay l4)=true:=hc (sM (ay l1) (ay l2) (ay l3) (ay l4)) (by simp);obtain⟨v1,rfl⟩: ∃x,l1=av x:=⟨_,dD h1⟩
   obtain⟨v2,rfl⟩: ∃x,l2=av x:=⟨_,dD h2⟩
   obtain⟨v3,rfl⟩: ∃x,l3=av x:=⟨_,dD h3⟩
   obtain⟨v4,rfl⟩: ∃x,l4=av x:=⟨_,dD h4⟩
   simp only[bS]at*;have hs:=ac6 v1 v2 v3 v4 c1;rw[←ail]at hs;generalize aN prog (IZ prog ac1 70 3) dn 1010 Tryz.f114 [.agg (av v1),.agg (av v2),.agg (av v3),.agg (av v4)]=T at hs⊢;generalize hold (v2-iG v1 v2 v3 v4*v1)=z0 at hs⊢;generalize hold (iG v1 v2 v3 v4)=z1 at hs⊢;exact Tr.aZ (λr hr=>⟨by subst hr;rfl,bL.of_eq hr⟩) hs
  ·cases h
end Go.bA
namespace Go.bA
open Go.Proofs
theorem Ox{x y:Rat}{N D N' D':Nat}(hx:oU N D x)(hy:oU N' D' y)(h1:N<18446744073709551616)(h2:D<18446744073709551616)(h3:N'<18446744073709551616)(h4:D'<18446744073709551616):sJ x y=true:=by
 obtain⟨a1,a2⟩:=hx;obtain⟨b1,b2⟩:=hy;have hB:=uy;simp only[sJ,uQ,bI,dS,Int.natAbs_natCast];omega
theorem Oy{x y:Rat}{N D N' D':Nat}(hx:oU N D x)(hy:oU N' D' y)(h1:N<18446744073709551616)(h2:D<18446744073709551616)(h3:N'<18446744073709551616)(h4:D'<18446744073709551616)
  (h5:N*D'+N'*D<18446744073709551616) (h6:D*D'<18446744073709551616):jB x y=true:=by
 have h0:=Ox hx hy h1 h2 h3 h4;obtain⟨a1,a2⟩:=hx;obtain⟨b1,b2⟩:=hy;have e1:=Nat.mul_le_mul a1 b2;have e2:=Nat.mul_le_mul b1 a2;have e3:=Nat.mul_le_mul a2 b2;have e4:=Int.natAbs_add_le (x.num*y.den) (y.num*x.den);rw[Int.natAbs_mul,Int.natAbs_mul,Int.natAbs_natCast,Int.natAbs_natCast]at e4;have e5:((x.den:Int)*(y.den:Int)).natAbs=x.den*y.den:=by rw[Int.natAbs_mul,Int.natAbs_natCast,Int.natAbs_natCast]
 have h5:=Nat.lt_of_lt_of_le h5 uy;have h6:=Nat.lt_of_lt_of_le h6 uy;simp only[jB,h0,uQ,bI,dS,e5];exact⟨⟨trivial,Nat.lt_of_le_of_lt (Nat.le_trans e4 (Nat.add_le_add e1 e2)) h5⟩,Nat.lt_of_le_of_lt e3 h6⟩
theorem ait{x y:Rat}{N D N' D':Nat}(hx:oU N D x)(hy:oU N' D' y)(h1:N<18446744073709551616)(h2:D<18446744073709551616)(h3:N'<18446744073709551616)(h4:D'<18446744073709551616)
  (h5:N*N'<18446744073709551616) (h6:D*D'<18446744073709551616):j5 x y=true:=by
 have h0:=Ox hx hy h1 h2 h3 h4;obtain⟨a1,a2⟩:=hx;obtain⟨b1,b2⟩:=hy;have e1:=Nat.mul_le_mul a1 b1;have e3:=Nat.mul_le_mul a2 b2;have e4:(x.num*y.num).natAbs=x.num.natAbs*y.num.natAbs:=Int.natAbs_mul ..;have e5:((x.den:Int)*(y.den:Int)).natAbs=x.den*y.den:=by rw[Int.natAbs_mul,Int.natAbs_natCast,Int.natAbs_natCast]
 have h5:=Nat.lt_of_lt_of_le h5 uy;have h6:=Nat.lt_of_lt_of_le h6 uy;simp only[j5,h0,uQ,bI,dS,e4,e5];exact⟨⟨trivial,Nat.lt_of_le_of_lt e1 h5⟩,Nat.lt_of_le_of_lt e3 h6⟩
theorem aiu{x y:Rat}{N D N' D':Nat}(hx:oU N D x)(hy:oU N' D' y)(h1:N<18446744073709551616)(h2:D<18446744073709551616)(h3:N'<18446744073709551616)(h4:D'<18446744073709551616)
  (h5:N*D'<18446744073709551616) (h6:D*N'<18446744073709551616):Ov x y=true:=by
 have h0:=Ox hx hy h1 h2 h3 h4;obtain⟨a1,a2⟩:=hx;obtain⟨b1,b2⟩:=hy;have e1:=Nat.mul_le_mul a1 b2;have e3:=Nat.mul_le_mul a2 b1;have e4:(x.num*(y.den:Int)).natAbs=x.num.natAbs*y.den:=by rw[Int.natAbs_mul,Int.natAbs_natCast]
 have e5:((x.den:Int)*y.num).natAbs=x.den*y.num.natAbs:=by rw[Int.natAbs_mul,Int.natAbs_natCast]
 have h5:=Nat.lt_of_lt_of_le h5 uy;have h6:=Nat.lt_of_lt_of_le h6 uy;simp only[Ov,h0,uQ,bI,dS,e4,e5];exact⟨⟨trivial,Nat.lt_of_le_of_lt e1 h5⟩,Nat.lt_of_le_of_lt e3 h6⟩
def yL(N D:Nat)(q:Rat):Bool:=decide (q.num.natAbs≤N∧q.den≤D)
theorem yM{N D:Nat}{q:Rat}:yL N D q=true↔oU N D q:=by unfold yL oU;exact decide_eq_true_iff
def xQ(l:L4):Q3:=⟨l.x0,l.x1,0⟩
def yQ(l:L4):Q3:=⟨l.y0,l.y1,0⟩
def lbB(x:L4):Bool:=yL 32768 8 x.x0&&yL 63 8 x.x1&&(yL 32768 8 x.y0&&yL 63 8 x.y1)
def tbB(t:R3):Bool:=(decide (t.r=0) || decide (t.r=2))&& !t.neg&&yL 63 1 t.p
theorem oU.zero:oU 0 1 0:=⟨Nat.le_refl _,Nat.le_refl _⟩
theorem oU.one:oU 1 1 1:=⟨Nat.le_refl _,Nat.le_refl _⟩
theorem oU.two:oU 2 1 2:=⟨Nat.le_refl _,Nat.le_refl _⟩
theorem oU.sub{x y:Rat}{N D N' D':Nat}(h:oU N D x)(h':oU N' D' y):oU (N*D'+N'*D) (D*D') (x-y):=by
 rw[Rat.sub_eq_add_neg];exact h.add h'.neg
end Go.bA
namespace Go.bA
open Go.Proofs
def vP(p q:Q3)(t:R3):Bool:=decide (tH (uR p q) t=0)&&decide (tJ (uR p q) t=0)
theorem Z0(n:Int):ay [.c (.v (.bool (decide (n<0)))),.c (.v (.string ⟨⟨aD n.natAbs⟩⟩)),.c (.v (.bool false)),.c (.v (.string ⟨⟨aY 1⟩⟩))]=(n:Rat):=bS (n:Rat)
theorem Vx(n:Int):aK [.c (.v (.bool (decide (n<0)))),.c (.v (.string ⟨⟨aD n.natAbs⟩⟩)),.c (.v (.bool false)),.c (.v (.string ⟨⟨aY 1⟩⟩))]=true:=dP (n:Rat)
theorem aiv(d:Nat):fI false ⟨⟨aY d⟩⟩=true:=by
 unfold fI
 show(canon (aY d)&&(!false || _))=true
 rw[JA];rfl
def as9:List AV→Option (AV×List Bool)
 | [.agg [],.agg l1,.agg l2,.agg l3]=>some (bJ (vP (xQ (vO l1)) (xQ (vO l2)) (bK l3)&&vP (yQ (vO l1)) (yQ (vO l2)) (bK l3)),[wV l1,wV l2,dh l3,lbB (vO l1),lbB (vO l2),tbB (bK l3)])
 | _=>none
def K62:List AV→Option (AV×List Bool)
 | [.agg l1]=>some (bR .i64 0,[aK l1,uQ (ay l1).num,uQ (ay l1).den])
 | _=>none
def Γ62:FuncId→Option Spec:=λf=>bif beq f 263 then some (au agb)else bif beq f 223 then some (au ZU)else bif beq f 241 then some (au acn)else bif beq f 221 then some (au acD)else none
def M62(v1:Rat):Tr AV:=
 let x1:List UInt8:=aD v1.num.natAbs
 let x2:ByteArray:=⟨⟨x1⟩⟩
 let x3:ByteArray:=⟨⟨aY v1.den⟩⟩
 let x4:Int:=iv false x3
 let x5:List UInt8:=aD (Int.natAbs 1)
 let x6:Int:=gq x4 (iv (decide ((1:Int)<0)) ⟨⟨x5⟩⟩)
 let x7:Int:= ↑((iv (decide (v1.num<0)) x2).gcd x4)
 .need (bif (if fI (decide (v1.num<0)) x2=true then(0:Int)else 5) !=0 then true else true) (.ite (bif (if fI (decide (v1.num<0)) x2=true then(0:Int)else 5) !=0 then true else bif false then true else(if fI false x3=true then(0:Int)else 5) !=0) (.ret (.c (.v (.int i64 5)))) (.ite (cu [aY v1.den==[],false==false].reverse) (.ret (.c (.v (.int i64 0)))) (.need (fI false x3) (.need true (.need (bif decide (x6≤0)then true else fI (decide (v1.num<0)) x2&&(fI false x3&&(decide (x1.length≤90000000)&&(decide ((aY v1.den).length≤90000000)&&true)))) (.ite (bif decide (x6≤0)then true else bif false then true else !cu [aD x7.natAbs==x5,decide (x7<0)==decide ((1:Int)<0)].reverse) (.ret (.c (.v (.int i64 5)))) (.ret (.c (.v (.int i64 0))))))))))
theorem ank(v1:Rat):aN prog Γ62 dn 1010 Tryz.f228 [.agg (av v1)]=M62 v1:=by kernel_rfl
theorem aiw(v1:Rat)(c1:uQ v1.num=true)(c2:uQ v1.den=true):(M62 v1).sat λr=>r=bR .i64 0:=by
 have h0:=v1.den_nz;simp only[M62,kR,aiv,mD,JD _ h0];refine ah rfl (aj (λh=>by cases h) (λ_=>aj (λh=>ak rfl) (λh=> ?_)));have hd:v1.den≠1:=by
  intro hh;rw[show(cu [decide (v1.den=1),false==false].reverse)=decide (v1.den=1)by simp[cu],dK hh]at h;cases h
 have e1:aY v1.den=aD v1.den:=by
  unfold aY;rw[ahq hd];rfl
 have e2:iv false ⟨⟨aY v1.den⟩⟩=(v1.den:Int):=by
  rw[e1]
  show((aM (aD v1.den):Nat):Int)=_
  rw[iM]
 have e3:Int.gcd v1.num (v1.den:Int)=1:=v1.reduced;have e4:decide (gq (v1.den:Int) 1≤0)=false:=by
  refine iB ?_;unfold gq;have:0<v1.den:=v1.den_pos;rw[if_neg (by omega),if_pos (by omega)];omega
 have hi:iv (decide ((1:Int)<0)) ⟨⟨aD (Int.natAbs 1)⟩⟩=1:=mD 1;have l1:decide ((aD v1.num.natAbs).length≤90000000)=true:=F5 c1;have l2:decide ((aY v1.den).length≤90000000)=true:=by
  rw[e1];have:=F5 c2;rw[Int.natAbs_natCast]at this;exact this
 simp only[e2,e3,hi,e4,l1,l2,Bool.and_self,sat_true,cond_false,EH];refine aj (λhh=> ?_) (λ_=>ak rfl);simp at hh
theorem anl: ∀f s,Γ62 f=some s→aH prog f s:=step_ok agc.spec (step_ok Oo.spec (step_ok XC.spec (bM XG.spec)))
theorem anm:aF prog 228 K62:=by
 refine vE anl (fn:=Tryz.f228) ?_ ?_
 ·intro args v cs h
  unfold K62 at h
  split at h
  ·cases h;rfl
  ·cases h
 ·intro args v cs h hc
  unfold K62 at h
  split at h
  ·rename_i l1
   cases h;have h1:aK l1=true:=hc (aK l1) (by simp);have c1:uQ (ay l1).num=true:=hc (uQ (ay l1).num) (by simp);have c2:uQ (ay l1).den=true:=hc (uQ (ay l1).den) (by simp);obtain⟨v1,rfl⟩: ∃x,l1=av x:=⟨_,dD h1⟩
   try simp only[bS]at*
   have hs:=aiw v1 c1 c2;rw[←ank]at hs;generalize aN prog Γ62 dn 1010 Tryz.f228 [.agg (av v1)]=T at hs⊢;exact Tr.aZ (λr hr=>⟨by subst hr;rfl,bL.of_eq hr⟩) hs
  ·cases h
end Go.bA
namespace Go.bA
open Go.Proofs
def KU(q:Rat):List IV:=[.v (.bool (decide (q.num<0))),.v (.string ⟨⟨aD q.num.natAbs⟩⟩),.v (.bool false),.v (.string ⟨⟨aY q.den⟩⟩)]
def Oz(x:L4):List IV:=KU x.x0++(KU x.x1++(KU x.y0++KU x.y1))
def l40:L4:=⟨0,0,0,0⟩
theorem vS: ∀{l m:List IV},l.map AV.c=m.map AV.c→l=m
 | [],[],_=>rfl
 | [],_::_,h=>by cases h
 | _::_,[],h=>by cases h
 | x::l,y::m,h=>by
   simp only[List.map_cons,List.cons.injEq,AV.c.injEq]at h;rw[h.1,vS h.2]
theorem jI(x:L4):wV (jD x)=true:=by
 show(aK (av x.x0)&&aK (av x.x1)&&aK (av x.y0)&&aK (av x.y1))=true
 rw[dP,dP,dP,dP];rfl
theorem dw(x:R3):dh (aQ x)=true:=by
 show(aK (av x.p)&&aK (av x.r)&&sK [.c (.v (.bool x.neg))])=true
 rw[dP,dP];rfl
end Go.bA
namespace Go.bA
open Go.Proofs
structure Un where
 a:Int
 b:Int
 oa:Bool
 ob:Bool
 f:L4
def zIV:List IV:=[.v (.bool false),.v (.string ⟨⟨[]⟩⟩),.v (.bool false),.v (.string ⟨⟨[]⟩⟩)]
def Vy(n:Int):List IV:=KU (n:Rat)++(zIV++[.v (.bool false)])
def KV(u:Un):List IV:=Vy u.a++(Vy u.b++([.v (.bool u.oa),.v (.bool u.ob)]++Oz u.f))
def gP(n:Int):List AV:=av (n:Rat)++(Dk++[.c (.v (.bool false))])
def uE(u:Un):List AV:=gP u.a++(gP u.b++([.c (.v (.bool u.oa)),.c (.v (.bool u.ob))]++jD u.f))
theorem ac9(u:Un):(KV u).map AV.c=uE u:=rfl
def XO(l:List AV):Int:=(bK l).p.num
def Gq(l:List AV):Bool:=dh l&&(decide ((bK l).r=0)&&(!(bK l).neg&&decide ((bK l).p.den=1)))
def unV(l:List AV):Un:=⟨XO (l.take 9),XO ((l.drop 9).take 9),pq ((l.drop 18).take 1),pq ((l.drop 19).take 1),vO (l.drop 20)⟩
def OA(l:List AV):Bool:=Gq (l.take 9)&&(Gq ((l.drop 9).take 9)&&(sK ((l.drop 18).take 1)&&(sK ((l.drop 19).take 1)&&wV (l.drop 20))))
theorem OB(n:Int):gP n=aQ ⟨(n:Rat),0,false⟩:=by
 show _=av (n:Rat)++(av 0++[.c (.v (.bool false))])
 rw[EI];rfl
theorem JH{q:Rat}(h:q.den=1):((q.num:Int):Rat)=q:=Rat.ext rfl h.symm
theorem XP{l:List AV}(h:Gq l=true):l=gP (XO l):=by
 simp only[Gq,bI,dS,Bool.not_eq_true']at h;obtain⟨h1,h2,h3,h4⟩:=h;have e:=kW h1;rw[OB];unfold XO;rw[JH h4];have:bK l=⟨(bK l).p,0,false⟩:=by rw[←h2, ←h3]
 rw[←this];exact e
theorem jP(n:Int):Gq (gP n)=true:=by
 rw[OB];simp only[Gq,dw,bT];simp
theorem kY(n:Int):XO (gP n)=n:=by
 rw[OB];simp only[XO,bT];rfl
theorem zG{l:List AV}(h:sK l=true):l=[.c (.v (.bool (pq l)))]:=by
 unfold sK at h
 split at h
 ·rfl
 ·cases h
theorem aix{l:List AV}(h:OA l=true):l=uE (unV l):=by
 simp only[OA,bI]at h;obtain⟨h1,h2,h3,h4,h5⟩:=h;have e1:=XP h1;have e2:=XP h2;have e3:=zG h3;have e4:=zG h4;have e5:=Mt h5
 show l=gP (XO (l.take 9))++(gP (XO ((l.drop 9).take 9))++(([.c (.v (.bool (pq ((l.drop 18).take 1))))]++[.c (.v (.bool (pq ((l.drop 19).take 1))))])++jD (vO (l.drop 20))))
 rw[←e1, ←e2, ←e3, ←e4, ←e5];have a1:=List.take_append_drop 1 (l.drop 19);rw[List.drop_drop]at a1;have a2:=List.take_append_drop 1 (l.drop 18);rw[List.drop_drop]at a2;have a3:=List.take_append_drop 9 (l.drop 9);rw[List.drop_drop]at a3;rw[List.append_assoc,a1,a2,a3,List.take_append_drop]
theorem nL(u:Un):unV (uE u)=u:=by
 show Un.mk (XO (gP u.a)) (XO (gP u.b)) u.oa u.ob (vO (jD u.f))=u
 rw[kY,kY,ku]
theorem lJ(u:Un):OA (uE u)=true:=by
 show(Gq (gP u.a)&&(Gq (gP u.b)&&(true&&(true&&wV (jD u.f)))))=true
 rw[jP,jP,jI];rfl
def u0:Un:=⟨0,0,false,false,l40⟩
def qH(U:List Un):Nat→List IV:=λk=>KV (U.getD k u0)
def nM(n:Nat)(el:Nat→List IV):List Un:=(List.range n).map λk=>unV ((el k).map .c)
def xI(n:Nat)(el:Nat→List IV):Bool:=(List.range n).all λk=>OA ((el k).map .c)
theorem Mv(n:Nat)(el:Nat→List IV):(nM n el).length=n:=by simp[nM]
theorem Vz(n:Nat)(el:Nat→List IV)(k:Nat)(hk:k<n):(nM n el).getD k u0=unV ((el k).map .c):=by
 simp[nM,dJ,hk]
theorem Rx{n:Nat}{el:Nat→List IV}(h:xI n el=true): ∀k,k<n→el k=qH (nM n el) k:=λk hk=>by
 have h1:=List.all_eq_true.1 h k (List.mem_range.2 hk);have h2:=aix h1;unfold qH;rw[Vz n el k hk];exact vS (h2.trans (ac9 _).symm)
theorem vT(U:List Un):nM U.length (qH U)=U:=by
 apply List.ext_getElem
 ·simp[nM]
 ·intro i h1 h2
  simp[nM,qH,ac9,nL,dJ,h2]
theorem nN(U:List Un):xI U.length (qH U)=true:=by
 refine List.all_eq_true.2 λk _=> ?_
 show OA (uE _)=true
 exact lJ _
end Go.bA
namespace Go.bA
def Dl(u:Un):Bool:=
 decide (0≤u.a)&&(decide (u.b≤63)&&(!u.ob&&(yL 32768 8 u.f.x0&&(yL 63 8 u.f.x1&&(yL 32768 8 u.f.y0&&(yL 63 8 u.f.y1&&
  (decide (u.a<u.b) || (decide (u.a=u.b)&&(!u.oa&&(decide (u.f.x1=0)&&decide (u.f.y1=0)))))))))))
def F6(u v:Un):Bool:=decide (u.a<u.b)&&bif v.oa then decide (u.b=v.a)else decide (u.b<v.a)
def vU:List Un→Bool
 | []=>true
 | u::l=>Dl u&&(match l with | []=>true|v::_=>F6 u v)&&vU l
def Mw(l:List Un):Bool:=vU l&&(match l with | []=>true|u::_=> !u.oa)
theorem zH{u:Un}{l:List Un}(h:vU (u::l)=true):vU l=true:=by
 simp only[vU,bI]at h;exact h.2
theorem zI{u:Un}{l:List Un}(h:vU (u::l)=true):Dl u=true:=by
 simp only[vU,bI]at h;exact h.1.1
theorem Mx{u v:Un}{l:List Un}(h:vU (u::v::l)=true):F6 u v=true:=by
 rw[vU,bI,bI]at h;exact h.1.2
end Go.bA
namespace Go.bA
open Go.Proofs
structure Iv where
 a:Int
 b:Int
 oa:Bool
 ob:Bool
def Dm(i:Iv):List AV:=gP i.a++(gP i.b++[.c (.v (.bool i.oa)),.c (.v (.bool i.ob))])
def ivV(l:List AV):Iv:=⟨XO (l.take 9),XO ((l.drop 9).take 9),pq ((l.drop 18).take 1),pq (l.drop 19)⟩
def asA(l:List AV):Bool:=Gq (l.take 9)&&(Gq ((l.drop 9).take 9)&&(sK ((l.drop 18).take 1)&&sK (l.drop 19)))
theorem zJ(x:Iv):ivV (Dm x)=x:=by
 show Iv.mk (XO (gP x.a)) (XO (gP x.b)) x.oa x.ob=x
 rw[kY,kY]
theorem vV(x:Iv):asA (Dm x)=true:=by
 show(Gq (gP x.a)&&(Gq (gP x.b)&&(true&&true)))=true
 rw[jP,jP];rfl
abbrev F1{X:Type}(A:Arg X):Form (X×Unit):= .cons A .nil
abbrev F2{X Y:Type}(A:Arg X)(B:Arg Y):Form (X×Y×Unit):= .cons A (.cons B .nil)
abbrev F3{X Y Z:Type}(A:Arg X)(B:Arg Y)(C:Arg Z):Form (X×Y×Z×Unit):= .cons A (.cons B (.cons C .nil))
end Go.bA
namespace Go.bA
open Go.Proofs
end Go.bA
namespace Go.bA
open Go.Proofs
structure Bd where
 t:Int
 k:Bool
end Go.bA
namespace Go.bA
open Go.Proofs
def Bt(k:Nat)(q:Rat):Prop:=oU (2^k) (2^k) q
theorem Bt.mono{k l:Nat}{q:Rat}(h:Bt k q)(hl:k≤l):Bt l q:=oU.mono h (Nat.pow_le_pow_right (by decide) hl) (Nat.pow_le_pow_right (by decide) hl)
theorem Bt.add{k l:Nat}{x y:Rat}(h:Bt k x)(h':Bt l y):Bt (k+l+1) (x+y):=by
 refine oU.mono (oU.add h h') ?_ ?_
 ·rw[←Nat.pow_add, ←Nat.pow_add,Nat.add_comm l k,Nat.pow_succ];omega
 ·rw[←Nat.pow_add];exact Nat.pow_le_pow_right (by decide) (by omega)
theorem Bt.mul{k l:Nat}{x y:Rat}(h:Bt k x)(h':Bt l y):Bt (k+l) (x*y):=by
 refine oU.mono (oU.mul h h') ?_ ?_<;>rw[←Nat.pow_add]<;>exact Nat.le_refl _
theorem Bt.neg{k:Nat}{x:Rat}(h:Bt k x):Bt k (-x):=oU.neg h
theorem Bt.sub{k l:Nat}{x y:Rat}(h:Bt k x)(h':Bt l y):Bt (k+l+1) (x-y):=by
 rw[Rat.sub_eq_add_neg];exact h.add h'.neg
theorem Bt.zero(k:Nat):Bt k 0:=⟨Nat.zero_le _,Nat.pow_pos (by decide)⟩
theorem qp{n k:Nat}(h:n≤2^k)(hk:k<8000000):n<BIG:=by
 refine Nat.lt_of_le_of_lt h ?_;unfold BIG;exact acw 1000000 k (by omega)
theorem OC{k l:Nat}{x y:Rat}(h:Bt k x)(h':Bt l y)(hk:k<8000000)(hl:l<8000000):sJ x y=true:=by
 have a1:=qp h.1 hk;have a2:=qp h.2 hk;have b1:=qp h'.1 hl;have b2:=qp h'.2 hl;simp only[sJ,uQ,bI,dS,Int.natAbs_natCast];exact⟨⟨⟨a1,a2⟩,b1⟩,b2⟩
theorem kI{k l:Nat}{x y:Rat}(h:Bt k x)(h':Bt l y)(hk:k+l+1<8000000):jB x y=true:=by
 have h0:=OC h h' (by omega) (by omega);obtain⟨a1,a2⟩:=h;obtain⟨b1,b2⟩:=h';have e1:=Nat.mul_le_mul a1 b2;have e2:=Nat.mul_le_mul b1 a2;have e3:=Nat.mul_le_mul a2 b2;have e4:=Int.natAbs_add_le (x.num*y.den) (y.num*x.den);rw[Int.natAbs_mul,Int.natAbs_mul,Int.natAbs_natCast,Int.natAbs_natCast]at e4;have e5:((x.den:Int)*(y.den:Int)).natAbs=x.den*y.den:=by rw[Int.natAbs_mul,Int.natAbs_natCast,Int.natAbs_natCast]
 rw[←Nat.pow_add]at e1 e3;rw[←Nat.pow_add,Nat.add_comm l k]at e2;simp only[jB,h0,uQ,bI,dS,e5];refine⟨⟨trivial,qp (k:=k+l+1) ?_ hk⟩,qp e3 (by omega)⟩;rw[Nat.pow_succ];omega
theorem jJ{k l:Nat}{x y:Rat}(h:Bt k x)(h':Bt l y)(hk:k+l<8000000):j5 x y=true:=by
 have h0:=OC h h' (by omega) (by omega);obtain⟨a1,a2⟩:=h;obtain⟨b1,b2⟩:=h';have e1:=Nat.mul_le_mul a1 b1;have e3:=Nat.mul_le_mul a2 b2;have e4:(x.num*y.num).natAbs=x.num.natAbs*y.num.natAbs:=Int.natAbs_mul ..;have e5:((x.den:Int)*(y.den:Int)).natAbs=x.den*y.den:=by rw[Int.natAbs_mul,Int.natAbs_natCast,Int.natAbs_natCast]
 rw[←Nat.pow_add]at e1 e3;simp only[j5,h0,uQ,bI,dS,e4,e5];exact⟨⟨trivial,qp e1 hk⟩,qp e3 hk⟩
def wX(k:Nat)(q:Rat):Bool:=yL (2^k) (2^k) q
theorem kJ{k:Nat}{q:Rat}:wX k q=true↔Bt k q:=yM
structure sN (k:Nat) (q:Q3):Prop where
 c0:Bt k q.c0
 c1:Bt k q.c1
 c2:Bt k q.c2
def qI(k:Nat)(q:Q3):Bool:=wX k q.c0&&(wX k q.c1&&wX k q.c2)
theorem dG{k:Nat}{q:Q3}:qI k q=true↔sN k q:=by
 simp only[qI,bI,kJ];exact⟨λh=>⟨h.1,h.2.1,h.2.2⟩,λh=>⟨h.c0,h.c1,h.c2⟩⟩
def ada(p q:Q3):Q3:=⟨p.c0+q.c0,p.c1+q.c1,p.c2+q.c2⟩
def Ry(p q:Q3):Q3:=⟨p.c0*q.c0,p.c0*q.c1+p.c1*q.c0,p.c0*q.c2+p.c2*q.c0+p.c1*q.c1⟩
def nR(q:Q3):Int:=if q.c2≠0 then 2 else if q.c1≠0 then 1 else if q.c0≠0 then 0 else -1
def Dn(p q:Q3):Bool:= !(decide (0≤nR p)&&(decide (0≤nR q)&&decide (2<nR p+nR q)))
def Dp(q:Q3):Q3:=⟨hold q.c0,hold q.c1,hold q.c2⟩
theorem yN(q:Q3):Dp q=q:=by simp only[Dp,fU]
def qw:Arg Q3 where
 get:=λa=>match a with | .agg l=>some (bH l,[dB l]) | _=>none
 put:=oL
 ok:=by
  intro a x cs h hc
  split at h
  ·rename_i l
   simp only[fu,Prod.mk.injEq]at h;obtain⟨rfl,rfl⟩:=h;have:=mE (l:=l) (hc _ (by simp));unfold oL;rw[←this];exact bL.refl _
  ·cases h
def aqo:List AV→Option (AV×List Bool):=(F1 qw).K (λx=>bR .i64 (nR x.1)) λ_=> []
def akU:List AV→Option (AV×List Bool):=(F2 qw qw).K (λx=>oL (Dp (ada x.1 x.2.1))) λx=> [qI 1000000 x.1,qI 1000000 x.2.1]
def akV:List AV→Option (AV×List Bool):=(F2 qw qw).K (λx=> .fG [oL (Dp (Ry x.1 x.2.1)),bR .i64 0]) λx=> [qI 100000 x.1,qI 100000 x.2.1,Dn x.1 x.2.1]
def aqp:FuncId→Option Spec:=λf=>bif beq f 153 then some (au Rq)else none
theorem aiy: ∀f s,aqp f=some s→aH prog f s:=bM Dc.spec
def akW:FuncId→Option Spec:=λf=>bif beq f 122 then some (au JE)else none
theorem adb: ∀f s,akW f=some s→aH prog f s:=bM uz.spec
def aiz(q:Q3):Tr AV:=
 let x1:List AV:=[AV.c (.v (.bool (decide (q.c2.num<0)))),AV.c (.v (.string ⟨⟨aD q.c2.num.natAbs⟩⟩)),AV.c (.v (.bool false)),
  AV.c (.v (.string ⟨⟨aY q.c2.den⟩⟩))]
 let x2:List AV:=[AV.c (.v (.bool (decide (q.c1.num<0)))),AV.c (.v (.string ⟨⟨aD q.c1.num.natAbs⟩⟩)),AV.c (.v (.bool false)),
  AV.c (.v (.string ⟨⟨aY q.c1.den⟩⟩))]
 let x3:List AV:=[AV.c (.v (.bool (decide (q.c0.num<0)))),AV.c (.v (.string ⟨⟨aD q.c0.num.natAbs⟩⟩)),AV.c (.v (.bool false)),
  AV.c (.v (.string ⟨⟨aY q.c0.den⟩⟩))]
 let x4:Bool:=aK x3
 let x5:Bool:=gq (ay x3).num 0 !=0
 Tr.ite true
  (need true
   (need (aK x1)
    (Tr.ite (gq (ay x1).num 0 !=0) (ret (AV.c (.v (.int i64 2))))
     (Tr.ite true
      (need true
       (need (aK x2)
        (Tr.ite (gq (ay x2).num 0 !=0) (ret (AV.c (.v (.int i64 1))))
         (Tr.ite true
          (need true
           (need x4
            (Tr.ite x5 (ret (AV.c (.v (.int i64 0))))
             (Tr.ite false
              (need false
               (need x4
                (Tr.ite x5 (ret (AV.c (.v (.int i64 (-1)))))
                 (Tr.ite false (need false (need x4 (Tr.ite x5 (ret (AV.c (.v (.int i64 (-2))))) (Tr.fail "rounds"))))
                  (ret (AV.c (.v (.int i64 (-1)))))))))
              (ret (AV.c (.v (.int i64 (-1)))))))))
          (ret (AV.c (.v (.int i64 (-1)))))))))
      (ret (AV.c (.v (.int i64 (-1)))))))))
  (ret (AV.c (.v (.int i64 (-1)))))
def XQ(p:Q3)(q:Q3):Tr AV:=
 let x1:List AV:=[AV.c (.v (.bool (decide (p.c0.num<0)))),AV.c (.v (.string ⟨⟨aD p.c0.num.natAbs⟩⟩)),AV.c (.v (.bool false)),
  AV.c (.v (.string ⟨⟨aY p.c0.den⟩⟩))]
 let x2:List AV:=[AV.c (.v (.bool (decide (q.c0.num<0)))),AV.c (.v (.string ⟨⟨aD q.c0.num.natAbs⟩⟩)),AV.c (.v (.bool false)),
  AV.c (.v (.string ⟨⟨aY q.c0.den⟩⟩))]
 let x3:List AV:=[AV.c (.v (.bool (decide (p.c1.num<0)))),AV.c (.v (.string ⟨⟨aD p.c1.num.natAbs⟩⟩)),AV.c (.v (.bool false)),
  AV.c (.v (.string ⟨⟨aY p.c1.den⟩⟩))]
 let x4:List AV:=[AV.c (.v (.bool (decide (q.c1.num<0)))),AV.c (.v (.string ⟨⟨aD q.c1.num.natAbs⟩⟩)),AV.c (.v (.bool false)),
  AV.c (.v (.string ⟨⟨aY q.c1.den⟩⟩))]
 let x5:List AV:=[AV.c (.v (.bool (decide (p.c2.num<0)))),AV.c (.v (.string ⟨⟨aD p.c2.num.natAbs⟩⟩)),AV.c (.v (.bool false)),
  AV.c (.v (.string ⟨⟨aY p.c2.den⟩⟩))]
 let x6:List AV:=[AV.c (.v (.bool (decide (q.c2.num<0)))),AV.c (.v (.string ⟨⟨aD q.c2.num.natAbs⟩⟩)),AV.c (.v (.bool false)),
  AV.c (.v (.string ⟨⟨aY q.c2.den⟩⟩))]
 let x7:Int:=(hold (ay x1+ay x2)).num
 let x8:Int:=(hold (ay x3+ay x4)).num
 let x9:Int:=(hold (ay x5+ay x6)).num
 need (aK x1)
  (need (aK x2)
   (need (jB (ay x1) (ay x2))
    (need (aK x3)
     (need (aK x4)
      (need (jB (ay x3) (ay x4))
       (need (aK x5)
        (need (aK x6)
         (need (jB (ay x5) (ay x6))
          (ret
           (AV.agg
            [AV.c (.v (.bool (decide (x7<0)))),AV.c (.v (.string ⟨⟨aD x7.natAbs⟩⟩)),
             AV.c (.v (.bool false)),AV.c (.v (.string ⟨⟨aY (hold (ay x1+ay x2)).den⟩⟩)),
             AV.c (.v (.bool (decide (x8<0)))),AV.c (.v (.string ⟨⟨aD x8.natAbs⟩⟩)),
             AV.c (.v (.bool false)),AV.c (.v (.string ⟨⟨aY (hold (ay x3+ay x4)).den⟩⟩)),
             AV.c (.v (.bool (decide (x9<0)))),AV.c (.v (.string ⟨⟨aD x9.natAbs⟩⟩)),
             AV.c (.v (.bool false)),AV.c (.v (.string ⟨⟨aY (hold (ay x5+ay x6)).den⟩⟩))]))))))))))
theorem aiA(q:Q3):aN prog aqp dn 1005 Tryz.f124 [oL q]=aiz q:=by kernel_rfl
theorem ano(q:Rat):(gq q.num 0 !=0)=decide (q≠0):=by
 unfold gq;have h:q=0↔q.num=0:=Rat.num_eq_zero.symm;by_cases h0:q.num=0
 ·rw[if_neg (by omega),if_neg (by omega),iB (show¬q≠0 from λhh=>hh (h.2 h0))];rfl
 ·rw[dK (show q≠0 from λhh=>h0 (h.1 hh))]
  split
  ·rfl
  ·split
   ·rfl
   ·omega
theorem ade(q:Q3):(aiz q).sat λr=>r=bR .i64 (nR q):=by
 simp only[aiz,fP,eT,jf,iq,iN,gN,fU,Bool.and_self,sat_true,ano];unfold nR;refine aj (λ_=> ?_) (λh=>by cases h);simp only[sat_true];refine aj (λh=> ?_) (λh=> ?_)
 ·rw[if_pos (iX h)];exact ak rfl
 ·rw[if_neg (of_decide_eq_false h)]
  refine aj (λ_=> ?_) (λh=>by cases h);simp only[sat_true];refine aj (λh=> ?_) (λh=> ?_)
  ·rw[if_pos (iX h)];exact ak rfl
  ·rw[if_neg (of_decide_eq_false h)]
   refine aj (λ_=> ?_) (λh=>by cases h);simp only[sat_true];refine aj (λh=> ?_) (λh=> ?_)
   ·rw[if_pos (iX h)];exact ak rfl
   ·rw[if_neg (of_decide_eq_false h)]
    exact aj (λh=>by cases h) (λ_=>ak rfl)
theorem anp:aF prog 124 aqo:=
 (F1 qw).ji (N:=1005) (L:=dn) aI aiy (fn:=Tryz.f124) (c:=codeOf Tryz.f124) (by kernel_rfl) (by kernel_rfl) (by kernel_rfl) (aA _ _) (λ_=>rfl) (M:=λx=>aiz x.1) (λx=>aiA x.1) λx _=>ade x.1
theorem adf(p q:Q3):aN prog akW dn 1010 Tryz.f75 [oL p,oL q]=XQ p q:=by kernel_rfl
theorem Z4(p q:Q3)(hp:sN 1000000 p)(hq:sN 1000000 q):(XQ p q).sat λr=>r=oL (Dp (ada p q)):=by
 have f0:=kI hp.c0 hq.c0 (by decide);have f1:=kI hp.c1 hq.c1 (by decide);have f2:=kI hp.c2 hq.c2 (by decide);simp only[XQ,fP,eT,jf,iq,iN,gN,fU,Bool.and_self,sat_true,f0,f1,f2,yN];exact ak rfl
theorem aiB:aF prog 75 akU:=
 (F2 qw qw).pk adb (fn:=Tryz.f75) (M:=λx=>XQ x.1 x.2.1) (λx=>adf x.1 x.2.1) λx h=>Z4 x.1 x.2.1 (dG.1 (h _ (by simp))) (dG.1 (h (qI 1000000 x.2.1) (by simp)))
def akX:FuncId→Option Spec:=λf=>bif beq f 124 then some (au aqo)else bif beq f 121 then some (au JF)else bif beq f 122 then some (au JE)else none
theorem adg: ∀f s,akX f=some s→aH prog f s:=step_ok anp.spec (step_ok uD.spec (bM uz.spec))
def XR(p:Q3)(q:Q3):Tr AV:=
 let x1:List AV:=[AV.c (.v (.bool (decide (p.c2.num<0)))),AV.c (.v (.string ⟨⟨aD p.c2.num.natAbs⟩⟩)),AV.c (.v (.bool false)),
  AV.c (.v (.string ⟨⟨aY p.c2.den⟩⟩))]
 let x2:List AV:=AV.c (.v (.bool (decide (p.c0.num<0))))::
  AV.c (.v (.string ⟨⟨aD p.c0.num.natAbs⟩⟩))::
   AV.c (.v (.bool false))::
    AV.c (.v (.string ⟨⟨aY p.c0.den⟩⟩))::
     AV.c (.v (.bool (decide (p.c1.num<0))))::
      AV.c (.v (.string ⟨⟨aD p.c1.num.natAbs⟩⟩))::
       AV.c (.v (.bool false))::AV.c (.v (.string ⟨⟨aY p.c1.den⟩⟩))::x1
 let x3:List AV:=[AV.c (.v (.bool (decide (q.c2.num<0)))),AV.c (.v (.string ⟨⟨aD q.c2.num.natAbs⟩⟩)),AV.c (.v (.bool false)),
  AV.c (.v (.string ⟨⟨aY q.c2.den⟩⟩))]
 let x4:List AV:=AV.c (.v (.bool (decide (q.c0.num<0))))::
  AV.c (.v (.string ⟨⟨aD q.c0.num.natAbs⟩⟩))::
   AV.c (.v (.bool false))::
    AV.c (.v (.string ⟨⟨aY q.c0.den⟩⟩))::
     AV.c (.v (.bool (decide (q.c1.num<0))))::
      AV.c (.v (.string ⟨⟨aD q.c1.num.natAbs⟩⟩))::
       AV.c (.v (.bool false))::AV.c (.v (.string ⟨⟨aY q.c1.den⟩⟩))::x3
 let x5:Int:=nR (bH x2)
 let x6:Bool:=decide (x5≥0)
 let x7:Int:=nR (bH x4)
 let x8:Bool:=bif true then decide (x7≥0)else false
 let x9:Int:=i64.wrap (x5+x7)
 let x10:Bool:=bif true then decide (x9>2)else false
 let iW:List AV:=[AV.c (.v (.bool (decide (p.c0.num<0)))),AV.c (.v (.string ⟨⟨aD p.c0.num.natAbs⟩⟩)),AV.c (.v (.bool false)),
  AV.c (.v (.string ⟨⟨aY p.c0.den⟩⟩))]
 let kL:Bool:=aK iW
 let jA:List AV:=[AV.c (.v (.bool (decide (q.c0.num<0)))),AV.c (.v (.string ⟨⟨aD q.c0.num.natAbs⟩⟩)),AV.c (.v (.bool false)),
  AV.c (.v (.string ⟨⟨aY q.c0.den⟩⟩))]
 let kM:Bool:=aK jA
 let mO:List AV:=[AV.c (.v (.bool (decide (q.c1.num<0)))),AV.c (.v (.string ⟨⟨aD q.c1.num.natAbs⟩⟩)),AV.c (.v (.bool false)),
  AV.c (.v (.string ⟨⟨aY q.c1.den⟩⟩))]
 let nu:Bool:=aK mO
 let jR:List AV:=[AV.c (.v (.bool (decide (p.c1.num<0)))),AV.c (.v (.string ⟨⟨aD p.c1.num.natAbs⟩⟩)),AV.c (.v (.bool false)),
  AV.c (.v (.string ⟨⟨aY p.c1.den⟩⟩))]
 let x18:Bool:=aK jR
 let rO:Int:=(hold (ay iW*ay mO)).num
 let x20:List AV:=[AV.c (.v (.bool (decide (rO<0)))),AV.c (.v (.string ⟨⟨aD rO.natAbs⟩⟩)),AV.c (.v (.bool false)),
  AV.c (.v (.string ⟨⟨aY (hold (ay iW*ay mO)).den⟩⟩))]
 let x21:Int:=(hold (ay jR*ay jA)).num
 let xH:List AV:=[AV.c (.v (.bool (decide (x21<0)))),AV.c (.v (.string ⟨⟨aD x21.natAbs⟩⟩)),AV.c (.v (.bool false)),
  AV.c (.v (.string ⟨⟨aY (hold (ay jR*ay jA)).den⟩⟩))]
 let x23:Int:=(hold (ay iW*ay x3)).num
 let x24:List AV:=[AV.c (.v (.bool (decide (x23<0)))),AV.c (.v (.string ⟨⟨aD x23.natAbs⟩⟩)),AV.c (.v (.bool false)),
  AV.c (.v (.string ⟨⟨aY (hold (ay iW*ay x3)).den⟩⟩))]
 let x25:Int:=(hold (ay x1*ay jA)).num
 let xL:List AV:=[AV.c (.v (.bool (decide (x25<0)))),AV.c (.v (.string ⟨⟨aD x25.natAbs⟩⟩)),AV.c (.v (.bool false)),
  AV.c (.v (.string ⟨⟨aY (hold (ay x1*ay jA)).den⟩⟩))]
 let x27:Int:=(hold (ay x24+ay xL)).num
 let x28:List AV:=[AV.c (.v (.bool (decide (x27<0)))),AV.c (.v (.string ⟨⟨aD x27.natAbs⟩⟩)),AV.c (.v (.bool false)),
  AV.c (.v (.string ⟨⟨aY (hold (ay x24+ay xL)).den⟩⟩))]
 let x29:Int:=(hold (ay jR*ay mO)).num
 let x30:List AV:=[AV.c (.v (.bool (decide (x29<0)))),AV.c (.v (.string ⟨⟨aD x29.natAbs⟩⟩)),AV.c (.v (.bool false)),
  AV.c (.v (.string ⟨⟨aY (hold (ay jR*ay mO)).den⟩⟩))]
 let x31:Int:=(hold (ay iW*ay jA)).num
 let x32:Int:=(hold (ay x20+ay xH)).num
 let Db:Int:=(hold (ay x28+ay x30)).num
 need (dB x2)
  (need (dB x4)
   (need (bif x6 then bif x8 then true else true else bif false then true else true)
    (Tr.ite (bif x6 then bif x8 then x10 else false else bif false then x10 else false)
     (ret
      (AV.fG
       [AV.agg
         [AV.c (.v (.bool false)),AV.c (.v (.string {data:= #[]})),AV.c (.v (.bool false)),
          AV.c (.v (.string {data:= #[]})),AV.c (.v (.bool false)),AV.c (.v (.string {data:= #[]})),
          AV.c (.v (.bool false)),AV.c (.v (.string {data:= #[]})),AV.c (.v (.bool false)),
          AV.c (.v (.string {data:= #[]})),AV.c (.v (.bool false)),AV.c (.v (.string {data:= #[]}))],
        AV.c (.v (.int i64 2))]))
     (need kL
      (need kM
       (need (j5 (ay iW) (ay jA))
        (need kL
         (need nu
          (need (j5 (ay iW) (ay mO))
           (need x18
            (need kM
             (need (j5 (ay jR) (ay jA))
              (need (aK x20)
               (need (aK xH)
                (need (jB (ay x20) (ay xH))
                 (need kL
                  (need (aK x3)
                   (need (j5 (ay iW) (ay x3))
                    (need (aK x1)
                     (need kM
                      (need (j5 (ay x1) (ay jA))
                       (need (aK x24)
                        (need (aK xL)
                         (need (jB (ay x24) (ay xL))
                          (need x18
                           (need nu
                            (need (j5 (ay jR) (ay mO))
                             (need (aK x28)
                              (need (aK x30)
                               (need (jB (ay x28) (ay x30))
                                (ret
                                 (AV.fG
                                  [AV.agg
                                    [AV.c (.v (.bool (decide (x31<0)))),
                                     AV.c (.v (.string ⟨⟨aD x31.natAbs⟩⟩)),
                                     AV.c (.v (.bool false)),
                                     AV.c
                                      (IV.v (.string ⟨⟨aY (hold (ay iW*ay jA)).den⟩⟩)),
                                     AV.c (.v (.bool (decide (x32<0)))),
                                     AV.c (.v (.string ⟨⟨aD x32.natAbs⟩⟩)),
                                     AV.c (.v (.bool false)),
                                     AV.c
                                      (IV.v (.string ⟨⟨aY (hold (ay x20+ay xH)).den⟩⟩)),
                                     AV.c (.v (.bool (decide (Db<0)))),
                                     AV.c (.v (.string ⟨⟨aD Db.natAbs⟩⟩)),
                                     AV.c (.v (.bool false)),
                                     AV.c
                                      (IV.v
                                       (Value.string ⟨⟨aY (hold (ay x28+ay x30)).den⟩⟩))],
                                   AV.c (.v (.int i64 0))]))))))))))))))))))))))))))))))))
theorem adh(p q:Q3):aN prog akX dn 1010 Tryz.f68 [oL p,oL q]=XR p q:=by kernel_rfl
theorem XT(q:Q3): -1≤nR q∧nR q≤2:=by
 unfold nR
 split
 ·omega
 ·split
  ·omega
  ·split<;>omega
theorem Z5(p q:Q3)(hp:sN 100000 p)(hq:sN 100000 q)(hd:Dn p q=true):(XR p q).sat λr=>r= .fG [oL (Dp (Ry p q)),bR .i64 0]:=by
 have f00:=jJ hp.c0 hq.c0 (by decide);have f01:=jJ hp.c0 hq.c1 (by decide);have f10:=jJ hp.c1 hq.c0 (by decide);have f02:=jJ hp.c0 hq.c2 (by decide);have f20:=jJ hp.c2 hq.c0 (by decide);have f11:=jJ hp.c1 hq.c1 (by decide);have a1:=kI (hp.c0.mul hq.c1) (hp.c1.mul hq.c0) (by decide);have a2:=kI (hp.c0.mul hq.c2) (hp.c2.mul hq.c0) (by decide);have a3:=kI ((hp.c0.mul hq.c2).add (hp.c2.mul hq.c0)) (hp.c1.mul hq.c1) (by decide);obtain⟨d1,d2⟩:=XT p;obtain⟨d3,d4⟩:=XT q;have w:i64.wrap (nR p+nR q)=nR p+nR q:=wrap_i64 (by omega);have hc:(bif decide (nR p≥0)then bif decide (nR q≥0)then decide (nR p+nR q>2)else false else false)=false:=by
  simp only[Dn,Bool.not_eq_true',Bool.and_eq_false_iff,decide_eq_false_iff_not]at hd;by_cases h1:nR p≥0
  ·by_cases h2:nR q≥0
   ·rw[dK h1,dK h2,cond_true,cond_true]
    exact iB (by omega)
   ·rw[dK h1,iB h2];rfl
  ·rw[iB h1];rfl
 have hn:(bif decide (nR p≥0)then bif decide (nR q≥0)then true else true else true)=true:=by
  cases decide (nR p≥0)<;>cases decide (nR q≥0)<;>rfl
 have ep:(⟨p.c0,p.c1,p.c2⟩:Q3)=p:=rfl;have eq':(⟨q.c0,q.c1,q.c2⟩:Q3)=q:=rfl;simp only[XR,fP,eT,jf,iq,iN,gN,fU,Bool.and_self,sat_true,ep,eq',w,f00,f01,f10,f02,f20,f11,a1,a2,a3,yN,cond_true,cond_false,hc,hn];refine aj (λh=>by cases h) (λ_=> ?_);simp only[sat_true];exact ak rfl
theorem aiC:aF prog 68 akV:=
 (F2 qw qw).pk adg (fn:=Tryz.f68) (M:=λx=>XR x.1 x.2.1) (λx=>adh x.1 x.2.1) λx h=>Z5 x.1 x.2.1 (dG.1 (h _ (by simp))) (dG.1 (h (qI 100000 x.2.1) (by simp))) (h (Dn x.1 x.2.1) (by simp))
end Go.bA
namespace Go.bA
open Go.Proofs
theorem fq(q:Q3):dB (bD q)=true:=by
 show(aK (av q.c0)&&aK (av q.c1)&&aK (av q.c2))=true
 rw[dP,dP,dP];rfl
end Go.bA
namespace Go.bA
open Go.Proofs
def aqr:FuncId→Option Spec:=λf=>bif beq f 120 then some (au Ru)else bif beq f 150 then some (au aia)else bif beq f 151 then some (au ZX)else bif beq f 152 then some (au ahX)else bif beq f 153 then some (au Rq)else bif beq f 121 then some (au JF)else bif beq f 122 then some (au JE)else bif beq f 28 then some (au Rs)else none
theorem aiD: ∀f s,aqr f=some s→aH prog f s:=step_ok Dj.spec (step_ok aio.spec (step_ok Ou.spec (step_ok ah9.spec (step_ok Dc.spec (step_ok uD.spec (step_ok uz.spec (bM Df.spec)))))))
def aiE(x:R3)(y:R3):Tr AV:=
 let x1:List AV:=[AV.c (.v (.bool (decide (x.p.num<0)))),AV.c (.v (.string ⟨⟨aD x.p.num.natAbs⟩⟩)),AV.c (.v (.bool false)),
  AV.c (.v (.string ⟨⟨aY x.p.den⟩⟩))]
 let x2:List AV:=[AV.c (.v (.bool (decide (y.p.num<0)))),AV.c (.v (.string ⟨⟨aD y.p.num.natAbs⟩⟩)),AV.c (.v (.bool false)),
  AV.c (.v (.string ⟨⟨aY y.p.den⟩⟩))]
 let x3:Rat:=ay x1
 let x4:Rat:=ay x2
 let x5:List AV:=[AV.c (.v (.bool x.neg))]
 let x6:List AV:=[AV.c (.v (.bool y.neg))]
 let x7:Rat:=hold (wW (pq x6))
 let x8:Int:=x7.num
 let x9:List AV:=[AV.c (.v (.bool (decide (x8<0)))),AV.c (.v (.string ⟨⟨aD x8.natAbs⟩⟩)),AV.c (.v (.bool false)),
  AV.c (.v (.string ⟨⟨aY x7.den⟩⟩))]
 let x10:Rat:=hold (x3-x4)
 let iW:Int:=x10.num
 let kL:List AV:=[AV.c (.v (.bool (decide (iW<0)))),AV.c (.v (.string ⟨⟨aD iW.natAbs⟩⟩)),AV.c (.v (.bool false)),
  AV.c (.v (.string ⟨⟨aY x10.den⟩⟩))]
 let jA:Bool:=aK kL
 let kM:Rat:=hold (wW (pq x5))
 let mO:Int:=kM.num
 let nu:List AV:=[AV.c (.v (.bool (decide (mO<0)))),AV.c (.v (.string ⟨⟨aD mO.natAbs⟩⟩)),AV.c (.v (.bool false)),
  AV.c (.v (.string ⟨⟨aY kM.den⟩⟩))]
 let jR:Bool:=aK nu
 let x18:List AV:=[AV.c (.v (.bool (decide (x.r.num<0)))),AV.c (.v (.string ⟨⟨aD x.r.num.natAbs⟩⟩)),AV.c (.v (.bool false)),
  AV.c (.v (.string ⟨⟨aY x.r.den⟩⟩))]
 let rO:Bool:=aK x18
 let x20:Rat:=ay kL
 let x21:Rat:=ay nu
 let xH:Rat:=ay x18
 let x23:Rat:=hold (-ay x9)
 let x24:Int:=x23.num
 let x25:List AV:=[AV.c (.v (.bool (decide (x24<0)))),AV.c (.v (.string ⟨⟨aD x24.natAbs⟩⟩)),AV.c (.v (.bool false)),
  AV.c (.v (.string ⟨⟨aY x23.den⟩⟩))]
 let xL:List AV:=[AV.c (.v (.bool (decide (y.r.num<0)))),AV.c (.v (.string ⟨⟨aD y.r.num.natAbs⟩⟩)),AV.c (.v (.bool false)),
  AV.c (.v (.string ⟨⟨aY y.r.den⟩⟩))]
 let x27:Bool:=aK xL
 let x28:Rat:=ay xL
 let x29:Int:=i64.wrap (gq (ay x25).num 0*gq x28.num 0)
 let x30:Bool:=x29==0
 let x31:Int:=mZ x20 x21 xH
 let x32:Rat:=hold (x20*x20)
 let Db:Int:=x32.num
 let x34:List AV:=[AV.c (.v (.bool (decide (Db<0)))),AV.c (.v (.string ⟨⟨aD Db.natAbs⟩⟩)),AV.c (.v (.bool false)),
  AV.c (.v (.string ⟨⟨aY x32.den⟩⟩))]
 let x35:Rat:=ay x34
 let Vo:Rat:=hold (x35+xH)
 let Hl:Int:=Vo.num
 let x38:List AV:=[AV.c (.v (.bool (decide (Hl<0)))),AV.c (.v (.string ⟨⟨aD Hl.natAbs⟩⟩)),AV.c (.v (.bool false)),
  AV.c (.v (.string ⟨⟨aY Vo.den⟩⟩))]
 let x39:Rat:=ay x38
 let x40:Rat:=hold (x20*x21)
 let x41:Int:=x40.num
 let Tg:List AV:=[AV.c (.v (.bool (decide (x41<0)))),AV.c (.v (.string ⟨⟨aD x41.natAbs⟩⟩)),AV.c (.v (.bool false)),
  AV.c (.v (.string ⟨⟨aY x40.den⟩⟩))]
 let x43:Rat:=ay
  [AV.c (.v (.bool false)),AV.c (.v (.string ⟨⟨aD (Int.natAbs 2)⟩⟩)),AV.c (.v (.bool false)),
   AV.c (.v (.string ⟨⟨aY 1⟩⟩))]
 let Vp:Rat:=ay Tg
 let Vq:Rat:=hold (x39-x28)
 let Vr:Int:=Vq.num
 let KT:List AV:=[AV.c (.v (.bool (decide (Vr<0)))),AV.c (.v (.string ⟨⟨aD Vr.natAbs⟩⟩)),AV.c (.v (.bool false)),
  AV.c (.v (.string ⟨⟨aY Vq.den⟩⟩))]
 let x48:Rat:=hold (x43*Vp)
 let PS:Int:=x48.num
 let ZC:List AV:=[AV.c (.v (.bool (decide (PS<0)))),AV.c (.v (.string ⟨⟨aD PS.natAbs⟩⟩)),AV.c (.v (.bool false)),
  AV.c (.v (.string ⟨⟨aY x48.den⟩⟩))]
 let Xz:Rat:=ay KT
 let x52:Rat:=ay ZC
 need (aK x1)
  (need (aK x2)
   (need (jB x3 (-x4))
    (need
     (dh
      (AV.c (.v (.bool (decide (x.p.num<0))))::
       AV.c (.v (.string ⟨⟨aD x.p.num.natAbs⟩⟩))::
        AV.c (.v (.bool false))::
         AV.c (.v (.string ⟨⟨aY x.p.den⟩⟩))::
          AV.c (.v (.bool (decide (x.r.num<0))))::
           AV.c (.v (.string ⟨⟨aD x.r.num.natAbs⟩⟩))::
            AV.c (.v (.bool false))::AV.c (.v (.string ⟨⟨aY x.r.den⟩⟩))::x5))
     (need
      (dh
       (AV.c (.v (.bool (decide (y.p.num<0))))::
        AV.c (.v (.string ⟨⟨aD y.p.num.natAbs⟩⟩))::
         AV.c (.v (.bool false))::
          AV.c (.v (.string ⟨⟨aY y.p.den⟩⟩))::
           AV.c (.v (.bool (decide (y.r.num<0))))::
            AV.c (.v (.string ⟨⟨aD y.r.num.natAbs⟩⟩))::
             AV.c (.v (.bool false))::AV.c (.v (.string ⟨⟨aY y.r.den⟩⟩))::x6))
      (need (aK x9)
       (need jA
        (need jR
         (need rO
          (need (rD x20 x21 xH)
           (need (aK x25)
            (need x27
             (need (bif x30 then true else true)
              (Tr.ite (bif x30 then true else bif false then true else x31==x29) (ret (AV.c (.v (.int i64 x31))))
               (Tr.ite (x31==0) (ret (AV.c (.v (.int i64 x29))))
                (need jA
                 (need jA
                  (need (j5 x20 x20)
                   (need (aK x34)
                    (need rO
                     (need (jB x35 xH)
                      (need (aK x38)
                       (need x27
                        (need (jB x39 (-x28))
                         (need true
                          (need true
                           (need jA
                            (need jR
                             (need (j5 x20 x21)
                              (need true
                               (need (aK Tg)
                                (need (j5 x43 Vp)
                                 (need (aK KT)
                                  (need (aK ZC)
                                   (need rO
                                    (need (rD Xz x52 xH)
                                     (ret
                                      (AV.c
                                       (IV.v
                                        (Value.int i64
                                         (i64.wrap
                                          (x31*mZ Xz x52 xH)))))))))))))))))))))))))))))))))))))))))
theorem aiF(x y:R3):aN prog aqr dn 1010 Tryz.f101 [yJ x,yJ y]=aiE x y:=by kernel_rfl
def rE:Arg R3 where
 get:=λa=>match a with | .agg l=>some (bK l,[dh l]) | _=>none
 put:=yJ
 ok:=by
  intro a x cs h hc
  split at h
  ·rename_i l
   simp only[fu,Prod.mk.injEq]at h;obtain⟨rfl,rfl⟩:=h;have:=kW (l:=l) (hc _ (by simp));unfold yJ;rw[←this];exact bL.refl _
  ·cases h
def fV(x y:R3):Int:=
 if gq (-wW y.neg).num 0*gq y.r.num 0=0∨mZ (x.p-y.p) (wW x.neg) x.r=gq (-wW y.neg).num 0*gq y.r.num 0 then mZ (x.p-y.p) (wW x.neg) x.r
 else if mZ (x.p-y.p) (wW x.neg) x.r=0 then gq (-wW y.neg).num 0*gq y.r.num 0
 else mZ (x.p-y.p) (wW x.neg) x.r*mZ ((x.p-y.p)*(x.p-y.p)+x.r-y.r) (2*((x.p-y.p)*wW x.neg)) x.r
def iH(k:Nat)(x:R3):Bool:=wX k x.p&&wX k x.r
theorem OD{k:Nat}{x:R3}(h:iH k x=true):Bt k x.p∧Bt k x.r:=by simpa only[iH,bI,kJ]using h
theorem Bt.one:Bt 0 1:=⟨Nat.le_refl _,Nat.le_refl _⟩
theorem Bt.two:Bt 1 2:=⟨Nat.le_refl _,by decide⟩
theorem Bt.fac(b:Bool):Bt 0 (wW b):=by
 cases b
 ·exact Bt.one
 ·exact Bt.one.neg
theorem JI{i j k:Nat}{a b r:Rat}(ha:Bt i a)(hb:Bt j b)(hr:Bt k r)(h:i+i<8000000)(h':j+j+k<8000000):rD a b r=true:=by
 simp only[rD,bI];exact⟨⟨⟨jJ ha ha h,jJ hb hb (by omega)⟩,jJ (hb.mul hb) hr h'⟩,OC (ha.mul ha) ((hb.mul hb).mul hr) h h'⟩
theorem OE{a b:Int}(ha:a= -1∨a=0∨a=1)(hb:b= -1∨b=0∨b=1):a*b= -1∨a*b=0∨a*b=1:=by
 rcases ha with rfl|rfl|rfl<;>rcases hb with rfl|rfl|rfl<;>decide
theorem Rz(a b r:Rat):mZ a b r= -1∨mZ a b r=0∨mZ a b r=1:=by
 unfold mZ;simp only[]
 split
 ·exact oM _ _
 ·split
  ·exact OE (oM _ _) (oM _ _)
  ·exact OE (oM _ _) (oM _ _)
theorem XU{a:Int}(h:a= -1∨a=0∨a=1):i64.wrap a=a:=wrap_i64 (by omega)
theorem aiG(b:Bool):pq [AV.c (.v (.bool b))]=b:=by cases b<;>rfl
theorem adi(x y:R3)(hx:iH 100000 x=true)(hy:iH 100000 y=true):(aiE x y).sat λr=>r=bR .i64 (fV x y):=by
 obtain⟨x1,x2⟩:=OD hx;obtain⟨y1,y2⟩:=OD hy;have ha:=x1.sub y1;have hf:=Bt.fac x.neg;have s1:=kI x1 y1.neg (by decide);have s2:=JI ha hf x2 (by decide) (by decide);have s3:=jJ ha ha (by decide);have s4:=kI (ha.mul ha) x2 (by decide);have s5:=kI ((ha.mul ha).add x2) y2.neg (by decide);have s6:=jJ ha hf (by decide);have s7:=jJ Bt.two (ha.mul hf) (by decide);have s8:=JI (((ha.mul ha).add x2).sub y2) (Bt.two.mul (ha.mul hf)) x2 (by decide) (by decide);have n1:=OE (oM (-wW y.neg).num 0) (oM y.r.num 0);have w1:=XU n1;have m1:=Rz (x.p-y.p) (wW x.neg) x.r;have w2:=XU (OE m1 (Rz ((x.p-y.p)*(x.p-y.p)+x.r-y.r) (2*((x.p-y.p)*wW x.neg)) x.r));have e2:ay [AV.c (.v (.bool false)),AV.c (.v (.string ⟨⟨aD (Int.natAbs 2)⟩⟩)),AV.c (.v (.bool false)),AV.c (.v (.string ⟨⟨aY 1⟩⟩))]=2:=bS 2;have o2:aK [AV.c (.v (.bool false)),AV.c (.v (.string ⟨⟨aD (Int.natAbs 2)⟩⟩)),AV.c (.v (.bool false)),AV.c (.v (.string ⟨⟨aY 1⟩⟩))]=true:=dP 2;simp only[aiE,fP,eT,jg,iw,fU,aiG,Bool.and_self,sat_true,e2,o2,s1,s2,s3,s4,s5,s6,s7,s8,w1,w2];unfold fV;generalize gq (-wW y.neg).num 0*gq y.r.num 0=n at*;generalize mZ (x.p-y.p) (wW x.neg) x.r=m at*;refine ah (by cases (n==0)<;>rfl) (aj (λh=> ?_) (λh=> ?_))
 ·have h':n=0∨m=n:=by
   cases hn:(n==0)with
   | true=>exact .inl (by simpa using hn)
   | false=>
     rw[hn,cond_false,cond_false]at h;exact .inr (by simpa using h)
  rw[if_pos h'];exact ak rfl
 ·have h': ¬(n=0∨m=n):=by
   cases hn:(n==0)with
   | true=>rw[hn]at h;cases h
   | false=>
     rw[hn,cond_false,cond_false]at h;rintro(h0|h0)
     ·subst h0;cases hn
     ·subst h0;simp at h
  rw[if_neg h'];refine aj (λh0=> ?_) (λh0=> ?_)
  ·rw[if_pos (by simpa using h0)]
   exact ak rfl
  ·rw[if_neg (by simpa using h0)]
   simp only[sat_true];exact ak rfl
def anq:List AV→Option (AV×List Bool):=(F2 rE rE).K (λx=>bR .i64 (fV x.1 x.2.1)) λx=> [iH 100000 x.1,iH 100000 x.2.1]
theorem VA:aF prog 101 anq:=
 (F2 rE rE).pk aiD (fn:=Tryz.f101) (M:=λx=>aiE x.1 x.2.1) (λx=>aiF x.1 x.2.1) λx h=>adi x.1 x.2.1 (h _ (by simp)) (h (iH 100000 x.2.1) (by simp))
end Go.bA
namespace Go.bA
open Go.Proofs
structure Ig where
 a:R3
 b:R3
 oa:Bool
 ob:Bool
def dO(i:Ig):List AV:=aQ i.a++(aQ i.b++[.c (.v (.bool i.oa)),.c (.v (.bool i.ob))])
def uV(l:List AV):Ig:=⟨bK (l.take 9),bK ((l.drop 9).take 9),pq ((l.drop 18).take 1),pq (l.drop 19)⟩
def qP(l:List AV):Bool:=dh (l.take 9)&&(dh ((l.drop 9).take 9)&&(sK ((l.drop 18).take 1)&&sK (l.drop 19)))
theorem Hq{l:List AV}(h:qP l=true):l=dO (uV l):=by
 simp only[qP,bI]at h;obtain⟨h1,h2,h3,h4⟩:=h;have e1:=kW h1;have e2:=kW h2;have e3:=zG h3;have e4:=zG h4;unfold dO uV;simp only[];rw[←e1, ←e2];have:[AV.c (.v (.bool (pq ((l.drop 18).take 1)))),AV.c (.v (.bool (pq (l.drop 19))))]=l.drop 18:=by
  have e5:l.drop 18=(l.drop 18).take 1++(l.drop 18).drop 1:=(List.take_append_drop 1 _).symm;rw[e5,List.drop_drop,e3,e4];rfl
 rw[this];have e6:l.drop 9=(l.drop 9).take 9++(l.drop 9).drop 9:=(List.take_append_drop 9 _).symm;rw[List.drop_drop]at e6;rw[←e6,List.take_append_drop]
theorem jY(i:Ig):uV (dO i)=i:=by
 show(⟨bK (aQ i.a),bK (aQ i.b),i.oa,i.ob⟩:Ig)=i
 rw[bT,bT]
theorem iy(i:Ig):qP (dO i)=true:=by
 show(dh (aQ i.a)&&(dh (aQ i.b)&&(true&&true)))=true
 rw[dw,dw];rfl
def qW:Arg Ig where
 get:=λa=>match a with | .agg l=>some (uV l,[qP l]) | _=>none
 put:=λi=> .agg (dO i)
 ok:=by
  intro a x cs h hc
  split at h
  ·rename_i l
   simp only[fu,Prod.mk.injEq]at h;obtain⟨rfl,rfl⟩:=h;have:=Hq (l:=l) (hc _ (by simp));rw[←this];exact bL.refl _
  ·cases h
def ΓIg:FuncId→Option Spec:=λf=>bif beq f 101 then some (au anq)else none
theorem VB: ∀f s,ΓIg f=some s→aH prog f s:=bM VA.spec
def VD(i:Ig):Tr AV:=
 let x1:List Bool:=[false==false]
 let x2:Int:=i.a.r.num
 let x3:Int:=i.b.r.num
 let x4:Int:=i.a.p.num
 let x5:Int:=i.b.p.num
 ret
  (AV.c
   (IV.v
    (Value.bool
     (cu
      [i.a.neg==i.b.neg,
       cu
        [cu ((aY i.a.r.den==aY i.b.r.den)::x1).reverse,
         cu [aD x2.natAbs==aD x3.natAbs,decide (x2<0)==decide (x3<0)].reverse].reverse,
       cu
        [cu ((aY i.a.p.den==aY i.b.p.den)::x1).reverse,
         cu [aD x4.natAbs==aD x5.natAbs,decide (x4<0)==decide (x5<0)].reverse].reverse].reverse))))
def aiH(i:Ig)(j:Ig):Tr AV:=
 let x1:Int:=i.b.p.num
 let x2:Int:=i.b.r.num
 let x3:List AV:=[AV.c (.v (.bool (decide (x1<0)))),AV.c (.v (.string ⟨⟨aD x1.natAbs⟩⟩)),AV.c (.v (.bool false)),
  AV.c (.v (.string ⟨⟨aY i.b.p.den⟩⟩)),AV.c (.v (.bool (decide (x2<0)))),
  AV.c (.v (.string ⟨⟨aD x2.natAbs⟩⟩)),AV.c (.v (.bool false)),
  AV.c (.v (.string ⟨⟨aY i.b.r.den⟩⟩)),AV.c (.v (.bool i.b.neg))]
 let x4:Int:=j.a.p.num
 let x5:Int:=j.a.r.num
 let x6:List AV:=[AV.c (.v (.bool (decide (x4<0)))),AV.c (.v (.string ⟨⟨aD x4.natAbs⟩⟩)),AV.c (.v (.bool false)),
  AV.c (.v (.string ⟨⟨aY j.a.p.den⟩⟩)),AV.c (.v (.bool (decide (x5<0)))),
  AV.c (.v (.string ⟨⟨aD x5.natAbs⟩⟩)),AV.c (.v (.bool false)),
  AV.c (.v (.string ⟨⟨aY j.a.r.den⟩⟩)),AV.c (.v (.bool j.a.neg))]
 let x7:Int:=fV (bK x3) (bK x6)
 let x8:Bool:=decide (x7<0)
 let x9:Bool:=x7==0
 need (dh x3)
  (need (dh x6)
   (need (iH 100000 (bK x3))
    (need (iH 100000 (bK x6))
     (need (bif x8 then true else bif x9 then bif i.ob then true else true else true)
      (ret
       (AV.c
        (IV.v
         (Value.bool
          (bif x8 then true
          else
           bif x9 then
            bif i.ob then bif false then true else bif true then true else false
            else bif false then true else bif true then bif false then true else j.oa else false
           else bif false then true else false)))))))))
def aiI(i:Ig)(j:Ig):Tr AV:=
 let x1:Int:=i.b.p.num
 let x2:Int:=i.b.r.num
 let x3:List AV:=[AV.c (.v (.bool (decide (x1<0)))),AV.c (.v (.string ⟨⟨aD x1.natAbs⟩⟩)),AV.c (.v (.bool false)),
  AV.c (.v (.string ⟨⟨aY i.b.p.den⟩⟩)),AV.c (.v (.bool (decide (x2<0)))),
  AV.c (.v (.string ⟨⟨aD x2.natAbs⟩⟩)),AV.c (.v (.bool false)),
  AV.c (.v (.string ⟨⟨aY i.b.r.den⟩⟩)),AV.c (.v (.bool i.b.neg))]
 let x4:Int:=j.b.p.num
 let x5:Int:=j.b.r.num
 let x6:List AV:=[AV.c (.v (.bool (decide (x4<0)))),AV.c (.v (.string ⟨⟨aD x4.natAbs⟩⟩)),AV.c (.v (.bool false)),
  AV.c (.v (.string ⟨⟨aY j.b.p.den⟩⟩)),AV.c (.v (.bool (decide (x5<0)))),
  AV.c (.v (.string ⟨⟨aD x5.natAbs⟩⟩)),AV.c (.v (.bool false)),
  AV.c (.v (.string ⟨⟨aY j.b.r.den⟩⟩)),AV.c (.v (.bool j.b.neg))]
 let x7:Int:=fV (bK x3) (bK x6)
 let x8:Bool:=decide (x7<0)
 let x9:Bool:=x7==0
 need (dh x3)
  (need (dh x6)
   (need (iH 100000 (bK x3))
    (need (iH 100000 (bK x6))
     (need (bif x8 then true else bif x9 then bif i.ob then true else true else true)
      (ret
       (AV.c
        (IV.v
         (Value.bool
          (bif x8 then true
          else
           bif x9 then
            bif i.ob then bif false then true else bif true then true else false
            else bif false then true else bif true then bif false then true else !j.ob else false
           else bif false then true else false)))))))))
theorem aiJ(i:Ig):aN prog (λ_=>none) dn 1010 Tryz.f142 [.agg (dO i)]=VD i:=by kernel_rfl
theorem aiK(i j:Ig):aN prog ΓIg dn 1010 Tryz.f130 [.agg (dO i),.agg (dO j)]=aiH i j:=by kernel_rfl
theorem aiL(i j:Ig):aN prog ΓIg dn 1010 Tryz.f90 [.agg (dO i),.agg (dO j)]=aiI i j:=by kernel_rfl
def VE(A B:List AV)(oa ob:Bool):Tr AV:=
 let n:=fV (bK A) (bK B)
 let r:=λ(b:Bool)=>ret (AV.fG [.agg (A++(B++[bJ oa,bJ ob])),bJ b])
 need (dh A) (need (dh B) (need (iH 100000 (bK A)) (need (iH 100000 (bK B))
  (Tr.ite (decide (n<0)) (r true) (Tr.ite (n==0) (Tr.ite (!oa) (r (!ob)) (r false)) (Tr.ite false (r (!ob)) (r false)))))))
def VF(i j:Ig)(A:List AV)(oa:Bool):Tr AV:=
 let n:=fV (bK (aQ i.b)) (bK (aQ j.b))
 need (dh (aQ i.b)) (need (dh (aQ j.b)) (need (iH 100000 (bK (aQ i.b))) (need (iH 100000 (bK (aQ j.b)))
  (Tr.ite (decide (n>0)) (VE A (aQ j.b) oa j.ob) (Tr.ite (n==0) (Tr.ite i.ob (VE A (aQ i.b) oa true) (VE A (aQ i.b) oa j.ob)) (VE A (aQ i.b) oa i.ob))))))
def aiM(i j:Ig):Tr AV:=
 let n:=fV (bK (aQ i.a)) (bK (aQ j.a))
 need (dh (aQ i.a)) (need (dh (aQ j.a)) (need (iH 100000 (bK (aQ i.a))) (need (iH 100000 (bK (aQ j.a)))
  (Tr.ite (decide (n<0)) (VF i j (aQ j.a) j.oa) (Tr.ite (n==0) (Tr.ite i.oa (VF i j (aQ i.a) true) (VF i j (aQ i.a) j.oa)) (VF i j (aQ i.a) i.oa))))))
theorem aiN(i j:Ig):aN prog ΓIg dn 1010 Tryz.f89 [.agg (dO i),.agg (dO j)]=aiM i j:=by kernel_rfl
def EJ(k:Nat)(i:Ig):Bool:=iH k i.a&&iH k i.b
theorem rF{k:Nat}{i:Ig}(h:EJ k i=true):iH k i.a=true∧iH k i.b=true:=by simpa only[EJ,bI]using h
def Bz(i j:Ig):Bool:=decide (fV i.b j.a<0) || (fV i.b j.a==0&&(i.ob || j.oa))
def yO(i j:Ig):Bool:=decide (fV i.b j.b<0) || (fV i.b j.b==0&&(i.ob || !j.ob))
def iY(i j:Ig):Ig where
 a:=if fV i.a j.a<0 then j.a else i.a
 b:=if fV i.b j.b>0 then j.b else i.b
 oa:=if fV i.a j.a<0 then j.oa else if fV i.a j.a=0 then i.oa || j.oa else i.oa
 ob:=if fV i.b j.b>0 then j.ob else if fV i.b j.b=0 then i.ob || j.ob else i.ob
def qJ(o:Ig):Bool:=decide (fV o.a o.b<0) || (fV o.a o.b==0&&(!o.oa&& !o.ob))
theorem adj(i j:Ig)(h1:iH 100000 i.b=true)(h2:iH 100000 j.a=true):(aiH i j).sat λr=>r=bJ (Bz i j):=by
 have e1:bK (aQ i.b)=i.b:=bT _;simp only[aiH,jg,iw,fP,eT,Bool.and_self,sat_true,h1,h2];unfold Bz;generalize fV i.b j.a=n;cases decide (n<0)<;>cases (n==0)<;>cases i.ob<;>exact ah rfl (ak rfl)
theorem adk(i j:Ig)(h1:iH 100000 i.b=true)(h2:iH 100000 j.b=true):(aiI i j).sat λr=>r=bJ (yO i j):=by
 simp only[aiI,jg,iw,fP,eT,Bool.and_self,sat_true,h1,h2];unfold yO;generalize fV i.b j.b=n;cases decide (n<0)<;>cases (n==0)<;>cases i.ob<;>exact ah rfl (ak rfl)
theorem adl(o:Ig)(h1:iH 100000 o.a=true)(h2:iH 100000 o.b=true):(VE (aQ o.a) (aQ o.b) o.oa o.ob).sat λr=>r= .fG [.agg (dO o),bJ (qJ o)]:=by
 simp only[VE,bT,dw,h1,h2,sat_true];unfold qJ;generalize fV o.a o.b=n;cases decide (n<0)with
 | true=>exact aj (λ_=>ak rfl) (λh=>by cases h)
 | false=>
   refine aj (λh=>by cases h) (λ_=> ?_);cases (n==0)with
   | false=>exact aj (λh=>by cases h) (λ_=>aj (λh=>by cases h) (λ_=>ak rfl))
   | true=>
     refine aj (λ_=> ?_) (λh=>by cases h);unfold dO;cases o.oa with
     | true=>exact aj (λh=>by cases h) (λ_=>ak rfl)
     | false=>exact aj (λ_=>ak rfl) (λh=>by cases h)
theorem adn(i j:Ig)(a:R3)(oa:Bool)(h0:iH 100000 a=true)(h1:iH 100000 i.b=true)(h2:iH 100000 j.b=true){Q:AV→Prop}
  (hq: ∀r,r=AV.fG [.agg (dO ⟨a,(iY i j).b,oa,(iY i j).ob⟩),bJ (qJ ⟨a,(iY i j).b,oa,(iY i j).ob⟩)]→Q r):(VF i j (aQ a) oa).sat Q:=by
 have key: ∀(b:R3) (ob:Bool),iH 100000 b=true→b=(iY i j).b→ob=(iY i j).ob→(VE (aQ a) (aQ b) oa ob).sat Q:=λb ob hb e1 e2=>by
  refine Tr.aZ hq ?_;rw[←e1, ←e2];exact adl ⟨a,b,oa,ob⟩ h0 hb
 simp only[VF,bT,dw,h1,h2,sat_true];refine aj (λh=> ?_) (λh=> ?_)
 ·have h:=iX h
  exact key j.b j.ob h2 (if_pos h).symm (if_pos h).symm
 ·have h:=of_decide_eq_false h
  have eb:i.b=(iY i j).b:=(if_neg h).symm;refine aj (λk=> ?_) (λk=> ?_)
  ·have k:fV i.b j.b=0:=by simpa using k
   have eo:(iY i j).ob=(i.ob || j.ob):=by
    show(if _ then _ else _)=_
    rw[if_neg h,if_pos k]
   refine aj (λo=>key i.b true h1 eb (by rw[eo,o];rfl)) (λo=>key i.b j.ob h1 eb (by rw[eo,o];rfl))
  ·have k: ¬fV i.b j.b=0:=by simpa using k
   exact key i.b i.ob h1 eb (by show _=(if _ then _ else _);rw[if_neg h,if_neg k])
theorem ado(i j:Ig)(hi:EJ 100000 i=true)(hj:EJ 100000 j=true):(aiM i j).sat λr=>r= .fG [.agg (dO (iY i j)),bJ (qJ (iY i j))]:=by
 obtain⟨i1,i2⟩:=rF hi;obtain⟨j1,j2⟩:=rF hj;have key: ∀(a:R3) (oa:Bool),iH 100000 a=true→a=(iY i j).a→oa=(iY i j).oa→(VF i j (aQ a) oa).sat λr=>r= .fG [.agg (dO (iY i j)),bJ (qJ (iY i j))]:=λa oa ha e1 e2=>by
  refine adn i j a oa ha i2 j2 λr hr=> ?_
  rw[hr,e1,e2]
 simp only[aiM,bT,dw,i1,j1,sat_true];refine aj (λh=> ?_) (λh=> ?_)
 ·have h:=iX h
  exact key j.a j.oa j1 (if_pos h).symm (if_pos h).symm
 ·have h:=of_decide_eq_false h
  have eb:i.a=(iY i j).a:=(if_neg h).symm;refine aj (λk=> ?_) (λk=> ?_)
  ·have k:fV i.a j.a=0:=by simpa using k
   have eo:(iY i j).oa=(i.oa || j.oa):=by
    show(if _ then _ else _)=_
    rw[if_neg h,if_pos k]
   refine aj (λo=>key i.a true i1 eb (by rw[eo,o];rfl)) (λo=>key i.a j.oa i1 eb (by rw[eo,o];rfl))
  ·have k: ¬fV i.a j.a=0:=by simpa using k
   exact key i.a i.oa i1 eb (by show _=(if _ then _ else _);rw[if_neg h,if_neg k])
instance:DecidableEq R3:=λx y=>if h:x.p=y.p∧x.r=y.r∧x.neg=y.neg then .isTrue (by cases x;cases y;simp only[R3.mk.injEq];exact h)else .isFalse (λe=>h (by rw[e];exact⟨rfl,rfl,rfl⟩))
theorem MB(x y:R3):(cu [x.neg==y.neg,decide (x.r=y.r),decide (x.p=y.p)].reverse)=decide (x=y):=by
 obtain⟨p,r,n⟩:=x;obtain⟨p',r',n'⟩:=y;simp only[R3.mk.injEq];by_cases h1:p=p'<;>by_cases h2:r=r'<;>cases n<;>cases n'<;>simp[cu,h1,h2]
theorem adp(i:Ig):(VD i).sat λr=>r=bJ (decide (i.a=i.b)):=by
 simp only[VD,Di,MB];exact ak rfl
def anr:List AV→Option (AV×List Bool):=(F1 qW).K (λx=>bJ (decide (x.1.a=x.1.b))) λ_=> []
def ant:List AV→Option (AV×List Bool):=(F2 qW qW).K (λx=>bJ (Bz x.1 x.2.1)) λx=> [iH 100000 x.1.b,iH 100000 x.2.1.a]
def asB:List AV→Option (AV×List Bool):=(F2 qW qW).K (λx=>bJ (yO x.1 x.2.1)) λx=> [iH 100000 x.1.b,iH 100000 x.2.1.b]
def asC:List AV→Option (AV×List Bool):=(F2 qW qW).K (λx=> .fG [.agg (dO (iY x.1 x.2.1)),bJ (qJ (iY x.1 x.2.1))]) λx=> [EJ 100000 x.1,EJ 100000 x.2.1]
theorem adq:aF prog 130 ant:=
 (F2 qW qW).pk VB (fn:=Tryz.f130) (M:=λx=>aiH x.1 x.2.1) (λx=>aiK x.1 x.2.1) λx h=>adj x.1 x.2.1 (h _ (by simp)) (h (iH 100000 x.2.1.a) (by simp))
theorem anu:aF prog 90 asB:=
 (F2 qW qW).pk VB (fn:=Tryz.f90) (M:=λx=>aiI x.1 x.2.1) (λx=>aiL x.1 x.2.1) λx h=>adk x.1 x.2.1 (h _ (by simp)) (h (iH 100000 x.2.1.b) (by simp))
theorem anv:aF prog 89 asC:=
 (F2 qW qW).pk VB (fn:=Tryz.f89) (M:=λx=>aiM x.1 x.2.1) (λx=>aiN x.1 x.2.1) λx h=>ado x.1 x.2.1 (h _ (by simp)) (h (EJ 100000 x.2.1) (by simp))
theorem adr:aF prog 142 anr:=
 (F1 qW).pk eH (fn:=Tryz.f142) (M:=λx=>VD x.1) (λx=>aiJ x.1) λx h=>adp x.1
end Go.bA
namespace Go.bA
namespace Tr
def out{α:Type}:Tr α→Option α
 | .ret a=>some a
 | .ite c t e=>bif c then t.out else e.out
 | .need _ t=>t.out
 | .both a _=>a.out
 | .fail _=>none
def one{α:Type}:Tr α→Bool
 | .ret _=>true
 | .ite _ t e=>t.one&&e.one
 | .need _ t=>t.one
 | .both _ _=>false
 | .fail _=>true
theorem det{α:Type}{Q:α→Prop}: ∀{t:Tr α},t.one=true→t.sat Q→ ∃r,t.out=some r∧Q r∧t.sat (· =r)
 | .ret a,_,h=>⟨a,rfl,h,rfl⟩
 | .ite c t e,h1,h=>by
   simp only[one,bI]at h1;cases c with
   | true=>
     obtain⟨r,a,b,k⟩:=det h1.1 (h.1 rfl);exact⟨r,a,b,And.intro (λ_=>k) (λh=>Bool.noConfusion h)⟩
   | false=>
     obtain⟨r,a,b,k⟩:=det h1.2 (h.2 rfl);exact⟨r,a,b,And.intro (λh=>Bool.noConfusion h) (λ_=>k)⟩
 | .need p t,h1,h=>by
   obtain⟨r,a,b,k⟩:=det (t:=t) h1 (h.2 h.1);exact⟨r,a,b,And.intro h.1 (λ_=>k)⟩
 | .both _ _,h1,_=>by cases h1
 | .fail _,_,h=>h.elim
end Tr
def BA{X R:Type}(step:X→Tr (X ⊕ R)):Nat→X→Option R
 | 0,_=>none
 | n+1,x=>match (step x).out with
   | some (.inl y)=>BA step n y
   | some (.inr r)=>some r
   | none=>none
section
variable{X R:Type}{step:X→Tr (X ⊕ R)}
theorem aS.det(h1: ∀x,(step x).one=true){Q:R→Prop}: ∀{n:Nat} {x:X},aS step Q n x→ ∃r,BA step n x=some r∧Q r∧aS step (· =r) n x
 | 0,_,h=>h.elim
 | n+1,x,h=>by
   obtain⟨y,e,hy,hs⟩:=Tr.det (h1 x) h;unfold BA aS;rw[e];cases y with
   | inl x'=>
     obtain⟨r,a,b,k⟩:=aS.det h1 (n:=n) (x:=x') hy;exact⟨r,a,b,Tr.aZ (λz hz=>by subst hz;exact k) hs⟩
   | inr r=>exact⟨r,rfl,hy,Tr.aZ (λz hz=>by subst hz;rfl) hs⟩
theorem aS.mono{Q Q':R→Prop}(hQ: ∀r,Q r→Q' r): ∀{n:Nat} {x:X},aS step Q n x→aS step Q' n x
 | 0,_,h=>h.elim
 | n+1,x,h=>by
   unfold aS at h⊢;refine Tr.aZ (λz hz=> ?_) h;cases z with
   | inl y=>exact aS.mono hQ hz
   | inr r=>exact hQ r hz
theorem aS.more{Q:R→Prop}: ∀{n m:Nat} {x:X},n≤m→aS step Q n x→aS step Q m x
 | 0,_,_,_,h=>h.elim
 | n+1,0,_,h,_=>by omega
 | n+1,m+1,x,h,hr=>by
   unfold aS at hr⊢;refine Tr.aZ (λz hz=> ?_) hr;cases z with
   | inl y=>exact aS.more (by omega) hz
   | inr r=>exact hz
theorem aS.res(h1: ∀x,(step x).one=true){Q:R→Prop}{n m:Nat}{x:X}(hn:n≤m)(h:aS step Q n x)(r0:R):Q ((BA step m x).getD r0)∧aS step (· =(BA step m x).getD r0) m x:=by
 obtain⟨r,a,b,k⟩:=aS.det h1 (aS.more hn h);rw[a];exact⟨b,k⟩
end
end Go.bA
namespace Go.bA
structure kZ (X:Type) where
 n:Nat
 iv:X→List IV
 V:List AV→X
 ok:List AV→Bool
 d:X
 ok_eq: ∀l,ok l=true→l=(iv (V l)).map AV.c
 Dq: ∀x,V ((iv x).map AV.c)=x
 pY: ∀x,ok ((iv x).map AV.c)=true
 len: ∀x,(iv x).length=n
namespace kZ
variable{X:Type}(E:kZ X)
def el(U:List X):Nat→List IV:=λk=>E.iv (U.getD k E.d)
def list(n:Nat)(el:Nat→List IV):List X:=(List.range n).map λk=>E.V ((el k).map AV.c)
def oks(n:Nat)(el:Nat→List IV):Bool:=(List.range n).all λk=>E.ok ((el k).map AV.c)
def sl(U:List X):AV:= .c (.sl U.length E.n (E.el U))
theorem sO(n:Nat)(el:Nat→List IV):(E.list n el).length=n:=by simp[list]
theorem Z6(n:Nat)(el:Nat→List IV)(k:Nat)(hk:k<n):(E.list n el).getD k E.d=E.V ((el k).map AV.c):=by
 simp[list,dJ,hk]
theorem OG{n:Nat}{el:Nat→List IV}(h:E.oks n el=true): ∀k,k<n→el k=E.el (E.list n el) k:=λk hk=>by
 have h1:=List.all_eq_true.1 h k (List.mem_range.2 hk);have h2:=E.ok_eq _ h1;unfold kZ.el;rw[E.Z6 n el k hk];exact vS h2
theorem aG(U:List X):E.list U.length (E.el U)=U:=by
 apply List.ext_getElem
 ·simp[list]
 ·intro i h1 h2
  simp[list,kZ.el,E.Dq,dJ,h2]
theorem aP(U:List X)(n:Nat):E.oks n (E.el U)=true:=List.all_eq_true.2 λk _=>E.pY _
theorem kK{n:Nat}{el iV:Nat→List IV}(h: ∀k,k<n→el k=iV k):E.list n el=E.list n iV:=by
 unfold list;refine List.map_congr_left λk hk=> ?_
 rw[h k (List.mem_range.1 hk)]
theorem mF{n:Nat}{el iV:Nat→List IV}(h: ∀k,k<n→el k=iV k):E.oks n el=E.oks n iV:=by
 have: ∀l:List Nat,(∀k∈l,k<n)→(l.all λk=>E.ok ((el k).map AV.c))=(l.all λk=>E.ok ((iV k).map AV.c)):=by
  intro l hl
  induction l with
  | nil=>rfl
  | cons x l ih=>
    simp only[List.all_cons];rw[h x (hl x (by simp)),ih λk hk=>hl k (by simp[hk])]
 exact this _ λk hk=>List.mem_range.1 hk
theorem Dr(U:List X)(u:X)(iV:Nat→List IV)(he:iV 0=E.iv u): ∀k,k<U.length+1→dH U.length (E.el U) iV k=E.el (U++[u]) k:=by
 intro k hk;unfold dH kZ.el;by_cases hlt:k<U.length
 ·rw[if_pos hlt]
  simp[dJ,List.getElem?_append_left hlt]
 ·have:k=U.length:=by omega
  subst this;rw[if_neg hlt,Nat.sub_self,he];simp[dJ]
theorem snoc(U:List X)(u:X)(iV:Nat→List IV)(he:iV 0=E.iv u):E.list (U.length+1) (dH U.length (E.el U) iV)=U++[u]∧E.oks (U.length+1) (dH U.length (E.el U) iV)=true:=by
 have hl:U.length+1=(U++[u]).length:=by simp
 rw[E.kK (E.Dr U u iV he),E.mF (E.Dr U u iV he),hl];exact⟨E.aG _,E.aP _ _⟩
theorem Oe(U:List X)(i:Nat)(hi:i<U.length)(j:Nat)(c:List IV)(u:X)(he:(E.iv (U.getD i E.d)).take j++c++(E.iv (U.getD i E.d)).drop (j+c.length)=E.iv u):
  ∀k,k<U.length→aT (E.el U) i j c k=E.el (U.set i u) k:=by
 intro k hk;unfold aT;by_cases hk2:k=i
 ·subst hk2
  rw[if_pos rfl];unfold kZ.el;rw[he];simp[dJ,hk]
 ·rw[if_neg hk2]
  unfold kZ.el;simp[dJ,List.getElem?_set_ne (Ne.symm hk2)]
theorem set(U:List X)(i:Nat)(hi:i<U.length)(j:Nat)(c:List IV)(u:X)(he:(E.iv (U.getD i E.d)).take j++c++(E.iv (U.getD i E.d)).drop (j+c.length)=E.iv u):
  E.list U.length (aT (E.el U) i j c)=U.set i u∧E.oks U.length (aT (E.el U) i j c)=true:=by
 have key:=E.Oe U i hi j c u he;have hl:U.length=(U.set i u).length:=by simp
 rw[E.kK key,E.mF key];constructor
 ·conv=>lhs;rw[hl]
  exact E.aG _
 ·exact E.aP _ _
def arg:Arg (List X) where
 get:=λa=>match a with | .c (.sl n sz el)=>bif beq sz E.n then some (E.list n el,[E.oks n el])else none | _=>none
 put:=E.sl
 ok:=by
  intro a x cs h hc
  split at h
  ·rename_i n sz el
   cases hb:beq sz E.n with
   | false=>rw[hb]at h;cases h
   | true=>
     rw[hb]at h;simp only[cond_true,fu,Prod.mk.injEq]at h;obtain⟨rfl,rfl⟩:=h;obtain rfl:sz=E.n:=by simpa using hb
     unfold sl;rw[sO];exact bL.sl (E.OG (hc _ (by simp)))
  ·cases h
def ent(t:TypeId):Jt (List X) where
 get:=λe=>match e with|some (.arr n sz el t')=>bif beq sz E.n&&beq t t' then some (E.list n el,[E.oks n el])else none | _=>none
 put:=λU=>some (.arr U.length E.n (E.el U) t)
 ok:=by
  intro e U cs h hc
  split at h
  ·rename_i n sz el t'
   cases hb:(beq sz E.n&&beq t t')with
   | false=>rw[hb]at h;cases h
   | true=>
     rw[hb]at h;simp only[cond_true,fu,Prod.mk.injEq]at h;obtain⟨rfl,rfl⟩:=h;simp only[bI]at hb;obtain rfl:sz=E.n:=by simpa using hb.1
     obtain rfl:t=t':=by simpa using hb.2
     rw[sO];exact .arr _ _ _ _ _ (E.OG (hc _ (by simp)))
  ·cases h
def jZ:Arg X where
 get:=λa=>match a with | .agg l=>some (E.V l,[E.ok l]) | _=>none
 put:=λx=> .agg ((E.iv x).map AV.c)
 ok:=by
  intro a x cs h hc
  split at h
  ·rename_i l
   simp only[fu,Prod.mk.injEq]at h;obtain⟨rfl,rfl⟩:=h;rw[←E.ok_eq l (hc _ (by simp))];exact bL.refl _
  ·cases h
def var(t tl:TypeId):kr (List X) where
 parse:=λe=>match e with | [some (.cells [.fK 1 m sz] t'),some (.arr m' sz' el t2)]=>bif beq t t'&&(beq tl t2&&(beq sz E.n&&beq sz' E.n))then some (E.list m el,[decide (m=m'),E.oks m el])else none | _=>none
 ents:=λU=> [some (.cells [.fK 1 U.length E.n] t),some (.arr U.length E.n (E.el U) tl)]
 ok:=by
  intro e x cs h hc
  split at h
  ·rename_i m sz t' m' sz' el t2
   cases hb:(beq t t'&&(beq tl t2&&(beq sz E.n&&beq sz' E.n)))with
   | false=>rw[hb]at h;cases h
   | true=>
     rw[hb]at h;simp only[cond_true,fu,Prod.mk.injEq]at h;obtain⟨rfl,rfl⟩:=h;simp only[bI]at hb;obtain rfl:t=t':=by simpa using hb.1
     obtain rfl:tl=t2:=by simpa using hb.2.1
     obtain rfl:sz=E.n:=by simpa using hb.2.2.1
     obtain rfl:sz'=E.n:=by simpa using hb.2.2.2
     obtain rfl:m=m':=dec (hc _ (by simp));rw[E.sO];exact .cons (.refl _) (.cons (.arr _ _ _ _ _ (E.OG (hc _ (by simp)))) .nil)
  ·cases h
theorem aiO(U:List X):E.arg.get (E.sl U)=some (E.list U.length (E.el U),[E.oks U.length (E.el U)]):=by
 show(bif beq E.n E.n then _ else _)=_
 rw[show beq E.n E.n=true by simp];rfl
theorem MC(x:X):((E.iv x).drop (0*E.n)).take E.n=E.iv x:=by rw[Nat.zero_mul,List.drop_zero, ←E.len x,List.take_length]
theorem JJ(f:Nat→List IV):E.list 0 f=[]:=rfl
end kZ
def uS(x:R3):List IV:=KU x.p++(KU x.r++[.v (.bool x.neg)])
def wY(i:Ig):List IV:=uS i.a++(uS i.b++[.v (.bool i.oa),.v (.bool i.ob)])
def VG(q:Q3):List IV:=KU q.c0++(KU q.c1++KU q.c2)
def ig0:Ig:=⟨⟨0,0,false⟩,⟨0,0,false⟩,false,false⟩
def Aw:kZ Q3:=⟨12,VG,bH,dB,⟨0,0,0⟩,λ_ h=>mE h,dQ,fq,λ_=>rfl⟩
def VH:kZ L4:=⟨16,Oz,vO,wV,l40,λ_ h=>Mt h,ku,jI,λ_=>rfl⟩
def eR3:kZ R3:=⟨9,uS,bK,dh,⟨0,0,false⟩,λ_ h=>kW h,bT,dw,λ_=>rfl⟩
def fQ:kZ Ig:=⟨20,wY,uV,qP,ig0,λ_ h=>Hq h,jY,iy,λ_=>rfl⟩
structure Ue (F:Type) where
 i:Ig
 f:F
structure uW (F G:Type) where
 i:Ig
 f:F
 g:G
abbrev Ul:=Ue L4
abbrev Uq:=Ue Q3
theorem Hr(i:Ig)(m:List IV):((wY i++m).map AV.c).take 20=dO i:=rfl
theorem Ht(i:Ig)(m:List IV):((wY i++m).map AV.c).drop 20=m.map AV.c:=rfl
def kZ.unit{F:Type}(E:kZ F):kZ (Ue F) where
 n:=20+E.n
 iv:=λu=>wY u.i++E.iv u.f
 V:=λl=>⟨uV (l.take 20),E.V (l.drop 20)⟩
 ok:=λl=>qP (l.take 20)&&E.ok (l.drop 20)
 d:=⟨ig0,E.d⟩
 ok_eq:=by
  intro l h;simp only[bI]at h;rw[List.map_append, ←E.ok_eq _ h.2]
  show l=dO (uV (l.take 20))++_
  rw[←Hq h.1,List.take_append_drop]
 Dq:=by
  intro u;rw[Hr,Ht,jY,E.Dq]
 pY:=by
  intro u;rw[Hr,Ht,iy,E.pY];rfl
 len:=by
  intro u;rw[List.length_append,E.len];rfl
def kZ.both{F G:Type}(E:kZ F)(H:kZ G):kZ (uW F G) where
 n:=20+(E.n+H.n)
 iv:=λu=>wY u.i++(E.iv u.f++H.iv u.g)
 V:=λl=>⟨uV (l.take 20),E.V ((l.drop 20).take E.n),H.V ((l.drop 20).drop E.n)⟩
 ok:=λl=>qP (l.take 20)&&(E.ok ((l.drop 20).take E.n)&&H.ok ((l.drop 20).drop E.n))
 d:=⟨ig0,E.d,H.d⟩
 ok_eq:=by
  intro l h;simp only[bI]at h;rw[List.map_append,List.map_append, ←E.ok_eq _ h.2.1, ←H.ok_eq _ h.2.2,List.take_append_drop]
  show l=dO (uV (l.take 20))++_
  rw[←Hq h.1,List.take_append_drop]
 Dq:=by
  intro u;have e:(E.iv u.f).length=E.n:=E.len _;rw[Hr,Ht,List.map_append, ←e, ←List.length_map (f:=AV.c),List.take_left,List.drop_left,jY,E.Dq,H.Dq]
 pY:=by
  intro u;have e:(E.iv u.f).length=E.n:=E.len _;rw[Hr,Ht,List.map_append, ←e, ←List.length_map (f:=AV.c),List.take_left,List.drop_left,iy,E.pY,H.pY];rfl
 len:=by
  intro u;rw[List.length_append,List.length_append,E.len,H.len];rfl
end Go.bA
namespace Go.bA
open Go.Proofs
def Γ00:FuncId→Option Spec:=λ_=>none
theorem nD: ∀f s,Γ00 f=some s→aH prog f s:=λ_ _ h=>by cases h
def qK{X R:Type}(id:Nat)(lp:bC X R):Nat→Option (St→Tr (Ex×St)):=λi=>bif beq i id then some (lp.g 0)else none
theorem nk{X R:Type}{c:Code}{Γ:FuncId→Option Spec}{N id:Nat}{lp:bC X R}{step:X→Tr (X ⊕ R)}(hΓ: ∀f s,Γ f=some s→aH prog f s)(hg:lp.gH)
  (hs: ∀x,(exec prog Γ dn N (aR id c) (eY lp.nIn (lp.head x))).bind (lp.fin 0 id)=step x)
  (hr: ∀x,lp.pre x=true→ ∃n,aS step (· =lp.res x) n x) (hb:bW (λi=>beq i id) c=[(id,.loop (aR id c))]:=by kernel_rfl):bB prog 0 (qK id lp) c:=by
 refine eP (d:=λi=>beq i id) (λi=>by unfold qK;cases beq i id<;>rfl) _ ?_;rw[hb];intro p hp g hg';simp only[List.mem_singleton]at hp;subst hp;have hh:qK id lp id=some (lp.g 0):=by
  unfold qK;rw[show beq id id=true by simp];rfl
 rw[hh]at hg';obtain rfl:g=lp.g 0:=(Option.some.inj hg').symm;exact bC.PO (N:=N) aI hΓ (L:=dn) (aA 0 _) hg hs hr
theorem EK{X:Type}(U:List X)(d:X){i:Nat}(hi:i<U.length):U.drop i=U.getD i d::U.drop (i+1):=by
 rw[List.drop_eq_getElem_cons hi];simp[dJ,hi]
theorem ME{X:Type}(U:List X)(d:X){i:Nat}(hi:i<U.length):U.take i++[U.getD i d]=U.take (i+1):=by
 rw[List.take_add_one];simp[dJ,hi]
theorem yP{X:Type}{p:X→Bool}{U:List X}(h:U.all p=true)(d:X){i:Nat}(hi:i<U.length):p (U.getD i d)=true:=by
 have e:U.getD i d=U[i]:=by simp[dJ,hi]
 rw[e];exact List.all_eq_true.1 h _ (List.getElem_mem hi)
theorem dR{α:Type}{Q:α→Prop}: ∀{l:List Bool} {t:Tr α},(∀p∈l,p=true)→t.sat Q→(Tr.needs l t).sat Q
 | [],_,_,h=>h
 | p::l,_,hl,h=>ah (hl p (by simp)) (dR (λq hq=>hl q (by simp[hq])) h)
def kr.flip{X Y:Type}(A:Jt X)(B:Jt Y):kr (Y×(X×Unit)) where
 parse:=λe=>match e with
  | [a,b]=>match A.get a,B.get b with
    | some (x,cs),some (y,ds)=>some ((y,(x,())),cs++ds)
    | _,_=>none
  | _=>none
 ents:=λp=> [A.put p.2.1,B.put p.1]
 ok:=by
  intro e x cs h hc
  split at h
  ·split at h
   ·rename_i x c1 y c2 h1 h2
    simp only[fu,Prod.mk.injEq]at h;obtain⟨rfl,rfl⟩:=h;exact .cons (A.ok _ _ _ h1 λp hp=>hc p (by simp[hp])) (.cons (B.ok _ _ _ h2 λp hp=>hc p (by simp[hp])) .nil)
   ·cases h
  ·cases h
section
variable{X Y Z W:Type}
abbrev MX(X Y Z W:Type):=(Nat×List X×Int×Int×Z)×(List Y×W)
abbrev MR(Y Z W:Type):=(Nat×Z)×(List Y×W)
abbrev MX2(X Y Z W:Type):=(Nat×List X×Int×Z)×(List Y×W)
def qX(EX:kZ X)(EY:kZ Y)(b:Nat)(FZ:Form Z)(FE:kr (List Y×W))(h:Z→W→X→Y)(ok:Z→W→X→Bool)(ty:TypeId)(nt o:Nat)(live ctx:List Nat):bC (MX X Y Z W) (MR Y Z W):=
 lD {nt:=nt,live:=live++ctx,lifts:=[(o,EY.n,ty)]} {nt:=nt,live:=o::ctx} (.with FE (.cons (dZ b EY.n) (.cons EX.arg (.cons aX (.cons aX FZ))))) (.with FE (.cons (dZ b EY.n) FZ))
  (λx=>((x.1.2.1.length,x.1.2.2.2.2),(x.1.2.1.map (h x.1.2.2.2.2 x.2.2),x.2.2)))
  (λx=>decide (x.1.1=0)&&(decide (x.2.1.length=0)&&(decide (x.1.2.2.2.1=0)&&(decide (x.1.2.2.1=(x.1.2.1.length:Int))&&(decide (x.1.2.1.length≤100000)&&x.1.2.1.all (ok x.1.2.2.2.2 x.2.2))))))
def BD(EX:kZ X)(EY:kZ Y)(b:Nat)(FZ:Form Z)(FE:kr (List Y×W))(h:Z→W→X→Y)(ok:Z→W→X→Bool)(ty:TypeId)(nt o:Nat)(live ctx:List Nat):bC (MX2 X Y Z W) (MR Y Z W):=
 lD {nt:=nt,live:=live++ctx,lifts:=[(o,EY.n,ty)]} {nt:=nt,live:=o::ctx} (.with FE (.cons (dZ b EY.n) (.cons EX.arg (.cons aX FZ)))) (.with FE (.cons (dZ b EY.n) FZ))
  (λx=>((x.1.2.1.length,x.1.2.2.2),(x.1.2.1.map (h x.1.2.2.2 x.2.2),x.2.2)))
  (λx=>decide (x.1.1=0)&&(decide (x.2.1.length=0)&&(decide (x.1.2.2.1=0)&&(decide (x.1.2.1.length≤100000)&&x.1.2.1.all (ok x.1.2.2.2 x.2.2)))))
def Z7{R:Type}(EY:kZ Y)(w n:Nat)(O:List Y)(c:List IV)(k:Nat→(Nat→List IV)→Tr R):Tr R:=
 need (decide (n≤O.length))<| need true<| need (decide (n+1≤9223372036854775807))<| need (decide ((n+1)*w≤140737488355328))<| k (n+1) (dH n (EY.el O) λk=>(c.drop (k*EY.n)).take EY.n)
def mapStep(EX:kZ X)(EY:kZ Y)(zc:Z→List Bool)(zp:Z→Z)(wc:W→List Bool)(wp:W→W)(w:Nat)(pr:Z→W→X→Tr (List IV))(x:MX X Y Z W):Tr (MX X Y Z W ⊕ MR Y Z W):=
 let n:=x.1.1
 let A:=x.1.2.1
 let l:=x.1.2.2.1
 let i:=x.1.2.2.2.1
 let z:=x.1.2.2.2.2
 let O:=x.2.1
 let v:=x.2.2
 Tr.ite (decide (i<l))
  (need (decide (0≤i∧i<(A.length:Int)))<| (pr z v (A.getD i.toNat EX.d)).bind λc=>Z7 EY w n O c λm el=>
   need (EX.oks A.length (EX.el A))<| Tr.needs (zc z)<| Tr.needs (wc v)<| need (EY.oks m el)<| ret (Sum.inl ((m,EX.list A.length (EX.el A),l,i64.wrap (i+1),zp z),(EY.list m el,wp v))))
  (Tr.needs (zc z)<| Tr.needs (wc v)<| need (EY.oks O.length (EY.el O))<| ret (Sum.inr ((n,zp z),(EY.list O.length (EY.el O),wp v))))
def yR(EX:kZ X)(EY:kZ Y)(zc:Z→List Bool)(zp:Z→Z)(wc:W→List Bool)(wp:W→W)(w:Nat)(pr:Z→W→(Tr (List IV)→Tr (List IV))→X→Tr (List IV))(x:MX2 X Y Z W):Tr (MX2 X Y Z W ⊕ MR Y Z W):=
 let n:=x.1.1
 let A:=x.1.2.1
 let i:=x.1.2.2.1
 let z:=x.1.2.2.2
 let O:=x.2.1
 let v:=x.2.2
 Tr.ite (decide (i<(A.length:Int)))
  ((pr z v (need (decide (0≤i∧i<(A.length:Int)))) (A.getD i.toNat EX.d)).bind λc=>Z7 EY w n O c λm el=>
    need (EX.oks A.length (EX.el A))<| Tr.needs (zc z)<| Tr.needs (wc v)<| need (EY.oks m el)<| ret (Sum.inl ((m,EX.list A.length (EX.el A),i64.wrap (i+1),zp z),(EY.list m el,wp v))))
  (Tr.needs (zc z)<| Tr.needs (wc v)<| need (EY.oks O.length (EY.el O))<| ret (Sum.inr ((n,zp z),(EY.list O.length (EY.el O),wp v))))
variable{EX:kZ X}{EY:kZ Y}{zc:Z→List Bool}{zp:Z→Z}{wc:W→List Bool}{wp:W→W}{w:Nat}{h:Z→W→X→Y}{ok:Z→W→X→Bool}
structure sP (c:Z→List Bool) (p:Z→Z):Prop where
 all: ∀z, ∀q∈c z,q=true
 same: ∀z,p z=z
theorem sP.none:sP (λ_:Z=> []) (λz=>z):=⟨λ_ p hp=>by simp at hp,λ_=>rfl⟩
theorem cK{α β:Type}{t:Tr α}{f:α→Tr β}{Q:β→Prop}:t.sat (λa=>(f a).sat Q)→(t.bind f).sat Q:=by
 induction t with
 | ret a=>exact id
 | ite c t e h1 h2=>exact λh=>⟨λk=>h1 (h.1 k),λk=>h2 (h.2 k)⟩
 | need p t h1=>exact λh=>⟨h.1,λk=>h1 (h.2 k)⟩
 | both a b h1 h2=>exact λh=>⟨h1 h.1,h2 h.2⟩
 | fail _=>exact id
theorem JK{R:Type}{n:Nat}{O:List Y}{y:Y}{k:Nat→(Nat→List IV)→Tr R}{Q:R→Prop}(hw:w≤1000000)(hn:O.length=n)(hl:n≤100000)(hk: ∀m el,m=n+1→EY.list m el=O++[y]→EY.oks m el=true→(k m el).sat Q):(Z7 EY w n O (EY.iv y) k).sat Q:=by
 subst hn;have:=Nat.mul_le_mul (show O.length+1≤100001 by omega) hw;obtain⟨s1,s2⟩:=EY.snoc O y (λk=>((EY.iv y).drop (k*EY.n)).take EY.n) (EY.MC y);exact ah (dA) (ah rfl (ah (dA) (ah (dA) (hk _ _ rfl s1 s2))))
theorem XV {pr:Z→W→X→Tr (List IV)} (bz:sP zc zp) (bw:sP wc wp) (hw:w≤1000000) (hp: ∀z v a,ok z v a=true→(pr z v a).sat λc=>c=EY.iv (h z v a))
  (A:List X) (z:Z) (v:W) (lA:A.length≤100000) (hA:A.all (ok z v)=true) (Q:MR Y Z W→Prop) (hq:Q ((A.length,z),(A.map (h z v),v))): ∀(n i:Nat),i+n=A.length→
  aS (mapStep EX EY zc zp wc wp w pr) Q (n+1) (((A.take i).length,A,(A.length:Int),(i:Nat),z),((A.take i).map (h z v),v))
 | 0,i,hn=>by
   obtain rfl:i=A.length:=by omega
   have c:decide (((A.length:Nat):Int)<(A.length:Int))=false:=iB (by omega);unfold aS;simp only[mapStep,c,EY.aG,EY.aP,List.take_length,bz.same,bw.same];exact aj (λh=>by cases h) (λ_=>dR (bz.all z) (dR (bw.all v) (ah rfl (ak hq))))
 | n+1,i,hn=>by
   have hi:i<A.length:=by omega
   have w1:i64.wrap ((i:Int)+1)=((i+1:Nat):Int):=kU;have ha:=yP hA EX.d hi;have hl:(A.take i).length=i:=by rw[List.length_take];omega
   have hm:((A.take i).map (h z v)).length=i:=by rw[List.length_map,hl]
   have ih:=XV bz bw hw hp A z v lA hA Q hq n (i+1) (by omega);rw[←ME A EX.d hi,List.map_append,List.length_append,hl]at ih;generalize (A.take i).map (h z v)=O at*;unfold aS;simp only[mapStep,w1,hl,cB];generalize A.getD i EX.d=a at*;refine aj (λ_=>ah (dA) (cK (Tr.aZ (λc hc=> ?_) (hp z v a ha)))) (λh=>absurd h (by rw[dK (show(i:Int)<(A.length:Int)by omega)];decide));subst hc;refine JK hw hm (by omega) λm el e1 e2 e3=> ?_
   subst e1;simp only[e2,e3,EX.aG,EX.aP,bz.same,bw.same];exact ah rfl (dR (bz.all z) (dR (bw.all v) (ah rfl (ak ih))))
theorem RD{pr:Z→W→(Tr (List IV)→Tr (List IV))→X→Tr (List IV)}(bz:sP zc zp)(bw:sP wc wp)(hw:w≤1000000)(hp: ∀z v a (g:Tr (List IV)→Tr (List IV))(Q:List IV→Prop),(∀t,t.sat Q→(g t).sat Q)→ok z v a=true→Q (EY.iv (h z v a))→(pr z v g a).sat Q)
  (A:List X) (z:Z) (v:W) (lA:A.length≤100000) (hA:A.all (ok z v)=true) (Q:MR Y Z W→Prop) (hq:Q ((A.length,z),(A.map (h z v),v))): ∀(n i:Nat),i+n=A.length→
  aS (yR EX EY zc zp wc wp w pr) Q (n+1) (((A.take i).length,A,(i:Nat),z),((A.take i).map (h z v),v))
 | 0,i,hn=>by
   obtain rfl:i=A.length:=by omega
   have c:decide (((A.length:Nat):Int)<(A.length:Int))=false:=iB (by omega);unfold aS;simp only[yR,c,EY.aG,EY.aP,List.take_length,bz.same,bw.same];exact aj (λh=>by cases h) (λ_=>dR (bz.all z) (dR (bw.all v) (ah rfl (ak hq))))
 | n+1,i,hn=>by
   have hi:i<A.length:=by omega
   have w1:i64.wrap ((i:Int)+1)=((i+1:Nat):Int):=kU;have ha:=yP hA EX.d hi;have hl:(A.take i).length=i:=by rw[List.length_take];omega
   have hm:((A.take i).map (h z v)).length=i:=by rw[List.length_map,hl]
   have ih:=RD bz bw hw hp A z v lA hA Q hq n (i+1) (by omega);rw[←ME A EX.d hi,List.map_append,List.length_append,hl]at ih;generalize (A.take i).map (h z v)=O at*;unfold aS;simp only[yR,w1,hl,cB];generalize A.getD i EX.d=a at*;refine aj (λ_=>cK (hp z v a _ _ (λt ht=>ah (dA) ht) ha ?_)) (λh=>absurd h (by rw[dK (show(i:Int)<(A.length:Int)by omega)];decide));refine JK hw hm (by omega) λm el e1 e2 e3=> ?_
   subst e1;simp only[e2,e3,EX.aG,EX.aP,bz.same,bw.same];exact ah rfl (dR (bz.all z) (dR (bw.all v) (ah rfl (ak ih))))
section
variable{c:Code}{Γ:FuncId→Option Spec}{N id nt o:Nat}{ty:TypeId}{live ctx:List Nat}{b:Nat}{FZ:Form Z}{FE:kr (List Y×W)}
theorem Dt{pr:Z→W→X→Tr (List IV)}(hΓ: ∀f s,Γ f=some s→aH prog f s)
  (hs: ∀x,(exec prog Γ dn N (aR id c) (eY (qX EX EY b FZ FE h ok ty nt o live ctx).nIn ((qX EX EY b FZ FE h ok ty nt o live ctx).head x))).bind ((qX EX EY b FZ FE h ok ty nt o live ctx).fin 0 id)=mapStep EX EY zc zp wc wp w pr x)
  (bz:sP zc zp) (bw:sP wc wp) (hw:w≤1000000) (hp: ∀z v a,ok z v a=true→(pr z v a).sat λc=>c=EY.iv (h z v a))
  (hb:bW (λi=>beq i id) c=[(id,.loop (aR id c))]:=by kernel_rfl):bB prog 0 (qK id (qX EX EY b FZ FE h ok ty nt o live ctx)) c:=by
 refine nk hΓ (cZ _ _ _ _ _ _) hs ?_ hb;rintro⟨⟨n,A,l,i,z⟩,⟨O,v⟩⟩ hx;simp only[qX,lD,bI,dS]at hx;obtain⟨rfl,h2,rfl,rfl,h5,h6⟩:=hx;obtain rfl:O=[]:=List.length_eq_zero_iff.1 h2;exact⟨_,XV bz bw hw hp A z v h5 h6 (λr=>r=((A.length,z),(A.map (h z v),v))) rfl A.length 0 (by omega)⟩
theorem RF{pr:Z→W→(Tr (List IV)→Tr (List IV))→X→Tr (List IV)}(hΓ: ∀f s,Γ f=some s→aH prog f s)
  (hs: ∀x,(exec prog Γ dn N (aR id c) (eY (BD EX EY b FZ FE h ok ty nt o live ctx).nIn ((BD EX EY b FZ FE h ok ty nt o live ctx).head x))).bind ((BD EX EY b FZ FE h ok ty nt o live ctx).fin 0 id)=yR EX EY zc zp wc wp w pr x)
  (bz:sP zc zp) (bw:sP wc wp) (hw:w≤1000000) (hp: ∀z v a (g:Tr (List IV)→Tr (List IV)) (Q:List IV→Prop),(∀t,t.sat Q→(g t).sat Q)→ok z v a=true→Q (EY.iv (h z v a))→(pr z v g a).sat Q)
  (hb:bW (λi=>beq i id) c=[(id,.loop (aR id c))]:=by kernel_rfl):bB prog 0 (qK id (BD EX EY b FZ FE h ok ty nt o live ctx)) c:=by
 refine nk hΓ (cZ _ _ _ _ _ _) hs ?_ hb;rintro⟨⟨n,A,i,z⟩,⟨O,v⟩⟩ hx;simp only[BD,lD,bI,dS]at hx;obtain⟨rfl,h2,rfl,h5,h6⟩:=hx;obtain rfl:O=[]:=List.length_eq_zero_iff.1 h2;exact⟨_,RD bz bw hw hp A z v h5 h6 (λr=>r=((A.length,z),(A.map (h z v),v))) rfl A.length 0 (by omega)⟩
end
end
def Z8{X Y:Type}(EX:kZ X)(EY:kZ Y)(h:X→Y)(ok:X→Bool)(A:List X):Tr AV:=
 let B:=EX.list A.length (EX.el A)
 need (EX.oks A.length (EX.el A))<| need true<| need (true&&(true&&(true&&(decide ((A.length:Int)=(B.length:Int))&&(decide (B.length≤100000)&&B.all ok)))))<| need (decide (B.length≤(B.map h).length))<| ret (.c (.sl B.length EY.n (EY.el (B.map h))))
end Go.bA
namespace Go.bA
open Go.Proofs
abbrev bP:kZ Uq:=Aw.unit
abbrev VI:kZ Ul:=VH.unit
theorem aiP{X Y:Type}{EX:kZ X}{EY:kZ Y}{h:X→Y}{ok:X→Bool}{f:FuncId}{fn:Func}{Γ:FuncId→Option Spec}{nt o:Nat}{ty:TypeId}{live:List Nat}{w:Nat}{pr:X→Tr (List IV)}
  (hΓ: ∀f s,Γ f=some s→aH prog f s)
  (hs: ∀x,(exec prog Γ dn 1010 (aR 0 (codeOf fn)) (eY (qX EX EY 0 Form.nil (.cons (EY.ent ty) .nil) (λ_ _=>h) (λ_ _=>ok) ty nt o live []).nIn ((qX EX EY 0 Form.nil (.cons (EY.ent ty) .nil) (λ_ _=>h) (λ_ _=>ok) ty nt o live []).head x))).bind ((qX EX EY 0 Form.nil (.cons (EY.ent ty) .nil) (λ_ _=>h) (λ_ _=>ok) ty nt o live []).fin 0 0)=mapStep EX EY (λ_=> []) (λz=>z) (λ_=> []) (λz=>z) w (λ_ _=>pr) x)
  (hM: ∀A,aN prog Γ (qK 0 (qX EX EY 0 Form.nil (.cons (EY.ent ty) .nil) (λ_ _=>h) (λ_ _=>ok) ty nt o live [])) 1010 fn [EX.sl A]=Z8 EX EY h ok A)
  (hw:w≤1000000) (hp: ∀a,ok a=true→(pr a).sat λc=>c=EY.iv (h a))
  (hf:prog.funcs[f]? =some fn:=by kernel_rfl) (hb:fn.body=some (codeOf fn):=by kernel_rfl) (hn:dz fn=true:=by kernel_rfl)
  (hl:bW (λi=>beq i 0) (codeOf fn)=[(0,.loop (aR 0 (codeOf fn)))]:=by kernel_rfl):
  aF prog f ((F1 EX.arg).K (λx=>EY.sl (x.1.map h)) λx=> [decide (x.1.length≤100000),x.1.all ok]):=
 (F1 EX.arg).ji (N:=1010) aI hΓ (fn:=fn) (c:=codeOf fn) hf hb hn (Dt (w:=w) (pr:=λ_ _=>pr) hΓ hs sP.none sP.none hw (λ_ _=>hp) hl) (λ_=>rfl)
  (M:=λx=>Z8 EX EY h ok x.1) (λx=>hM x.1) λx hx=>by
   have h1:x.1.length≤100000:=dec (hx (decide (x.1.length≤100000)) (by simp));have h2:x.1.all ok=true:=hx (x.1.all ok) (by simp);simp only[Z8,EX.aG,EX.aP,h2,dK h1,decide_true,Bool.and_true,sat_true];have hl:(x.1.map h).length=x.1.length:=by simp
   exact ah (dA) (ak (by unfold kZ.sl;rw[hl]))
end Go.bA
namespace Go.bA
def F7(x:R3):Prop:=x.r=0∧x.neg=false
theorem Z9:gq 0 0=0:=rfl
theorem rG{x y:R3}(hx:F7 x)(hy:F7 y):fV x y=gq (x.p-y.p).num 0:=by
 unfold fV mZ;rw[hx.1,hy.1];simp[Z9]
theorem wZ(q:Rat):(q<0∧gq q.num 0= -1)∨(q=0∧gq q.num 0=0)∨(0<q∧gq q.num 0=1):=by
 have h1:q<0↔q.num<0:=by have:=Rat.lt_iff q 0;simpa using this
 have h2:0<q↔0<q.num:=by have:=Rat.lt_iff 0 q;simpa using this
 have h3:q=0↔q.num=0:=Rat.num_eq_zero.symm;unfold gq;rcases Int.lt_trichotomy q.num 0 with h|h|h
 ·exact .inl ⟨h1.2 h,by rw[if_pos h]⟩
 ·exact .inr (.inl ⟨h3.2 h,by rw[if_neg (by omega),if_neg (by omega)]⟩)
 ·exact .inr (.inr ⟨h2.2 h,by rw[if_neg (by omega),if_pos (by omega)]⟩)
theorem sQ{x y:R3}(hx:F7 x)(hy:F7 y):fV x y= -1∨fV x y=0∨fV x y=1:=by
 rw[rG hx hy];rcases wZ (x.p-y.p)with h|h|h
 ·exact .inl h.2
 ·exact .inr (.inl h.2)
 ·exact .inr (.inr h.2)
theorem mG{x y:R3}(hx:F7 x)(hy:F7 y):fV y x= -fV x y:=by
 rw[rG hx hy,rG hy hx];have e:y.p-x.p= -(x.p-y.p):=by grind
 rw[e];generalize x.p-y.p=q;rw[Rat.neg_num];unfold gq;rcases Int.lt_trichotomy q.num 0 with h|h|h
 ·rw[if_neg (by omega),if_pos (by omega),if_pos h];rfl
 ·rw[h];rfl
 ·rw[if_pos (by omega),if_neg (by omega),if_pos (by omega)]
theorem OH{x y:R3}(hx:F7 x)(hy:F7 y):fV x y≤0↔x.p≤y.p:=by
 rw[rG hx hy];rcases wZ (x.p-y.p)with⟨h,e⟩|⟨h,e⟩|⟨h,e⟩
 ·rw[e]
  exact⟨λ_=>by grind,λ_=>by decide⟩
 ·rw[e]
  exact⟨λ_=>by grind,λ_=>by decide⟩
 ·rw[e]
  exact⟨λk=>absurd k (by decide),λk=>by exfalso;grind⟩
theorem JL{x y z:R3}(hx:F7 x)(hy:F7 y)(hz:F7 z)(h:fV x y≤0)(h2:fV y z≤0):fV x z≤0:=
 (OH hx hz).2 (Rat.le_trans ((OH hx hy).1 h) ((OH hy hz).1 h2))
theorem j4{x y:R3}(hx:F7 x)(hy:F7 y):fV x y=0↔x=y:=by
 obtain⟨p,r,n⟩:=x;obtain⟨p',r',n'⟩:=y;obtain⟨h1,h2⟩:=hx;obtain⟨h3,h4⟩:=hy;dsimp only at h1 h2 h3 h4;subst h1 h2 h3 h4;rw[rG ⟨rfl,rfl⟩ ⟨rfl,rfl⟩]
 show gq (p-p').num 0=0↔_
 constructor
 ·intro h
  rcases wZ (p-p')with⟨k,e⟩|⟨k,e⟩|⟨k,e⟩
  ·rw[e]at h;cases h
  ·have:p=p':=by grind
   rw[this]
  ·rw[e]at h;cases h
 ·intro h
  have:p=p':=by
   have:=congrArg R3.p h;exact this
  rw[this,Rat.sub_self];rfl
structure DW where
 t:R3
 k:Bool
def jC(x y:DW):Prop:=fV x.t y.t<0∨(fV x.t y.t=0∧(x.k=true→y.k=true))
def mU(i:Ig):DW:=⟨i.a,i.oa⟩
def lsB(i:Ig):DW:=⟨i.b, !i.ob⟩
def KW(x:DW):Prop:=F7 x.t
theorem yS{x:DW}(h:KW x):jC x x:= .inr ⟨(j4 h h).2 rfl,id⟩
theorem VJ{x y:DW}(hx:KW x)(hy:KW y):jC x y∨jC y x:=by
 have hs:=mG hx hy;rcases sQ hx hy with h|h|h
 ·exact .inl (.inl (by omega))
 ·cases hk:x.k with
  | false=>exact .inl (.inr ⟨h,λe=>by rw[hk]at e;cases e⟩)
  | true=>exact .inr (.inr ⟨by omega,λ_=>hk⟩)
 ·exact .inr (.inl (by omega))
theorem lK{x y z:DW}(hx:KW x)(hy:KW y)(hz:KW z)(h1:jC x y)(h2:jC y z):jC x z:=by
 have a1:fV x.t y.t≤0:=by rcases h1 with h|h;omega;omega
 have a2:fV y.t z.t≤0:=by rcases h2 with h|h;omega;omega
 have a3:=JL hx hy hz a1 a2;by_cases h:fV x.t z.t<0
 ·exact .inl h
 ·have h0:fV x.t z.t=0:=by omega
  have e:=(j4 hx hz).1 h0;have s:=mG hx hy;rw[←e]at a2;have b1:fV x.t y.t=0:=by omega
  rcases h1 with h1|⟨_,h1⟩
  ·omega
  ·rcases h2 with h2|⟨_,h2⟩
   ·rw[←e]at h2;omega
   ·exact .inr ⟨h0,λk=>h2 (h1 k)⟩
structure nE (i:Ig):Prop where
 a:F7 i.a
 b:F7 i.b
theorem OI(i j:Ig):Bz i j=true↔jC (lsB i) (mU j):=by
 unfold Bz jC lsB mU;simp only[Bool.or_eq_true,bI,dS,beq_iff_eq];cases i.ob<;>cases j.oa<;>simp
def KX(i:Ig):Prop:= ¬jC (lsB i) (mU i)
theorem rV{o:Ig}(h:nE o):qJ o=true↔KX o:=by
 unfold qJ KX jC lsB mU;have hs:=mG h.b h.a;simp only[Bool.or_eq_true,bI,dS,beq_iff_eq];rcases sQ h.b h.a with e|e|e<;>rw[e]at hs⊢ <;>cases o.ob<;>cases o.oa<;>simp[hs]
theorem aac{i j:Ig}(hi:nE i)(hj:nE j):nE (iY i j):=by
 unfold iY;constructor
 ·dsimp only;split
  ·exact hj.a
  ·exact hi.a
 ·dsimp only;split
  ·exact hj.b
  ·exact hi.b
theorem XW{i j:Ig}(hi:nE i)(hj:nE j):(mU (iY i j)=mU i∧jC (mU j) (mU i))∨(mU (iY i j)=mU j∧jC (mU i) (mU j)):=by
 unfold iY mU jC;have hs:=mG hi.a hj.a;have hz:=j4 hi.a hj.a;dsimp only;rcases sQ hi.a hj.a with e|e|e
 ·rw[e];right;simp
 ·have e':=hz.1 e
  rw[hs,e];cases h1:i.oa<;>cases h2:j.oa<;>simp[e']
 ·rw[hs,e];left;simp
theorem XY{i j:Ig}(hi:nE i)(hj:nE j):(lsB (iY i j)=lsB i∧jC (lsB i) (lsB j))∨(lsB (iY i j)=lsB j∧jC (lsB j) (lsB i)):=by
 unfold iY lsB jC;have hs:=mG hi.b hj.b;have hz:=j4 hi.b hj.b;dsimp only;rcases sQ hi.b hj.b with e|e|e
 ·rw[e];left;simp
 ·have e':=hz.1 e
  rw[hs,e];cases h1:i.ob<;>cases h2:j.ob<;>simp[e']
 ·rw[hs,e];right;simp
theorem nE.f{i:Ig}(h:nE i):KW (mU i):=h.a
theorem nE.l{i:Ig}(h:nE i):KW (lsB i):=h.b
theorem anw{i j:Ig}(hi:nE i)(hj:nE j):jC (mU i) (mU (iY i j)):=by
 rcases XW hi hj with⟨e,h⟩|⟨e,h⟩<;>rw[e]
 ·exact yS hi.f
 ·exact h
theorem anx{i j:Ig}(hi:nE i)(hj:nE j):jC (mU j) (mU (iY i j)):=by
 rcases XW hi hj with⟨e,h⟩|⟨e,h⟩<;>rw[e]
 ·exact h
 ·exact yS hj.f
theorem anz{i j:Ig}(hi:nE i)(hj:nE j):jC (lsB (iY i j)) (lsB i):=by
 rcases XY hi hj with⟨e,h⟩|⟨e,h⟩<;>rw[e]
 ·exact yS hi.l
 ·exact h
theorem anA{i j:Ig}(hi:nE i)(hj:nE j):jC (lsB (iY i j)) (lsB j):=by
 rcases XY hi hj with⟨e,h⟩|⟨e,h⟩<;>rw[e]
 ·exact h
 ·exact yS hj.l
end Go.bA
namespace Go.bA
variable{F G:Type}
def xM:Nat→List (Ue F)→List (Ue G)→List (uW F G)→List (uW F G)
 | 0,_,_,o=>o
 | n+1,x::a,y::b,o=>xM n (if yO x.i y.i then a else x::a) (if yO x.i y.i then y::b else b) (if qJ (iY x.i y.i)then o++[⟨iY x.i y.i,x.f,y.f⟩]else o)
 | _+1,_,_,o=>o
def Hu(x:Ue F)(y:Ue G)(O:List (uW F G)):List (uW F G):=if qJ (iY x.i y.i)then O++[⟨iY x.i y.i,x.f,y.f⟩]else O
theorem zL(n:Nat)(b:List (Ue G))(o:List (uW F G)):xM n [] b o=o:=by cases n<;>rfl
theorem zM(n:Nat)(a:List (Ue F))(o:List (uW F G)):xM n a [] o=o:=by cases n<;>cases a<;>rfl
structure jK {F:Type} (A:List (Ue F)):Prop where
 ok: ∀u∈A,nE u.i
 vd: ∀u∈A,KX u.i
 pw:A.Pairwise λu v=>jC (lsB u.i) (mU v.i)
theorem jK.tail{x:Ue F}{A:List (Ue F)}(h:jK (x::A)):jK A:=
 ⟨λu hu=>h.ok u (.tail _ hu),λu hu=>h.vd u (.tail _ hu),(List.pairwise_cons.1 h.pw).2⟩
def ref(A:List (Ue F))(B:List (Ue G))(o:List (uW F G)):List (uW F G):=xM (A.length+B.length) A B o
theorem aad: ∀(n:Nat) (A:List (Ue F)) (B:List (Ue G)) (o:List (uW F G)),A.length+B.length≤n→xM (n+1) A B o=xM n A B o
 | 0,A,B,o,h=>by
   have h1:A=[]:=List.length_eq_zero_iff.1 (by omega);have h2:B=[]:=List.length_eq_zero_iff.1 (by omega);subst h1;subst h2;rfl
 | n+1,[],B,o,h=>by rw[zL,zL]
 | n+1,_::_,[],o,h=>by rw[zM,zM]
 | n+1,x::a,y::b,o,h=>by
   simp only[List.length_cons]at h;unfold xM;rw[aad n]
   split<;>simp only[List.length_cons]<;>omega
theorem Du(B:List (Ue G))(o:List (uW F G)):ref [] B o=o:=zL _ _ _
theorem Dv(A:List (Ue F))(o:List (uW F G)):ref A [] o=o:=zM _ _ _
theorem JM(x:Ue F)(y:Ue G)(a:List (Ue F))(b:List (Ue G))(o:List (uW F G)):ref (x::a) (y::b) o=if yO x.i y.i then ref a (y::b) (Hu x y o)else ref (x::a) b (Hu x y o):=by
 show xM ((x::a).length+(y::b).length) (x::a) (y::b) o=_
 have e:(x::a).length+(y::b).length=(a.length+(y::b).length)+1:=by simp only[List.length_cons];omega
 rw[e]
 show xM _ (if yO x.i y.i then a else x::a) (if yO x.i y.i then y::b else b) (Hu x y o)=_
 cases yO x.i y.i with
 | true=>rfl
 | false=>
   have e:a.length+(y::b).length=(x::a).length+b.length:=by simp only[List.length_cons];omega
   rw[e];rfl
def refine(A:List (Ue F))(B:List (Ue G)):List (uW F G):=xM (A.length+B.length) A B []
structure XZ {F G:Type} (o:List (uW F G)):Prop where
 ok: ∀u∈o,nE u.i
 vd: ∀u∈o,KX u.i
 pw:o.Pairwise λu v=>jC (lsB u.i) (mU v.i)
theorem JN: ∀(n:Nat) (A:List (Ue F)) (B:List (Ue G)) (o:List (uW F G)),A.length+B.length≤n→jK A→jK B→XZ o→
  (∀p∈o,(∀u∈A,jC (lsB p.i) (mU u.i))∨(∀u∈B,jC (lsB p.i) (mU u.i)))→XZ (ref A B o)
 | _,[],B,o,_,_,_,ho,_=>by rw[Du];exact ho
 | _,_::_,[],o,_,_,_,ho,_=>by rw[Dv];exact ho
 | 0,_::_,_::_,o,h,_,_,_,_=>by simp only[List.length_cons]at h;omega
 | n+1,x::a,y::b,o,h,hA,hB,ho,hi=>by
   simp only[List.length_cons]at h;have hx:=hA.ok x (by simp);have hy:=hB.ok y (by simp);have m0:=aac hx hy;have pa:=(List.pairwise_cons.1 hA.pw).1;have pb:=(List.pairwise_cons.1 hB.pw).1;have good:XZ (Hu x y o):=by
    unfold Hu
    split
    ·rename_i hm
     refine⟨λu hu=> ?_,λu hu=> ?_,?_⟩
     ·rcases List.mem_append.1 hu with h|h
      ·exact ho.ok u h
      ·simp only[List.mem_singleton]at h;subst h;exact m0
     ·rcases List.mem_append.1 hu with h|h
      ·exact ho.vd u h
      ·simp only[List.mem_singleton]at h;subst h;exact(rV m0).1 hm
     ·refine List.pairwise_append.2 ⟨ho.pw,List.pairwise_singleton _ _,λp hp q hq=> ?_⟩
      simp only[List.mem_singleton]at hq;subst hq;have hp0:=ho.ok p hp;rcases hi p hp with h|h
      ·exact lK hp0.l hx.f m0.f (h x (by simp)) (anw hx hy)
      ·exact lK hp0.l hy.f m0.f (h y (by simp)) (anx hx hy)
    ·exact ho
   have mem: ∀p∈Hu x y o,p∈o∨p.i=iY x.i y.i:=by
    intro p hp;unfold Hu at hp
    split at hp
    ·rcases List.mem_append.1 hp with h|h
     ·exact .inl h
     ·simp only[List.mem_singleton]at h;subst h;exact .inr rfl
    ·exact .inl hp
   rw[JM];cases h1:yO x.i y.i with
   | true=>
     refine JN n a (y::b) _ (by simp only[List.length_cons];omega) hA.tail hB good λp hp=> ?_
     rcases mem p hp with h|h
     ·rcases hi p h with k|k
      ·exact .inl λu hu=>k u (.tail _ hu)
      ·exact .inr k
     ·rw[h]
      exact .inl λu hu=>lK m0.l hx.l (hA.ok u (.tail _ hu)).f (anz hx hy) (pa u hu)
   | false=>
     refine JN n (x::a) b _ (by simp only[List.length_cons];omega) hA hB.tail good λp hp=> ?_
     rcases mem p hp with h|h
     ·rcases hi p h with k|k
      ·exact .inl k
      ·exact .inr λu hu=>k u (.tail _ hu)
     ·rw[h]
      exact .inr λu hu=>lK m0.l hy.l (hB.ok u (.tail _ hu)).f (anA hx hy) (pb u hu)
theorem RG{A:List (Ue F)}{B:List (Ue G)}(hA:jK A)(hB:jK B):XZ (refine A B):=
 JN _ A B [] (Nat.le_refl _) hA hB ⟨λ_ h=>by simp at h,λ_ h=>by simp at h,.nil⟩ λ_ h=>by simp at h
theorem OJ: ∀(n:Nat) (A:List (Ue F)) (B:List (Ue G)) (o:List (uW F G)),A.length+B.length≤n→ ∀p∈ref A B o,p∈o∨ ∃x∈A, ∃y∈B,p=⟨iY x.i y.i,x.f,y.f⟩
 | _,[],B,o,_,p,hp=>by rw[Du]at hp;exact .inl hp
 | _,_::_,[],o,_,p,hp=>by rw[Dv]at hp;exact .inl hp
 | 0,_::_,_::_,o,h,_,_=>by simp only[List.length_cons]at h;omega
 | n+1,x::a,y::b,o,h,p,hp=>by
   simp only[List.length_cons]at h;have mem: ∀p∈Hu x y o,p∈o∨p=⟨iY x.i y.i,x.f,y.f⟩:=by
    intro p hp;unfold Hu at hp
    split at hp
    ·rcases List.mem_append.1 hp with h|h
     ·exact .inl h
     ·simp only[List.mem_singleton]at h;exact .inr h
    ·exact .inl hp
   rw[JM]at hp;have fin:p∈Hu x y o→p∈o∨ ∃u∈x::a, ∃v∈y::b,p=⟨iY u.i v.i,u.f,v.f⟩:=λk=>by
    rcases mem p k with k|k
    ·exact .inl k
    ·exact .inr ⟨x,by simp,y,by simp,k⟩
   cases h1:yO x.i y.i with
   | true=>
     rw[h1,if_pos rfl]at hp;rcases OJ n a (y::b) _ (by simp only[List.length_cons];omega) p hp with k|⟨u,hu,v,hv,e⟩
     ·exact fin k
     ·exact .inr ⟨u,.tail _ hu,v,hv,e⟩
   | false=>
     rw[h1]at hp;rcases OJ n (x::a) b _ (by simp only[List.length_cons];omega) p hp with k|⟨u,hu,v,hv,e⟩
     ·exact fin k
     ·exact .inr ⟨u,hu,v,.tail _ hv,e⟩
theorem VK{A:List (Ue F)}{B:List (Ue G)}{p:uW F G}(hp:p∈refine A B): ∃x∈A, ∃y∈B,p=⟨iY x.i y.i,x.f,y.f⟩:=by
 rcases OJ _ A B [] (Nat.le_refl _) p hp with h|h
 ·simp at h
 ·exact h
theorem aiQ(x:Ue F)(y:Ue G)(o:List (uW F G)):(Hu x y o).length≤o.length+1:=by
 unfold Hu;split
 ·simp
 ·omega
theorem OL: ∀(n:Nat) (A:List (Ue F)) (B:List (Ue G)) (o:List (uW F G)),A.length+B.length≤n→(ref A B o).length+(if A=[]∨B=[]then 0 else 1)≤o.length+A.length+B.length
 | _,[],B,o,_=>by rw[Du];simp
 | _,_::_,[],o,_=>by rw[Dv];simp
 | 0,_::_,_::_,o,h=>by simp only[List.length_cons]at h;omega
 | n+1,x::a,y::b,o,h=>by
   simp only[List.length_cons]at h;have hl:=aiQ x y o;rw[JM];cases h1:yO x.i y.i with
   | true=>
     have:=OL n a (y::b) (Hu x y o) (by simp only[List.length_cons];omega);simp only[if_true,List.length_cons]at this⊢;cases a with
     | nil=>rw[Du]at this⊢;simp at this⊢;omega
     | cons u a=>simp at this⊢;omega
   | false=>
     have:=OL n (x::a) b (Hu x y o) (by simp only[List.length_cons];omega);simp only[List.length_cons]at this⊢;cases b with
     | nil=>simp[Dv]at this⊢;omega
     | cons u b=>simp at this⊢;omega
end Go.bA
namespace Go.bA
open Go.Proofs
def Fm4{A B C D:Type}(a:Arg A)(b:Arg B)(c:Arg C)(d:Arg D):Form (A×B×C×D×Unit):= .cons a (F3 b c d)
structure Rl (F:Type) where
 E:kZ F
 eq:F→F→Bool
 sm:F→F→R3→Bool
 rd:F→R3→F
 bf:F→Bool
 eq_iff: ∀{f g},eq f g=true↔f=g
section
variable{F:Type}(R:Rl F)
def kEq:List AV→Option (AV×List Bool):=(F3 C8 R.E.jZ R.E.jZ).K (λx=>bJ (R.eq x.2.1 x.2.2.1)) λx=> []
def kRd:List AV→Option (AV×List Bool):=(F3 C8 R.E.jZ rE).K (λx=>R.E.jZ.put (R.rd x.2.1 x.2.2.1)) λx=> [R.bf x.2.1,iH 100000 x.2.2.1]
def kSm:List AV→Option (AV×List Bool):=(Fm4 C8 R.E.jZ R.E.jZ rE).K (λx=>bJ (R.sm x.2.1 x.2.2.1 x.2.2.2.1)) λx=> [R.bf x.2.1,R.bf x.2.2.1,iH 100000 x.2.2.2.1]
end
def uT(x y:Rat):Bool:=cu [cu [aY x.den==aY y.den,false==false].reverse,cu [aD x.num.natAbs==aD y.num.natAbs,decide (x.num<0)==decide (y.num<0)].reverse].reverse
theorem EL(x y:Rat):uT x y=decide (x=y):=Di x y
def KY(x y:R3):Bool:=cu [x.neg==y.neg,uT x.r y.r,uT x.p y.p].reverse
theorem zN(x y:R3):KY x y=decide (x=y):=by
 simp only[KY,EL];exact MB x y
section
variable{F:Type}(E:kZ F)
def dV(A:List (Ue F)):Ue F:=A.getD (A.length-1) E.unit.d
def yT(A:List (Ue F))(t:R3):Bool:=decide (0<A.length)&&(decide ((dV E A).i.b=t)&& !(dV E A).i.ob)
def MHe(A:List (Ue F))(t:R3):Tr AV:=
 let x1:Int:=A.length
 let x3:=i64.wrap (x1-1)
 let u:=A.getD x3.toNat E.unit.d
 let x10:=bif true then KY u.i.b t else false
 let iW:=decide (0≤x3∧x3<x1)&&true
 let kL:=bif true then !u.i.ob else false
 need (bif decide (x1>0)then decide (0≤x3∧x3<x1)&&bif x10 then iW else true else bif false then iW else true)
  (ret (AV.c (.v (.bool (bif decide (x1>0)then bif x10 then kL else false else bif false then kL else false)))))
theorem aiR(A:List (Ue F))(t:R3)(hA:A.length≤400000):(MHe E A t).sat λr=>r=bJ (yT E A t):=by
 by_cases h:0<A.length
 ·have w:i64.wrap ((A.length:Int)-1)=((A.length-1:Nat):Int):=kU
  have c1:decide ((A.length:Int)>0)=true:=dA;have c2:decide (0≤((A.length-1:Nat):Int)∧((A.length-1:Nat):Int)<(A.length:Int))=true:=dA;have c3:decide (0<A.length)=true:=dK h;have hd:A.getD (A.length-1) E.unit.d=dV E A:=rfl;simp only[MHe,yT,w,c1,c2,c3,cB,hd];generalize dV E A=u;simp only[zN,cond_true,Bool.true_and];refine ah ?_ (ak ?_)
  ·cases decide (u.i.b=t)<;>rfl
  ·cases decide (u.i.b=t)<;>rfl
 ·have c1:decide ((A.length:Int)>0)=false:=iB (by omega)
  have c3:decide (0<A.length)=false:=iB h;simp only[MHe,yT,c1,c3];exact ah rfl (ak rfl)
def kHe:List AV→Option (AV×List Bool):=(F2 E.unit.arg rE).K (λx=>bJ (yT E x.1 x.2.1)) λx=> [decide (x.1.length≤400000)]
theorem akY{f:FuncId}{fn:Func}(hM: ∀A t,aN prog Γ00 dn 1010 fn [E.unit.sl A,yJ t]=MHe E A t)(hf:prog.funcs[f]? =some fn:=by kernel_rfl)(hb:fn.body=some (codeOf fn):=by kernel_rfl)(hn:dz fn=true:=by kernel_rfl):aF prog f (kHe E):=
 (F2 E.unit.arg rE).ji (N:=1010) (L:=dn) aI nD (fn:=fn) (c:=codeOf fn) hf hb hn (aA _ _) (λ_=>rfl) (M:=λx=>MHe E x.1 x.2.1) (λx=>hM x.1 x.2.1) λx h=>aiR E x.1 x.2.1 (iX (h (decide (x.1.length≤400000)) (by simp)))
def jk(u:Ue F):List (Ue F):=(bif u.i.oa then []else [⟨⟨u.i.a,u.i.a,false,false⟩,u.f⟩])++bif decide (u.i.a=u.i.b)then []else⟨⟨u.i.a,u.i.b,true,true⟩,u.f⟩::(bif u.i.ob then []else [⟨⟨u.i.b,u.i.b,false,false⟩,u.f⟩])
def dM(U:List (Ue F)):List (Ue F):=U.flatMap jk
theorem Dw(u:Ue F):(jk u).length≤3:=by
 unfold jk;cases u.i.oa<;>cases decide (u.i.a=u.i.b)<;>cases u.i.ob<;>simp
abbrev X0(F:Type):=(Unit×Unit×List (Ue F)×Int×Int×Unit)×List (Ue F)
abbrev AtR(F:Type):=(Unit×Unit)×List (Ue F)
abbrev FAt(fc:FuncId):Form (Unit×Unit×List (Ue F)×Int×Int×Unit):= .cons (mP 0 0) (.cons (Ve fc 0 0) (.cons E.unit.arg (.cons aX (.cons aX .nil))))
def MF(x:(X0 F)):Bool:=decide (x.1.2.2.2.1=(x.1.2.2.1.length:Nat))&&(decide (x.1.2.2.2.2.1=0)&&(decide (x.1.2.2.1.length≤100000)&&decide (x.2.length=0)))
def ads(fc:FuncId)(tl ty:TypeId):bC (X0 F) (AtR F):=lD {nt:=54,live:=[3,4,8,9,10],cells:=[(1,0,E.unit.n,ty)]} {nt:=54,live:=[3],cells:=[(1,0,E.unit.n,ty)]} (dU.with (E.unit.var tl ty) (FAt E fc)) (dU.with (E.unit.var tl ty) (F1 (mP 0 0))) (λx=>(((),()),dM x.1.2.2.1)) MF
theorem aae(fc:FuncId)(tl ty:TypeId):(ads E fc tl ty).gH:=cZ _ _ _ _ _ _
def MAt(U:List (Ue F)):Tr AV:=
 let x1:List (Ue F):=E.unit.list U.length (E.unit.el U)
 let x2:List (Ue F):=dM x1
 let x3:Nat:=x2.length
 need (E.unit.oks U.length (E.unit.el U))
  (need true
   (need true
    (need (MF (((),(),x1, ↑U.length,0,()),E.unit.list 0 λx=> [])) (need (decide (x3≤x3)) (ret (AV.c (IV.sl x3 E.unit.n (E.unit.el x2))))))))
abbrev elU(u:Ue F):Nat→List IV:=λk=>((wY u.i++E.iv u.f).drop (k*E.unit.n)).take E.unit.n
def aiS(w m:Nat)(t:Tr ((X0 F) ⊕ (AtR F))):Tr ((X0 F) ⊕ (AtR F)):=need (decide (m≤m))<| need true<| need (decide (m+1≤9223372036854775807))<| need (decide ((m+1)*w≤140737488355328)) t
def RH(U:List (Ue F))(n i:Int)(m:Nat)(el:Nat→List IV):Tr ((X0 F) ⊕ (AtR F)):=need (E.unit.oks U.length (E.unit.el U))<| need (decide (m=m))<| need (E.unit.oks m el)<| ret (Sum.inl (((),(),E.unit.list U.length (E.unit.el U),n,i64.wrap (i+1),()),E.unit.list m el))
def OM(w:Nat)(U:List (Ue F))(n i:Int)(u:Ue F)(m:Nat)(el:Nat→List IV):Tr ((X0 F) ⊕ (AtR F)):=
 let IA:=dO u.i
 need (qP IA)<| Tr.ite (decide ((uV IA).a=(uV IA).b)) (RH E U n i m el)
  (aiS w m<| Tr.ite (!u.i.ob) (aiS w (m+1)<| RH E U n i (m+1+1) (dH (m+1) (dH m el (elU E (⟨⟨u.i.a,u.i.b,true,true⟩,u.f⟩:Ue F))) (elU E (⟨⟨u.i.b,u.i.b,false,false⟩,u.f⟩:Ue F))))
   (RH E U n i (m+1) (dH m el (elU E (⟨⟨u.i.a,u.i.b,true,true⟩,u.f⟩:Ue F)))))
def EM(w:Nat)(U:List (Ue F))(n i:Int)(A:List (Ue F)):Tr ((X0 F) ⊕ (AtR F)):=
 let u:=U.getD i.toNat E.unit.d
 Tr.ite (decide (i<n)) (need (decide (0≤i∧i<(U.length:Int)))<| Tr.ite (!u.i.oa)
   (aiS w A.length<| OM E w U n i u (A.length+1) (dH A.length (E.unit.el A) (elU E (⟨⟨u.i.a,u.i.a,false,false⟩,u.f⟩:Ue F))))
   (OM E w U n i u A.length (E.unit.el A)))
  (need (decide (A.length=A.length))<| need (E.unit.oks A.length (E.unit.el A))<| ret (Sum.inr (((),()),E.unit.list A.length (E.unit.el A))))
theorem JO{w m:Nat}{t:Tr ((X0 F) ⊕ (AtR F))}{R:(X0 F) ⊕ (AtR F)→Prop}(hw:w≤1000000)(hm:m≤1000000)(h:t.sat R):(aiS w m t).sat R:=by
 have:=Nat.mul_le_mul (show m+1≤1000001 by omega) hw;exact ah (dA) (ah rfl (ah (dA) (ah (dA) h)))
theorem EN(U:List (Ue F))(i:Nat)(hi:i<U.length)(lU:U.length≤100000)(m:Nat)(el:Nat→List IV)(A:List (Ue F))(h1:E.unit.list m el=A)(h2:E.unit.oks m el=true){R:(X0 F) ⊕ (AtR F)→Prop}(hq:R (.inl (((),(),U,(U.length:Int),((i+1:Nat):Int),()),A))):(RH E U (U.length:Int) (i:Nat) m el).sat R:=by
 have w1:i64.wrap ((i:Int)+1)=((i+1:Nat):Int):=kU;unfold RH;rw[E.unit.aG,h1,h2,E.unit.aP,w1];exact ah rfl (ah (dK rfl) (ah rfl (ak hq)))
theorem JQ{w:Nat}(hw:w≤1000000)(U:List (Ue F))(i:Nat)(hi:i<U.length)(lU:U.length≤100000)(u:Ue F)(A:List (Ue F))(lA:A.length≤400000){R:(X0 F) ⊕ (AtR F)→Prop}
  (hq:R (.inl (((),(),U,(U.length:Int),((i+1:Nat):Int),()),A++bif decide (u.i.a=u.i.b)then []else(⟨⟨u.i.a,u.i.b,true,true⟩,u.f⟩:Ue F)::(bif u.i.ob then []else [(⟨⟨u.i.b,u.i.b,false,false⟩,u.f⟩:Ue F)])))) (m:Nat) (el:Nat→List IV) (hm:m=A.length) (he: ∀k,k<m→el k=E.unit.el A k):
  (OM E w U (U.length:Int) (i:Nat) u m el).sat R:=by
 subst hm;unfold OM;simp only[jY,iy];have g0:E.unit.list A.length el=A∧E.unit.oks A.length el=true:=by
  rw[E.unit.kK he,E.unit.mF he];exact⟨E.unit.aG A,E.unit.aP A _⟩
 refine ah rfl (aj (λh=> ?_) (λh=> ?_))
 ·rw[h,cond_true,List.append_nil]at hq
  exact EN E U i hi lU _ _ A g0.1 g0.2 hq
 ·rw[h,cond_false]at hq
  have j1: ∀k,k<A.length+1→dH A.length el (elU E (⟨⟨u.i.a,u.i.b,true,true⟩,u.f⟩:Ue F)) k=E.unit.el (A++[(⟨⟨u.i.a,u.i.b,true,true⟩,u.f⟩:Ue F)]) k:=by
   intro k hk;rw[←E.unit.Dr A (⟨⟨u.i.a,u.i.b,true,true⟩,u.f⟩:Ue F) (elU E (⟨⟨u.i.a,u.i.b,true,true⟩,u.f⟩:Ue F)) (E.unit.MC _) k hk];unfold dH;by_cases hlt:k<A.length
   ·rw[if_pos hlt,if_pos hlt,he k hlt]
   ·rw[if_neg hlt,if_neg hlt]
  have l1:A.length+1=(A++[(⟨⟨u.i.a,u.i.b,true,true⟩,u.f⟩:Ue F)]).length:=by simp
  refine JO hw (by omega) (aj (λho=> ?_) (λho=> ?_))
  ·have ho:u.i.ob=false:=by simpa using ho
   rw[ho,cond_false]at hq;have j2: ∀k,k<A.length+1+1→dH (A.length+1) (dH A.length el (elU E (⟨⟨u.i.a,u.i.b,true,true⟩,u.f⟩:Ue F))) (elU E (⟨⟨u.i.b,u.i.b,false,false⟩,u.f⟩:Ue F)) k=E.unit.el ((A++[(⟨⟨u.i.a,u.i.b,true,true⟩,u.f⟩:Ue F)])++[(⟨⟨u.i.b,u.i.b,false,false⟩,u.f⟩:Ue F)]) k:=by
    intro k hk;rw[←E.unit.Dr (A++[(⟨⟨u.i.a,u.i.b,true,true⟩,u.f⟩:Ue F)]) (⟨⟨u.i.b,u.i.b,false,false⟩,u.f⟩:Ue F) (elU E (⟨⟨u.i.b,u.i.b,false,false⟩,u.f⟩:Ue F)) (E.unit.MC _) k (by rw[←l1];exact hk), ←l1];unfold dH;by_cases hlt:k<A.length+1
    ·rw[if_pos hlt,if_pos hlt]
     exact j1 k hlt
    ·rw[if_neg hlt,if_neg hlt]
   have l2:A.length+1+1=((A++[(⟨⟨u.i.a,u.i.b,true,true⟩,u.f⟩:Ue F)])++[(⟨⟨u.i.b,u.i.b,false,false⟩,u.f⟩:Ue F)]).length:=by simp
   refine JO hw (by omega) (EN E U i hi lU _ _ _ ?_ ?_ hq)
   ·rw[E.unit.kK j2,l2,E.unit.aG]
    simp
   ·rw[E.unit.mF j2]
    exact E.unit.aP _ _
  ·have ho:u.i.ob=true:=by simpa using ho
   rw[ho,cond_true]at hq;refine EN E U i hi lU _ _ _ ?_ ?_ hq
   ·rw[E.unit.kK j1,l1,E.unit.aG]
   ·rw[E.unit.mF j1]
    exact E.unit.aP _ _
theorem aaf{w:Nat}(hw:w≤1000000)(U:List (Ue F))(i:Nat)(hi:i<U.length)(lU:U.length≤100000)(A:List (Ue F))(lA:A.length≤300000){R:(X0 F) ⊕ (AtR F)→Prop}
  (hq:R (.inl (((),(),U,(U.length:Int),((i+1:Nat):Int),()),A++jk (U.getD i E.unit.d)))):(EM E w U (U.length:Int) (i:Nat) A).sat R:=by
 have c1:decide ((i:Int)<(U.length:Int))=true:=dA;unfold EM;simp only[cB];generalize U.getD i E.unit.d=u at*;simp only[c1];refine aj (λ_=> ?_) (λh=>by cases h);refine ah (dA) (aj (λho=> ?_) (λho=> ?_))
 ·have ho:u.i.oa=false:=by simpa using ho
  have l1:A.length+1=(A++[(⟨⟨u.i.a,u.i.a,false,false⟩,u.f⟩:Ue F)]).length:=by simp
  refine JO hw (by omega) (JQ E hw U i hi lU u (A++[(⟨⟨u.i.a,u.i.a,false,false⟩,u.f⟩:Ue F)]) (by rw[←l1];omega) ?_ _ _ l1 ?_)
  ·rw[jk,ho,cond_false]at hq
   rw[List.append_assoc];exact hq
  ·exact E.unit.Dr A (⟨⟨u.i.a,u.i.a,false,false⟩,u.f⟩:Ue F) _ (E.unit.MC _)
 ·have ho:u.i.oa=true:=by simpa using ho
  refine JQ E hw U i hi lU u A (by omega) ?_ _ _ rfl (λ_ _=>rfl);rw[jk,ho,cond_true,List.nil_append]at hq;exact hq
theorem VL{w:Nat}(hw:w≤1000000)(U:List (Ue F))(i:Nat)(h: ¬i<U.length)(A:List (Ue F)){R:(X0 F) ⊕ (AtR F)→Prop}(hq:R (.inr (((),()),A))):(EM E w U (U.length:Int) (i:Nat) A).sat R:=by
 have c:decide ((i:Int)<(U.length:Int))=false:=iB (by omega);unfold EM;simp only[c,E.unit.aG,E.unit.aP];exact aj (λh=>by cases h) (λ_=>ah (by simp) (ah rfl (ak hq)))
theorem adt{w:Nat}(hw:w≤1000000)(U:List (Ue F))(lU:U.length≤100000)(Q:(AtR F)→Prop)(hq:Q (((),()),dM U)): ∀(n i:Nat),i+n=U.length→
  aS (λx:(X0 F)=>EM E w x.1.2.2.1 x.1.2.2.2.1 x.1.2.2.2.2.1 x.2) Q (n+1) (((),(),U,(U.length:Int),(i:Nat),()),dM (U.take i))
 | 0,i,hn=>by
   obtain rfl:i=U.length:=by omega
   refine VL E hw U _ (by omega) _ ?_;rw[List.take_length];exact hq
 | n+1,i,hn=>by
   have hi:i<U.length:=by omega
   have e:dM (U.take i)++jk (U.getD i E.unit.d)=dM (U.take (i+1)):=by
    have e2:U.take (i+1)=U.take i++[U.getD i E.unit.d]:=by
     rw[List.take_add_one];simp[dJ,hi]
    rw[e2];unfold dM;rw[List.flatMap_append];simp
   have hl: ∀V:List (Ue F),(dM V).length≤3*V.length:=by
    intro V
    induction V with
    | nil=>simp[dM]
    | cons v V ih=>
      have:=Dw v;unfold dM at*;simp only[List.flatMap_cons,List.length_append,List.length_cons];omega
   have:=hl (U.take i);rw[List.length_take]at this;refine aaf E hw U i hi lU _ (show(dM (U.take i)).length≤300000 by omega) ?_;rw[e];exact adt hw U lU Q hq n (i+1) (by omega)
theorem aiT(U:List (Ue F))(h:U.length≤100000):(MAt E U).sat λr=>r=E.unit.sl (dM U):=by
 have hp:MF (((),(),U,(U.length:Nat),0,()),[])=true:=by
  simp only[MF,bI,dS];exact⟨trivial,trivial,h,rfl⟩
 simp only[MAt,E.unit.aG,E.unit.aP,E.unit.JJ,hp,sat_true];exact ah (dK (Nat.le_refl _)) (ak rfl)
def kAt:List AV→Option (AV×List Bool):=(F1 E.unit.arg).K (λx=>E.unit.sl (dM x.1)) λx=> [decide (x.1.length≤100000)]
theorem akZ{f fc:FuncId}{fn:Func}{tl ty:TypeId}{w:Nat}{Γ:FuncId→Option Spec}(hΓ: ∀f s,Γ f=some s→aH prog f s)
  (hs: ∀x,(exec prog Γ dn 1010 (aR 0 (codeOf fn)) (eY (ads E fc tl ty).nIn ((ads E fc tl ty).head x))).bind ((ads E fc tl ty).fin 0 0)=EM E w x.1.2.2.1 x.1.2.2.2.1 x.1.2.2.2.2.1 x.2)
  (hM: ∀A,aN prog Γ (qK 0 (ads E fc tl ty)) 1010 fn [E.unit.sl A]=MAt E A) (hw:w≤1000000)
  (hf:prog.funcs[f]? =some fn:=by kernel_rfl) (hb:fn.body=some (codeOf fn):=by kernel_rfl) (hn:dz fn=true:=by kernel_rfl)
  (hl:bW (λi=>beq i 0) (codeOf fn)=[(0,.loop (aR 0 (codeOf fn)))]:=by kernel_rfl):aF prog f (kAt E):=
 (F1 E.unit.arg).ji (N:=1010) aI hΓ (fn:=fn) (c:=codeOf fn) hf hb hn (nk hΓ (aae E fc tl ty) hs (by
  rintro⟨⟨⟨⟩,⟨⟩,U,n,i,⟨⟩⟩,A⟩ hx;have hx:MF (((),(),U,n,i,()),A)=true:=hx;simp only[MF,bI,dS]at hx;obtain⟨rfl,rfl,h3,h4⟩:=hx;obtain rfl:A=[]:=List.length_eq_zero_iff.1 h4;exact⟨_,adt E hw U h3 (λr=>r=(((),()),dM U)) rfl U.length 0 (by omega)⟩) hl) (λ_=>rfl) (M:=λx=>MAt E x.1) (λx=>hM x.1) λx h=>aiT E x.1 (iX (h (decide (x.1.length≤100000)) (by simp)))
end
end Go.bA
namespace Go.bA
open Go.Proofs
def RI(i:Ig):Int:=bif i.oa then 1 else 0
def adu:List AV→Option (AV×List Bool):=(F1 qW).K (λx=>bR .i64 (RI x.1)) λx=> []
theorem adv{f:FuncId}{fn:Func}(hM: ∀i,aN prog Γ00 dn 1010 fn [.agg (dO i)]=Tr.ite i.oa (ret (bR .i64 1)) (ret (bR .i64 0)))
  (hf:prog.funcs[f]? =some fn:=by kernel_rfl) (hb:fn.body=some (codeOf fn):=by kernel_rfl) (hn:dz fn=true:=by kernel_rfl):aF prog f adu:=
 (F1 qW).ji (N:=1010) (L:=dn) aI nD (fn:=fn) (c:=codeOf fn) hf hb hn (aA _ _) (λ_=>rfl) (M:=λx=>Tr.ite x.1.oa (ret (bR .i64 1)) (ret (bR .i64 0))) (λx=>hM x.1)
  λx h=>aj (λe=>ak (by unfold RI;rw[e];rfl)) (λe=>ak (by unfold RI;rw[e];rfl))
def fnV(f:Nat):Value:= .func (.func f) #[] #[]
theorem aqs(e el:Nat→List IV):dH 0 e el=el:=by
 funext k
 unfold dH;rw[if_neg (Nat.not_lt_zero k),Nat.sub_zero]
section
variable{X:Type}(E:kZ X)
def anB:List AV→Option (AV×List Bool)
 | [.c (.v (.slice none 0 0))]=>some (E.sl [],[])
 | [.c (.v (.slice (some _) 0 _))]=>some (E.sl [],[])
 | _=>none
def anC:List AV→Option (AV×List Bool):=(F1 E.arg).K (λx=>E.sl x.1) λx=> [decide (1≤x.1.length),decide (x.1.length≤100000)]
def OO:List AV→Option (AV×List Bool):=(F1 E.arg).K (λx=>E.sl x.1) λx=> [decide (x.1.length≤100000)]
def aqt(b:Bool):Tr AV:=Tr.ite b (ret (.c (.v (.slice none 0 0)))) (need true (need true (need true (need true (ret (.c (.sl 0 E.n (dH 0 (λ_=> []) λ_=> []))))))))
def MCl(w:Nat)(U:List X):Tr AV:=
 need (decide (U.length≠0))<| Tr.ite false (ret (.c (.v (.slice none 0 0))))<| need true<| need (decide (0+U.length≤9223372036854775807))<| need (decide ((0+U.length)*w≤140737488355328))<| need (decide (0+U.length≤0+U.length))<| ret (.c (.sl (0+U.length) E.n (dH 0 (λ_=> []) (E.el U))))
theorem RJ{f:FuncId}{fn:Func}{w:Nat}(hn0:aN prog Γ00 dn 1010 fn [.c (.v (.slice none 0 0))]=aqt E true)(he0: ∀a c,aN prog Γ00 dn 1010 fn [.c (.v (.slice (some a) 0 c))]=aqt E false)(hM: ∀U,aN prog Γ00 dn 1010 fn [E.sl U]=MCl E w U)(hw:w≤1000000)
  (hf:prog.funcs[f]? =some fn:=by kernel_rfl) (hb:fn.body=some (codeOf fn):=by kernel_rfl) (hn:dz fn=true:=by kernel_rfl):aF prog f (OO E):=
 have c0:aF prog f (anB E):=by
  refine lH aI nD (fn:=fn) (c:=codeOf fn) hf hb (cO (fn:=fn) (c:=codeOf fn) hf hb hn) (L:=dn) (N:=1010) (aA _ _) ?_ ?_
  ·intro args v cs h
   unfold anB at h
   split at h
   ·cases h;rfl
   ·cases h;rfl
   ·cases h
  ·intro args v cs h _
   unfold anB at h
   split at h
   ·cases h
    rw[hn0];exact aj (λ_=>ak ⟨rfl,bL.nil _ _⟩) (λh=>by cases h)
   ·rename_i a c
    cases h;rw[he0];refine aj (λh=>by cases h) (λ_=> ?_)
    repeat refine ah rfl ?_
    exact ak ⟨rfl,bL.sl λk hk=>absurd hk (Nat.not_lt_zero k)⟩
   ·cases h
 have c1:aF prog f (anC E):=
  (F1 E.arg).ji (N:=1010) (L:=dn) aI nD (fn:=fn) (c:=codeOf fn) hf hb hn (aA _ _) (λ_=>rfl) (M:=λx=>MCl E w x.1) (λx=>hM x.1)
   λx h=>by
    have h1:1≤x.1.length:=dec (h (decide (1≤x.1.length)) (by simp));have h2:x.1.length≤100000:=dec (h (decide (x.1.length≤100000)) (by simp));have:=Nat.mul_le_mul h2 hw;refine ah (dA) (aj (λh=>by cases h) (λ_=>ah rfl (ah (dA) (ah (dK (by rw[Nat.zero_add];omega)) (ah (dA) (ak ?_))))));simp only[Nat.zero_add,aqs];rfl
 {
 sound:=by
  intro args v cs hK;unfold OO Form.K at hK
  split at hK
  ·rename_i x ds hx
   simp only[fu,Prod.mk.injEq]at hK;obtain⟨rfl,rfl⟩:=hK;refine⟨rfl,λA w vs hA hc hargs=> ?_⟩;have hs:=(F1 E.arg).ok args x ds hx λp hp=>hc p (by simp[hp])
   have h2:x.1.length≤100000:=dec (hc (decide (x.1.length≤100000)) (by simp));have hr:=hs.NG hargs;obtain⟨U,⟨⟩⟩:=x;by_cases h0:U.length=0
   ·obtain rfl:U=[]:=List.length_eq_zero_iff.1 h0
    obtain⟨hl,hr⟩:=hr;have h1:=hr 0 (by show 0<1;omega)
    match vs,hl,h1 with
    | [v0],_,h1=>
      have h1:aV A (λ_=>none) w (.c (.sl 0 E.n (E.el []))) v0:=h1;have one: ∀v1,v0=v1→dN A (λ_=>none) w [.c (.v v1)] [v0]:=λv1 e=>⟨rfl,λj hj=>by
       have hj:j<1:=hj;obtain rfl:j=0:=by omega
       subst e;exact .c _ _ (.v _)⟩
      cases h1 with
      | c _ _ hi=>
        cases hi with
        | nil=>exact(c0.sound _ _ _ rfl).2 A w _ hA (λp hp=>by cases hp) (one _ rfl)
        | zero=>exact(c0.sound _ _ _ rfl).2 A w _ hA (λp hp=>by cases hp) (one _ rfl)
        | sl=>exact(c0.sound _ _ _ rfl).2 A w _ hA (λp hp=>by cases hp) (one _ rfl)
   ·obtain⟨v1,cs1,k1,k2,k3⟩: ∃v1 cs1,anC E ((F1 E.arg).args (U,()))=some (v1,cs1)∧(∀p∈cs1,p=true)∧v1=E.sl U:=by
     have e:(F1 E.arg).parse ((F1 E.arg).args (U,()))=some ((E.list U.length (E.el U),()),[E.oks U.length (E.el U)]):=by
      have h:=E.aiO U
      show(F1 E.arg).parse [E.sl U]=_
      simp only[F1,Form.cons,Form.nil,h];rfl
     refine⟨E.sl (E.list U.length (E.el U)),[E.oks U.length (E.el U),decide (1≤(E.list U.length (E.el U)).length),decide ((E.list U.length (E.el U)).length≤100000)],?_,?_,by rw[E.aG]⟩
     ·unfold anC Form.K
      rw[e];rfl
     ·rw[E.aG,E.aP]
      intro p hp;simp only[List.mem_cons,List.not_mem_nil,or_false]at hp;rcases hp with rfl|rfl|rfl
      ·rfl
      ·exact dA
      ·exact dK h2
    have:=(c1.sound _ _ _ k1).2 A w vs hA k2 hr;rw[k3]at this;exact this
  ·cases hK}
end
section
variable{F:Type}(E:kZ F)
def VN(u v:Ue F):Int:=gV [fV u.i.a v.i.a,gq (RI u.i) (RI v.i),fV u.i.b v.i.b]
def aiU(u v:Ue F):Tr AV:=
 let RA:=aQ u.i.a
 let RB:=aQ v.i.a
 let SA:=aQ u.i.b
 let SB:=aQ v.i.b
 let IA:=dO u.i
 let IB:=dO v.i
 need (dh RA)<| need (dh RB)<| need (iH 100000 (bK RA))<| need (iH 100000 (bK RB))<| need (qP IA)<| need (qP IB)<| need (dh SA)<| need (dh SB)<| need (iH 100000 (bK SA))<| need (iH 100000 (bK SB))<|
  need true<| need true<| need true<| ret (bR .i64 (gV (nA 3 λk=>([IV.v (.int .i64 (fV (bK RA) (bK RB))),IV.v (.int .i64 (gq (RI (uV IA)) (RI (uV IB)))),IV.v (.int .i64 (fV (bK SA) (bK SB)))].drop (k*1)).take 1)))
theorem adw(u v:Ue F)(h1:EJ 100000 u.i=true)(h2:EJ 100000 v.i=true):(aiU u v).sat λr=>r=bR .i64 (VN u v):=by
 obtain⟨a1,b1⟩:=rF h1;obtain⟨a2,b2⟩:=rF h2;simp only[aiU,bT,dw,jY,iy,a1,a2,b1,b2,sat_true];exact ak rfl
def anD:List AV→Option (AV×List Bool):=(F2 E.unit.jZ E.unit.jZ).K (λx=>bR .i64 (VN x.1 x.2.1)) λx=> [EJ 100000 x.1.i,EJ 100000 x.2.1.i]
theorem adx{f:FuncId}{fn:Func}{Γ:FuncId→Option Spec}(hΓ: ∀f s,Γ f=some s→aH prog f s)(hM: ∀u v,aN prog Γ dn 1010 fn [E.unit.jZ.put u,E.unit.jZ.put v]=aiU u v)
  (hf:prog.funcs[f]? =some fn:=by kernel_rfl) (hb:fn.body=some (codeOf fn):=by kernel_rfl) (hn:dz fn=true:=by kernel_rfl):aF prog f (anD E):=
 (F2 E.unit.jZ E.unit.jZ).ji (N:=1010) (L:=dn) aI hΓ (fn:=fn) (c:=codeOf fn) hf hb hn (aA _ _) (λ_=>rfl) (M:=λx=>aiU x.1 x.2.1) (λx=>hM x.1 x.2.1) λx h=>adw x.1 x.2.1 (h (EJ 100000 x.1.i) (by simp)) (h (EJ 100000 x.2.1.i) (by simp))
abbrev IsX(F:Type):=List (Ue F)×Int×Int×Unit×Int×Unit
abbrev FIs(fo:FuncId):Form (IsX F):= .cons E.unit.arg (.cons aX (.cons aX (.cons (gG fo) (.cons aX .nil))))
def qQ(U:List (Ue F)):Bool:=(List.range (U.length-1)).all λk=> !decide (VN (U.getD (k+1) E.unit.d) (U.getD k E.unit.d)<0)
def iI(U:List (Ue F)):Bool:=U.all λu=>EJ 100000 u.i
def RL(x:IsX F):Bool:=qQ E x.1&&(iI x.1&&(decide (x.2.1=0)&&(decide (x.2.2.1=(x.1.length:Nat))&&(decide (x.2.2.2.2.1=1)&&decide (x.1.length≤100000)))))
def aiV(fo:FuncId):bC (IsX F) Unit:=lD {nt:=53,live:=[0,1,2,3,8]} {nt:=53,live:=[]} (dU.pure (FIs E fo)) (dU.pure Form.nil) (λ_=>()) (RL E)
def EO(U:List (Ue F))(a b i:Int):Tr (IsX F ⊕ Unit):=
 let j:=i64.wrap (i-1)
 let u:=U.getD i.toNat E.unit.d
 let v:=U.getD j.toNat E.unit.d
 let CU:=(E.unit.iv u).map AV.c
 let CV:=(E.unit.iv v).map AV.c
 Tr.ite (decide (i<b))
  (need (bif decide (i>a)then decide (0≤i∧i<(U.length:Int))&&(decide (0≤j∧j<(U.length:Int))&&(E.unit.ok CU&&(E.unit.ok CV&&(EJ 100000 (E.unit.V CU).i&&(EJ 100000 (E.unit.V CV).i&&true)))))else true)<|
   Tr.ite (bif decide (i>a)then bif true then decide (VN (E.unit.V CU) (E.unit.V CV)<0)else false else false) (need (decide (0≤j∧j<(U.length:Int)))<| need (decide (0≤i∧i<(U.length:Int)))<| need (decide (0≤i∧i<(U.length:Int)))<| Tr.fail "zsortanyfunc.go:13")
    (need (E.unit.oks U.length (E.unit.el U))<| ret (Sum.inl (E.unit.list U.length (E.unit.el U),a,b,(),i64.wrap (i+1),()))))
  (ret (Sum.inr ()))
theorem Dx{U:List (Ue F)}(h:iI U=true){i:Nat}(hi:i<U.length):EJ 100000 (U.getD i E.unit.d).i=true:=by
 have:=List.all_eq_true.1 h U[i] (List.getElem_mem hi);have e:U.getD i E.unit.d=U[i]:=by simp[dJ,hi]
 rw[e];exact this
theorem ady{U:List (Ue F)}(h:qQ E U=true){k:Nat}(hk:k+1<U.length):decide (VN (U.getD (k+1) E.unit.d) (U.getD k E.unit.d)<0)=false:=by
 have:=List.all_eq_true.1 h k (List.mem_range.2 (by omega));simpa using this
theorem aag(U:List (Ue F))(h1:qQ E U=true)(h2:iI U=true)(lU:U.length≤100000)(i:Nat)(hi:i+1<U.length){R:IsX F ⊕ Unit→Prop}(hq:R (.inl (U,0,(U.length:Int),(),((i+1+1:Nat):Int),()))):
  (EO E U 0 (U.length:Int) ((i+1:Nat):Int)).sat R:=by
 have w0:i64.wrap (((i+1:Nat):Int)-1)=(i:Int):=kU;have w1:i64.wrap (((i+1:Nat):Int)+1)=((i+1+1:Nat):Int):=kU;have c1:decide (((i+1:Nat):Int)<(U.length:Int))=true:=dA;have c2:decide (((i+1:Nat):Int)>0)=true:=dA;have c3:decide (0≤((i+1:Nat):Int)∧((i+1:Nat):Int)<(U.length:Int))=true:=dA;have c4:decide (0≤(i:Int)∧(i:Int)<(U.length:Int))=true:=dA;have s:=ady E h1 hi;have b1:=Dx E h2 hi;have b2:=Dx E h2 (show i<U.length by omega);unfold EO;simp only[w0,w1,cB];generalize U.getD (i+1) E.unit.d=u at*;generalize U.getD i E.unit.d=v at*;simp only[E.unit.Dq,E.unit.pY,b1,b2,c1,c2,c3,c4,s,cond_true,Bool.true_and,E.unit.aG,E.unit.aP];refine aj (λ_=> ?_) (λh=>by cases h);exact ah rfl (aj (λh=>by cases h) (λ_=>ah rfl (ak hq)))
theorem JR(U:List (Ue F))(i:Nat)(h: ¬i<U.length){R:IsX F ⊕ Unit→Prop}(hq:R (.inr ())):(EO E U 0 (U.length:Int) (i:Int)).sat R:=by
 have c:decide ((i:Int)<(U.length:Int))=false:=iB (by omega);unfold EO;simp only[c];exact aj (λh=>by cases h) (λ_=>ak hq)
theorem adz(U:List (Ue F))(h1:qQ E U=true)(h2:iI U=true)(lU:U.length≤100000)(Q:Unit→Prop)(hq:Q ()): ∀(n i:Nat),i+1+n=U.length→aS (λx:IsX F=>EO E x.1 x.2.1 x.2.2.1 x.2.2.2.2.1) Q (n+1) (U,0,(U.length:Int),(),((i+1:Nat):Int),())
 | 0,i,he=>JR E U (i+1) (by omega) hq
 | n+1,i,he=>aag E U h1 h2 lU i (by omega) (adz U h1 h2 lU Q hq n (i+1) (by omega))
def kIs(fo:FuncId):List AV→Option (AV×List Bool):=(Form.cons E.unit.arg (.cons aX (.cons aX (.cons (gG fo) .nil)))).K (λx=> .fG []) λx=> [qQ E x.1,iI x.1,decide (x.2.1=0),decide (x.2.2.1=(x.1.length:Nat)),decide (x.1.length≤100000)]
def anE(fo:FuncId):List AV→Option (AV×List Bool):=(Form.cons E.unit.arg (.cons aX (.cons (gG fo) .nil))).K (λx=> .fG []) λx=> [qQ E x.1,iI x.1,decide (x.2.1=(x.1.length:Nat)),decide (x.1.length≤19)]
def MIs(U:List (Ue F))(a:Int)(b:Int):Tr AV:=
 need (E.unit.oks U.length (E.unit.el U)) (need (RL E (E.unit.list U.length (E.unit.el U),a,b,(),i64.wrap (a+1),())) (ret (AV.fG [])))
def aiW(U:List (Ue F))(n:Int):Tr AV:=
 let x1:=E.unit.oks U.length (E.unit.el U)
 let x2:=E.unit.list U.length (E.unit.el U)
 Tr.ite (decide (20≤n)) (need x1 (need (qQ E x2) (need (iI x2) (need true (need (decide (20=(x2.length:Int))) (need (decide (x2.length≤100000)) (Tr.fail "rounds")))))))
  (need x1 (need (qQ E x2) (need (iI x2) (need true (need (decide (n=(x2.length:Int))) (need (decide (x2.length≤100000))
   (Tr.ite (decide (20<n)) (Tr.ite (decide (i64.wrap (2*20)≤n)) (Tr.fail "zsortanyfunc.go:348") (Tr.ite (decide (i64.wrap (0+20)<n)) (Tr.fail "zsortanyfunc.go:353") (Tr.fail "rounds"))) (ret (AV.fG [])))))))))
theorem adA(U:List (Ue F))(h1:qQ E U=true)(h2:iI U=true)(h4:U.length≤19):(aiW E U (U.length:Nat)).sat λr=>r= .fG []:=by
 have c1:decide ((20:Int)≤(U.length:Int))=false:=iB (by omega);have c2:decide ((20:Int)<(U.length:Int))=false:=iB (by omega);have c4:decide (U.length≤100000)=true:=dA;simp only[aiW,E.unit.aG,E.unit.aP,sat_true,h1,h2,c1,c2,c4,decide_true]
 repeat first
  | refine ah rfl ?_
  | refine aj (λh=>Bool.noConfusion h) (λ_=> ?_)
  | refine aj (λ_=> ?_) (λh=>Bool.noConfusion h)
 exact ak rfl
theorem aiX(U:List (Ue F))(h1:qQ E U=true)(h2:iI U=true)(h4:U.length≤100000):(MIs E U 0 (U.length:Nat)).sat λr=>r= .fG []:=by
 simp only[MIs,E.unit.aG,E.unit.aP,sat_true];refine ah ?_ (ak rfl);simp only[RL,h1,h2,dK h4,Bool.true_and,Bool.and_true,bI,dS];refine⟨trivial,trivial,?_⟩
 decide
theorem ak0{f fo:FuncId}{fn:Func}{Γ:FuncId→Option Spec}(hΓ: ∀f s,Γ f=some s→aH prog f s)
  (hs: ∀x,(exec prog Γ dn 1010 (aR 0 (codeOf fn)) (eY (aiV E fo).nIn ((aiV E fo).head x))).bind ((aiV E fo).fin 0 0)=EO E x.1 x.2.1 x.2.2.1 x.2.2.2.2.1)
  (hM: ∀U a b,aN prog Γ (qK 0 (aiV E fo)) 1010 fn [E.unit.sl U,.c (.v (.int .i64 a)),.c (.v (.int .i64 b)),.c (.v (fnV fo))]=MIs E U a b)
  (hf:prog.funcs[f]? =some fn:=by kernel_rfl) (hb:fn.body=some (codeOf fn):=by kernel_rfl) (hn:dz fn=true:=by kernel_rfl)
  (hl:bW (λi=>beq i 0) (codeOf fn)=[(0,.loop (aR 0 (codeOf fn)))]:=by kernel_rfl):aF prog f (kIs E fo):=
 Form.ji _ (N:=1010) aI hΓ (fn:=fn) (c:=codeOf fn) hf hb hn (nk hΓ (cZ _ _ _ _ _ _) hs (by
  rintro⟨U,a,b,⟨⟩,i,⟨⟩⟩ hx;have hx:RL E (U,a,b,(),i,())=true:=hx;simp only[RL,bI,dS]at hx;obtain⟨h1,h2,rfl,rfl,rfl,h7⟩:=hx;by_cases h0:U.length=0
  ·exact⟨1,JR E U 1 (by omega) rfl⟩
  exact⟨_,adz E U h1 h2 h7 (λr=>r=()) rfl (U.length-1) 0 (by omega)⟩) hl) (λ_=>rfl) (M:=λx=>MIs E x.1 x.2.1 x.2.2.1) (λx=>hM x.1 x.2.1 x.2.2.1)
  λx h=>by
   obtain⟨U,a,b,⟨⟩,⟨⟩⟩:=x;have h0:a=0:=dec (h (decide (a=0)) (by simp));have h1:b=(U.length:Nat):=dec (h (decide (b=(U.length:Nat))) (by simp));subst h0;subst h1;exact aiX E U (h (qQ E U) (by simp)) (h (iI U) (by simp)) (dec (h (decide (U.length≤100000)) (by simp)))
theorem adB{f fo:FuncId}{fn:Func}{Γ:FuncId→Option Spec}(hΓ: ∀f s,Γ f=some s→aH prog f s)
  (hM: ∀U n,aN prog Γ dn 1001 fn [E.unit.sl U,.c (.v (.int .i64 n)),.c (.v (fnV fo))]=aiW E U n)
  (hf:prog.funcs[f]? =some fn:=by kernel_rfl) (hb:fn.body=some (codeOf fn):=by kernel_rfl) (hn:dz fn=true:=by kernel_rfl):aF prog f (anE E fo):=
 Form.ji _ (N:=1001) (L:=dn) aI hΓ (fn:=fn) (c:=codeOf fn) hf hb hn (aA _ _) (λ_=>rfl) (M:=λx=>aiW E x.1 x.2.1) (λx=>hM x.1 x.2.1)
  λx h=>by
   obtain⟨U,b,⟨⟩,⟨⟩⟩:=x;have h1:b=(U.length:Nat):=dec (h (decide (b=(U.length:Nat))) (by simp));subst h1;exact adA E U (h (qQ E U) (by simp)) (h (iI U) (by simp)) (dec (h (decide (U.length≤19)) (by simp)))
def kSo:List AV→Option (AV×List Bool):=(F1 E.unit.arg).K (λx=>E.unit.sl x.1) λx=> [qQ E x.1,iI x.1,decide (x.1.length≤19)]
def MSo(U:List (Ue F)):Tr AV:=
 let V:=E.unit.list U.length (E.unit.el U)
 need (E.unit.oks U.length (E.unit.el U))<| need (decide (V.length≤100000))<| need (E.unit.oks V.length (E.unit.el V))<|
  need (qQ E (E.unit.list V.length (E.unit.el V)))<| need (iI (E.unit.list V.length (E.unit.el V)))<| need (decide ((V.length:Int)=((E.unit.list V.length (E.unit.el V)).length:Int)))<| need (decide ((E.unit.list V.length (E.unit.el V)).length≤19))<|
   ret (E.unit.sl V)
theorem X3{f:FuncId}{fn:Func}{Γ:FuncId→Option Spec}(hΓ: ∀f s,Γ f=some s→aH prog f s)(hM: ∀U,aN prog Γ dn 1010 fn [E.unit.sl U]=MSo E U)
  (hf:prog.funcs[f]? =some fn:=by kernel_rfl) (hb:fn.body=some (codeOf fn):=by kernel_rfl) (hn:dz fn=true:=by kernel_rfl):aF prog f (kSo E):=
 (F1 E.unit.arg).ji (N:=1010) (L:=dn) aI hΓ (fn:=fn) (c:=codeOf fn) hf hb hn (aA _ _) (λ_=>rfl) (M:=λx=>MSo E x.1) (λx=>hM x.1)
  λx h=>by
   have h1:qQ E x.1=true:=h (qQ E x.1) (by simp);have h2:iI x.1=true:=h (iI x.1) (by simp);have h3:x.1.length≤19:=dec (h (decide (x.1.length≤19)) (by simp));have h5:decide (x.1.length≤100000)=true:=dA;simp only[MSo,E.unit.aG,E.unit.aP,h1,h2,dK h3,h5,decide_true,sat_true];exact ak rfl
end
end Go.bA
