/- Helpers for the proof: no statement of its own. -/
import Derived.Test.YtclnfoepcemloaaGreatDoorT00
import Derived.Test.YtclnfoepcemloaaGreatDoorT02
set_option linter.unusedVariables false
set_option linter.unusedSimpArgs false
set_option linter.unnecessarySimpa false
set_option linter.deprecated false
set_option maxRecDepth 1000000
namespace Go.bI
open Go.Proofs
def BIGk(k:Nat):Nat:=256^k
def BIG:Nat:=BIGk 1000000
theorem bigk_len(k:Nat){n:Nat}(h:n<BIGk k):(aA n).length≤k:=Dc n k h
theorem ajD{n:Nat}(h:n<BIG):(aA n).length≤1000000:=by
 unfold BIG at h;exact bigk_len _ h
theorem big2k_len(k:Nat){n:Nat}(h:n<BIGk k*BIGk k):(aA n).length≤k+k:=Dc n (k+k) (by
 have e:BIGk k*BIGk k=256^(k+k):=by unfold BIGk;rw[←Nat.pow_add]
 rw[←e];exact h)
theorem aeA{n:Nat}(h:n<BIG*BIG):(aA n).length≤2000000:=by
 unfold BIG at h;exact Nat.le_trans (big2k_len _ h) (by decide)
theorem w64_bigk(k:Nat)(hk:8≤k):18446744073709551616≤BIGk k:=by
 unfold BIGk
 calc 18446744073709551616=256^8:=by decide
  _≤256^k:=Nat.pow_le_pow_right (by omega) hk
theorem pow_bigk(m k:Nat)(hk:k<8*m):2^k<BIGk m:=by
 unfold BIGk;have e:(256:Nat)=2^8:=rfl;rw[e, ←Nat.pow_mul];exact Nat.pow_lt_pow_right (by decide) hk
theorem vv:18446744073709551616≤BIG:=by
 unfold BIG;exact w64_bigk _ (by decide)
theorem Ir{n m:Nat}(h:n≤m):(aA n).length≤(aA m).length:=Dc n _ (Nat.lt_of_le_of_lt h (by
 have:=uW (aA m)
 rwa [jU]at this))
def ajE:List AV→Option (AV×List Bool)
 | [.agg [.c (.v (.bool p)),.c (.v (.string a))],.agg [.c (.v (.bool q)),.c (.v (.string b))]]=>some (.iC [dD (iv p a/iv q b),dD (iv p a%iv q b),dn .i64 0],[iL p a,iL q b,decide (0<iv q b),decide (a.data.toList.length≤90000000),decide (b.data.toList.length≤90000000)])
 | _=>none
def ajF:List AV→Option (AV×List Bool)
 | [.agg [.c (.v (.bool p)),.c (.v (.string a))],.agg [.c (.v (.bool q)),.c (.v (.string b))]]=>some (dD (iv p a/iv q b),[iL p a,iL q b,decide (0<iv q b),decide (a.data.toList.length≤90000000),decide (b.data.toList.length≤90000000)])
 | _=>none
def apr:FuncId→Option Spec:=λf=>bif Nat.beq f 257 then some (ay apj)else bif Nat.beq f 225 then some (ay adT)else bif Nat.beq f 227 then some (ay adV)else bif Nat.beq f 125 then some (ay OG)else none
theorem ajG: ∀f s,apr f=some s→aR Tryz.prog f s:=step_ok aew.spec (step_ok YB.spec (step_ok YD.spec (bS zQ.spec)))
def aps:FuncId→Option Spec:=λf=>bif Nat.beq f 245 then some (ay ajE)else none
def apt(p:Bool)(q:Bool)(a:ByteArray)(b:ByteArray):Tr AV:=
 let x1:List UInt8:=b.data.toList
 let x2:List UInt8:=a.data.toList
 let x3:Bool:=decide (x1.length≤100000000)
 let x4:List UInt8:=aA (aO x2%aO x1)
 let x5:List UInt8:=aA (aO x2/aO x1)
 let x6:Nat:=x5.length
 let x7:Nat:=x4.length
 let x8:Nat:=aO x4
 let x9:Bool:= !p==q
 let x10:List UInt8:=aA (aO x5+aO [1])
 let fI:List AV:=[.c (.v (.int IntKind.i64 0))]
 .ite (x1==[]) (.ret (AV.iC [AV.agg [.c (.v (.bool false)),.c (.v (.string {data:= #[]}))],AV.agg [.c (.v (.bool false)),.c (.v (.string {data:= #[]}))],.c (.v (.int IntKind.i64 6))])) (.need (canon x2) (.need (canon x1) (.need (decide (x2.length≤100000000)) (.need x3 (.need (decide (aO x1≠0)) (.need (bif p then true else true) (.ite (bif p then bif true then !x4==[]else false else false) (.need (decide (x6≤100000000)) (.need true (.need x3 (.need (decide (x7≤100000000)) (.need (decide (x8≤aO x1)) (.ret (AV.iC (AV.agg [.c (.v (.bool (x9&& !x10==[]))),.c (.v (.string ⟨⟨x10⟩⟩))]::AV.agg [.c (.v (.bool false)),.c (.v (.string ⟨⟨aA (aO x1-x8)⟩⟩))]::fI)))))))) (.ret (AV.iC (AV.agg [.c (.v (.bool (x9&& !x5==[]))),.c (.v (.string ⟨⟨x5⟩⟩))]::AV.agg [.c (.v (.bool false)),.c (.v (.string ⟨⟨x4⟩⟩))]::fI))))))))))
def apu(p:Bool)(q:Bool)(a:ByteArray)(b:ByteArray):Tr AV:=
 let x1:Int:=iv p a/iv q b
 .need (iL p a) (.need (iL q b) (.need (decide (0<iv q b)) (.need (decide (a.data.toList.length≤90000000)) (.need (decide (b.data.toList.length≤90000000)) (.ret (AV.agg [.c (.v (.bool (decide (x1<0)))),.c (.v (.string ⟨⟨aA x1.natAbs⟩⟩))]))))))
theorem ajH(p q:Bool)(a b:ByteArray):aI Tryz.prog apr bX 1010 Tryz.f245 [.agg [.c (.v (.bool p)),.c (.v (.string a))],.agg [.c (.v (.bool q)),.c (.v (.string b))]]=apt p q a b:=by kernel_rfl
theorem ajI(p q:Bool)(a b:ByteArray):aI Tryz.prog aps bX 1010 Tryz.f222 [.agg [.c (.v (.bool p)),.c (.v (.string a))],.agg [.c (.v (.bool q)),.c (.v (.string b))]]=apu p q a b:=by kernel_rfl
theorem len8_lt{l:List UInt8}(h:l.length≤8):aO l<18446744073709551616:=by
 have h1:=uW l;have h2:256^l.length≤256^8:=Nat.pow_le_pow_right (by omega) h;omega
theorem aaV{n:Nat}(h:n<18446744073709551616):(aA n).length≤8:=Dc n 8 (by omega)
theorem YJ(n m:Nat)(hm:0<m):(-(n:Int))/(m:Int)=(if n%m=0 then -((n/m:Nat):Int)else -((n/m+1:Nat):Int))∧(-(n:Int))%(m:Int)=(if n%m=0 then 0 else((m-n%m:Nat):Int)):=by
 have h1:=Nat.div_add_mod n m;have h2:=Nat.mod_lt n hm;rw[Int.ediv_emod_unique (by omega)];generalize hq:n/m=q at*;generalize n%m=r at*;have h3:(m:Int)*(q:Int)+(r:Int)=(n:Int):=by rw[←h1,Int.natCast_add,Int.natCast_mul]
 by_cases hr:r=0
 ·rw[if_pos hr,if_pos hr]
  subst hr;rw[Int.mul_neg];omega
 ·rw[if_neg hr,if_neg hr,Int.mul_neg,Int.natCast_add,Int.mul_add]
  omega
theorem apv{q:Bool}{b:ByteArray}(h:0<iv q b):q=false∧0<aO b.data.toList:=by
 cases q
 ·exact⟨rfl,by simp only[iv,cond_false]at h;omega⟩
 ·simp only[iv,cond_true]at h;omega
theorem tZ(n:Nat):AV.agg [.c (.v (.bool false)),oq (aA n)]=dD (n:Int):=by
 have:=qM false n;simp only[Bool.false_and,cond_false]at this;exact this
theorem aeB(p q:Bool)(a b:ByteArray)(h1:iL p a=true)(h2:iL q b=true)(hb:0<iv q b)(la:a.data.toList.length≤90000000)(lb:b.data.toList.length≤90000000):(apt p q a b).sat λr=>r= .iC [dD (iv p a/iv q b),dD (iv p a%iv q b),dn .i64 0]:=by
 obtain⟨rfl,hm⟩:=apv hb;have ca:=jW h1;have cb:=jW h2;have hne:(b.data.toList==[])=false:=by
  cases hh:b.data.toList with
  | nil=>rw[hh]at hm;simp[aO]at hm
  | cons c l=>rfl
 have eb:iv false b=((aO b.data.toList:Nat):Int):=rfl;rw[eb];unfold apt;have l1:(aA (aO a.data.toList/aO b.data.toList)).length≤a.data.toList.length:=by
  have:=Ir (Nat.div_le_self (aO a.data.toList) (aO b.data.toList))
  rwa [jy _ ca]at this
 have l2:(aA (aO a.data.toList%aO b.data.toList)).length≤a.data.toList.length:=by
  have:=Ir (Nat.mod_le (aO a.data.toList) (aO b.data.toList))
  rwa [jy _ ca]at this
 generalize hxb:b.data.toList=lb' at*;generalize hxa:a.data.toList=la' at*;have hr:aO la'%aO lb'<aO lb':=Nat.mod_lt _ hm;have hone:aO [1]=1:=rfl;refine au (λh=>by rw[hne]at h;cases h) (λ_=>ah ca (ah cb (ah (bQ) (ah (bQ) (ah (bQ) (ah (by cases p<;>rfl) (au (λh=> ?_) (λh=>av ?_))))))))
 ·cases p with
  | false=>cases h
  | true=>
    simp only[cond_true,wP,Bool.not_eq_true',decide_eq_false_iff_not]at h;simp only[jU,hone];refine ah (bQ) (ah rfl (ah (bQ) (ah (bQ) (ah (bQ) (av ?_)))));have ea:iv true a= -((aO la':Nat):Int):=by show -((aO a.data.toList:Nat):Int)=_;rw[hxa]
    obtain⟨d1,d2⟩:=YJ (aO la') (aO lb') hm;rw[if_neg h]at d1 d2;rw[ea,d1,d2];have m1:=qM true (aO la'/aO lb'+1);have m2:=tZ (aO lb'-aO la'%aO lb');simp only[cond_true]at m1;rw[←m1, ←m2];rfl
 ·cases p with
  | false=>
    have ea:iv false a=((aO la':Nat):Int):=by show((aO a.data.toList:Nat):Int)=_;rw[hxa]
    rw[ea, ←Int.natCast_ediv, ←Int.natCast_emod];rw[←tZ, ←tZ];rfl
  | true=>
    simp only[cond_true,wP,Bool.not_eq_false',fT]at h;have ea:iv true a= -((aO la':Nat):Int):=by show -((aO a.data.toList:Nat):Int)=_;rw[hxa]
    obtain⟨d1,d2⟩:=YJ (aO la') (aO lb') hm;rw[if_pos h]at d1 d2;rw[ea,d1,d2];have m1:=qM true (aO la'/aO lb');have m2:=tZ 0;simp only[cond_true]at m1;rw[←m1];rw[h];have e0:dD ((0:Nat):Int)=dD 0:=rfl;rw[←e0, ←m2];rfl
theorem ajJ:aN Tryz.prog 245 ajE:=by
 refine aM aj ajG (fn:=Tryz.f245) (c:=codeOf Tryz.f245) (by kernel_rfl) (by kernel_rfl) (aG (fn:=Tryz.f245) (c:=codeOf Tryz.f245) (by kernel_rfl) (by kernel_rfl) (by kernel_rfl)) (L:=bX) (N:=1010) (ak _ _) ?_ ?_
 ·intro args v cs h
  unfold ajE at h
  split at h
  ·cases h;rfl
  ·cases h
 ·intro args v cs h hc
  unfold ajE at h
  split at h
  ·rename_i p a q b
   cases h;have h1:iL p a=true:=hc (iL p a) (by simp);have h2:iL q b=true:=hc (iL q b) (by simp);have h3:0<iv q b:=dec (hc (decide (0<iv q b)) (by simp));have h4:a.data.toList.length≤90000000:=dec (hc (decide (a.data.toList.length≤90000000)) (by simp));have h5:b.data.toList.length≤90000000:=dec (hc (decide (b.data.toList.length≤90000000)) (by simp));have hs:=aeB p q a b h1 h2 h3 h4 h5;rw[←ajH]at hs;generalize aI Tryz.prog apr bX 1010 Tryz.f245 [.agg [.c (.v (.bool p)),.c (.v (.string a))],.agg [.c (.v (.bool q)),.c (.v (.string b))]]=T at hs⊢;generalize iv p a/iv q b=z at hs⊢;generalize iv p a%iv q b=y at hs⊢;exact Tr.bC (λr hr=>⟨by subst hr;rfl,bM.of_eq hr⟩) hs
  ·cases h
theorem ajK: ∀f s,aps f=some s→aR Tryz.prog f s:=bS ajJ.spec
theorem aeC(p q:Bool)(a b:ByteArray)(h1:iL p a=true)(h2:iL q b=true)(h3:0<iv q b)(h4:a.data.toList.length≤90000000)(h5:b.data.toList.length≤90000000):(apu p q a b).sat λr=>r=dD (iv p a/iv q b):=by
 unfold apu;exact ah h1 (ah h2 (ah (fZ h3) (ah (fZ h4) (ah (fZ h5) (av rfl)))))
theorem ajL:aN Tryz.prog 222 ajF:=by
 refine aM aj ajK (fn:=Tryz.f222) (c:=codeOf Tryz.f222) (by kernel_rfl) (by kernel_rfl) (aG (fn:=Tryz.f222) (c:=codeOf Tryz.f222) (by kernel_rfl) (by kernel_rfl) (by kernel_rfl)) (L:=bX) (N:=1010) (ak _ _) ?_ ?_
 ·intro args v cs h
  unfold ajF at h
  split at h
  ·cases h;rfl
  ·cases h
 ·intro args v cs h hc
  unfold ajF at h
  split at h
  ·rename_i p a q b
   cases h;have h1:iL p a=true:=hc (iL p a) (by simp);have h2:iL q b=true:=hc (iL q b) (by simp);have h3:0<iv q b:=dec (hc (decide (0<iv q b)) (by simp));have h4:a.data.toList.length≤90000000:=dec (hc (decide (a.data.toList.length≤90000000)) (by simp));have h5:b.data.toList.length≤90000000:=dec (hc (decide (b.data.toList.length≤90000000)) (by simp));have hs:=aeC p q a b h1 h2 h3 h4 h5;rw[←ajI]at hs;generalize aI Tryz.prog aps bX 1010 Tryz.f222 [.agg [.c (.v (.bool p)),.c (.v (.string a))],.agg [.c (.v (.bool q)),.c (.v (.string b))]]=T at hs⊢;generalize iv p a/iv q b=z at hs⊢;exact Tr.bC (λr hr=>⟨by subst hr;rfl,bM.of_eq hr⟩) hs
  ·cases h
end Go.bI
namespace Go.bI
open Go.Proofs
def apw:Vw (Bool×ByteArray) where
 get:=λe=>match e with|some (.cells [.c (.v (.bool p)),.c (.v (.string s))] 32)=>some ((p,s),[]) | _=>none
 put:=λx=>some (.cells [.c (.v (.bool x.1)),.c (.v (.string x.2))] 32)
 ok:=by
  intro e x cs h hc
  split at h
  ·simp only[fK,Prod.mk.injEq]at h
   obtain⟨rfl,rfl⟩:=h;exact .refl _
  ·cases h
def YK:Vw Unit where
 get:=λe=>match e with|some (.cells [.c (.v (.bool false)),.c (.v (.string ⟨⟨[]⟩⟩))] 32)=>some ((),[]) | _=>none
 put:=λ_=>some (.cells [.c (.v (.bool false)),.c (.v (.string ⟨⟨[]⟩⟩))] 32)
 ok:=by
  intro e x cs h hc
  split at h
  ·exact .refl _
  ·cases h
abbrev GiX:=(Unit×ByteArray×Int×Int×Unit)×(Unit×Unit)
abbrev atc:fJ GiX:= .with (.cons YK .nil) (.cons (ou 0 0) (.cons EH (.cons (yE .u64) (.cons (yE .u64) .nil))))
def RF(x:GiX):Bool:=jV x.1.2.2.1&&jV x.1.2.2.2.1
def VO:aZ GiX GiX:=yA {nt:=45,live:=[4,5,7,8]} {nt:=45,live:=[4,5,7,8]} atc atc (λx=>match x with|(((),s,u,v,()),((),()))=>(((),s,((Nat.gcd u.toNat v.toNat:Nat):Int),0,()),((),()))) RF
theorem aaW:VO.gI:=eG _ _ _ _ _ _
def LGi:Nat→Option (St→Tr (Ex×St)):=λid=>bif Nat.beq id 2 then some (VO.g 0)else none
def aaX(x y:ByteArray):ByteArray:=⟨⟨aA (aO x.data.toList%aO y.data.toList)⟩⟩
def nS:Nat→ByteArray→ByteArray→Bool×ByteArray
 | 0,x,_=>(false,x)
 | n+1,x,y=>bif y.data.toList==[]then(false,x)else bif iq x&&iq y then(true,x)else nS n y (aaX x y)
def GX(x y:ByteArray):ByteArray:=⟨⟨aA (Nat.gcd (aO x.data.toList) (aO y.data.toList))⟩⟩
abbrev GcX:=(Unit×ByteArray×ByteArray×Unit)×(Unit×Unit)
abbrev GcR:=(Unit×ByteArray×Unit)×((Bool×ByteArray)×Unit)
def atd(x:GcX):Bool×GcR:=match x with
 | (((),a,b,()),((),()))=>((nS (aO b.data.toList+1) a b).1,(((),(nS (aO b.data.toList+1) a b).2,()),(bif (nS (aO b.data.toList+1) a b).1 then(false,GX a b)else(false,⟨⟨[]⟩⟩),())))
def MX(x:GcX):Bool:=match x with
 | (((),a,b,()),((),()))=>canon a.data.toList&&(canon b.data.toList&&(decide (a.data.toList.length≤90000000)&&decide (b.data.toList.length≤90000000)))
def VP:aZ GcX (Bool×GcR):=lpR {nt:=45,live:=[4,5,6]} {nt:=45,live:=[4,5]} (.with (.cons YK .nil) (.cons (ou 0 0) (.cons EH (.cons EH .nil)))) (.with (.cons apw .nil) (.cons (ou 0 0) (.cons EH .nil))) atd MX
theorem aaY:VP.gI:=JY _ _ _ _ _ _
def LGc:Nat→Option (St→Tr (Ex×St)):=λid=>bif Nat.beq id 0 then some (VP.g 0)else none
def ajM:FuncId→Option Spec:=λf=>bif Nat.beq f 256 then some (ay Rc)else bif Nat.beq f 126 then some (ay OI)else bif Nat.beq f 125 then some (ay OG)else bif Nat.beq f 257 then some (ay apj)else none
theorem YL: ∀f s,ajM f=some s→aR Tryz.prog f s:=step_ok Di.spec (step_ok zS.spec (step_ok zQ.spec (bS aew.spec)))
def VQ(s:ByteArray)(u:Int)(v:Int):Tr (GiX ⊕ GiX):=
 Tr.ite (v !=0) (Tr.need (decide (v≠0)) (Tr.ret (Sum.inl (((),s,v,u.tmod v,()),(),())))) (Tr.ret (Sum.inr (((),s,u,v,()),(),())))
def O8(a:ByteArray)(b:ByteArray):Tr (GcX ⊕ Bool×GcR):=
 let x1:List UInt8:=b.data.toList
 let x2:Int:= ↑((iZ a).toNat.gcd (iZ b).toNat)
 let x3:List UInt8:=a.data.toList
 Tr.ite (!x1==[])
  (Tr.ite (iq a&&iq b)
   (Tr.need (RF (((),a,iZ a,iZ b,()),(),()))
    (Tr.need (jV x2) (Tr.ret (Sum.inr (true,((),a,()),(false,{data:={toList:=aA x2.toNat}}),())))))
   (Tr.need (canon x3)
    (Tr.need (canon x1)
     (Tr.need (decide (x3.length≤100000000))
      (Tr.need (decide (x1.length≤100000000))
       (Tr.need (decide (aO x1≠0)) (Tr.ret (Sum.inl (((),b,{data:={toList:=aA (aO x3%aO x1)}},()),(),())))))))))
  (Tr.ret (Sum.inr (false,((),a,()),(false,{data:={toList:=[]}}),())))
def apx(p:Bool)(q:Bool)(a:ByteArray)(b:ByteArray):Tr AV:=
 let x1:Bool:=(nS (aO b.data.toList+1) a b).fst
 .need (MX (((),a,b,()),(),())) (.ite x1 (.ret (AV.agg [.c (.v (.bool (bif x1 then(false,GX a b)else(false,⟨⟨[]⟩⟩)).fst)),.c (.v (.string (bif x1 then(false,GX a b)else(false,⟨⟨[]⟩⟩)).snd))])) (.ret (AV.agg [.c (.v (.bool false)),.c (.v (.string (nS (aO b.data.toList+1) a b).snd))])))
theorem aaZ(x:GiX):(exec Tryz.prog (λ_=>none) bX 1010 (bn 2 (codeOf Tryz.f221)) (iQ VO.nIn (VO.head x))).bind (VO.fin 0 2)=VQ x.1.2.1 x.1.2.2.1 x.1.2.2.2.1:=by
 obtain⟨⟨⟨⟩,s,u,v,⟨⟩⟩,⟨⟩,⟨⟩⟩:=x
 kernel_rfl
theorem aa0(x:GcX):(exec Tryz.prog ajM LGi 1010 (bn 0 (codeOf Tryz.f221)) (iQ VP.nIn (VP.head x))).bind (VP.fin 0 0)=O8 x.1.2.1 x.1.2.2.1:=by
 obtain⟨⟨⟨⟩,a,b,⟨⟩⟩,⟨⟩,⟨⟩⟩:=x
 kernel_rfl
theorem aeD(s:ByteArray)(Q:GiX→Prop): ∀(n u v:Nat),v<n→Q (((),s,((Nat.gcd u v:Nat):Int),0,()),((),()))→dJ (λx:GiX=>VQ x.1.2.1 x.1.2.2.1 x.1.2.2.2.1) Q n (((),s,(u:Nat),(v:Nat),()),((),()))
 | 0,u,v,h,_=>absurd h (Nat.not_lt_zero _)
 | n+1,u,v,h,hq=>by
   unfold dJ
   change Tr.sat _ (VQ s (u:Nat) (v:Nat))
   by_cases hv:v=0
   ·subst hv
    refine au (λhc=>by simp at hc) (λ_=>av ?_);have:Nat.gcd u 0=u:=Nat.gcd_zero_right u;rw[this]at hq;exact hq
   ·refine au (λ_=>ah (bQ) (av ?_)) (λhc=>by simp at hc;omega)
    have e1:((u:Nat):Int).tmod ((v:Nat):Int)=((u%v:Nat):Int):=(Int.ofNat_tmod u v).symm;rw[e1];have hlt:u%v<v:=Nat.mod_lt _ (by omega);refine aeD s Q n v (u%v) (by omega) ?_;have:Nat.gcd v (u%v)=Nat.gcd u v:=by rw[Nat.gcd_comm v, ←Nat.gcd_rec,Nat.gcd_comm]
    rw[this];exact hq
theorem apy:bF Tryz.prog 0 LGi (bn 0 (codeOf Tryz.f221)):=by
 refine bG (d:=λid=>Nat.beq id 2) (λid=>by unfold LGi;cases Nat.beq id 2<;>rfl) _ ?_;have hb:bU (λid=>Nat.beq id 2) (bn 0 (codeOf Tryz.f221))=[(2,.loop (bn 2 (codeOf Tryz.f221)))]:=by kernel_rfl
 rw[hb];intro p hp g hg;simp only[List.mem_singleton]at hp;subst hp;obtain rfl:g=VO.g 0:=(Option.some.inj hg).symm;refine aZ.sU (N:=1010) aj eP (L:=bX) (ak 0 _) aaW aaZ ?_;rintro⟨⟨⟨⟩,s,u,v,⟨⟩⟩,⟨⟩,⟨⟩⟩ hx;have hx:RF (((),s,u,v,()),((),()))=true:=hx;simp only[RF,cu,jV,fT]at hx;obtain⟨u,rfl⟩: ∃k:Nat,u=k:=⟨u.toNat,by omega⟩
 obtain⟨v,rfl⟩: ∃k:Nat,v=k:=⟨v.toNat,by omega⟩
 exact⟨_,aeD s (· =VO.res (((),s,(u:Nat),(v:Nat),()),((),()))) (v+1) u v (by omega) rfl⟩
theorem MZ{a b:ByteArray}(hb:aO b.data.toList≠0):GX b (aaX a b)=GX a b:=by
 unfold GX aaX;simp only[jU];rw[Nat.gcd_comm (aO b.data.toList), ←Nat.gcd_rec,Nat.gcd_comm]
theorem aeE{b:ByteArray}(h:(b.data.toList==[])=true):aO b.data.toList=0:=by
 have:b.data.toList=[]:=by simpa using h
 rw[this];rfl
theorem aa1(a b:ByteArray)(ha:canon a.data.toList=true)(hb:canon b.data.toList=true)(la:a.data.toList.length≤90000000)(lb:b.data.toList.length≤90000000){R:GcX ⊕ Bool×GcR→Prop}
  (h0:(b.data.toList==[])=true→R (.inr (false,((),a,()),((false,⟨⟨[]⟩⟩),()))))
  (h1:(b.data.toList==[])=false→(iq a&&iq b)=true→R (.inr (true,((),a,()),((false,GX a b),()))))
  (h2:(b.data.toList==[])=false→(iq a&&iq b)=false→R (.inl (((),b,aaX a b,()),((),())))):(O8 a b).sat R:=by
 unfold O8;refine au (λh=> ?_) (λh=>av (h0 (by simpa using h)));have h:(b.data.toList==[])=false:=by simpa using h
 refine au (λhw=> ?_) (λhw=> ?_)
 ·have hw':=hw
  simp only[cu]at hw';have ea:=pU a hw'.1;have eb:=pU b hw'.2;have xa:=sV a hw'.1;have xb:=sV b hw'.2;have xg:Nat.gcd (aO a.data.toList) (aO b.data.toList)<18446744073709551616:=by
   rcases Nat.eq_zero_or_pos (aO a.data.toList)with h0|h0
   ·rw[h0,Nat.gcd_zero_left];omega
   ·have:=Nat.gcd_le_left (aO b.data.toList) h0;omega
  refine ah ?_ (ah ?_ (av ?_))
  ·rw[ea,eb];simp only[jV,RF,cu,fT];omega
  ·rw[ea,eb];simp only[Int.toNat_natCast,jV,cu,fT];omega
  ·rw[ea,eb];simp only[Int.toNat_natCast];exact h1 h hw
 ·have hz:aO b.data.toList≠0:=by
   intro hh;rw[(kL hb).1 hh]at h;cases h
  exact ah ha (ah hb (ah (bQ) (ah (bQ) (ah (fZ hz) (av (h2 h hw))))))
theorem aeF(Q:Bool×GcR→Prop): ∀(n:Nat) (a b:ByteArray),canon a.data.toList=true→canon b.data.toList=true→a.data.toList.length≤90000000→b.data.toList.length≤90000000→aO b.data.toList<n→
  Q ((nS n a b).1,(((),(nS n a b).2,()),(bif (nS n a b).1 then(false,GX a b)else(false,⟨⟨[]⟩⟩),())))→dJ (λx:GcX=>O8 x.1.2.1 x.1.2.2.1) Q n (((),a,b,()),((),()))
 | 0,a,b,ha,hb,la,lb,hn,hq=>absurd hn (Nat.not_lt_zero _)
 | n+1,a,b,ha,hb,la,lb,hn,hq=>by
   refine aa1 a b ha hb la lb (λh=> ?_) (λh hw=> ?_) (λh hw=> ?_)
   ·simp only[nS,h,cond_true,cond_false]at hq
    exact hq
   ·simp only[nS,h,hw,cond_true,cond_false]at hq
    exact hq
   ·have hz:aO b.data.toList≠0:=by
     intro hh;rw[(kL hb).1 hh]at h;cases h
    have hlt:aO a.data.toList%aO b.data.toList<aO b.data.toList:=Nat.mod_lt _ (Nat.pos_of_ne_zero hz);have l2:(aA (aO a.data.toList%aO b.data.toList)).length≤a.data.toList.length:=by
     have:=Ir (Nat.mod_le (aO a.data.toList) (aO b.data.toList))
     rwa [jy _ ha]at this
    refine aeF Q n b (aaX a b) hb (xE _) lb (Nat.le_trans l2 la) ?_ ?_
    ·show aO (aA _)<n
     rw[jU];omega
    ·simp only[nS,h,hw,cond_true,cond_false]at hq
     rw[MZ hz];exact hq
theorem J6: ∀(n:Nat) (a b:ByteArray),canon a.data.toList=true→canon b.data.toList=true→aO b.data.toList<n→(nS n a b).1=false→(nS n a b).2=GX a b
 | 0,a,b,ha,hb,hn,h=>absurd hn (Nat.not_lt_zero _)
 | n+1,a,b,ha,hb,hn,h=>by
   unfold nS at h⊢;cases h0:(b.data.toList==[])with
   | true=>
     simp only[h0,cond_true];unfold GX;rw[aeE h0,Nat.gcd_zero_right,jy _ ha]
   | false=>
     cases hw:(iq a&&iq b)with
     | true=>simp only[h0,hw,cond_true,cond_false]at h;cases h
     | false=>
       simp only[h0,hw,cond_false]at h⊢;have hz:aO b.data.toList≠0:=by
        intro hh;rw[(kL hb).1 hh]at h0;cases h0
       have hlt:aO a.data.toList%aO b.data.toList<aO b.data.toList:=Nat.mod_lt _ (Nat.pos_of_ne_zero hz);rw[J6 n b (aaX a b) hb (xE _) (by show aO (aA _)<n;rw[jU];omega) h,MZ hz]
theorem apz:bF Tryz.prog 0 LGc (codeOf Tryz.f221):=by
 refine bG (d:=λid=>Nat.beq id 0) (λid=>by unfold LGc;cases Nat.beq id 0<;>rfl) _ ?_;have hb:bU (λid=>Nat.beq id 0) (codeOf Tryz.f221)=[(0,.loop (bn 0 (codeOf Tryz.f221)))]:=by kernel_rfl
 rw[hb];intro p hp g hg;simp only[List.mem_singleton]at hp;subst hp;obtain rfl:g=VP.g 0:=(Option.some.inj hg).symm;refine aZ.sU (N:=1010) aj YL (L:=LGi) apy aaY aa0 ?_;rintro⟨⟨⟨⟩,a,b,⟨⟩⟩,⟨⟩,⟨⟩⟩ hx;have hx:MX (((),a,b,()),((),()))=true:=hx;simp only[MX,cu,fT]at hx;obtain⟨h1,h2,h3,h4⟩:=hx;exact⟨_,aeF (· =VP.res (((),a,b,()),((),()))) (aO b.data.toList+1) a b h1 h2 h3 h4 (Nat.lt_succ_self _) rfl⟩
theorem ajN(p q:Bool)(a b:ByteArray):aI Tryz.prog ajM LGc 1010 Tryz.f221 [.agg [.c (.v (.bool p)),.c (.v (.string a))],.agg [.c (.v (.bool q)),.c (.v (.string b))]]=apx p q a b:=by kernel_rfl
def ajO:List AV→Option (AV×List Bool)
 | [.agg [.c (.v (.bool p)),.c (.v (.string a))],.agg [.c (.v (.bool q)),.c (.v (.string b))]]=>some (dD (Int.gcd (iv p a) (iv q b):Nat),[iL p a,iL q b,decide (a.data.toList.length≤90000000),decide (b.data.toList.length≤90000000)])
 | _=>none
theorem sW(p:Bool)(a:ByteArray):(iv p a).natAbs=aO a.data.toList:=by cases p<;>simp[iv]
theorem aeG(p q:Bool)(a b:ByteArray)(ha:iL p a=true)(hb:iL q b=true)(la:a.data.toList.length≤90000000)(lb:b.data.toList.length≤90000000):(apx p q a b).sat λr=>r=dD (Int.gcd (iv p a) (iv q b):Nat):=by
 have ca:=jW ha;have cb:=jW hb;have hg:Int.gcd (iv p a) (iv q b)=Nat.gcd (aO a.data.toList) (aO b.data.toList):=by unfold Int.gcd;rw[sW,sW]
 have hm:AV.agg [AV.c (.v (.bool false)),AV.c (.v (.string (GX a b)))]=dD (Int.gcd (iv p a) (iv q b):Nat):=by
  rw[hg];exact tZ _
 have hp:MX (((),a,b,()),((),()))=true:=by
  simp only[MX,cu,fT];exact⟨ca,cb,la,lb⟩
 have hv:=J6 (aO b.data.toList+1) a b ca cb (Nat.lt_succ_self _);unfold apx;generalize nS (aO b.data.toList+1) a b=g at*;obtain⟨g1,g2⟩:=g;cases g1 with
 | true=>exact ah hp (au (λ_=>av hm) (λh=>by cases h))
 | false=>
   refine ah hp (au (λh=>by cases h) (λ_=>av ?_));have hv:g2=GX a b:=hv rfl;rw[hv];exact hm
theorem ajP:aN Tryz.prog 221 ajO:=by
 refine aM aj YL (fn:=Tryz.f221) (c:=codeOf Tryz.f221) (by kernel_rfl) (by kernel_rfl) (aG (fn:=Tryz.f221) (c:=codeOf Tryz.f221) (by kernel_rfl) (by kernel_rfl) (by kernel_rfl)) (L:=LGc) (N:=1010) apz ?_ ?_
 ·intro args v cs h
  unfold ajO at h
  split at h
  ·cases h;rfl
  ·cases h
 ·intro args v cs h hc
  unfold ajO at h
  split at h
  ·rename_i p a q b
   cases h;have h1:iL p a=true:=hc (iL p a) (by simp);have h2:iL q b=true:=hc (iL q b) (by simp);have h4:a.data.toList.length≤90000000:=dec (hc (decide (a.data.toList.length≤90000000)) (by simp));have h5:b.data.toList.length≤90000000:=dec (hc (decide (b.data.toList.length≤90000000)) (by simp));have hs:=aeG p q a b h1 h2 h4 h5;rw[←ajN]at hs;generalize aI Tryz.prog ajM LGc 1010 Tryz.f221 [.agg [.c (.v (.bool p)),.c (.v (.string a))],.agg [.c (.v (.bool q)),.c (.v (.string b))]]=T at hs⊢;generalize Int.gcd (iv p a) (iv q b)=z at hs⊢;exact Tr.bC (λr hr=>⟨by subst hr;rfl,bM.of_eq hr⟩) hs
  ·cases h
end Go.bI
namespace Go.bI
open Go.Proofs
def Dx(z:Int):Bool:=decide (z.natAbs<BIG)
def aeH:List AV→Option (AV×List Bool)
 | []=>some (dD 1,[])
 | _=>none
def aa2:List AV→Option (AV×List Bool)
 | [.agg [.c (.v (.bool p)),.c (.v (.string a))],.agg [.c (.v (.bool q)),.c (.v (.string b))]]=>some (nR (Rat.divInt (iv p a) (iv q b)),[iL p a,iL q b,decide (iv q b≠0),decide (a.data.toList.length≤90000000),decide (b.data.toList.length≤90000000)])
 | _=>none
def aa3:List AV→Option (AV×List Bool)
 | [.agg l]=>some (dD ((aB l).den:Nat),[aK l])
 | _=>none
def VR:List AV→Option (AV×List Bool)
 | [.agg l]=>some (nR (hold (-(aB l))),[aK l])
 | _=>none
def RG:List AV→Option (AV×List Bool)
 | [.agg l]=>some (dn .i64 (gW (aB l).num 0),[aK l])
 | _=>none
def VT:List AV→Option (AV×List Bool)
 | [.c (.v (.int .i64 n))]=>some (nR (n:Rat),[decide (-9223372036854775808≤n),decide (n≤9223372036854775807)])
 | _=>none
def apA:FuncId→Option Spec:=λf=>bif Nat.beq f 70 then some (ay adH)else none
def apC:FuncId→Option Spec:=λf=>bif Nat.beq f 193 then some (ay UZ)else bif Nat.beq f 191 then some (ay adF)else bif Nat.beq f 221 then some (ay ajO)else bif Nat.beq f 222 then some (ay ajF)else bif Nat.beq f 223 then some (ay aeH)else none
def apD:FuncId→Option Spec:=λf=>bif Nat.beq f 223 then some (ay aeH)else none
def apE:FuncId→Option Spec:=λf=>bif Nat.beq f 191 then some (ay adF)else none
def apF:FuncId→Option Spec:=λf=>bif Nat.beq f 193 then some (ay UZ)else none
def apG:FuncId→Option Spec:=λf=>bif Nat.beq f 70 then some (ay adH)else none
def ate:Tr AV:=
 .need true (.need true (.ret (AV.agg [.c (.v (.bool false)),.c (.v (.string ⟨⟨aA (Int.natAbs 1)⟩⟩))])))
def apH(x:Int)(y:Int):Tr AV:=
 let x1:ByteArray:=⟨⟨aA y.natAbs⟩⟩
 let x2:Int:=iv (decide (y<0)) x1
 let x3:Int:=gW x2 0
 let x4:ByteArray:=⟨⟨aA x.natAbs⟩⟩
 let x5:Int:=iv (decide (x<0)) x4
 let x6:Int:= -x5
 let x7:List UInt8:=aA x6.natAbs
 let x8:ByteArray:=⟨⟨x7⟩⟩
 let x9:Int:= -x2
 let x10:List UInt8:=aA x9.natAbs
 let fI:ByteArray:=⟨⟨x10⟩⟩
 let fU:Nat:=x7.length
 let iM:Nat:=x10.length
 let iR:Int:=iv (decide (x6<0)) x8
 let jH:Int:=iv (decide (x9<0)) fI
 let kE:Int:= ↑(iR.gcd jH)
 let jD:List UInt8:=aA kE.natAbs
 let x18:ByteArray:=⟨⟨jD⟩⟩
 let lW:Int:=iv (decide (kE<0)) x18
 let x20:Nat:=jD.length
 let x21:Int:=jH/lW
 let lZ:List UInt8:=aA x21.natAbs
 let x23:List UInt8:=aA (Int.natAbs 1)
 let x24:Int:=iR/lW
 let x25:List AV:=[.c (.v (.bool false)),.c (.v (.string {data:= #[]}))]
 let rY:Int:= ↑(x5.gcd x2)
 let x27:List UInt8:=aA rY.natAbs
 let x28:ByteArray:=⟨⟨x27⟩⟩
 let x29:Int:=iv (decide (rY<0)) x28
 let x30:Nat:=x27.length
 let x31:Int:=x2/x29
 let x32:List UInt8:=aA x31.natAbs
 let pV:Int:=x5/x29
 .need (iL (decide (y<0)) x1) (.ite (decide (x3<0)) (.need (iL (decide (x<0)) x4) (.need (iL (decide (y<0)) x1) (.need (iL (decide (x6<0)) x8) (.need (iL (decide (x9<0)) fI) (.need (decide (fU≤90000000)) (.need (decide (iM≤90000000)) (.need (iL (decide (x6<0)) x8) (.need (iL (decide (kE<0)) x18) (.need (decide (0<lW)) (.need (decide (fU≤90000000)) (.need (decide (x20≤90000000)) (.need (iL (decide (x9<0)) fI) (.need (iL (decide (kE<0)) x18) (.need (decide (0<lW)) (.need (decide (iM≤90000000)) (.need (decide (x20≤90000000)) (.ite (bA [lZ==x23,decide (x21<0)==decide ((1:Int)<0)].reverse) (.ret (AV.agg (.c (.v (.bool (decide (x24<0)))):: .c (.v (.string ⟨⟨aA x24.natAbs⟩⟩))::x25))) (.ret (AV.agg [.c (.v (.bool (decide (x24<0)))),.c (.v (.string ⟨⟨aA x24.natAbs⟩⟩)),.c (.v (.bool (decide (x21<0)))),.c (.v (.string ⟨⟨lZ⟩⟩))]))))))))))))))))))) (.need (iL (decide (x<0)) x4) (.need (iL (decide (y<0)) x1) (.need (decide ((aA x.natAbs).length≤90000000)) (.need (decide ((aA y.natAbs).length≤90000000)) (.need (iL (decide (x<0)) x4) (.need (iL (decide (rY<0)) x28) (.need (decide (0<x29)) (.need (decide ((aA x.natAbs).length≤90000000)) (.need (decide (x30≤90000000)) (.need (iL (decide (y<0)) x1) (.need (iL (decide (rY<0)) x28) (.need (decide (0<x29)) (.need (decide ((aA y.natAbs).length≤90000000)) (.need (decide (x30≤90000000)) (.ite (bA [x32==x23,decide (x31<0)==decide ((1:Int)<0)].reverse) (.ret (AV.agg (.c (.v (.bool (decide (pV<0)))):: .c (.v (.string ⟨⟨aA pV.natAbs⟩⟩))::x25))) (.ret (AV.agg [.c (.v (.bool (decide (pV<0)))),.c (.v (.string ⟨⟨aA pV.natAbs⟩⟩)),.c (.v (.bool (decide (x31<0)))),.c (.v (.string ⟨⟨x32⟩⟩))]))))))))))))))))))
def apI(x:Rat):Tr AV:=
 .ite (bA [aH x.den==[],false==false].reverse) (.ret (AV.agg [.c (.v (.bool false)),.c (.v (.string ⟨⟨aA (Int.natAbs 1)⟩⟩))])) (.ret (AV.agg [.c (.v (.bool false)),.c (.v (.string ⟨⟨aH x.den⟩⟩))]))
def apJ(x:Rat):Tr AV:=
 let x1:ByteArray:=⟨⟨aA x.num.natAbs⟩⟩
 let x2:Int:= -iv (decide (x.num<0)) x1
 .need (iL (decide (x.num<0)) x1) (.ret (AV.agg [.c (.v (.bool (decide (x2<0)))),.c (.v (.string ⟨⟨aA x2.natAbs⟩⟩)),.c (.v (.bool false)),.c (.v (.string ⟨⟨aH x.den⟩⟩))]))
def apK(x:Rat):Tr AV:=
 let x1:ByteArray:=⟨⟨aA x.num.natAbs⟩⟩
 .need (iL (decide (x.num<0)) x1) (.ret (.c (.v (.int IntKind.i64 (gW (iv (decide (x.num<0)) x1) 0)))))
def atf(n:Int):Tr AV:=
 .need (decide (-9223372036854775808≤n)) (.need (decide (n≤9223372036854775807)) (.ret (AV.agg [.c (.v (.bool (decide (n<0)))),.c (.v (.string ⟨⟨aA n.natAbs⟩⟩)),.c (.v (.bool false)),.c (.v (.string {data:= #[]}))])))
theorem ajQ:aI Tryz.prog apA bX 1010 Tryz.f223 []=ate:=by kernel_rfl
theorem ajR(x y:Int):aI Tryz.prog apC bX 1010 Tryz.f172 [dD x,dD y]=apH x y:=by kernel_rfl
theorem ajS(x:Rat):aI Tryz.prog apD bX 1010 Tryz.f174 [.agg (aC x)]=apI x:=by kernel_rfl
theorem ajT(x:Rat):aI Tryz.prog apE bX 1010 Tryz.f151 [.agg (aC x)]=apJ x:=by kernel_rfl
theorem ajU(x:Rat):aI Tryz.prog apF bX 1010 Tryz.f153 [.agg (aC x)]=apK x:=by kernel_rfl
theorem ajV(n:Int):aI Tryz.prog apG bX 1010 Tryz.f28 [.c (.v (.int .i64 n))]=atf n:=by kernel_rfl
theorem apL{d e:Nat}(h:d≠e):Nat.beq d e=false:=by
 cases hh:Nat.beq d e with
 | true=>exact absurd (Nat.eq_of_beq_eq_true hh) h
 | false=>rfl
theorem ajW(a b:Nat):(aA a==aA b)=decide (a=b):=by
 by_cases h:a=b
 ·subst h;simp
 ·rw[jK h]
  have:aA a≠aA b:=λhh=>h (Jt hh)
  simpa using this
theorem EP(a b:Int):(bA [aA a.natAbs==aA b.natAbs,decide (a<0)==decide (b<0)].reverse)=decide (a=b):=by
 show((decide (a<0)==decide (b<0))&&(aA a.natAbs==aA b.natAbs))=decide (a=b)
 rw[ajW];by_cases h:a=b
 ·subst h;simp
 ·rw[jK h]
  by_cases h1:a<0<;>by_cases h2:b<0<;>simp[h1,h2]<;>omega
theorem RH(d:Nat)(h:d≠0):(aH d==[])=decide (d=1):=by
 unfold aH;by_cases h1:d=1
 ·subst h1;rfl
 ·have:Nat.beq d 1=false:=apL h1
  rw[this,jK h1];simp only[cond_false,wP,jK h]
theorem ajX(d e:Nat)(h:d≠0)(k:e≠0):(aH d==aH e)=decide (d=e):=by
 by_cases h1:d=e
 ·subst h1;simp
 ·rw[jK h1]
  have:aH d≠aH e:=by
   intro hh;have e1:=Ab d h;have e2:=Ab e k;rw[hh]at e1;exact h1 (e1.symm.trans e2)
  simpa using this
theorem aeI:ate.sat λr=>r=dD 1:=ah rfl (ah rfl (av rfl))
theorem RI(x y:Int)(h:y≠0):0<Int.gcd x y:=Int.gcd_pos_of_ne_zero_right x h
theorem ajY(x y:Int)(h:y≠0):Int.gcd x y≤y.natAbs:=Nat.gcd_le_right _ (by omega)
theorem M0(x y:Int)(hy:0<y):(bA [aA (y/(Int.gcd x y:Nat)).natAbs==aA (Int.natAbs 1),decide (y/((Int.gcd x y:Nat):Int)<0)==decide ((1:Int)<0)].reverse=true→AV.agg [.c (.v (.bool (decide (x/((Int.gcd x y:Nat):Int)<0)))),.c (.v (.string ⟨⟨aA (x/((Int.gcd x y:Nat):Int)).natAbs⟩⟩)),.c (.v (.bool false)),.c (.v (.string ⟨#[]⟩))]=nR (Rat.divInt x y))∧
  (bA [aA (y/(Int.gcd x y:Nat)).natAbs==aA (Int.natAbs 1),decide (y/((Int.gcd x y:Nat):Int)<0)==decide ((1:Int)<0)].reverse=false→AV.agg [.c (.v (.bool (decide (x/((Int.gcd x y:Nat):Int)<0)))),.c (.v (.string ⟨⟨aA (x/((Int.gcd x y:Nat):Int)).natAbs⟩⟩)),.c (.v (.bool (decide (y/((Int.gcd x y:Nat):Int)<0)))),.c (.v (.string ⟨⟨aA (y/((Int.gcd x y:Nat):Int)).natAbs⟩⟩))]=nR (Rat.divInt x y)):=by
 have hg:=RI x y (by omega);have hd:((Int.gcd x y:Nat):Int) ∣ y:=Int.gcd_dvd_right ..;have hq:0<y/((Int.gcd x y:Nat):Int):=Int.ediv_pos_of_pos_of_dvd hy (by omega) hd;unfold nR;rw[O7 x y hy];rw[EP];constructor
 ·intro h
  have h:=j4 h;rw[h];rfl
 ·intro h
  have h:=of_decide_eq_false h;have h1:aH (y/((Int.gcd x y:Nat):Int)).natAbs=aA (y/((Int.gcd x y:Nat):Int)).natAbs:=by
   unfold aH;have:Nat.beq (y/((Int.gcd x y:Nat):Int)).natAbs 1=false:=by
    have:(y/((Int.gcd x y:Nat):Int)).natAbs≠1:=by omega
    exact apL this
   rw[this];rfl
  have h2:decide (y/((Int.gcd x y:Nat):Int)<0)=false:=jK (by omega);rw[h1,h2];rfl
theorem aeJ(x y:Int)(hy:y≠0)(lx:(aA x.natAbs).length≤90000000)(ly:(aA y.natAbs).length≤90000000):(apH x y).sat λr=>r=nR (Rat.divInt x y):=by
 have nx:(-x).natAbs=x.natAbs:=Int.natAbs_neg x;have ny:(-y).natAbs=y.natAbs:=Int.natAbs_neg y;have lx':(aA (-x).natAbs).length≤90000000:=by rw[nx];exact lx
 have ly':(aA (-y).natAbs).length≤90000000:=by rw[ny];exact ly
 have ng:Int.gcd (-x) (-y)=Int.gcd x y:=by simp[Int.gcd]
 have gp:=RI x y hy;have gl:=ajY x y hy;have lg:(aA ((Int.gcd x y:Nat):Int).natAbs).length≤90000000:=Nat.le_trans (Ir (by rw[Int.natAbs_natCast];exact gl)) ly;simp only[apH,pW,mG,ng];refine ah rfl (au (λh=> ?_) (λh=> ?_))
 ·have hneg:y<0:=by
   have h:=j4 h;unfold gW at h
   split at h
   ·assumption
   ·split at h<;>omega
  have e0:Rat.divInt x y=Rat.divInt (-x) (-y):=(Rat.neg_divInt_neg x y).symm;have hf:=M0 (-x) (-y) (by omega);rw[ng]at hf;rw[e0];refine ah rfl (ah rfl (ah rfl (ah rfl (ah (fZ lx') (ah (fZ ly') (ah rfl (ah rfl (ah (bQ) (ah (fZ lx') (ah (fZ lg) (ah rfl (ah rfl (ah (bQ) (ah (fZ ly') (ah (fZ lg) (au (λhh=>av ?_) (λhh=>av ?_)))))))))))))))))
  ·exact hf.1 hh
  ·exact hf.2 hh
 ·have hpos:0<y:=by
   have h:=of_decide_eq_false h;unfold gW at h
   split at h
   ·omega
   ·omega
  have hf:=M0 x y hpos;refine ah rfl (ah rfl (ah (fZ lx) (ah (fZ ly) (ah rfl (ah rfl (ah (bQ) (ah (fZ lx) (ah (fZ lg) (ah rfl (ah rfl (ah (bQ) (ah (fZ ly) (ah (fZ lg) (au (λhh=>av ?_) (λhh=>av ?_)))))))))))))))
  ·exact hf.1 hh
  ·exact hf.2 hh
theorem aeK(x:Rat):(apI x).sat λr=>r=dD (x.den:Nat):=by
 have h0:=x.den_nz;unfold apI;refine au (λh=>av ?_) (λh=>av ?_)
 ·have h:(aH x.den==[])=true:=by simpa[bA]using h
  rw[RH _ h0]at h;rw[j4 h];rfl
 ·have h:(aH x.den==[])=false:=by simpa[bA]using h
  rw[RH _ h0]at h;have h:=of_decide_eq_false h;have h1:aH x.den=aA x.den:=by
   unfold aH;have:Nat.beq x.den 1=false:=apL h;rw[this];rfl
  rw[h1];exact tZ x.den
theorem aeL(x:Rat):(apJ x).sat λr=>r=nR (hold (-x)):=by
 rw[fV];simp only[apJ,pW,mG];refine ah rfl (av ?_);unfold nR aC;rw[Rat.neg_num,Rat.neg_den];rfl
theorem aeM(x:Rat):(apK x).sat λr=>r=dn .i64 (gW x.num 0):=by
 simp only[apK,pW,mG];exact ah rfl (av rfl)
theorem aeN(n:Int)(h1: -9223372036854775808≤n)(h2:n≤9223372036854775807):(atf n).sat λr=>r=nR (n:Rat):=ah (fZ h1) (ah (fZ h2) (av rfl))
theorem ajZ: ∀f s,apA f=some s→aR Tryz.prog f s:=bS Yq.spec
theorem YM:aN Tryz.prog 223 aeH:=by
 refine aM aj ajZ (fn:=Tryz.f223) (c:=codeOf Tryz.f223) (by kernel_rfl) (by kernel_rfl) (aG (fn:=Tryz.f223) (c:=codeOf Tryz.f223) (by kernel_rfl) (by kernel_rfl) (by kernel_rfl)) (L:=bX) (N:=1010) (ak _ _) ?_ ?_
 ·intro args v cs h
  unfold aeH at h
  split at h
  ·cases h;rfl
  ·cases h
 ·intro args v cs h hc
  unfold aeH at h
  split at h
  ·skip
   cases h;have hs:=aeI;rw[←ajQ]at hs;generalize aI Tryz.prog apA bX 1010 Tryz.f223 []=T at hs⊢;exact Tr.bC (λr hr=>⟨by subst hr;rfl,bM.of_eq hr⟩) hs
  ·cases h
theorem aj0: ∀f s,apC f=some s→aR Tryz.prog f s:=step_ok HZ.spec (step_ok Yp.spec (step_ok ajP.spec (step_ok ajL.spec (bS YM.spec))))
theorem O9:aN Tryz.prog 172 aa2:=by
 refine aM aj aj0 (fn:=Tryz.f172) (c:=codeOf Tryz.f172) (by kernel_rfl) (by kernel_rfl) (aG (fn:=Tryz.f172) (c:=codeOf Tryz.f172) (by kernel_rfl) (by kernel_rfl) (by kernel_rfl)) (L:=bX) (N:=1010) (ak _ _) ?_ ?_
 ·intro args v cs h
  unfold aa2 at h
  split at h
  ·cases h;rfl
  ·cases h
 ·intro args v cs h hc
  unfold aa2 at h
  split at h
  ·rename_i p a q b
   cases h;have h1:iL p a=true:=hc (iL p a) (by simp);have h2:iL q b=true:=hc (iL q b) (by simp);have h3:iv q b≠0:=dec (hc (decide (iv q b≠0)) (by simp));have h4:a.data.toList.length≤90000000:=dec (hc (decide (a.data.toList.length≤90000000)) (by simp));have h5:b.data.toList.length≤90000000:=dec (hc (decide (b.data.toList.length≤90000000)) (by simp));have l1:(aA (iv p a).natAbs).length≤90000000:=by rw[sW,jy _ (jW h1)];exact h4
   have l2:(aA (iv q b).natAbs).length≤90000000:=by rw[sW,jy _ (jW h2)];exact h5
   rw[zT h1,zT h2];generalize iv p a=x at*;generalize iv q b=y at*;have hs:=aeJ x y h3 l1 l2;rw[←ajR]at hs;generalize aI Tryz.prog apC bX 1010 Tryz.f172 [dD x,dD y]=T at hs⊢;generalize Rat.divInt x y=z at hs⊢;exact Tr.bC (λr hr=>⟨by subst hr;rfl,bM.of_eq hr⟩) hs
  ·cases h
theorem aj1: ∀f s,apD f=some s→aR Tryz.prog f s:=bS YM.spec
theorem Pb:aN Tryz.prog 174 aa3:=by
 refine aM aj aj1 (fn:=Tryz.f174) (c:=codeOf Tryz.f174) (by kernel_rfl) (by kernel_rfl) (aG (fn:=Tryz.f174) (c:=codeOf Tryz.f174) (by kernel_rfl) (by kernel_rfl) (by kernel_rfl)) (L:=bX) (N:=1010) (ak _ _) ?_ ?_
 ·intro args v cs h
  unfold aa3 at h
  split at h
  ·cases h;rfl
  ·cases h
 ·intro args v cs h hc
  unfold aa3 at h
  split at h
  ·rename_i l
   cases h;have h1:aK l=true:=hc (aK l) (by simp);obtain⟨x,rfl⟩: ∃x,l=aC x:=⟨_,dX h1⟩
   simp only[dK]at*;have hs:=aeK x;rw[←ajS]at hs;generalize aI Tryz.prog apD bX 1010 Tryz.f174 [.agg (aC x)]=T at hs⊢;exact Tr.bC (λr hr=>⟨by subst hr;rfl,bM.of_eq hr⟩) hs
  ·cases h
theorem aj2: ∀f s,apE f=some s→aR Tryz.prog f s:=bS Yp.spec
theorem Iu:aN Tryz.prog 151 VR:=by
 refine aM aj aj2 (fn:=Tryz.f151) (c:=codeOf Tryz.f151) (by kernel_rfl) (by kernel_rfl) (aG (fn:=Tryz.f151) (c:=codeOf Tryz.f151) (by kernel_rfl) (by kernel_rfl) (by kernel_rfl)) (L:=bX) (N:=1010) (ak _ _) ?_ ?_
 ·intro args v cs h
  unfold VR at h
  split at h
  ·cases h;rfl
  ·cases h
 ·intro args v cs h hc
  unfold VR at h
  split at h
  ·rename_i l
   cases h;have h1:aK l=true:=hc (aK l) (by simp);obtain⟨x,rfl⟩: ∃x,l=aC x:=⟨_,dX h1⟩
   simp only[dK]at*;have hs:=aeL x;rw[←ajT]at hs;generalize aI Tryz.prog apE bX 1010 Tryz.f151 [.agg (aC x)]=T at hs⊢;generalize hold (-x)=z at hs⊢;exact Tr.bC (λr hr=>⟨by subst hr;rfl,bM.of_eq hr⟩) hs
  ·cases h
theorem aj3: ∀f s,apF f=some s→aR Tryz.prog f s:=bS HZ.spec
theorem Dy:aN Tryz.prog 153 RG:=by
 refine aM aj aj3 (fn:=Tryz.f153) (c:=codeOf Tryz.f153) (by kernel_rfl) (by kernel_rfl) (aG (fn:=Tryz.f153) (c:=codeOf Tryz.f153) (by kernel_rfl) (by kernel_rfl) (by kernel_rfl)) (L:=bX) (N:=1010) (ak _ _) ?_ ?_
 ·intro args v cs h
  unfold RG at h
  split at h
  ·cases h;rfl
  ·cases h
 ·intro args v cs h hc
  unfold RG at h
  split at h
  ·rename_i l
   cases h;have h1:aK l=true:=hc (aK l) (by simp);obtain⟨x,rfl⟩: ∃x,l=aC x:=⟨_,dX h1⟩
   simp only[dK]at*;have hs:=aeM x;rw[←ajU]at hs;generalize aI Tryz.prog apF bX 1010 Tryz.f153 [.agg (aC x)]=T at hs⊢;generalize gW x.num 0=z at hs⊢;exact Tr.bC (λr hr=>⟨by subst hr;rfl,bM.of_eq hr⟩) hs
  ·cases h
theorem aj4: ∀f s,apG f=some s→aR Tryz.prog f s:=bS Yq.spec
theorem Iw:aN Tryz.prog 28 VT:=by
 refine aM aj aj4 (fn:=Tryz.f28) (c:=codeOf Tryz.f28) (by kernel_rfl) (by kernel_rfl) (aG (fn:=Tryz.f28) (c:=codeOf Tryz.f28) (by kernel_rfl) (by kernel_rfl) (by kernel_rfl)) (L:=bX) (N:=1010) (ak _ _) ?_ ?_
 ·intro args v cs h
  unfold VT at h
  split at h
  ·cases h;rfl
  ·cases h
 ·intro args v cs h hc
  unfold VT at h
  split at h
  ·rename_i n
   cases h;have h1: -9223372036854775808≤n:=dec (hc (decide (-9223372036854775808≤n)) (by simp));have h2:n≤9223372036854775807:=dec (hc (decide (n≤9223372036854775807)) (by simp));have hs:=aeN n h1 h2;rw[←ajV]at hs;generalize aI Tryz.prog apG bX 1010 Tryz.f28 [.c (.v (.int .i64 n))]=T at hs⊢;generalize (n:Rat)=z at hs⊢;exact Tr.bC (λr hr=>⟨by subst hr;rfl,bM.of_eq hr⟩) hs
  ·cases h
end Go.bI
namespace Go.bI
open Go.Proofs
def uf(x y:Rat):Bool:=Dx x.num&&Dx x.den&&Dx y.num&&Dx y.den
def jZ(x y:Rat):Bool:=uf x y&&Dx (x.num*y.den+y.num*x.den)&&Dx (x.den*y.den)
def kX(x y:Rat):Bool:=uf x y&&Dx (x.num*y.num)&&Dx (x.den*y.den)
def Pf(x y:Rat):Bool:=uf x y&&Dx (x.num*y.den)&&Dx (x.den*y.num)
def Dz(x y:Rat):Int×Int×Int:=if x.den=y.den then(x.num,y.num,x.den)else(x.num*y.den,y.num*x.den,x.den*y.den)
def aeO:List AV→Option (AV×List Bool)
 | [.agg l,.agg m]=>some (.iC [dD (Dz (aB l) (aB m)).1,dD (Dz (aB l) (aB m)).2.1,dD (Dz (aB l) (aB m)).2.2],[aK l,aK m,uf (aB l) (aB m)])
 | _=>none
def J7:List AV→Option (AV×List Bool)
 | [.agg l,.agg m]=>some (nR (hold (aB l+aB m)),[aK l,aK m,jZ (aB l) (aB m)])
 | _=>none
def J8:List AV→Option (AV×List Bool)
 | [.agg l,.agg m]=>some (nR (hold (aB l*aB m)),[aK l,aK m,kX (aB l) (aB m)])
 | _=>none
def Pg:List AV→Option (AV×List Bool)
 | [.agg l,.agg m]=>some (nR (hold (aB l-aB m)),[aK l,aK m,jZ (aB l) (-(aB m))])
 | _=>none
def aj5:List AV→Option (AV×List Bool)
 | [.agg [.c (.v (.bool p)),.c (.v (.string a))],.agg [.c (.v (.bool q)),.c (.v (.string b))]]=>some (.iC [nR (Rat.divInt (iv p a) (iv q b)),dn .i64 0],[iL p a,iL q b,decide (iv q b≠0),decide (a.data.toList.length≤90000000),decide (b.data.toList.length≤90000000)])
 | _=>none
def aeP:List AV→Option (AV×List Bool)
 | [.agg l,.agg m]=>some (.iC [nR (hold (aB l/aB m)),dn .i64 0],[aK l,aK m,Pf (aB l) (aB m),decide (aB m≠0)])
 | _=>none
def aeQ:List AV→Option (AV×List Bool)
 | [.agg l,.agg m]=>some (dn .i64 (gW ((aB l).num*(aB m).den) ((aB m).num*(aB l).den)),[aK l,aK m,uf (aB l) (aB m)])
 | _=>none
def apM:FuncId→Option Spec:=λf=>bif Nat.beq f 174 then some (ay aa3)else bif Nat.beq f 173 then some (ay aaU)else none
def apN:FuncId→Option Spec:=λf=>bif Nat.beq f 175 then some (ay aeO)else bif Nat.beq f 176 then some (ay ajw)else bif Nat.beq f 172 then some (ay aa2)else none
def apO:FuncId→Option Spec:=λf=>bif Nat.beq f 173 then some (ay aaU)else bif Nat.beq f 174 then some (ay aa3)else bif Nat.beq f 172 then some (ay aa2)else none
def apP:FuncId→Option Spec:=λf=>bif Nat.beq f 151 then some (ay VR)else bif Nat.beq f 122 then some (ay J7)else none
def apQ:FuncId→Option Spec:=λf=>bif Nat.beq f 193 then some (ay UZ)else bif Nat.beq f 172 then some (ay aa2)else none
def apR:FuncId→Option Spec:=λf=>bif Nat.beq f 174 then some (ay aa3)else bif Nat.beq f 173 then some (ay aaU)else bif Nat.beq f 215 then some (ay aj5)else none
def apS:FuncId→Option Spec:=λf=>bif Nat.beq f 175 then some (ay aeO)else bif Nat.beq f 241 then some (ay ajv)else none
def apT(x:Rat)(y:Rat):Tr AV:=
 let x1:List UInt8:=aA x.num.natAbs
 let x2:ByteArray:=⟨⟨x1⟩⟩
 let x3:List AV:=[.c (.v (.bool (decide (x.num<0)))),.c (.v (.string x2)),.c (.v (.bool false)),.c (.v (.string ⟨⟨aH x.den⟩⟩))]
 let x4:List UInt8:=aA y.num.natAbs
 let x5:ByteArray:=⟨⟨x4⟩⟩
 let x6:Int:= ↑(aB x3).den
 let x7:List UInt8:=aA x6.natAbs
 let x8:ByteArray:=⟨⟨x7⟩⟩
 let x9:List AV:=[.c (.v (.bool (decide (y.num<0)))),.c (.v (.string x5)),.c (.v (.bool false)),.c (.v (.string ⟨⟨aH y.den⟩⟩))]
 let x10:Int:= ↑(aB x9).den
 let fI:List UInt8:=aA x10.natAbs
 let fU:ByteArray:=⟨⟨fI⟩⟩
 let iM:Nat:=fI.length
 let iR:Nat:=x7.length
 let jH:Int:=iv (decide (x10<0)) fU
 let kE:Int:=iv (decide (x.num<0)) x2*jH
 let jD:Int:=iv (decide (x6<0)) x8
 let x18:Int:=iv (decide (y.num<0)) x5*jD
 .ite (bA [aH x.den==aH y.den,false==false].reverse) (.need (aK x3) (.ret (AV.iC [AV.agg [.c (.v (.bool (decide (x.num<0)))),.c (.v (.string x2))],AV.agg [.c (.v (.bool (decide (y.num<0)))),.c (.v (.string x5))],AV.agg [.c (.v (.bool false)),.c (.v (.string x8))]]))) (.need (aK x9) (.need (iL (decide (x.num<0)) x2) (.need (iL (decide (x10<0)) fU) (.need (decide (x1.length≤100000000)) (.need (decide (iM≤100000000)) (.need (aK x3) (.need (iL (decide (y.num<0)) x5) (.need (iL (decide (x6<0)) x8) (.need (decide (x4.length≤100000000)) (.need (decide (iR≤100000000)) (.need (aK x3) (.need (aK x9) (.need (iL (decide (x6<0)) x8) (.need (iL (decide (x10<0)) fU) (.need (decide (iR≤100000000)) (.need (decide (iM≤100000000)) (.ret (AV.iC [AV.agg [.c (.v (.bool (decide (kE<0)))),.c (.v (.string ⟨⟨aA kE.natAbs⟩⟩))],AV.agg [.c (.v (.bool (decide (x18<0)))),.c (.v (.string ⟨⟨aA x18.natAbs⟩⟩))],AV.agg [.c (.v (.bool false)),.c (.v (.string ⟨⟨aA (jD*jH).natAbs⟩⟩))]]))))))))))))))))))
def apU(x:Rat)(y:Rat):Tr AV:=
 let x1:List AV:=[.c (.v (.bool (decide (x.num<0)))),.c (.v (.string ⟨⟨aA x.num.natAbs⟩⟩)),.c (.v (.bool false)),.c (.v (.string ⟨⟨aH x.den⟩⟩))]
 let x2:List AV:=[.c (.v (.bool (decide (y.num<0)))),.c (.v (.string ⟨⟨aA y.num.natAbs⟩⟩)),.c (.v (.bool false)),.c (.v (.string ⟨⟨aH y.den⟩⟩))]
 let x3:Int:=(Dz (aB x1) (aB x2)).fst
 let x4:List UInt8:=aA x3.natAbs
 let x5:ByteArray:=⟨⟨x4⟩⟩
 let x6:Int:=(Dz (aB x1) (aB x2)).snd.fst
 let x7:List UInt8:=aA x6.natAbs
 let x8:ByteArray:=⟨⟨x7⟩⟩
 let x9:Nat:=x4.length
 let x10:Nat:=x7.length
 let fI:Int:=iv (decide (x3<0)) x5+iv (decide (x6<0)) x8
 let fU:List UInt8:=aA fI.natAbs
 let iM:ByteArray:=⟨⟨fU⟩⟩
 let iR:Int:=(Dz (aB x1) (aB x2)).snd.snd
 let jH:List UInt8:=aA iR.natAbs
 let kE:ByteArray:=⟨⟨jH⟩⟩
 let jD:Int:=iv (decide (iR<0)) kE
 let x18:Nat:=fU.length
 let lW:Nat:=jH.length
 let x20:Int:=(Rat.divInt (iv (decide (fI<0)) iM) jD).num
 .need (aK x1) (.need (aK x2) (.need (uf (aB x1) (aB x2)) (.need (iL (decide (x3<0)) x5) (.need (iL (decide (x6<0)) x8) (.need (decide (x9≤100000000)) (.need (decide (x10≤100000000)) (.need (iL (decide (fI<0)) iM) (.need (iL (decide (iR<0)) kE) (.need (decide (jD≠0)) (.need (decide (x18≤90000000)) (.need (decide (lW≤90000000)) (.ret (AV.agg [.c (.v (.bool (decide (x20<0)))),.c (.v (.string ⟨⟨aA x20.natAbs⟩⟩)),.c (.v (.bool false)),.c (.v (.string ⟨⟨aH (Rat.divInt (iv (decide (fI<0)) iM) jD).den⟩⟩))])))))))))))))
def apV(x:Rat)(y:Rat):Tr AV:=
 let x1:List UInt8:=aA x.num.natAbs
 let x2:ByteArray:=⟨⟨x1⟩⟩
 let x3:List UInt8:=aA y.num.natAbs
 let x4:ByteArray:=⟨⟨x3⟩⟩
 let x5:List AV:=[.c (.v (.bool (decide (x.num<0)))),.c (.v (.string x2)),.c (.v (.bool false)),.c (.v (.string ⟨⟨aH x.den⟩⟩))]
 let x6:List AV:=[.c (.v (.bool (decide (y.num<0)))),.c (.v (.string x4)),.c (.v (.bool false)),.c (.v (.string ⟨⟨aH y.den⟩⟩))]
 let x7:Int:= ↑(aB x5).den
 let x8:List UInt8:=aA x7.natAbs
 let x9:ByteArray:=⟨⟨x8⟩⟩
 let x10:Int:= ↑(aB x6).den
 let fI:List UInt8:=aA x10.natAbs
 let fU:ByteArray:=⟨⟨fI⟩⟩
 let iM:Nat:=x8.length
 let iR:Nat:=fI.length
 let jH:Int:=iv (decide (x.num<0)) x2*iv (decide (y.num<0)) x4
 let kE:List UInt8:=aA jH.natAbs
 let jD:ByteArray:=⟨⟨kE⟩⟩
 let x18:Int:=iv (decide (x7<0)) x9*iv (decide (x10<0)) fU
 let lW:List UInt8:=aA x18.natAbs
 let x20:ByteArray:=⟨⟨lW⟩⟩
 let x21:Int:=iv (decide (x18<0)) x20
 let lZ:Nat:=kE.length
 let x23:Nat:=lW.length
 let x24:Int:=(Rat.divInt (iv (decide (jH<0)) jD) x21).num
 .need (iL (decide (x.num<0)) x2) (.need (iL (decide (y.num<0)) x4) (.need (decide (x1.length≤100000000)) (.need (decide (x3.length≤100000000)) (.need (aK x5) (.need (aK x6) (.need (iL (decide (x7<0)) x9) (.need (iL (decide (x10<0)) fU) (.need (decide (iM≤100000000)) (.need (decide (iR≤100000000)) (.need (iL (decide (jH<0)) jD) (.need (iL (decide (x18<0)) x20) (.need (decide (x21≠0)) (.need (decide (lZ≤90000000)) (.need (decide (x23≤90000000)) (.ret (AV.agg [.c (.v (.bool (decide (x24<0)))),.c (.v (.string ⟨⟨aA x24.natAbs⟩⟩)),.c (.v (.bool false)),.c (.v (.string ⟨⟨aH (Rat.divInt (iv (decide (jH<0)) jD) x21).den⟩⟩))]))))))))))))))))
def apW(x:Rat)(y:Rat):Tr AV:=
 let x1:List AV:=[.c (.v (.bool (decide (y.num<0)))),.c (.v (.string ⟨⟨aA y.num.natAbs⟩⟩)),.c (.v (.bool false)),.c (.v (.string ⟨⟨aH y.den⟩⟩))]
 let x2:List AV:=[.c (.v (.bool (decide (x.num<0)))),.c (.v (.string ⟨⟨aA x.num.natAbs⟩⟩)),.c (.v (.bool false)),.c (.v (.string ⟨⟨aH x.den⟩⟩))]
 let x3:Int:=(hold (-aB x1)).num
 let x4:List AV:=[.c (.v (.bool (decide (x3<0)))),.c (.v (.string ⟨⟨aA x3.natAbs⟩⟩)),.c (.v (.bool false)),.c (.v (.string ⟨⟨aH (hold (-aB x1)).den⟩⟩))]
 let x5:Int:=(hold (aB x2+aB x4)).num
 .need (aK x1) (.need (aK x2) (.need (aK x4) (.need (jZ (aB x2) (aB x4)) (.ret (AV.agg [.c (.v (.bool (decide (x5<0)))),.c (.v (.string ⟨⟨aA x5.natAbs⟩⟩)),.c (.v (.bool false)),.c (.v (.string ⟨⟨aH (hold (aB x2+aB x4)).den⟩⟩))])))))
def apX(x:Int)(y:Int):Tr AV:=
 let x1:ByteArray:=⟨⟨aA y.natAbs⟩⟩
 let x2:Int:=iv (decide (y<0)) x1
 let x3:ByteArray:=⟨⟨aA x.natAbs⟩⟩
 let x4:Int:=(Rat.divInt (iv (decide (x<0)) x3) x2).num
 .need (iL (decide (y<0)) x1) (.ite (gW x2 0==0) (.ret (AV.iC [AV.agg [.c (.v (.bool false)),.c (.v (.string {data:= #[]})),.c (.v (.bool false)),.c (.v (.string {data:= #[]}))],.c (.v (.int IntKind.i64 6))])) (.need (iL (decide (x<0)) x3) (.need (iL (decide (y<0)) x1) (.need (decide (x2≠0)) (.need (decide ((aA x.natAbs).length≤90000000)) (.need (decide ((aA y.natAbs).length≤90000000)) (.ret (AV.iC [AV.agg [.c (.v (.bool (decide (x4<0)))),.c (.v (.string ⟨⟨aA x4.natAbs⟩⟩)),.c (.v (.bool false)),.c (.v (.string ⟨⟨aH (Rat.divInt (iv (decide (x<0)) x3) x2).den⟩⟩))],.c (.v (.int IntKind.i64 0))]))))))))
def apY(x:Rat)(y:Rat):Tr AV:=
 let x1:List UInt8:=aA y.num.natAbs
 let x2:ByteArray:=⟨⟨x1⟩⟩
 let x3:List AV:=[.c (.v (.bool (decide (y.num<0)))),.c (.v (.string x2)),.c (.v (.bool false)),.c (.v (.string ⟨⟨aH y.den⟩⟩))]
 let x4:List UInt8:=aA x.num.natAbs
 let x5:ByteArray:=⟨⟨x4⟩⟩
 let x6:Int:= ↑(aB x3).den
 let x7:List UInt8:=aA x6.natAbs
 let x8:ByteArray:=⟨⟨x7⟩⟩
 let x9:Nat:=x7.length
 let x10:List AV:=[.c (.v (.bool (decide (x.num<0)))),.c (.v (.string x5)),.c (.v (.bool false)),.c (.v (.string ⟨⟨aH x.den⟩⟩))]
 let fI:Int:= ↑(aB x10).den
 let fU:List UInt8:=aA fI.natAbs
 let iM:ByteArray:=⟨⟨fU⟩⟩
 let iR:Nat:=fU.length
 let jH:Int:=iv (decide (x.num<0)) x5*iv (decide (x6<0)) x8
 let kE:List UInt8:=aA jH.natAbs
 let jD:ByteArray:=⟨⟨kE⟩⟩
 let x18:Int:=iv (decide (fI<0)) iM*iv (decide (y.num<0)) x2
 let lW:List UInt8:=aA x18.natAbs
 let x20:ByteArray:=⟨⟨lW⟩⟩
 let x21:Int:=iv (decide (x18<0)) x20
 let lZ:Nat:=kE.length
 let x23:Nat:=lW.length
 let x24:Int:=(Rat.divInt (iv (decide (jH<0)) jD) x21).num
 .need (aK x3) (.need (iL (decide (x.num<0)) x5) (.need (iL (decide (x6<0)) x8) (.need (decide (x4.length≤100000000)) (.need (decide (x9≤100000000)) (.need (aK x10) (.need (iL (decide (fI<0)) iM) (.need (iL (decide (y.num<0)) x2) (.need (decide (iR≤100000000)) (.need (decide (x1.length≤100000000)) (.need (iL (decide (jH<0)) jD) (.need (iL (decide (x18<0)) x20) (.need (decide (x21≠0)) (.need (decide (lZ≤90000000)) (.need (decide (x23≤90000000)) (.ret (AV.iC [AV.agg [.c (.v (.bool (decide (x24<0)))),.c (.v (.string ⟨⟨aA x24.natAbs⟩⟩)),.c (.v (.bool false)),.c (.v (.string ⟨⟨aH (Rat.divInt (iv (decide (jH<0)) jD) x21).den⟩⟩))],.c (.v (.int IntKind.i64 0))]))))))))))))))))
def apZ(x:Rat)(y:Rat):Tr AV:=
 let x1:List UInt8:=aA x.num.natAbs
 let x2:List UInt8:=aA y.num.natAbs
 let x3:List AV:=[.c (.v (.bool (decide (x.num<0)))),.c (.v (.string ⟨⟨x1⟩⟩)),.c (.v (.bool false)),.c (.v (.string ⟨⟨aH x.den⟩⟩))]
 let x4:List AV:=[.c (.v (.bool (decide (y.num<0)))),.c (.v (.string ⟨⟨x2⟩⟩)),.c (.v (.bool false)),.c (.v (.string ⟨⟨aH y.den⟩⟩))]
 let x5:Int:=(Dz (aB x3) (aB x4)).fst
 let x6:ByteArray:=⟨⟨aA x5.natAbs⟩⟩
 let x7:Int:=(Dz (aB x3) (aB x4)).snd.fst
 let x8:ByteArray:=⟨⟨aA x7.natAbs⟩⟩
 .ite (bA [bA [aH x.den==aH y.den,false==false].reverse,bA [x1==x2,decide (x.num<0)==decide (y.num<0)].reverse].reverse) (.ret (.c (.v (.int IntKind.i64 0)))) (.need (aK x3) (.need (aK x4) (.need (uf (aB x3) (aB x4)) (.need (iL (decide (x5<0)) x6) (.need (iL (decide (x7<0)) x8) (.ret (.c (.v (.int IntKind.i64 (gW (iv (decide (x5<0)) x6) (iv (decide (x7<0)) x8)))))))))))
theorem aj6(x y:Rat):aI Tryz.prog apM bX 1010 Tryz.f175 [.agg (aC x),.agg (aC y)]=apT x y:=by kernel_rfl
theorem aj7(x y:Rat):aI Tryz.prog apN bX 1010 Tryz.f122 [.agg (aC x),.agg (aC y)]=apU x y:=by kernel_rfl
theorem aj8(x y:Rat):aI Tryz.prog apO bX 1010 Tryz.f121 [.agg (aC x),.agg (aC y)]=apV x y:=by kernel_rfl
theorem aj9(x y:Rat):aI Tryz.prog apP bX 1010 Tryz.f120 [.agg (aC x),.agg (aC y)]=apW x y:=by kernel_rfl
theorem akb(x y:Int):aI Tryz.prog apQ bX 1010 Tryz.f215 [dD x,dD y]=apX x y:=by kernel_rfl
theorem akc(x y:Rat):aI Tryz.prog apR bX 1010 Tryz.f168 [.agg (aC x),.agg (aC y)]=apY x y:=by kernel_rfl
theorem akd(x y:Rat):aI Tryz.prog apS bX 1010 Tryz.f192 [.agg (aC x),.agg (aC y)]=apZ x y:=by kernel_rfl
theorem sat_true{α:Type}{t:Tr α}{Q:α→Prop}:(Tr.need true t).sat Q=t.sat Q:=propext ⟨λh=>h.2 rfl,λh=>⟨rfl,λ_=>h⟩⟩
theorem atg{z:Int}(h:Dx z=true):(aA z.natAbs).length≤1000000:=ajD (j4 h)
theorem GY{z:Int}(h:Dx z=true):decide ((aA z.natAbs).length≤100000000)=true:=fZ (Nat.le_trans (atg h) (by omega))
theorem M4{z:Int}(h:Dx z=true):decide ((aA z.natAbs).length≤90000000)=true:=fZ (Nat.le_trans (atg h) (by omega))
theorem anV{z:Int}(h:z.natAbs<BIG*BIG):decide ((aA z.natAbs).length≤100000000)=true:=fZ (Nat.le_trans (aeA h) (by omega))
theorem M7{a b:Int}(h:Dx a=true)(k:Dx b=true):(a*b).natAbs<BIG*BIG:=by
 have h:=j4 h;have k:=j4 k;rw[Int.natAbs_mul];exact Nat.mul_lt_mul'' h k
theorem YN{a:Int}(h:Dx a=true):a.natAbs<BIG*BIG:=by
 have h:=j4 h;refine Nat.lt_of_lt_of_le h ?_;have h1:1≤BIG:=Nat.le_trans (by decide) vv;have:=Nat.mul_le_mul_left BIG h1
 rwa [Nat.mul_one]at this
theorem zq{x y:Rat}(h:uf x y=true):Dx x.num=true∧Dx x.den=true∧Dx y.num=true∧Dx y.den=true:=by
 simp only[uf,cu]at h;exact⟨h.1.1.1,h.1.1.2,h.1.2,h.2⟩
theorem RJ(d:Nat):AV.agg [.c (.v (.bool false)),.c (.v (.string ⟨⟨aA ((d:Nat):Int).natAbs⟩⟩))]=dD (d:Int):=tZ d
theorem RL(x y:Rat):(bA [aH x.den==aH y.den,false==false].reverse)=decide (x.den=y.den):=by
 rw[ajX _ _ x.den_nz y.den_nz];simp[bA]
theorem aeR(x y:Rat)(h:uf x y=true):(apT x y).sat λr=>r= .iC [dD (Dz x y).1,dD (Dz x y).2.1,dD (Dz x y).2.2]:=by
 obtain⟨h1,h2,h3,h4⟩:=zq h;simp only[apT,dP,dB,pW,mG,GY h1,GY h2,GY h3,GY h4,sat_true,RL];refine au (λhd=> ?_) (λhd=> ?_)<;>simp only[sat_true]<;>refine av ?_
 ·have hd:=j4 hd
  unfold Dz;rw[if_pos hd];simp only[RJ];rfl
 ·have hd:=of_decide_eq_false hd
  unfold Dz;rw[if_neg hd];have e:((x.den:Nat):Int)*((y.den:Nat):Int)=((x.den*y.den:Nat):Int):=by simp
  simp only[e,RJ];rfl
theorem aa4{x y:Rat}(h:uf x y=true):(Dz x y).1.natAbs<BIG*BIG∧(Dz x y).2.1.natAbs<BIG*BIG:=by
 obtain⟨h1,h2,h3,h4⟩:=zq h;unfold Dz
 split
 ·exact⟨YN h1,YN h3⟩
 ·exact⟨M7 h1 h4,M7 h3 h2⟩
theorem ake(x y:Rat):Rat.divInt ((Dz x y).1+(Dz x y).2.1) (Dz x y).2.2=x+y:=by
 have hx:=x.den_nz;have hy:=y.den_nz;have e:x+y=Rat.divInt (x.num*y.den+y.num*x.den) (x.den*y.den:Int):=by
  rw[Rat.add_def', ←Rat.divInt_ofNat,Int.natCast_mul]
 unfold Dz
 split
 ·rename_i hd
  change Rat.divInt (x.num+y.num) (x.den:Int)=x+y
  rw[e,hd];rw[Rat.divInt_eq_divInt_iff (by omega) (Int.mul_ne_zero (by omega) (by omega))]
  grind
 ·exact e.symm
theorem akf(x y:Rat):0<(Dz x y).2.2:=by
 have hx:=x.den_pos;have hy:=y.den_pos;unfold Dz
 split
 ·simp only[];omega
 ·simp only[];exact Int.mul_pos (by omega) (by omega)
theorem akg{x y:Rat}(h:jZ x y=true):Dx ((Dz x y).1+(Dz x y).2.1)=true∧Dx (Dz x y).2.2=true:=by
 simp only[jZ,cu]at h;obtain⟨⟨h0,h5⟩,h6⟩:=h;obtain⟨h1,h2,h3,h4⟩:=zq h0;unfold Dz
 split
 ·rename_i hd
  refine⟨?_,h2⟩;have h5:=j4 h5;refine fZ ?_;rw[hd, ←Int.add_mul,Int.natAbs_mul,Int.natAbs_natCast]at h5;have hy:=y.den_pos;exact Nat.lt_of_le_of_lt (Nat.le_mul_of_pos_right _ hy) h5
 ·exact⟨h5,h6⟩
theorem aeS(x y:Rat)(h:jZ x y=true):(apU x y).sat λr=>r=nR (hold (x+y)):=by
 have h0:uf x y=true:=by simp only[jZ,cu]at h;exact h.1.1
 obtain⟨b1,b2⟩:=aa4 h0;obtain⟨b3,b4⟩:=akg h;have hp:=akf x y;have hz:decide ((Dz x y).2.2≠0)=true:=bQ;simp only[apU,dP,dB,pW,mG,h0,anV b1,anV b2,M4 b3,M4 b4,hz,sat_true,fV,ake];exact av rfl
theorem VU(x y:Rat):Rat.divInt (x.num*y.num) (x.den*y.den:Int)=x*y:=by
 rw[Rat.mul_def', ←Rat.divInt_ofNat,Int.natCast_mul]
theorem VW(x y:Rat):decide (((x.den:Nat):Int)*((y.den:Nat):Int)≠0)=true:=by
 have hx:=x.den_pos;have hy:=y.den_pos;have:=Int.mul_pos (a:=(x.den:Int)) (b:=(y.den:Int)) (by omega) (by omega);exact bQ
theorem aeT(x y:Rat)(h:kX x y=true):(apV x y).sat λr=>r=nR (hold (x*y)):=by
 simp only[kX,cu]at h;obtain⟨⟨h0,h5⟩,h6⟩:=h;obtain⟨h1,h2,h3,h4⟩:=zq h0;simp only[apV,dP,dB,pW,mG,GY h1,GY h2,GY h3,GY h4,M4 h5,M4 h6,VW,sat_true,fV,VU];exact av rfl
theorem aeU(x y:Rat)(h:jZ x (-y)=true):(apW x y).sat λr=>r=nR (hold (x-y)):=by
 simp only[apW,dP,dB,fV,h,sat_true,Rat.sub_eq_add_neg];exact av rfl
theorem aeV(x y:Int)(hy:y≠0)(bx:(aA x.natAbs).length≤90000000)(Eh:(aA y.natAbs).length≤90000000):(apX x y).sat λr=>r= .iC [nR (Rat.divInt x y),dn .i64 0]:=by
 have lx:decide ((aA x.natAbs).length≤90000000)=true:=fZ bx;have ly:decide ((aA y.natAbs).length≤90000000)=true:=fZ Eh;have hz:decide (y≠0)=true:=fZ hy;have hs:(gW y 0==0)=false:=by
  unfold gW
  split
  ·rfl
  ·split
   ·rfl
   ·omega
 simp only[apX,pW,mG,lx,ly,hz,hs,sat_true];refine au (λh=>by cases h) (λ_=> ?_);simp only[sat_true];exact av rfl
theorem J9(x y:Rat):Rat.divInt (x.num*y.den) ((x.den:Int)*y.num)=x/y:=by
 rw[Rat.div_def,Rat.inv_def]
 conv=>rhs;rw[←Rat.num_divInt_den x]
 rw[Rat.divInt_mul_divInt]
theorem aeW(x y:Rat)(h:Pf x y=true)(hy:y≠0):(apY x y).sat λr=>r= .iC [nR (hold (x/y)),dn .i64 0]:=by
 simp only[Pf,cu]at h;obtain⟨⟨h0,h5⟩,h6⟩:=h;obtain⟨h1,h2,h3,h4⟩:=zq h0;have hn:y.num≠0:=λhh=>hy (Rat.num_eq_zero.1 hh)
 have hz:decide (((x.den:Nat):Int)*y.num≠0)=true:=fZ (Int.mul_ne_zero (by have:=x.den_nz;omega) hn);simp only[apY,dP,dB,pW,mG,GY h1,GY h2,GY h3,GY h4,M4 h5,M4 h6,hz,sat_true,fV,J9];exact av rfl
theorem rF(x y:Rat):(bA [bA [aH x.den==aH y.den,false==false].reverse,bA [aA x.num.natAbs==aA y.num.natAbs,decide (x.num<0)==decide (y.num<0)].reverse].reverse)=decide (x=y):=by
 rw[RL,EP]
 show(decide (x.num=y.num)&&decide (x.den=y.den))=decide (x=y)
 by_cases h:x=y
 ·subst h;simp
 ·rw[jK h]
  by_cases h1:x.num=y.num
  ·have h2:x.den≠y.den:=λh2=>h (Rat.ext h1 h2)
   rw[jK h2,Bool.and_false]
  ·rw[jK h1,Bool.false_and]
theorem akh(a b d:Int)(h:0<d):gW (a*d) (b*d)=gW a b:=by
 have h1:a*d<b*d↔a<b:=Int.mul_lt_mul_right h;have h2:b*d<a*d↔b<a:=Int.mul_lt_mul_right h;simp only[gW,gt_iff_lt,h1,h2]
theorem aeX(x y:Rat)(h:uf x y=true):(apZ x y).sat λr=>r=dn .i64 (gW (x.num*y.den) (y.num*x.den)):=by
 simp only[apZ,dP,dB,pW,mG,h,sat_true,rF];refine au (λhh=>av ?_) (λ_=> ?_)
 ·have hh:=j4 hh
  subst hh;have:gW (x.num*x.den) (x.num*x.den)=0:=by simp[gW]
  rw[this];rfl
 ·simp only[sat_true]
  refine av ?_;unfold Dz
  split
  ·rename_i hd
   rw[hd,akh _ _ _ (by have:=y.den_pos;omega)];rfl
  ·rfl
theorem aki: ∀f s,apM f=some s→aR Tryz.prog f s:=step_ok Pb.spec (bS O6.spec)
theorem YO:aN Tryz.prog 175 aeO:=by
 refine aM aj aki (fn:=Tryz.f175) (c:=codeOf Tryz.f175) (by kernel_rfl) (by kernel_rfl) (aG (fn:=Tryz.f175) (c:=codeOf Tryz.f175) (by kernel_rfl) (by kernel_rfl) (by kernel_rfl)) (L:=bX) (N:=1010) (ak _ _) ?_ ?_
 ·intro args v cs h
  unfold aeO at h
  split at h
  ·cases h;rfl
  ·cases h
 ·intro args v cs h hc
  unfold aeO at h
  split at h
  ·rename_i l m
   cases h;have h1:aK l=true:=hc (aK l) (by simp);have h2:aK m=true:=hc (aK m) (by simp);have h3:uf (aB l) (aB m)=true:=hc (uf (aB l) (aB m)) (by simp);obtain⟨x,rfl⟩: ∃x,l=aC x:=⟨_,dX h1⟩
   obtain⟨y,rfl⟩: ∃y,m=aC y:=⟨_,dX h2⟩
   simp only[dK]at*;have hs:=aeR x y h3;rw[←aj6]at hs;generalize aI Tryz.prog apM bX 1010 Tryz.f175 [.agg (aC x),.agg (aC y)]=T at hs⊢;generalize Dz x y=z at hs⊢;exact Tr.bC (λr hr=>⟨by subst hr;rfl,bM.of_eq hr⟩) hs
  ·cases h
theorem akj: ∀f s,apN f=some s→aR Tryz.prog f s:=step_ok YO.spec (step_ok ajB.spec (bS O9.spec))
theorem vw:aN Tryz.prog 122 J7:=by
 refine aM aj akj (fn:=Tryz.f122) (c:=codeOf Tryz.f122) (by kernel_rfl) (by kernel_rfl) (aG (fn:=Tryz.f122) (c:=codeOf Tryz.f122) (by kernel_rfl) (by kernel_rfl) (by kernel_rfl)) (L:=bX) (N:=1010) (ak _ _) ?_ ?_
 ·intro args v cs h
  unfold J7 at h
  split at h
  ·cases h;rfl
  ·cases h
 ·intro args v cs h hc
  unfold J7 at h
  split at h
  ·rename_i l m
   cases h;have h1:aK l=true:=hc (aK l) (by simp);have h2:aK m=true:=hc (aK m) (by simp);have h3:jZ (aB l) (aB m)=true:=hc (jZ (aB l) (aB m)) (by simp);obtain⟨x,rfl⟩: ∃x,l=aC x:=⟨_,dX h1⟩
   obtain⟨y,rfl⟩: ∃y,m=aC y:=⟨_,dX h2⟩
   simp only[dK]at*;have hs:=aeS x y h3;rw[←aj7]at hs;generalize aI Tryz.prog apN bX 1010 Tryz.f122 [.agg (aC x),.agg (aC y)]=T at hs⊢;generalize hold (x+y)=z at hs⊢;exact Tr.bC (λr hr=>⟨by subst hr;rfl,bM.of_eq hr⟩) hs
  ·cases h
theorem akk: ∀f s,apO f=some s→aR Tryz.prog f s:=step_ok O6.spec (step_ok Pb.spec (bS O9.spec))
theorem vC:aN Tryz.prog 121 J8:=by
 refine aM aj akk (fn:=Tryz.f121) (c:=codeOf Tryz.f121) (by kernel_rfl) (by kernel_rfl) (aG (fn:=Tryz.f121) (c:=codeOf Tryz.f121) (by kernel_rfl) (by kernel_rfl) (by kernel_rfl)) (L:=bX) (N:=1010) (ak _ _) ?_ ?_
 ·intro args v cs h
  unfold J8 at h
  split at h
  ·cases h;rfl
  ·cases h
 ·intro args v cs h hc
  unfold J8 at h
  split at h
  ·rename_i l m
   cases h;have h1:aK l=true:=hc (aK l) (by simp);have h2:aK m=true:=hc (aK m) (by simp);have h3:kX (aB l) (aB m)=true:=hc (kX (aB l) (aB m)) (by simp);obtain⟨x,rfl⟩: ∃x,l=aC x:=⟨_,dX h1⟩
   obtain⟨y,rfl⟩: ∃y,m=aC y:=⟨_,dX h2⟩
   simp only[dK]at*;have hs:=aeT x y h3;rw[←aj8]at hs;generalize aI Tryz.prog apO bX 1010 Tryz.f121 [.agg (aC x),.agg (aC y)]=T at hs⊢;generalize hold (x*y)=z at hs⊢;exact Tr.bC (λr hr=>⟨by subst hr;rfl,bM.of_eq hr⟩) hs
  ·cases h
theorem akl: ∀f s,apP f=some s→aR Tryz.prog f s:=step_ok Iu.spec (bS vw.spec)
theorem Ac:aN Tryz.prog 120 Pg:=by
 refine aM aj akl (fn:=Tryz.f120) (c:=codeOf Tryz.f120) (by kernel_rfl) (by kernel_rfl) (aG (fn:=Tryz.f120) (c:=codeOf Tryz.f120) (by kernel_rfl) (by kernel_rfl) (by kernel_rfl)) (L:=bX) (N:=1010) (ak _ _) ?_ ?_
 ·intro args v cs h
  unfold Pg at h
  split at h
  ·cases h;rfl
  ·cases h
 ·intro args v cs h hc
  unfold Pg at h
  split at h
  ·rename_i l m
   cases h;have h1:aK l=true:=hc (aK l) (by simp);have h2:aK m=true:=hc (aK m) (by simp);have h3:jZ (aB l) (-(aB m))=true:=hc (jZ (aB l) (-(aB m))) (by simp);obtain⟨x,rfl⟩: ∃x,l=aC x:=⟨_,dX h1⟩
   obtain⟨y,rfl⟩: ∃y,m=aC y:=⟨_,dX h2⟩
   simp only[dK]at*;have hs:=aeU x y h3;rw[←aj9]at hs;generalize aI Tryz.prog apP bX 1010 Tryz.f120 [.agg (aC x),.agg (aC y)]=T at hs⊢;generalize hold (x-y)=z at hs⊢;exact Tr.bC (λr hr=>⟨by subst hr;rfl,bM.of_eq hr⟩) hs
  ·cases h
theorem akm: ∀f s,apQ f=some s→aR Tryz.prog f s:=step_ok HZ.spec (bS O9.spec)
theorem akn:aN Tryz.prog 215 aj5:=by
 refine aM aj akm (fn:=Tryz.f215) (c:=codeOf Tryz.f215) (by kernel_rfl) (by kernel_rfl) (aG (fn:=Tryz.f215) (c:=codeOf Tryz.f215) (by kernel_rfl) (by kernel_rfl) (by kernel_rfl)) (L:=bX) (N:=1010) (ak _ _) ?_ ?_
 ·intro args v cs h
  unfold aj5 at h
  split at h
  ·cases h;rfl
  ·cases h
 ·intro args v cs h hc
  unfold aj5 at h
  split at h
  ·rename_i p a q b
   cases h;have h1:iL p a=true:=hc (iL p a) (by simp);have h2:iL q b=true:=hc (iL q b) (by simp);have h3:iv q b≠0:=dec (hc (decide (iv q b≠0)) (by simp));have h4:a.data.toList.length≤90000000:=dec (hc (decide (a.data.toList.length≤90000000)) (by simp));have h5:b.data.toList.length≤90000000:=dec (hc (decide (b.data.toList.length≤90000000)) (by simp));have l1:(aA (iv p a).natAbs).length≤90000000:=by rw[sW,jy _ (jW h1)];exact h4
   have l2:(aA (iv q b).natAbs).length≤90000000:=by rw[sW,jy _ (jW h2)];exact h5
   rw[zT h1,zT h2];generalize iv p a=x at*;generalize iv q b=y at*;have hs:=aeV x y h3 l1 l2;rw[←akb]at hs;generalize aI Tryz.prog apQ bX 1010 Tryz.f215 [dD x,dD y]=T at hs⊢;generalize Rat.divInt x y=z at hs⊢;exact Tr.bC (λr hr=>⟨by subst hr;rfl,bM.of_eq hr⟩) hs
  ·cases h
theorem ako: ∀f s,apR f=some s→aR Tryz.prog f s:=step_ok Pb.spec (step_ok O6.spec (bS akn.spec))
theorem YP:aN Tryz.prog 168 aeP:=by
 refine aM aj ako (fn:=Tryz.f168) (c:=codeOf Tryz.f168) (by kernel_rfl) (by kernel_rfl) (aG (fn:=Tryz.f168) (c:=codeOf Tryz.f168) (by kernel_rfl) (by kernel_rfl) (by kernel_rfl)) (L:=bX) (N:=1010) (ak _ _) ?_ ?_
 ·intro args v cs h
  unfold aeP at h
  split at h
  ·cases h;rfl
  ·cases h
 ·intro args v cs h hc
  unfold aeP at h
  split at h
  ·rename_i l m
   cases h;have h1:aK l=true:=hc (aK l) (by simp);have h2:aK m=true:=hc (aK m) (by simp);have h3:Pf (aB l) (aB m)=true:=hc (Pf (aB l) (aB m)) (by simp);have h4:aB m≠0:=dec (hc (decide (aB m≠0)) (by simp));obtain⟨x,rfl⟩: ∃x,l=aC x:=⟨_,dX h1⟩
   obtain⟨y,rfl⟩: ∃y,m=aC y:=⟨_,dX h2⟩
   simp only[dK]at*;have hs:=aeW x y h3 h4;rw[←akc]at hs;generalize aI Tryz.prog apR bX 1010 Tryz.f168 [.agg (aC x),.agg (aC y)]=T at hs⊢;generalize hold (x/y)=z at hs⊢;exact Tr.bC (λr hr=>⟨by subst hr;rfl,bM.of_eq hr⟩) hs
  ·cases h
theorem akp: ∀f s,apS f=some s→aR Tryz.prog f s:=step_ok YO.spec (bS ajA.spec)
theorem YQ:aN Tryz.prog 192 aeQ:=by
 refine aM aj akp (fn:=Tryz.f192) (c:=codeOf Tryz.f192) (by kernel_rfl) (by kernel_rfl) (aG (fn:=Tryz.f192) (c:=codeOf Tryz.f192) (by kernel_rfl) (by kernel_rfl) (by kernel_rfl)) (L:=bX) (N:=1010) (ak _ _) ?_ ?_
 ·intro args v cs h
  unfold aeQ at h
  split at h
  ·cases h;rfl
  ·cases h
 ·intro args v cs h hc
  unfold aeQ at h
  split at h
  ·rename_i l m
   cases h;have h1:aK l=true:=hc (aK l) (by simp);have h2:aK m=true:=hc (aK m) (by simp);have h3:uf (aB l) (aB m)=true:=hc (uf (aB l) (aB m)) (by simp);obtain⟨x,rfl⟩: ∃x,l=aC x:=⟨_,dX h1⟩
   obtain⟨y,rfl⟩: ∃y,m=aC y:=⟨_,dX h2⟩
   simp only[dK]at*;have hs:=aeX x y h3;rw[←akd]at hs;generalize aI Tryz.prog apS bX 1010 Tryz.f192 [.agg (aC x),.agg (aC y)]=T at hs⊢;generalize gW (x.num*y.den) (y.num*x.den)=z at hs⊢;exact Tr.bC (λr hr=>⟨by subst hr;rfl,bM.of_eq hr⟩) hs
  ·cases h
end Go.bI
namespace Go.bI
open Go.Proofs
structure Q3 where
 c0:Rat
 c1:Rat
 c2:Rat
structure R3 where
 p:Rat
 r:Rat
 neg:Bool
structure L4 where
 x0:Rat
 x1:Rat
 y0:Rat
 y1:Rat
def cK(q:Q3):List AV:=aC q.c0++(aC q.c1++aC q.c2)
def aY(x:R3):List AV:=aC x.p++(aC x.r++[.c (.v (.bool x.neg))])
def dF(x:L4):List AV:=aC x.x0++(aC x.x1++(aC x.y0++aC x.y1))
def jN(q:Q3):AV:= .agg (cK q)
def DC(x:R3):AV:= .agg (aY x)
def zu(x:L4):AV:= .agg (dF x)
def nK:List AV→Bool
 | [.c (.v (.bool b))]=>b
 | _=>false
def ug:List AV→Bool
 | [.c (.v (.bool b))]=>true
 | _=>false
def aX(l:List AV):Q3:=⟨aB (l.take 4),aB ((l.drop 4).take 4),aB (l.drop 8)⟩
def dI(l:List AV):Bool:=aK (l.take 4)&&aK ((l.drop 4).take 4)&&aK (l.drop 8)
def bW(l:List AV):R3:=⟨aB (l.take 4),aB ((l.drop 4).take 4),nK (l.drop 8)⟩
def dN(l:List AV):Bool:=aK (l.take 4)&&aK ((l.drop 4).take 4)&&ug (l.drop 8)
def fA(l:List AV):L4:=⟨aB (l.take 4),aB ((l.drop 4).take 4),aB ((l.drop 8).take 4),aB (l.drop 12)⟩
def gL(l:List AV):Bool:=aK (l.take 4)&&aK ((l.drop 4).take 4)&&aK ((l.drop 8).take 4)&&aK (l.drop 12)
theorem nu{l:List AV}(h:dI l=true):l=cK (aX l):=by
 simp only[dI,cu]at h;obtain⟨⟨h1,h2⟩,h3⟩:=h;have e1:=dX h1;have e2:=dX h2;have e3:=dX h3
 show l=aC (aB (l.take 4))++(aC (aB ((l.drop 4).take 4))++aC (aB (l.drop 8)))
 rw[←e1, ←e2, ←e3];have:=List.take_append_drop 4 (l.drop 4);rw[List.drop_drop]at this;rw[this,List.take_append_drop]
theorem lS{l:List AV}(h:dN l=true):l=aY (bW l):=by
 simp only[dN,cu]at h;obtain⟨⟨h1,h2⟩,h3⟩:=h;have e1:=dX h1;have e2:=dX h2;have e3:l.drop 8=[.c (.v (.bool (nK (l.drop 8))))]:=by
  unfold ug at h3
  split at h3
  ·rename_i b hb;rw[hb];rfl
  ·cases h3
 show l=aC (aB (l.take 4))++(aC (aB ((l.drop 4).take 4))++[.c (.v (.bool (nK (l.drop 8))))])
 rw[←e1, ←e2, ←e3];have:=List.take_append_drop 4 (l.drop 4);rw[List.drop_drop]at this;rw[this,List.take_append_drop]
theorem lT{l:List AV}(h:gL l=true):l=dF (fA l):=by
 simp only[gL,cu]at h;obtain⟨⟨⟨h1,h2⟩,h3⟩,h4⟩:=h;have e1:=dX h1;have e2:=dX h2;have e3:=dX h3;have e4:=dX h4
 show l=aC (aB (l.take 4))++(aC (aB ((l.drop 4).take 4))++(aC (aB ((l.drop 8).take 4))++aC (aB (l.drop 12))))
 rw[←e1, ←e2, ←e3, ←e4];have h8:=List.take_append_drop 4 (l.drop 8);rw[List.drop_drop]at h8;have:=List.take_append_drop 4 (l.drop 4);rw[List.drop_drop]at this;rw[h8,this,List.take_append_drop]
theorem jm(q:Q3):aX (cK q)=q:=by
 show Q3.mk (aB (aC q.c0)) (aB (aC q.c1)) (aB (aC q.c2))=q
 rw[dK,dK,dK]
theorem dM(x:R3):bW (aY x)=x:=by
 show R3.mk (aB (aC x.p)) (aB (aC x.r)) x.neg=x
 rw[dK,dK]
theorem bD(x:L4):fA (dF x)=x:=by
 show L4.mk (aB (aC x.x0)) (aB (aC x.x1)) (aB (aC x.y0)) (aB (aC x.y1))=x
 rw[dK,dK,dK,dK]
section
variable(a1 a2 a3 a4 b1 b2 b3 b4 c1 c2 c3 c4 d1 d2 d3 d4:AV)
theorem iE:aX [a1,a2,a3,a4,b1,b2,b3,b4,c1,c2,c3,c4]=⟨aB [a1,a2,a3,a4],aB [b1,b2,b3,b4],aB [c1,c2,c3,c4]⟩:=rfl
theorem gH:dI [a1,a2,a3,a4,b1,b2,b3,b4,c1,c2,c3,c4]=(aK [a1,a2,a3,a4]&&aK [b1,b2,b3,b4]&&aK [c1,c2,c3,c4]):=rfl
theorem jh(b:Bool):bW [a1,a2,a3,a4,b1,b2,b3,b4,.c (.v (.bool b))]=⟨aB [a1,a2,a3,a4],aB [b1,b2,b3,b4],b⟩:=rfl
theorem iH(b:Bool):dN [a1,a2,a3,a4,b1,b2,b3,b4,.c (.v (.bool b))]=(aK [a1,a2,a3,a4]&&aK [b1,b2,b3,b4]&&true):=rfl
theorem iU:fA [a1,a2,a3,a4,b1,b2,b3,b4,c1,c2,c3,c4,d1,d2,d3,d4]=⟨aB [a1,a2,a3,a4],aB [b1,b2,b3,b4],aB [c1,c2,c3,c4],aB [d1,d2,d3,d4]⟩:=rfl
theorem iy:gL [a1,a2,a3,a4,b1,b2,b3,b4,c1,c2,c3,c4,d1,d2,d3,d4]=(aK [a1,a2,a3,a4]&&aK [b1,b2,b3,b4]&&aK [c1,c2,c3,c4]&&aK [d1,d2,d3,d4]):=rfl
end
def lX(p q:Q3):Q3:=⟨p.c0-q.c0,p.c1-q.c1,p.c2-q.c2⟩
def Bn(q:Q3)(t:Rat):Rat:=q.c0+t*(q.c1+t*q.c2)
def zw(q:Q3)(t:Rat):Rat:=q.c1+(q.c2+q.c2)*t
def nT(x y:Rat):Bool:=jZ x (-y)
def iN(p q:Q3):Bool:=nT p.c0 q.c0&&nT p.c1 q.c1&&nT p.c2 q.c2
def om(q:Q3)(t:Rat):Bool:=kX t q.c2&&jZ q.c1 (t*q.c2)&&kX t (q.c1+t*q.c2)&&jZ q.c0 (t*(q.c1+t*q.c2))
def lN(q:Q3)(t:Rat):Bool:=jZ q.c2 q.c2&&kX (q.c2+q.c2) t&&jZ q.c1 ((q.c2+q.c2)*t)
def mkP(p q r:Rat):Rat:=bif decide (r=0)then p+q*0 else p
def mkR(p q r:Rat):Rat:=bif decide (r=0)then 0 else q*q*r
def mkN(p q r:Rat):Bool:=bif decide (r=0)then false else decide (q.num<0)
def YR(p q r:Rat):Bool:=(decide (r=0) || decide (r=2))&&kX q 0&&jZ p (q*0)&&kX q q&&kX (q*q) r
def l8(a b r:Rat):Int:=
 let m:=gW a.num 0
 let n:=gW b.num 0*gW r.num 0
 if n=0∨m=n then m else if m=0 then n else m*gW ((a*a).num*(b*b*r).den) ((b*b*r).num*(a*a).den)
def nA(a b r:Rat):Bool:=kX a a&&kX b b&&kX (b*b) r&&uf (a*a) (b*b*r)
theorem pX(a b:Int):gW a b= -1∨gW a b=0∨gW a b=1:=by
 unfold gW;by_cases h:a<b
 ·rw[if_pos h];exact .inl rfl
 ·rw[if_neg h]
  by_cases k:a>b
  ·rw[if_pos k];exact .inr (.inr rfl)
  ·rw[if_neg k];exact .inr (.inl rfl)
end Go.bI
namespace Go.bI
open Go.Proofs
def aeY:List AV→Option (AV×List Bool)
 | [.agg l1,.agg l2]=>some (jN ⟨hold ((aX l1).c0-(aX l2).c0),hold ((aX l1).c1-(aX l2).c1),hold ((aX l1).c2-(aX l2).c2)⟩,[dI l1,dI l2,iN (aX l1) (aX l2)])
 | _=>none
def akq:List AV→Option (AV×List Bool)
 | [.agg l1,.agg l2]=>some (nR (hold (Bn (aX l1) (aB l2))),[dI l1,aK l2,om (aX l1) (aB l2)])
 | _=>none
def akr:List AV→Option (AV×List Bool)
 | [.agg l1,.agg l2]=>some (nR (hold (zw (aX l1) (aB l2))),[dI l1,aK l2,lN (aX l1) (aB l2)])
 | _=>none
def aeZ:List AV→Option (AV×List Bool)
 | [.agg l1,.agg l2,.agg l3]=>some (dn .i64 (l8 (aB l1) (aB l2) (aB l3)),[aK l1,aK l2,aK l3,nA (aB l1) (aB l2) (aB l3)])
 | _=>none
def ap0:FuncId→Option Spec:=λf=>bif Nat.beq f 120 then some (ay Pg)else none
def ap1:FuncId→Option Spec:=λf=>bif Nat.beq f 121 then some (ay J8)else bif Nat.beq f 122 then some (ay J7)else none
def ap2:FuncId→Option Spec:=λf=>bif Nat.beq f 121 then some (ay J8)else bif Nat.beq f 122 then some (ay J7)else none
def ap3:FuncId→Option Spec:=λf=>bif Nat.beq f 153 then some (ay RG)else bif Nat.beq f 121 then some (ay J8)else bif Nat.beq f 192 then some (ay aeQ)else none
def ap4(v1:Q3)(v2:Q3):Tr AV:=
 let x1:List AV:=[.c (.v (.bool (decide (v1.c0.num<0)))),.c (.v (.string ⟨⟨aA v1.c0.num.natAbs⟩⟩)),.c (.v (.bool false)),.c (.v (.string ⟨⟨aH v1.c0.den⟩⟩))]
 let x2:List AV:=[.c (.v (.bool (decide (v2.c0.num<0)))),.c (.v (.string ⟨⟨aA v2.c0.num.natAbs⟩⟩)),.c (.v (.bool false)),.c (.v (.string ⟨⟨aH v2.c0.den⟩⟩))]
 let x3:List AV:=[.c (.v (.bool (decide (v1.c1.num<0)))),.c (.v (.string ⟨⟨aA v1.c1.num.natAbs⟩⟩)),.c (.v (.bool false)),.c (.v (.string ⟨⟨aH v1.c1.den⟩⟩))]
 let x4:List AV:=[.c (.v (.bool (decide (v2.c1.num<0)))),.c (.v (.string ⟨⟨aA v2.c1.num.natAbs⟩⟩)),.c (.v (.bool false)),.c (.v (.string ⟨⟨aH v2.c1.den⟩⟩))]
 let x5:List AV:=[.c (.v (.bool (decide (v1.c2.num<0)))),.c (.v (.string ⟨⟨aA v1.c2.num.natAbs⟩⟩)),.c (.v (.bool false)),.c (.v (.string ⟨⟨aH v1.c2.den⟩⟩))]
 let x6:List AV:=[.c (.v (.bool (decide (v2.c2.num<0)))),.c (.v (.string ⟨⟨aA v2.c2.num.natAbs⟩⟩)),.c (.v (.bool false)),.c (.v (.string ⟨⟨aH v2.c2.den⟩⟩))]
 let x7:Int:=(hold (aB x1-aB x2)).num
 let x8:Int:=(hold (aB x3-aB x4)).num
 let x9:Int:=(hold (aB x5-aB x6)).num
 .need (aK x1) (.need (aK x2) (.need (jZ (aB x1) (-aB x2)) (.need (aK x3) (.need (aK x4) (.need (jZ (aB x3) (-aB x4)) (.need (aK x5) (.need (aK x6) (.need (jZ (aB x5) (-aB x6)) (.ret (AV.agg [.c (.v (.bool (decide (x7<0)))),.c (.v (.string ⟨⟨aA x7.natAbs⟩⟩)),.c (.v (.bool false)),.c (.v (.string ⟨⟨aH (hold (aB x1-aB x2)).den⟩⟩)),.c (.v (.bool (decide (x8<0)))),.c (.v (.string ⟨⟨aA x8.natAbs⟩⟩)),.c (.v (.bool false)),.c (.v (.string ⟨⟨aH (hold (aB x3-aB x4)).den⟩⟩)),.c (.v (.bool (decide (x9<0)))),.c (.v (.string ⟨⟨aA x9.natAbs⟩⟩)),.c (.v (.bool false)),.c (.v (.string ⟨⟨aH (hold (aB x5-aB x6)).den⟩⟩))]))))))))))
def ap5(v1:Q3)(v2:Rat):Tr AV:=
 let x1:List AV:=[.c (.v (.bool (decide (v2.num<0)))),.c (.v (.string ⟨⟨aA v2.num.natAbs⟩⟩)),.c (.v (.bool false)),.c (.v (.string ⟨⟨aH v2.den⟩⟩))]
 let x2:List AV:=[.c (.v (.bool (decide (v1.c2.num<0)))),.c (.v (.string ⟨⟨aA v1.c2.num.natAbs⟩⟩)),.c (.v (.bool false)),.c (.v (.string ⟨⟨aH v1.c2.den⟩⟩))]
 let x3:List AV:=[.c (.v (.bool (decide (v1.c1.num<0)))),.c (.v (.string ⟨⟨aA v1.c1.num.natAbs⟩⟩)),.c (.v (.bool false)),.c (.v (.string ⟨⟨aH v1.c1.den⟩⟩))]
 let x4:Int:=(hold (aB x1*aB x2)).num
 let x5:List AV:=[.c (.v (.bool (decide (x4<0)))),.c (.v (.string ⟨⟨aA x4.natAbs⟩⟩)),.c (.v (.bool false)),.c (.v (.string ⟨⟨aH (hold (aB x1*aB x2)).den⟩⟩))]
 let x6:Int:=(hold (aB x3+aB x5)).num
 let x7:List AV:=[.c (.v (.bool (decide (x6<0)))),.c (.v (.string ⟨⟨aA x6.natAbs⟩⟩)),.c (.v (.bool false)),.c (.v (.string ⟨⟨aH (hold (aB x3+aB x5)).den⟩⟩))]
 let x8:List AV:=[.c (.v (.bool (decide (v1.c0.num<0)))),.c (.v (.string ⟨⟨aA v1.c0.num.natAbs⟩⟩)),.c (.v (.bool false)),.c (.v (.string ⟨⟨aH v1.c0.den⟩⟩))]
 let x9:Int:=(hold (aB x1*aB x7)).num
 let x10:List AV:=[.c (.v (.bool (decide (x9<0)))),.c (.v (.string ⟨⟨aA x9.natAbs⟩⟩)),.c (.v (.bool false)),.c (.v (.string ⟨⟨aH (hold (aB x1*aB x7)).den⟩⟩))]
 let fI:Int:=(hold (aB x8+aB x10)).num
 .need (aK x1) (.need (aK x2) (.need (kX (aB x1) (aB x2)) (.need (aK x3) (.need (aK x5) (.need (jZ (aB x3) (aB x5)) (.need (aK x1) (.need (aK x7) (.need (kX (aB x1) (aB x7)) (.need (aK x8) (.need (aK x10) (.need (jZ (aB x8) (aB x10)) (.ret (AV.agg [.c (.v (.bool (decide (fI<0)))),.c (.v (.string ⟨⟨aA fI.natAbs⟩⟩)),.c (.v (.bool false)),.c (.v (.string ⟨⟨aH (hold (aB x8+aB x10)).den⟩⟩))])))))))))))))
def ap6(v1:Q3)(v2:Rat):Tr AV:=
 let x1:List AV:=[.c (.v (.bool (decide (v1.c2.num<0)))),.c (.v (.string ⟨⟨aA v1.c2.num.natAbs⟩⟩)),.c (.v (.bool false)),.c (.v (.string ⟨⟨aH v1.c2.den⟩⟩))]
 let x2:Int:=(hold (aB x1+aB x1)).num
 let x3:List AV:=[.c (.v (.bool (decide (x2<0)))),.c (.v (.string ⟨⟨aA x2.natAbs⟩⟩)),.c (.v (.bool false)),.c (.v (.string ⟨⟨aH (hold (aB x1+aB x1)).den⟩⟩))]
 let x4:List AV:=[.c (.v (.bool (decide (v2.num<0)))),.c (.v (.string ⟨⟨aA v2.num.natAbs⟩⟩)),.c (.v (.bool false)),.c (.v (.string ⟨⟨aH v2.den⟩⟩))]
 let x5:List AV:=[.c (.v (.bool (decide (v1.c1.num<0)))),.c (.v (.string ⟨⟨aA v1.c1.num.natAbs⟩⟩)),.c (.v (.bool false)),.c (.v (.string ⟨⟨aH v1.c1.den⟩⟩))]
 let x6:Int:=(hold (aB x3*aB x4)).num
 let x7:List AV:=[.c (.v (.bool (decide (x6<0)))),.c (.v (.string ⟨⟨aA x6.natAbs⟩⟩)),.c (.v (.bool false)),.c (.v (.string ⟨⟨aH (hold (aB x3*aB x4)).den⟩⟩))]
 let x8:Int:=(hold (aB x5+aB x7)).num
 .need (aK x1) (.need (aK x1) (.need (jZ (aB x1) (aB x1)) (.need (aK x3) (.need (aK x4) (.need (kX (aB x3) (aB x4)) (.need (aK x5) (.need (aK x7) (.need (jZ (aB x5) (aB x7)) (.ret (AV.agg [.c (.v (.bool (decide (x8<0)))),.c (.v (.string ⟨⟨aA x8.natAbs⟩⟩)),.c (.v (.bool false)),.c (.v (.string ⟨⟨aH (hold (aB x5+aB x7)).den⟩⟩))]))))))))))
def ap7(v1:Rat)(v2:Rat)(v3:Rat):Tr AV:=
 let x1:List AV:=[.c (.v (.bool (decide (v1.num<0)))),.c (.v (.string ⟨⟨aA v1.num.natAbs⟩⟩)),.c (.v (.bool false)),.c (.v (.string ⟨⟨aH v1.den⟩⟩))]
 let x2:List AV:=[.c (.v (.bool (decide (v2.num<0)))),.c (.v (.string ⟨⟨aA v2.num.natAbs⟩⟩)),.c (.v (.bool false)),.c (.v (.string ⟨⟨aH v2.den⟩⟩))]
 let x3:List AV:=[.c (.v (.bool (decide (v3.num<0)))),.c (.v (.string ⟨⟨aA v3.num.natAbs⟩⟩)),.c (.v (.bool false)),.c (.v (.string ⟨⟨aH v3.den⟩⟩))]
 let x4:Int:=IntKind.i64.wrap (gW (aB x2).num 0*gW (aB x3).num 0)
 let x5:Int:=gW (aB x1).num 0
 let x6:Int:=(hold (aB x2*aB x2)).num
 let x7:List AV:=[.c (.v (.bool (decide (x6<0)))),.c (.v (.string ⟨⟨aA x6.natAbs⟩⟩)),.c (.v (.bool false)),.c (.v (.string ⟨⟨aH (hold (aB x2*aB x2)).den⟩⟩))]
 let x8:Int:=(hold (aB x1*aB x1)).num
 let x9:List AV:=[.c (.v (.bool (decide (x8<0)))),.c (.v (.string ⟨⟨aA x8.natAbs⟩⟩)),.c (.v (.bool false)),.c (.v (.string ⟨⟨aH (hold (aB x1*aB x1)).den⟩⟩))]
 let x10:Int:=(hold (aB x7*aB x3)).num
 let fI:List AV:=[.c (.v (.bool (decide (x10<0)))),.c (.v (.string ⟨⟨aA x10.natAbs⟩⟩)),.c (.v (.bool false)),.c (.v (.string ⟨⟨aH (hold (aB x7*aB x3)).den⟩⟩))]
 .need (aK x1) (.need (aK x2) (.need (aK x3) (.need (bif x4==0 then true else true) (.ite (bif x4==0 then true else bif false then true else x5==x4) (.ret (.c (.v (.int IntKind.i64 x5)))) (.ite (x5==0) (.ret (.c (.v (.int IntKind.i64 x4)))) (.need (aK x1) (.need (aK x1) (.need (kX (aB x1) (aB x1)) (.need (aK x2) (.need (aK x2) (.need (kX (aB x2) (aB x2)) (.need (aK x7) (.need (aK x3) (.need (kX (aB x7) (aB x3)) (.need (aK x9) (.need (aK fI) (.need (uf (aB x9) (aB fI)) (.ret (.c (.v (.int IntKind.i64 (IntKind.i64.wrap (x5*gW ((aB x9).num* ↑(aB fI).den) ((aB fI).num* ↑(aB x9).den))))))))))))))))))))))))
theorem aks(v1:Q3)(v2:Q3):aI Tryz.prog ap0 bX 1010 Tryz.f91 [.agg (cK v1),.agg (cK v2)]=ap4 v1 v2:=by kernel_rfl
theorem akt(v1:Q3)(v2:Rat):aI Tryz.prog ap1 bX 1010 Tryz.f119 [.agg (cK v1),.agg (aC v2)]=ap5 v1 v2:=by kernel_rfl
theorem aku(v1:Q3)(v2:Rat):aI Tryz.prog ap2 bX 1010 Tryz.f123 [.agg (cK v1),.agg (aC v2)]=ap6 v1 v2:=by kernel_rfl
theorem akv(v1:Rat)(v2:Rat)(v3:Rat):aI Tryz.prog ap3 bX 1010 Tryz.f152 [.agg (aC v1),.agg (aC v2),.agg (aC v3)]=ap7 v1 v2 v3:=by kernel_rfl
theorem ae0(v1:Q3)(v2:Q3)(c1:iN v1 v2=true):(ap4 v1 v2).sat λr=>r=jN ⟨hold (v1.c0-v2.c0),hold (v1.c1-v2.c1),hold (v1.c2-v2.c2)⟩:=by
 simp only[iN,nT,cu]at c1;simp only[ap4,dP,dB,iE,gH,jh,iH,iU,iy,lM,kF,ig,fQ,fV,Bool.and_self,sat_true,c1];exact av rfl
theorem ae1(v1:Q3)(v2:Rat)(c1:om v1 v2=true):(ap5 v1 v2).sat λr=>r=nR (hold (Bn v1 v2)):=by
 simp only[om,cu]at c1;simp only[ap5,dP,dB,iE,gH,jh,iH,iU,iy,lM,kF,ig,fQ,fV,Bool.and_self,sat_true,c1];exact av rfl
theorem ae2(v1:Q3)(v2:Rat)(c1:lN v1 v2=true):(ap6 v1 v2).sat λr=>r=nR (hold (zw v1 v2)):=by
 simp only[lN,cu]at c1;simp only[ap6,dP,dB,iE,gH,jh,iH,iU,iy,lM,kF,ig,fQ,fV,Bool.and_self,sat_true,c1];exact av rfl
theorem ae3(v1:Rat)(v2:Rat)(v3:Rat)(c1:nA v1 v2 v3=true):(ap7 v1 v2 v3).sat λr=>r=dn .i64 (l8 v1 v2 v3):=by
 simp only[nA,cu]at c1;have hw:IntKind.i64.wrap (gW v2.num 0*gW v3.num 0)=gW v2.num 0*gW v3.num 0:=by
  rcases pX v2.num 0 with h|h|h<;>rcases pX v3.num 0 with k|k|k<;>rw[h,k]<;>rfl
 have hw2: ∀a b:Int,IntKind.i64.wrap (gW v1.num 0*gW a b)=gW v1.num 0*gW a b:=by
  intro a b;rcases pX v1.num 0 with h|h|h<;>rcases pX a b with k|k|k<;>rw[h,k]<;>rfl
 simp only[ap7,dP,dB,iE,gH,jh,iH,iU,iy,lM,kF,ig,fQ,fV,Bool.and_self,sat_true,c1,hw,hw2];have hs: ∀z:Int,z=l8 v1 v2 v3→AV.c (.v (.int .i64 z))=dn .i64 (l8 v1 v2 v3):=λz hz=>by rw[hz];rfl
 refine ah (by cases (gW v2.num 0*gW v3.num 0==0)<;>rfl) (au (λh=>av (hs _ ?_)) (λh=>au (λk=>av (hs _ ?_)) (λk=> ?_)))
 ·unfold l8
  simp only[];rw[if_pos];cases h0:(gW v2.num 0*gW v3.num 0==0)with
  | true=>exact .inl (eq_of_beq h0)
  | false=>rw[h0]at h;exact .inr (eq_of_beq h)
 ·unfold l8
  simp only[];cases h0:(gW v2.num 0*gW v3.num 0==0)with
  | true=>rw[h0]at h;cases h
  | false=>
    rw[h0]at h;have h1: ¬(gW v2.num 0*gW v3.num 0=0∨gW v1.num 0=gW v2.num 0*gW v3.num 0):=by
     rintro(h1|h1)
     ·rw[h1]at h0;cases h0
     ·have:(gW v1.num 0==gW v2.num 0*gW v3.num 0)=true:=by rw[h1];simp
      rw[this]at h;cases h
    rw[if_neg h1,if_pos (eq_of_beq k)]
 ·simp only[sat_true]
  refine av (hs _ ?_);unfold l8;simp only[];cases h0:(gW v2.num 0*gW v3.num 0==0)with
  | true=>rw[h0]at h;cases h
  | false=>
    rw[h0]at h;have h1: ¬(gW v2.num 0*gW v3.num 0=0∨gW v1.num 0=gW v2.num 0*gW v3.num 0):=by
     rintro(h1|h1)
     ·rw[h1]at h0;cases h0
     ·have:(gW v1.num 0==gW v2.num 0*gW v3.num 0)=true:=by rw[h1];simp
      rw[this]at h;cases h
    have k1: ¬gW v1.num 0=0:=by
     intro hh;rw[hh]at k;cases k
    rw[if_neg h1,if_neg k1]
theorem akw: ∀f s,ap0 f=some s→aR Tryz.prog f s:=bS Ac.spec
theorem YS:aN Tryz.prog 91 aeY:=by
 refine aM aj akw (fn:=Tryz.f91) (c:=codeOf Tryz.f91) (by kernel_rfl) (by kernel_rfl) (aG (fn:=Tryz.f91) (c:=codeOf Tryz.f91) (by kernel_rfl) (by kernel_rfl) (by kernel_rfl)) (L:=bX) (N:=1010) (ak _ _) ?_ ?_
 ·intro args v cs h
  unfold aeY at h
  split at h
  ·cases h;rfl
  ·cases h
 ·intro args v cs h hc
  unfold aeY at h
  split at h
  ·rename_i l1 l2
   cases h;have h1:dI l1=true:=hc (dI l1) (by simp);have h2:dI l2=true:=hc (dI l2) (by simp);have c1:iN (aX l1) (aX l2)=true:=hc (iN (aX l1) (aX l2)) (by simp);obtain⟨v1,rfl⟩: ∃x,l1=cK x:=⟨_,nu h1⟩
   obtain⟨v2,rfl⟩: ∃x,l2=cK x:=⟨_,nu h2⟩
   simp only[jm]at*;have hs:=ae0 v1 v2 c1;rw[←aks]at hs;generalize aI Tryz.prog ap0 bX 1010 Tryz.f91 [.agg (cK v1),.agg (cK v2)]=T at hs⊢;generalize hold (v1.c0-v2.c0)=z0 at hs⊢;generalize hold (v1.c1-v2.c1)=z1 at hs⊢;generalize hold (v1.c2-v2.c2)=z2 at hs⊢;exact Tr.bC (λr hr=>⟨by subst hr;rfl,bM.of_eq hr⟩) hs
  ·cases h
theorem akx: ∀f s,ap1 f=some s→aR Tryz.prog f s:=step_ok vC.spec (bS vw.spec)
theorem aky:aN Tryz.prog 119 akq:=by
 refine aM aj akx (fn:=Tryz.f119) (c:=codeOf Tryz.f119) (by kernel_rfl) (by kernel_rfl) (aG (fn:=Tryz.f119) (c:=codeOf Tryz.f119) (by kernel_rfl) (by kernel_rfl) (by kernel_rfl)) (L:=bX) (N:=1010) (ak _ _) ?_ ?_
 ·intro args v cs h
  unfold akq at h
  split at h
  ·cases h;rfl
  ·cases h
 ·intro args v cs h hc
  unfold akq at h
  split at h
  ·rename_i l1 l2
   cases h;have h1:dI l1=true:=hc (dI l1) (by simp);have h2:aK l2=true:=hc (aK l2) (by simp);have c1:om (aX l1) (aB l2)=true:=hc (om (aX l1) (aB l2)) (by simp);obtain⟨v1,rfl⟩: ∃x,l1=cK x:=⟨_,nu h1⟩
   obtain⟨v2,rfl⟩: ∃x,l2=aC x:=⟨_,dX h2⟩
   simp only[jm,dK]at*;have hs:=ae1 v1 v2 c1;rw[←akt]at hs;generalize aI Tryz.prog ap1 bX 1010 Tryz.f119 [.agg (cK v1),.agg (aC v2)]=T at hs⊢;generalize hold (Bn v1 v2)=z at hs⊢;exact Tr.bC (λr hr=>⟨by subst hr;rfl,bM.of_eq hr⟩) hs
  ·cases h
theorem akz: ∀f s,ap2 f=some s→aR Tryz.prog f s:=step_ok vC.spec (bS vw.spec)
theorem akA:aN Tryz.prog 123 akr:=by
 refine aM aj akz (fn:=Tryz.f123) (c:=codeOf Tryz.f123) (by kernel_rfl) (by kernel_rfl) (aG (fn:=Tryz.f123) (c:=codeOf Tryz.f123) (by kernel_rfl) (by kernel_rfl) (by kernel_rfl)) (L:=bX) (N:=1010) (ak _ _) ?_ ?_
 ·intro args v cs h
  unfold akr at h
  split at h
  ·cases h;rfl
  ·cases h
 ·intro args v cs h hc
  unfold akr at h
  split at h
  ·rename_i l1 l2
   cases h;have h1:dI l1=true:=hc (dI l1) (by simp);have h2:aK l2=true:=hc (aK l2) (by simp);have c1:lN (aX l1) (aB l2)=true:=hc (lN (aX l1) (aB l2)) (by simp);obtain⟨v1,rfl⟩: ∃x,l1=cK x:=⟨_,nu h1⟩
   obtain⟨v2,rfl⟩: ∃x,l2=aC x:=⟨_,dX h2⟩
   simp only[jm,dK]at*;have hs:=ae2 v1 v2 c1;rw[←aku]at hs;generalize aI Tryz.prog ap2 bX 1010 Tryz.f123 [.agg (cK v1),.agg (aC v2)]=T at hs⊢;generalize hold (zw v1 v2)=z at hs⊢;exact Tr.bC (λr hr=>⟨by subst hr;rfl,bM.of_eq hr⟩) hs
  ·cases h
theorem akB: ∀f s,ap3 f=some s→aR Tryz.prog f s:=step_ok Dy.spec (step_ok vC.spec (bS YQ.spec))
theorem YT:aN Tryz.prog 152 aeZ:=by
 refine aM aj akB (fn:=Tryz.f152) (c:=codeOf Tryz.f152) (by kernel_rfl) (by kernel_rfl) (aG (fn:=Tryz.f152) (c:=codeOf Tryz.f152) (by kernel_rfl) (by kernel_rfl) (by kernel_rfl)) (L:=bX) (N:=1010) (ak _ _) ?_ ?_
 ·intro args v cs h
  unfold aeZ at h
  split at h
  ·cases h;rfl
  ·cases h
 ·intro args v cs h hc
  unfold aeZ at h
  split at h
  ·rename_i l1 l2 l3
   cases h;have h1:aK l1=true:=hc (aK l1) (by simp);have h2:aK l2=true:=hc (aK l2) (by simp);have h3:aK l3=true:=hc (aK l3) (by simp);have c1:nA (aB l1) (aB l2) (aB l3)=true:=hc (nA (aB l1) (aB l2) (aB l3)) (by simp);obtain⟨v1,rfl⟩: ∃x,l1=aC x:=⟨_,dX h1⟩
   obtain⟨v2,rfl⟩: ∃x,l2=aC x:=⟨_,dX h2⟩
   obtain⟨v3,rfl⟩: ∃x,l3=aC x:=⟨_,dX h3⟩
   simp only[dK]at*;have hs:=ae3 v1 v2 v3 c1;rw[←akv]at hs;generalize aI Tryz.prog ap3 bX 1010 Tryz.f152 [.agg (aC v1),.agg (aC v2),.agg (aC v3)]=T at hs⊢;generalize l8 v1 v2 v3=z at hs⊢;exact Tr.bC (λr hr=>⟨by subst hr;rfl,bM.of_eq hr⟩) hs
  ·cases h
end Go.bI
namespace Go.bI
open Go.Proofs
def Ka:List AV:=[.c (.v (.bool false)),.c (.v (.string ⟨⟨[]⟩⟩)),.c (.v (.bool false)),.c (.v (.string ⟨⟨[]⟩⟩))]
end Go.bI
namespace Go.bI
open Go.Proofs
def xK(b:Bool):Rat:=bif b then -1 else 1
def byQ(q:Q3)(t:R3):Rat:=bif t.neg then -(zw q t.p)else zw q t.p
def YU(q:Q3)(t:R3):Rat:=Bn q t.p+q.c2*t.r
def ath(q:Q3)(t:R3):Bool:=om q t.p&&kX q.c2 t.r&&jZ (Bn q t.p) (q.c2*t.r)&&lN q t.p&&YR (YU q t) (byQ q t) t.r
def atP(q:Q3)(t:R3):Rat:=mkP (YU q t) (byQ q t) t.r
def atR(q:Q3)(t:R3):Rat:=mkR (YU q t) (byQ q t) t.r
def atN(q:Q3)(t:R3):Bool:=mkN (YU q t) (byQ q t) t.r
def nU(q:Q3)(t:R3):Rat:=bif decide (t.r=0)then Bn q t.p else q.c0+q.c2*(t.r-t.p*t.p)
def oN(q:Q3)(t:R3):Rat:=bif decide (t.r=0)then 0 else zw q t.p
def kQ(q:Q3)(t:R3):Bool:=bif decide (t.r=0)then om q t.p else kX t.p t.p&&nT t.r (t.p*t.p)&&kX q.c2 (t.r-t.p*t.p)&&jZ q.c0 (q.c2*(t.r-t.p*t.p))&&lN q t.p
def jJ(t v u w:Rat):Rat:=(w-v)/(u-t)
def uh(t v u w:Rat):Bool:=nT w v&&nT u t&&Pf (w-v) (u-t)&&decide (u-t≠0)&&kX (jJ t v u w) t&&nT v (jJ t v u w*t)
theorem lF:aB [.c (.v (.bool false)),.c (.v (.string ⟨⟨[]⟩⟩)),.c (.v (.bool false)),.c (.v (.string ⟨⟨[]⟩⟩))]=0:=ig
theorem kM:aK [.c (.v (.bool false)),.c (.v (.string ⟨⟨[]⟩⟩)),.c (.v (.bool false)),.c (.v (.string ⟨⟨[]⟩⟩))]=true:=fQ
theorem oH(b:Bool):nK [.c (.v (.bool b))]=b:=rfl
theorem oI(x:Rat):(bA [bA [aH x.den==[],false==false].reverse,bA [aA x.num.natAbs==[],decide (x.num<0)==false].reverse].reverse)=decide (x=0):=by
 have h:=rF x 0;have e1:aH (0:Rat).den=[]:=rfl;have e2:aA (0:Rat).num.natAbs=[]:=iD;have e3:decide ((0:Rat).num<0)=false:=rfl;rw[e1,e2,e3]at h;exact h
theorem Kc:aC 0=Ka:=by
 unfold aC oq Ka;rw[show(0:Rat).num.natAbs=0 from rfl,iD];rfl
def av2:List AV→Option (AV×List Bool)
 | [.agg l1]=>some (.iC [.agg Ka,bL (decide ((aB l1)=0))],[aK l1,decide ((aB l1)=0) || decide ((aB l1)=2)])
 | _=>none
def ae4:List AV→Option (AV×List Bool)
 | [.agg l1]=>some (nR (hold (xK (bW l1).neg)),[dN l1])
 | _=>none
def av3:List AV→Option (AV×List Bool)
 | [.agg l1,.agg l2,.agg l3]=>some (.iC [DC ⟨hold (mkP (aB l1) (aB l2) (aB l3)),hold (mkR (aB l1) (aB l2) (aB l3)),mkN (aB l1) (aB l2) (aB l3)⟩,dn .i64 0],[aK l1,aK l2,aK l3,YR (aB l1) (aB l2) (aB l3)])
 | _=>none
def av4:List AV→Option (AV×List Bool)
 | [.agg l1,.agg l2]=>some (DC ⟨hold (atP (aX l1) (bW l2)),hold (atR (aX l1) (bW l2)),atN (aX l1) (bW l2)⟩,[dI l1,dN l2,ath (aX l1) (bW l2)])
 | _=>none
def akC:List AV→Option (AV×List Bool)
 | [.agg l1]=>some (.iC [nR (hold (bif decide ((bW l1).r=0)then(bW l1).p else 0)),bL (decide ((bW l1).r=0))],[dN l1])
 | _=>none
def aa5:List AV→Option (AV×List Bool)
 | [.agg l1,.agg l2]=>some (.agg (aC (hold (nU (aX l1) (bW l2)))++(aC (hold (oN (aX l1) (bW l2)))++Ka)),[dI l1,dN l2,kQ (aX l1) (bW l2)])
 | _=>none
def ae5:List AV→Option (AV×List Bool)
 | [.agg l1,.agg l2,.agg l3]=>some (bL (decide (nU (lX (aX l1) (aX l2)) (bW l3)=0)&&decide (oN (lX (aX l1) (aX l2)) (bW l3)=0)),[dI l1,dI l2,dN l3,iN (aX l1) (aX l2),kQ (lX (aX l1) (aX l2)) (bW l3)])
 | _=>none
def akD:List AV→Option (AV×List Bool)
 | [.agg l1,.agg l2,.agg l3,.agg l4]=>some (.iC [.agg (aC (hold ((aB l2)-jJ (aB l1) (aB l2) (aB l3) (aB l4)*(aB l1)))++(aC (hold (jJ (aB l1) (aB l2) (aB l3) (aB l4)))++Ka)),dn .i64 0],[aK l1,aK l2,aK l3,aK l4,uh (aB l1) (aB l2) (aB l3) (aB l4)])
 | _=>none
def ap8:FuncId→Option Spec:=λf=>bif Nat.beq f 28 then some (ay VT)else none
def ae6:FuncId→Option Spec:=λf=>bif Nat.beq f 118 then some (ay akC)else bif Nat.beq f 119 then some (ay akq)else bif Nat.beq f 121 then some (ay J8)else bif Nat.beq f 120 then some (ay Pg)else bif Nat.beq f 122 then some (ay J7)else bif Nat.beq f 123 then some (ay akr)else none
def ap9:FuncId→Option Spec:=λf=>bif Nat.beq f 91 then some (ay aeY)else bif Nat.beq f 67 then some (ay aa5)else none
def ae7:FuncId→Option Spec:=λf=>bif Nat.beq f 120 then some (ay Pg)else bif Nat.beq f 168 then some (ay aeP)else bif Nat.beq f 121 then some (ay J8)else none
def aqa(v1:R3):Tr AV:=
 let x1:List AV:=[.c (.v (.bool false)),.c (.v (.string ⟨⟨aH 1⟩⟩))]
 .ite v1.neg (.need true (.need true (.ret (AV.agg (.c (.v (.bool true)):: .c (.v (.string ⟨⟨aA (-1).natAbs⟩⟩))::x1))))) (.need true (.need true (.ret (AV.agg (.c (.v (.bool false)):: .c (.v (.string ⟨⟨aA (Int.natAbs 1)⟩⟩))::x1)))))
def aqb(v1:R3):Tr AV:=
 .ite (!bA [bA [aH v1.r.den==[],false==false].reverse,bA [aA v1.r.num.natAbs==[],decide (v1.r.num<0)==false].reverse].reverse) (.ret (AV.iC [AV.agg [.c (.v (.bool false)),.c (.v (.string {data:= #[]})),.c (.v (.bool false)),.c (.v (.string {data:= #[]}))],.c (.v (.bool false))])) (.ret (AV.iC [AV.agg [.c (.v (.bool (decide (v1.p.num<0)))),.c (.v (.string ⟨⟨aA v1.p.num.natAbs⟩⟩)),.c (.v (.bool false)),.c (.v (.string ⟨⟨aH v1.p.den⟩⟩))],.c (.v (.bool true))]))
def aqc(v1:Q3)(v2:R3):Tr AV:=
 let x1:List AV:=[.c (.v (.bool (decide (v2.p.num<0)))),.c (.v (.string ⟨⟨aA v2.p.num.natAbs⟩⟩)),.c (.v (.bool false)),.c (.v (.string ⟨⟨aH v2.p.den⟩⟩)),.c (.v (.bool (decide (v2.r.num<0)))),.c (.v (.string ⟨⟨aA v2.r.num.natAbs⟩⟩)),.c (.v (.bool false)),.c (.v (.string ⟨⟨aH v2.r.den⟩⟩)),.c (.v (.bool v2.neg))]
 let x2:List AV:=[.c (.v (.bool (decide (v1.c2.num<0)))),.c (.v (.string ⟨⟨aA v1.c2.num.natAbs⟩⟩)),.c (.v (.bool false)),.c (.v (.string ⟨⟨aH v1.c2.den⟩⟩))]
 let x3:List AV:= .c (.v (.bool (decide (v1.c0.num<0)))):: .c (.v (.string ⟨⟨aA v1.c0.num.natAbs⟩⟩)):: .c (.v (.bool false)):: .c (.v (.string ⟨⟨aH v1.c0.den⟩⟩)):: .c (.v (.bool (decide (v1.c1.num<0)))):: .c (.v (.string ⟨⟨aA v1.c1.num.natAbs⟩⟩)):: .c (.v (.bool false)):: .c (.v (.string ⟨⟨aH v1.c1.den⟩⟩))::x2
 let x4:Int:=(hold (bif decide (aB (List.take 4 (List.drop 4 x1))=0)then aB (List.take 4 x1)else 0)).num
 let x5:List AV:=[.c (.v (.bool (decide (x4<0)))),.c (.v (.string ⟨⟨aA x4.natAbs⟩⟩)),.c (.v (.bool false)),.c (.v (.string ⟨⟨aH (hold (bif decide (aB (List.take 4 (List.drop 4 x1))=0)then aB (List.take 4 x1)else 0)).den⟩⟩))]
 let x6:Int:=(hold (Bn (aX x3) (aB x5))).num
 let x7:List AV:=[.c (.v (.bool false)),.c (.v (.string {data:= #[]})),.c (.v (.bool false)),.c (.v (.string {data:= #[]}))]
 let x8:List AV:=[.c (.v (.bool (decide (v2.p.num<0)))),.c (.v (.string ⟨⟨aA v2.p.num.natAbs⟩⟩)),.c (.v (.bool false)),.c (.v (.string ⟨⟨aH v2.p.den⟩⟩))]
 let x9:List AV:=[.c (.v (.bool (decide (v2.r.num<0)))),.c (.v (.string ⟨⟨aA v2.r.num.natAbs⟩⟩)),.c (.v (.bool false)),.c (.v (.string ⟨⟨aH v2.r.den⟩⟩))]
 let x10:Int:=(hold (aB x8*aB x8)).num
 let fI:List AV:=[.c (.v (.bool (decide (x10<0)))),.c (.v (.string ⟨⟨aA x10.natAbs⟩⟩)),.c (.v (.bool false)),.c (.v (.string ⟨⟨aH (hold (aB x8*aB x8)).den⟩⟩))]
 let fU:Int:=(hold (aB x9-aB fI)).num
 let iM:List AV:=[.c (.v (.bool (decide (fU<0)))),.c (.v (.string ⟨⟨aA fU.natAbs⟩⟩)),.c (.v (.bool false)),.c (.v (.string ⟨⟨aH (hold (aB x9-aB fI)).den⟩⟩))]
 let iR:List AV:=[.c (.v (.bool (decide (v1.c0.num<0)))),.c (.v (.string ⟨⟨aA v1.c0.num.natAbs⟩⟩)),.c (.v (.bool false)),.c (.v (.string ⟨⟨aH v1.c0.den⟩⟩))]
 let jH:Int:=(hold (aB x2*aB iM)).num
 let kE:List AV:=[.c (.v (.bool (decide (jH<0)))),.c (.v (.string ⟨⟨aA jH.natAbs⟩⟩)),.c (.v (.bool false)),.c (.v (.string ⟨⟨aH (hold (aB x2*aB iM)).den⟩⟩))]
 let jD:Int:=(hold (aB iR+aB kE)).num
 let x18:Int:=(hold (zw (aX x3) (aB x8))).num
 .need (dN x1) (.ite (decide (aB (List.take 4 (List.drop 4 x1))=0)) (.need (dI x3) (.need (aK x5) (.need (om (aX x3) (aB x5)) (.ret (AV.agg (.c (.v (.bool (decide (x6<0)))):: .c (.v (.string ⟨⟨aA x6.natAbs⟩⟩)):: .c (.v (.bool false)):: .c (.v (.string ⟨⟨aH (hold (Bn (aX x3) (aB x5))).den⟩⟩)):: .c (.v (.bool false)):: .c (.v (.string {data:= #[]})):: .c (.v (.bool false)):: .c (.v (.string {data:= #[]}))::x7)))))) (.need (aK x8) (.need (aK x8) (.need (kX (aB x8) (aB x8)) (.need (aK x9) (.need (aK fI) (.need (jZ (aB x9) (-aB fI)) (.need (aK x2) (.need (aK iM) (.need (kX (aB x2) (aB iM)) (.need (aK iR) (.need (aK kE) (.need (jZ (aB iR) (aB kE)) (.need (dI x3) (.need (aK x8) (.need (lN (aX x3) (aB x8)) (.ret (AV.agg (.c (.v (.bool (decide (jD<0)))):: .c (.v (.string ⟨⟨aA jD.natAbs⟩⟩)):: .c (.v (.bool false)):: .c (.v (.string ⟨⟨aH (hold (aB iR+aB kE)).den⟩⟩)):: .c (.v (.bool (decide (x18<0)))):: .c (.v (.string ⟨⟨aA x18.natAbs⟩⟩)):: .c (.v (.bool false)):: .c (.v (.string ⟨⟨aH (hold (zw (aX x3) (aB x8))).den⟩⟩))::x7)))))))))))))))))))
def aqd(v1:Q3)(v2:Q3)(v3:R3):Tr AV:=
 let x1:List AV:=[.c (.v (.bool (decide (v1.c0.num<0)))),.c (.v (.string ⟨⟨aA v1.c0.num.natAbs⟩⟩)),.c (.v (.bool false)),.c (.v (.string ⟨⟨aH v1.c0.den⟩⟩)),.c (.v (.bool (decide (v1.c1.num<0)))),.c (.v (.string ⟨⟨aA v1.c1.num.natAbs⟩⟩)),.c (.v (.bool false)),.c (.v (.string ⟨⟨aH v1.c1.den⟩⟩)),.c (.v (.bool (decide (v1.c2.num<0)))),.c (.v (.string ⟨⟨aA v1.c2.num.natAbs⟩⟩)),.c (.v (.bool false)),.c (.v (.string ⟨⟨aH v1.c2.den⟩⟩))]
 let x2:List AV:=[.c (.v (.bool (decide (v2.c0.num<0)))),.c (.v (.string ⟨⟨aA v2.c0.num.natAbs⟩⟩)),.c (.v (.bool false)),.c (.v (.string ⟨⟨aH v2.c0.den⟩⟩)),.c (.v (.bool (decide (v2.c1.num<0)))),.c (.v (.string ⟨⟨aA v2.c1.num.natAbs⟩⟩)),.c (.v (.bool false)),.c (.v (.string ⟨⟨aH v2.c1.den⟩⟩)),.c (.v (.bool (decide (v2.c2.num<0)))),.c (.v (.string ⟨⟨aA v2.c2.num.natAbs⟩⟩)),.c (.v (.bool false)),.c (.v (.string ⟨⟨aH v2.c2.den⟩⟩))]
 let x3:Int:=(hold (aB (List.take 4 x1)-aB (List.take 4 x2))).num
 let x4:Int:=(hold (aB (List.take 4 (List.drop 4 x1))-aB (List.take 4 (List.drop 4 x2)))).num
 let x5:Int:=(hold (aB (List.drop 8 x1)-aB (List.drop 8 x2))).num
 let x6:List AV:=[.c (.v (.bool (decide (x3<0)))),.c (.v (.string ⟨⟨aA x3.natAbs⟩⟩)),.c (.v (.bool false)),.c (.v (.string ⟨⟨aH (hold (aB (List.take 4 x1)-aB (List.take 4 x2))).den⟩⟩)),.c (.v (.bool (decide (x4<0)))),.c (.v (.string ⟨⟨aA x4.natAbs⟩⟩)),.c (.v (.bool false)),.c (.v (.string ⟨⟨aH (hold (aB (List.take 4 (List.drop 4 x1))-aB (List.take 4 (List.drop 4 x2)))).den⟩⟩)),.c (.v (.bool (decide (x5<0)))),.c (.v (.string ⟨⟨aA x5.natAbs⟩⟩)),.c (.v (.bool false)),.c (.v (.string ⟨⟨aH (hold (aB (List.drop 8 x1)-aB (List.drop 8 x2))).den⟩⟩))]
 let x7:List AV:=[.c (.v (.bool (decide (v3.p.num<0)))),.c (.v (.string ⟨⟨aA v3.p.num.natAbs⟩⟩)),.c (.v (.bool false)),.c (.v (.string ⟨⟨aH v3.p.den⟩⟩)),.c (.v (.bool (decide (v3.r.num<0)))),.c (.v (.string ⟨⟨aA v3.r.num.natAbs⟩⟩)),.c (.v (.bool false)),.c (.v (.string ⟨⟨aH v3.r.den⟩⟩)),.c (.v (.bool v3.neg))]
 let x8:List Bool:=[false==false]
 let x9:Int:=(hold (oN (aX x6) (bW x7))).num
 let x10:Int:=(hold (nU (aX x6) (bW x7))).num
 .need (dI x1) (.need (dI x2) (.need (iN (aX x1) (aX x2)) (.need (dI x6) (.need (dN x7) (.need (kQ (aX x6) (bW x7)) (.ret (.c (.v (.bool (bA [bA [bA ((([]:List UInt8)==[])::x8).reverse,bA ((([]:List UInt8)==[])::x8).reverse].reverse,bA [bA ((aH (hold (oN (aX x6) (bW x7))).den==[])::x8).reverse,bA [aA x9.natAbs==[],decide (x9<0)==false].reverse].reverse,bA [bA ((aH (hold (nU (aX x6) (bW x7))).den==[])::x8).reverse,bA [aA x10.natAbs==[],decide (x10<0)==false].reverse].reverse].reverse))))))))))
def aqe(v1:Rat)(v2:Rat)(v3:Rat)(v4:Rat):Tr AV:=
 let x1:List AV:=[.c (.v (.bool (decide (v4.num<0)))),.c (.v (.string ⟨⟨aA v4.num.natAbs⟩⟩)),.c (.v (.bool false)),.c (.v (.string ⟨⟨aH v4.den⟩⟩))]
 let x2:List AV:=[.c (.v (.bool (decide (v2.num<0)))),.c (.v (.string ⟨⟨aA v2.num.natAbs⟩⟩)),.c (.v (.bool false)),.c (.v (.string ⟨⟨aH v2.den⟩⟩))]
 let x3:List AV:=[.c (.v (.bool (decide (v3.num<0)))),.c (.v (.string ⟨⟨aA v3.num.natAbs⟩⟩)),.c (.v (.bool false)),.c (.v (.string ⟨⟨aH v3.den⟩⟩))]
 let x4:List AV:=[.c (.v (.bool (decide (v1.num<0)))),.c (.v (.string ⟨⟨aA v1.num.natAbs⟩⟩)),.c (.v (.bool false)),.c (.v (.string ⟨⟨aH v1.den⟩⟩))]
 let x5:Int:=(hold (aB x1-aB x2)).num
 let x6:List AV:=[.c (.v (.bool (decide (x5<0)))),.c (.v (.string ⟨⟨aA x5.natAbs⟩⟩)),.c (.v (.bool false)),.c (.v (.string ⟨⟨aH (hold (aB x1-aB x2)).den⟩⟩))]
 let x7:Int:=(hold (aB x3-aB x4)).num
 let x8:List AV:=[.c (.v (.bool (decide (x7<0)))),.c (.v (.string ⟨⟨aA x7.natAbs⟩⟩)),.c (.v (.bool false)),.c (.v (.string ⟨⟨aH (hold (aB x3-aB x4)).den⟩⟩))]
 let x9:List AV:=[.c (.v (.bool false)),.c (.v (.string {data:= #[]})),.c (.v (.bool false)),.c (.v (.string {data:= #[]}))]
 let x10:List AV:=[.c (.v (.int IntKind.i64 0))]
 let fI:Int:=(hold (aB x6/aB x8)).num
 let fU:List AV:=[.c (.v (.bool (decide (fI<0)))),.c (.v (.string ⟨⟨aA fI.natAbs⟩⟩)),.c (.v (.bool false)),.c (.v (.string ⟨⟨aH (hold (aB x6/aB x8)).den⟩⟩))]
 let iM:Int:=(hold (aB fU*aB x4)).num
 let iR:List AV:=[.c (.v (.bool (decide (iM<0)))),.c (.v (.string ⟨⟨aA iM.natAbs⟩⟩)),.c (.v (.bool false)),.c (.v (.string ⟨⟨aH (hold (aB fU*aB x4)).den⟩⟩))]
 let jH:Int:=(hold (aB x2-aB iR)).num
 .need (aK x1) (.need (aK x2) (.need (jZ (aB x1) (-aB x2)) (.need (aK x3) (.need (aK x4) (.need (jZ (aB x3) (-aB x4)) (.need (aK x6) (.need (aK x8) (.need (Pf (aB x6) (aB x8)) (.need (decide (aB x8≠0)) (.ite false (.ret (AV.iC (AV.agg (.c (.v (.bool false)):: .c (.v (.string {data:= #[]})):: .c (.v (.bool false)):: .c (.v (.string {data:= #[]})):: .c (.v (.bool false)):: .c (.v (.string {data:= #[]})):: .c (.v (.bool false)):: .c (.v (.string {data:= #[]}))::x9)::x10))) (.need (aK fU) (.need (aK x4) (.need (kX (aB fU) (aB x4)) (.need (aK x2) (.need (aK iR) (.need (jZ (aB x2) (-aB iR)) (.ret (AV.iC (AV.agg (.c (.v (.bool (decide (jH<0)))):: .c (.v (.string ⟨⟨aA jH.natAbs⟩⟩)):: .c (.v (.bool false)):: .c (.v (.string ⟨⟨aH (hold (aB x2-aB iR)).den⟩⟩)):: .c (.v (.bool (decide (fI<0)))):: .c (.v (.string ⟨⟨aA fI.natAbs⟩⟩)):: .c (.v (.bool false)):: .c (.v (.string ⟨⟨aH (hold (aB x6/aB x8)).den⟩⟩))::x9)::x10)))))))))))))))))))
theorem akE(v1:R3):aI Tryz.prog ap8 bX 1010 Tryz.f150 [.agg (aY v1)]=aqa v1:=by kernel_rfl
theorem akF(v1:R3):aI Tryz.prog (λ_=>none) bX 1010 Tryz.f118 [.agg (aY v1)]=aqb v1:=by kernel_rfl
theorem akG(v1:Q3)(v2:R3):aI Tryz.prog (za Tryz.prog ae6 70 3) bX 1010 Tryz.f67 [.agg (cK v1),.agg (aY v2)]=aqc v1 v2:=by kernel_rfl
theorem akH(v1:Q3)(v2:Q3)(v3:R3):aI Tryz.prog ap9 bX 1010 Tryz.f358 [.agg (cK v1),.agg (cK v2),.agg (aY v3)]=aqd v1 v2 v3:=by kernel_rfl
theorem akI(v1:Rat)(v2:Rat)(v3:Rat)(v4:Rat):aI Tryz.prog (za Tryz.prog ae7 70 3) bX 1010 Tryz.f114 [.agg (aC v1),.agg (aC v2),.agg (aC v3),.agg (aC v4)]=aqe v1 v2 v3 v4:=by kernel_rfl
theorem ae8(v1:R3):(aqa v1).sat λr=>r=nR (hold (xK v1.neg)):=by
 obtain⟨p,r,neg⟩:=v1;simp only[aqa,sat_true,fV];cases neg
 ·refine au (λh=>by cases h) (λ_=> ?_)
  simp only[sat_true];exact av rfl
 ·refine au (λ_=> ?_) (λh=>by cases h)
  simp only[sat_true];exact av rfl
theorem ae9(v1:R3):(aqb v1).sat λr=>r= .iC [nR (hold (bif decide (v1.r=0)then v1.p else 0)),bL (decide (v1.r=0))]:=by
 obtain⟨p,r,neg⟩:=v1;simp only[aqb,dP,dB,iE,gH,jh,iH,iU,iy,lM,kF,ig,fQ,lF,kM,oH,List.take_succ_cons,List.take_zero,List.drop_succ_cons,List.drop_zero,fV,Bool.and_self,oI,sat_true];refine au (λh=> ?_) (λh=> ?_)
 ·have h:decide (r=0)=false:=by simpa using h
  rw[h];refine av ?_;simp only[cond_false,nR,Kc];rfl
 ·have h:decide (r=0)=true:=by simpa using h
  rw[h];exact av rfl
theorem afa(v1:Q3)(v2:R3)(c1:kQ v1 v2=true):(aqc v1 v2).sat λr=>r= .agg (aC (hold (nU v1 v2))++(aC (hold (oN v1 v2))++Ka)):=by
 obtain⟨a0,a1,a2⟩:=v1;obtain⟨p,r,neg⟩:=v2;simp only[aqc,dP,dB,iE,gH,jh,iH,iU,iy,lM,kF,ig,fQ,lF,kM,oH,List.take_succ_cons,List.take_zero,List.drop_succ_cons,List.drop_zero,fV,Bool.and_self,oI,sat_true];refine au (λh=> ?_) (λh=> ?_)
 ·simp only[kQ,h,cond_true,cu]at c1
  simp only[dP,dB,iE,gH,jh,iH,iU,iy,lM,kF,ig,fQ,lF,kM,oH,List.take_succ_cons,List.take_zero,List.drop_succ_cons,List.drop_zero,fV,Bool.and_self,oI,sat_true,h,cond_true,c1,nU,oN,Kc];exact av rfl
 ·simp only[kQ,nT,h,cond_false,cu]at c1
  simp only[dP,dB,iE,gH,jh,iH,iU,iy,lM,kF,ig,fQ,lF,kM,oH,List.take_succ_cons,List.take_zero,List.drop_succ_cons,List.drop_zero,fV,Bool.and_self,oI,sat_true,c1];refine av ?_;simp only[nU,oN,h,cond_false];rfl
theorem afb(v1:Q3)(v2:Q3)(v3:R3)(c1:iN v1 v2=true)(c2:kQ (lX v1 v2) v3=true):(aqd v1 v2 v3).sat λr=>r=bL (decide (nU (lX v1 v2) v3=0)&&decide (oN (lX v1 v2) v3=0)):=by
 obtain⟨a0,a1,a2⟩:=v1;obtain⟨b0,b1,b2⟩:=v2;obtain⟨p,r,neg⟩:=v3;simp only[lX]at c2⊢;simp only[aqd,dP,dB,iE,gH,jh,iH,iU,iy,lM,kF,ig,fQ,lF,kM,oH,List.take_succ_cons,List.take_zero,List.drop_succ_cons,List.drop_zero,fV,Bool.and_self,oI,sat_true,c1,c2];refine av ?_
 show AV.c (.v (.bool (decide (nU ⟨a0-b0,a1-b1,a2-b2⟩ ⟨p,r,neg⟩=0)&&(decide (oN ⟨a0-b0,a1-b1,a2-b2⟩ ⟨p,r,neg⟩=0)&&true))))=_
 rw[Bool.and_true];rfl
theorem afc(v1:Rat)(v2:Rat)(v3:Rat)(v4:Rat)(c1:uh v1 v2 v3 v4=true):(aqe v1 v2 v3 v4).sat λr=>r= .iC [.agg (aC (hold (v2-jJ v1 v2 v3 v4*v1))++(aC (hold (jJ v1 v2 v3 v4))++Ka)),dn .i64 0]:=by
 simp only[uh,nT,cu]at c1;obtain⟨⟨⟨⟨⟨c1,c2⟩,c3⟩,c4⟩,c5⟩,c6⟩:=c1;unfold jJ at c5 c6;simp only[aqe,jJ,dP,dB,iE,gH,jh,iH,iU,iy,lM,kF,ig,fQ,lF,kM,oH,List.take_succ_cons,List.take_zero,List.drop_succ_cons,List.drop_zero,fV,Bool.and_self,oI,sat_true,c1,c2,c3,c4,c5,c6];refine au (λh=>by cases h) (λ_=> ?_);simp only[sat_true];exact av rfl
theorem akJ: ∀f s,ap8 f=some s→aR Tryz.prog f s:=bS Iw.spec
theorem YV:aN Tryz.prog 150 ae4:=by
 refine aM aj akJ (fn:=Tryz.f150) (c:=codeOf Tryz.f150) (by kernel_rfl) (by kernel_rfl) (aG (fn:=Tryz.f150) (c:=codeOf Tryz.f150) (by kernel_rfl) (by kernel_rfl) (by kernel_rfl)) (L:=bX) (N:=1010) (ak _ _) ?_ ?_
 ·intro args v cs h
  unfold ae4 at h
  split at h
  ·cases h;rfl
  ·cases h
 ·intro args v cs h hc
  unfold ae4 at h
  split at h
  ·rename_i l1
   cases h;have h1:dN l1=true:=hc (dN l1) (by simp);obtain⟨v1,rfl⟩: ∃x,l1=aY x:=⟨_,lS h1⟩
   simp only[dM]at*;have hs:=ae8 v1;rw[←akE]at hs;generalize aI Tryz.prog ap8 bX 1010 Tryz.f150 [.agg (aY v1)]=T at hs⊢;generalize hold (xK v1.neg)=z at hs⊢;exact Tr.bC (λr hr=>⟨by subst hr;rfl,bM.of_eq hr⟩) hs
  ·cases h
theorem akK:aN Tryz.prog 118 akC:=by
 refine aM aj eP (fn:=Tryz.f118) (c:=codeOf Tryz.f118) (by kernel_rfl) (by kernel_rfl) (aG (fn:=Tryz.f118) (c:=codeOf Tryz.f118) (by kernel_rfl) (by kernel_rfl) (by kernel_rfl)) (L:=bX) (N:=1010) (ak _ _) ?_ ?_
 ·intro args v cs h
  unfold akC at h
  split at h
  ·cases h;rfl
  ·cases h
 ·intro args v cs h hc
  unfold akC at h
  split at h
  ·rename_i l1
   cases h;have h1:dN l1=true:=hc (dN l1) (by simp);obtain⟨v1,rfl⟩: ∃x,l1=aY x:=⟨_,lS h1⟩
   simp only[dM]at*;have hs:=ae9 v1;rw[←akF]at hs;generalize aI Tryz.prog (λ_=>none) bX 1010 Tryz.f118 [.agg (aY v1)]=T at hs⊢;generalize hold (bif decide (v1.r=0)then v1.p else 0)=z0 at hs⊢;generalize decide (v1.r=0)=z1 at hs⊢;exact Tr.bC (λr hr=>⟨by subst hr;rfl,bM.of_eq hr⟩) hs
  ·cases h
theorem afd: ∀f s,ae6 f=some s→aR Tryz.prog f s:=step_ok akK.spec (step_ok aky.spec (step_ok vC.spec (step_ok Ac.spec (step_ok vw.spec (bS akA.spec)))))
theorem Ph:aN Tryz.prog 67 aa5:=by
 refine aM aj (zf (N:=70) aj afd 3) (fn:=Tryz.f67) (c:=codeOf Tryz.f67) (by kernel_rfl) (by kernel_rfl) (aG (fn:=Tryz.f67) (c:=codeOf Tryz.f67) (by kernel_rfl) (by kernel_rfl) (by kernel_rfl)) (L:=bX) (N:=1010) (ak _ _) ?_ ?_
 ·intro args v cs h
  unfold aa5 at h
  split at h
  ·cases h;rfl
  ·cases h
 ·intro args v cs h hc
  unfold aa5 at h
  split at h
  ·rename_i l1 l2
   cases h;have h1:dI l1=true:=hc (dI l1) (by simp);have h2:dN l2=true:=hc (dN l2) (by simp);have c1:kQ (aX l1) (bW l2)=true:=hc (kQ (aX l1) (bW l2)) (by simp);obtain⟨v1,rfl⟩: ∃x,l1=cK x:=⟨_,nu h1⟩
   obtain⟨v2,rfl⟩: ∃x,l2=aY x:=⟨_,lS h2⟩
   simp only[jm,dM]at*;have hs:=afa v1 v2 c1;rw[←akG]at hs;generalize aI Tryz.prog (za Tryz.prog ae6 70 3) bX 1010 Tryz.f67 [.agg (cK v1),.agg (aY v2)]=T at hs⊢;generalize hold (nU v1 v2)=z0 at hs⊢;generalize hold (oN v1 v2)=z1 at hs⊢;exact Tr.bC (λr hr=>⟨by subst hr;rfl,bM.of_eq hr⟩) hs
  ·cases h
theorem akL: ∀f s,ap9 f=some s→aR Tryz.prog f s:=step_ok YS.spec (bS Ph.spec)
theorem YW:aN Tryz.prog 358 ae5:=by
 refine aM aj akL (fn:=Tryz.f358) (c:=codeOf Tryz.f358) (by kernel_rfl) (by kernel_rfl) (aG (fn:=Tryz.f358) (c:=codeOf Tryz.f358) (by kernel_rfl) (by kernel_rfl) (by kernel_rfl)) (L:=bX) (N:=1010) (ak _ _) ?_ ?_
 ·intro args v cs h
  unfold ae5 at h
  split at h
  ·cases h;rfl
  ·cases h
 ·intro args v cs h hc
  unfold ae5 at h
  split at h
  ·rename_i l1 l2 l3
   cases h;have h1:dI l1=true:=hc (dI l1) (by simp);have h2:dI l2=true:=hc (dI l2) (by simp);have h3:dN l3=true:=hc (dN l3) (by simp);have c1:iN (aX l1) (aX l2)=true:=hc (iN (aX l1) (aX l2)) (by simp);have c2:kQ (lX (aX l1) (aX l2)) (bW l3)=true:=hc (kQ (lX (aX l1) (aX l2)) (bW l3)) (by simp);obtain⟨v1,rfl⟩: ∃x,l1=cK x:=⟨_,nu h1⟩
   obtain⟨v2,rfl⟩: ∃x,l2=cK x:=⟨_,nu h2⟩
   obtain⟨v3,rfl⟩: ∃x,l3=aY x:=⟨_,lS h3⟩
   simp only[jm,dM]at*;have hs:=afb v1 v2 v3 c1 c2;rw[←akH]at hs;generalize aI Tryz.prog ap9 bX 1010 Tryz.f358 [.agg (cK v1),.agg (cK v2),.agg (aY v3)]=T at hs⊢;generalize (decide (nU (lX v1 v2) v3=0)&&decide (oN (lX v1 v2) v3=0))=z at hs⊢;exact Tr.bC (λr hr=>⟨by subst hr;rfl,bM.of_eq hr⟩) hs
  ·cases h
theorem afe: ∀f s,ae7 f=some s→aR Tryz.prog f s:=step_ok Ac.spec (step_ok YP.spec (bS vC.spec))
theorem akM:aN Tryz.prog 114 akD:=by
 refine aM aj (zf (N:=70) aj afe 3) (fn:=Tryz.f114) (c:=codeOf Tryz.f114) (by kernel_rfl) (by kernel_rfl) (aG (fn:=Tryz.f114) (c:=codeOf Tryz.f114) (by kernel_rfl) (by kernel_rfl) (by kernel_rfl)) (L:=bX) (N:=1010) (ak _ _) ?_ ?_
 ·intro args v cs h
  unfold akD at h
  split at h
  ·cases h;rfl
  ·cases h
 ·intro args v cs h hc
  unfold akD at h
  split at h
  ·rename_i l1 l2 l3 l4
   cases h;have h1:aK l1=true:=hc (aK l1) (by simp);have h2:aK l2=true:=hc (aK l2) (by simp);have h3:aK l3=true:=hc (aK l3) (by simp);have h4:aK l4=true:=hc (aK l4) (by simp);have c1:uh (aB l1) (aB l2) (aB l3) (aB l4)=true:=hc (uh (aB l1) (aB l2) (aB l3) (aB l4)) (by simp);obtain⟨v1,rfl⟩: ∃x,l1=aC x:=⟨_,dX h1⟩
   obtain⟨v2,rfl⟩: ∃x,l2=aC x:=⟨_,dX h2⟩
   obtain⟨v3,rfl⟩: ∃x,l3=aC x:=⟨_,dX h3⟩
   obtain⟨v4,rfl⟩: ∃x,l4=aC x:=⟨_,dX h4⟩
   simp only[dK]at*;have hs:=afc v1 v2 v3 v4 c1;rw[←akI]at hs;generalize aI Tryz.prog (za Tryz.prog ae7 70 3) bX 1010 Tryz.f114 [.agg (aC v1),.agg (aC v2),.agg (aC v3),.agg (aC v4)]=T at hs⊢;generalize hold (v2-jJ v1 v2 v3 v4*v1)=z0 at hs⊢;generalize hold (jJ v1 v2 v3 v4)=z1 at hs⊢;exact Tr.bC (λr hr=>⟨by subst hr;rfl,bM.of_eq hr⟩) hs
  ·cases h
end Go.bI
namespace Go.bI
open Go.Proofs
theorem Iy{x y:Rat}{N D N' D':Nat}(hx:jY N D x)(hy:jY N' D' y)(h1:N<18446744073709551616)(h2:D<18446744073709551616)(h3:N'<18446744073709551616)(h4:D'<18446744073709551616):uf x y=true:=by
 obtain⟨a1,a2⟩:=hx;obtain⟨b1,b2⟩:=hy;have hB:=vv;simp only[uf,Dx,cu,fT,Int.natAbs_natCast];omega
theorem nC{x y:Rat}{N D N' D':Nat}(hx:jY N D x)(hy:jY N' D' y)(h1:N<18446744073709551616)(h2:D<18446744073709551616)(h3:N'<18446744073709551616)(h4:D'<18446744073709551616)
  (h5:N*D'+N'*D<18446744073709551616) (h6:D*D'<18446744073709551616):jZ x y=true:=by
 have h0:=Iy hx hy h1 h2 h3 h4;obtain⟨a1,a2⟩:=hx;obtain⟨b1,b2⟩:=hy;have e1:=Nat.mul_le_mul a1 b2;have e2:=Nat.mul_le_mul b1 a2;have e3:=Nat.mul_le_mul a2 b2;have e4:=Int.natAbs_add_le (x.num*y.den) (y.num*x.den);rw[Int.natAbs_mul,Int.natAbs_mul,Int.natAbs_natCast,Int.natAbs_natCast]at e4;have e5:((x.den:Int)*(y.den:Int)).natAbs=x.den*y.den:=by rw[Int.natAbs_mul,Int.natAbs_natCast,Int.natAbs_natCast]
 have h5:=Nat.lt_of_lt_of_le h5 vv;have h6:=Nat.lt_of_lt_of_le h6 vv;simp only[jZ,h0,Dx,cu,fT,e5];exact⟨⟨trivial,Nat.lt_of_le_of_lt (Nat.le_trans e4 (Nat.add_le_add e1 e2)) h5⟩,Nat.lt_of_le_of_lt e3 h6⟩
theorem sJ{x y:Rat}{N D N' D':Nat}(hx:jY N D x)(hy:jY N' D' y)(h1:N<18446744073709551616)(h2:D<18446744073709551616)(h3:N'<18446744073709551616)(h4:D'<18446744073709551616)
  (h5:N*N'<18446744073709551616) (h6:D*D'<18446744073709551616):kX x y=true:=by
 have h0:=Iy hx hy h1 h2 h3 h4;obtain⟨a1,a2⟩:=hx;obtain⟨b1,b2⟩:=hy;have e1:=Nat.mul_le_mul a1 b1;have e3:=Nat.mul_le_mul a2 b2;have e4:(x.num*y.num).natAbs=x.num.natAbs*y.num.natAbs:=Int.natAbs_mul ..;have e5:((x.den:Int)*(y.den:Int)).natAbs=x.den*y.den:=by rw[Int.natAbs_mul,Int.natAbs_natCast,Int.natAbs_natCast]
 have h5:=Nat.lt_of_lt_of_le h5 vv;have h6:=Nat.lt_of_lt_of_le h6 vv;simp only[kX,h0,Dx,cu,fT,e4,e5];exact⟨⟨trivial,Nat.lt_of_le_of_lt e1 h5⟩,Nat.lt_of_le_of_lt e3 h6⟩
theorem akN{x y:Rat}{N D N' D':Nat}(hx:jY N D x)(hy:jY N' D' y)(h1:N<18446744073709551616)(h2:D<18446744073709551616)(h3:N'<18446744073709551616)(h4:D'<18446744073709551616)
  (h5:N*D'<18446744073709551616) (h6:D*N'<18446744073709551616):Pf x y=true:=by
 have h0:=Iy hx hy h1 h2 h3 h4;obtain⟨a1,a2⟩:=hx;obtain⟨b1,b2⟩:=hy;have e1:=Nat.mul_le_mul a1 b2;have e3:=Nat.mul_le_mul a2 b1;have e4:(x.num*(y.den:Int)).natAbs=x.num.natAbs*y.den:=by rw[Int.natAbs_mul,Int.natAbs_natCast]
 have e5:((x.den:Int)*y.num).natAbs=x.den*y.num.natAbs:=by rw[Int.natAbs_mul,Int.natAbs_natCast]
 have h5:=Nat.lt_of_lt_of_le h5 vv;have h6:=Nat.lt_of_lt_of_le h6 vv;simp only[Pf,h0,Dx,cu,fT,e4,e5];exact⟨⟨trivial,Nat.lt_of_le_of_lt e1 h5⟩,Nat.lt_of_le_of_lt e3 h6⟩
def yG(N D:Nat)(q:Rat):Bool:=decide (q.num.natAbs≤N∧q.den≤D)
theorem rG{N D:Nat}{q:Rat}:yG N D q=true↔jY N D q:=by unfold yG jY;exact decide_eq_true_iff
def xQ(l:L4):Q3:=⟨l.x0,l.x1,0⟩
def yQ(l:L4):Q3:=⟨l.y0,l.y1,0⟩
def uL(x:L4):Bool:=yG 32768 8 x.x0&&yG 63 8 x.x1&&(yG 32768 8 x.y0&&yG 63 8 x.y1)
def YX(t:R3):Bool:=(decide (t.r=0) || decide (t.r=2))&& !t.neg&&yG 63 1 t.p
theorem jY.zero:jY 0 1 0:=⟨Nat.le_refl _,Nat.le_refl _⟩
theorem jY.one:jY 1 1 1:=⟨Nat.le_refl _,Nat.le_refl _⟩
theorem jY.two:jY 2 1 2:=⟨Nat.le_refl _,Nat.le_refl _⟩
theorem jY.sub{x y:Rat}{N D N' D':Nat}(h:jY N D x)(h':jY N' D' y):jY (N*D'+N'*D) (D*D') (x-y):=by
 rw[Rat.sub_eq_add_neg];exact h.add h'.neg
structure Lin (q:Q3):Prop where
 c0:jY 524288 64 q.c0
 c1:jY 1008 64 q.c1
 c2:q.c2=0
theorem YZ{p q:Q3}(h0:jY 32768 8 p.c0)(h1:jY 63 8 p.c1)(h2:p.c2=0)(k0:jY 32768 8 q.c0)(k1:jY 63 8 q.c1)(k2:q.c2=0):Lin (lX p q)∧iN p q=true:=by
 refine⟨⟨h0.sub k0,h1.sub k1,?_⟩,?_⟩
 ·show p.c2-q.c2=0
  rw[h2,k2];exact Rat.sub_self
 ·simp only[iN,nT,cu]
  refine⟨⟨nC h0 k0.neg ?_ ?_ ?_ ?_ ?_ ?_,nC h1 k1.neg ?_ ?_ ?_ ?_ ?_ ?_⟩,?_⟩
  any_goals decide
  rw[h2,k2];exact nC jY.zero jY.zero.neg (by decide) (by decide) (by decide) (by decide) (by decide) (by decide)
theorem aa6(x:Rat):x+0=x:=Rat.add_zero x
theorem aff(x:Rat):x*0=0:=Rat.mul_zero x
theorem ati(x:Rat):0*x=0:=Rat.zero_mul x
theorem RN{q:Q3}(h:Lin q){t:Rat}(ht:jY 63 1 t):om q t=true:=by
 simp only[om,h.c2,aff,aa6,cu];refine⟨⟨⟨sJ ht jY.zero ?_ ?_ ?_ ?_ ?_ ?_,nC h.c1 jY.zero ?_ ?_ ?_ ?_ ?_ ?_⟩,sJ ht h.c1 ?_ ?_ ?_ ?_ ?_ ?_⟩,nC h.c0 (ht.mul h.c1) ?_ ?_ ?_ ?_ ?_ ?_⟩
 all_goals decide
theorem Pj{q:Q3}(h:Lin q){t:Rat}(ht:jY 63 1 t):lN q t=true:=by
 simp only[lN,h.c2,aa6,ati,cu];refine⟨⟨nC jY.zero jY.zero ?_ ?_ ?_ ?_ ?_ ?_,sJ jY.zero ht ?_ ?_ ?_ ?_ ?_ ?_⟩,nC h.c1 jY.zero ?_ ?_ ?_ ?_ ?_ ?_⟩
 all_goals decide
theorem atj{t:R3}(h:YX t=true):(t.r=0∨t.r=2)∧t.neg=false∧jY 63 1 t.p:=by
 simp only[YX,cu,Bool.or_eq_true,fT,Bool.not_eq_true',rG]at h;exact⟨h.1.1,h.1.2,h.2⟩
theorem aqf{t:R3}(h:YX t=true):jY 2 1 t.r:=by
 rcases(atj h).1 with h|h
 ·rw[h];exact jY.zero.mono (by decide) (by decide)
 ·rw[h];exact jY.two
theorem xL{q:Q3}(h0:jY 524288 64 q.c0)(h1:jY 1008 64 q.c1)(h2:q.c2=0){t:R3}(ht:YX t=true):kQ q t=true:=by
 obtain⟨hr,hn,hp⟩:=atj ht;have h:Lin q:=⟨h0,h1,h2⟩
 have hb:=aqf ht;unfold kQ;cases decide (t.r=0)
 ·simp only[cond_false,nT,h2,ati,Pj h hp,cu]
  refine⟨⟨⟨⟨sJ hp hp ?_ ?_ ?_ ?_ ?_ ?_,nC hb (hp.mul hp).neg ?_ ?_ ?_ ?_ ?_ ?_⟩,sJ jY.zero (hb.sub (hp.mul hp)) ?_ ?_ ?_ ?_ ?_ ?_⟩,nC h0 jY.zero ?_ ?_ ?_ ?_ ?_ ?_⟩,trivial⟩
  all_goals decide
 ·rw[cond_true];exact RN h hp
end Go.bI
namespace Go.bI
open Go.Proofs
def qC(p q:Q3)(t:R3):Bool:=decide (nU (lX p q) t=0)&&decide (oN (lX p q) t=0)
def Pk(x y:L4):Bool:=decide (x.x0=y.x0)&&(decide (x.x1=y.x1)&&(decide (x.y0=y.y0)&&decide (x.y1=y.y1)))
theorem Ad(n:Int):aB [.c (.v (.bool (decide (n<0)))),.c (.v (.string ⟨⟨aA n.natAbs⟩⟩)),.c (.v (.bool false)),.c (.v (.string ⟨⟨aH 1⟩⟩))]=(n:Rat):=dK (n:Rat)
theorem xM(n:Int):aK [.c (.v (.bool (decide (n<0)))),.c (.v (.string ⟨⟨aA n.natAbs⟩⟩)),.c (.v (.bool false)),.c (.v (.string ⟨⟨aH 1⟩⟩))]=true:=iw (n:Rat)
theorem xO{x:L4}(h:uL x=true):jY 32768 8 x.x0∧jY 63 8 x.x1∧jY 32768 8 x.y0∧jY 63 8 x.y1:=by
 simp only[uL,cu,rG]at h;exact⟨h.1.1,h.1.2,h.2.1,h.2.2⟩
theorem aqg{x y:L4}(h:uL x=true)(k:uL y=true):Lin (lX (xQ x) (xQ y))∧iN (xQ x) (xQ y)=true:=
 YZ (xO h).1 (xO h).2.1 rfl (xO k).1 (xO k).2.1 rfl
theorem aqh{x y:L4}(h:uL x=true)(k:uL y=true):Lin (lX (yQ x) (yQ y))∧iN (yQ x) (yQ y)=true:=
 YZ (xO h).2.2.1 (xO h).2.2.2 rfl (xO k).2.2.1 (xO k).2.2.2 rfl
theorem akO(x y:Bool):(bif x then bif true then y else false else false)=(x&&y):=by cases x<;>rfl
def aqi:List AV→Option (AV×List Bool)
 | [.agg [],.agg l1,.agg l2,.agg l3]=>some (bL (qC (xQ (fA l1)) (xQ (fA l2)) (bW l3)&&qC (yQ (fA l1)) (yQ (fA l2)) (bW l3)),[gL l1,gL l2,dN l3,uL (fA l1),uL (fA l2),YX (bW l3)])
 | _=>none
def aqj:List AV→Option (AV×List Bool)
 | [.agg [],.agg l1,.agg l2]=>some (zu ⟨hold (nU (xQ (fA l1)) (bW l2)),hold (oN (xQ (fA l1)) (bW l2)),hold (nU (yQ (fA l1)) (bW l2)),hold (oN (yQ (fA l1)) (bW l2))⟩,[gL l1,dN l2,uL (fA l1),YX (bW l2)])
 | _=>none
def aqk:List AV→Option (AV×List Bool)
 | [.agg [],.agg l1,.agg l2]=>some (bL (Pk (fA l1) (fA l2)),[gL l1,gL l2])
 | _=>none
def afg:FuncId→Option Spec:=λf=>bif Nat.beq f 358 then some (ay ae5)else none
def afh:FuncId→Option Spec:=λf=>bif Nat.beq f 67 then some (ay aa5)else none
def aql(v1:L4)(v2:L4)(v3:R3):Tr AV:=
 let x1:List AV:=[.c (.v (.bool false)),.c (.v (.string {data:= #[]})),.c (.v (.bool false)),.c (.v (.string {data:= #[]}))]
 let x2:List AV:= .c (.v (.bool (decide (v1.x0.num<0)))):: .c (.v (.string ⟨⟨aA v1.x0.num.natAbs⟩⟩)):: .c (.v (.bool false)):: .c (.v (.string ⟨⟨aH v1.x0.den⟩⟩)):: .c (.v (.bool (decide (v1.x1.num<0)))):: .c (.v (.string ⟨⟨aA v1.x1.num.natAbs⟩⟩)):: .c (.v (.bool false)):: .c (.v (.string ⟨⟨aH v1.x1.den⟩⟩))::x1
 let x3:List AV:= .c (.v (.bool (decide (v2.x0.num<0)))):: .c (.v (.string ⟨⟨aA v2.x0.num.natAbs⟩⟩)):: .c (.v (.bool false)):: .c (.v (.string ⟨⟨aH v2.x0.den⟩⟩)):: .c (.v (.bool (decide (v2.x1.num<0)))):: .c (.v (.string ⟨⟨aA v2.x1.num.natAbs⟩⟩)):: .c (.v (.bool false)):: .c (.v (.string ⟨⟨aH v2.x1.den⟩⟩))::x1
 let x4:List AV:=[.c (.v (.bool (decide (v3.p.num<0)))),.c (.v (.string ⟨⟨aA v3.p.num.natAbs⟩⟩)),.c (.v (.bool false)),.c (.v (.string ⟨⟨aH v3.p.den⟩⟩)),.c (.v (.bool (decide (v3.r.num<0)))),.c (.v (.string ⟨⟨aA v3.r.num.natAbs⟩⟩)),.c (.v (.bool false)),.c (.v (.string ⟨⟨aH v3.r.den⟩⟩)),.c (.v (.bool v3.neg))]
 let x5:List AV:= .c (.v (.bool (decide (v1.y0.num<0)))):: .c (.v (.string ⟨⟨aA v1.y0.num.natAbs⟩⟩)):: .c (.v (.bool false)):: .c (.v (.string ⟨⟨aH v1.y0.den⟩⟩)):: .c (.v (.bool (decide (v1.y1.num<0)))):: .c (.v (.string ⟨⟨aA v1.y1.num.natAbs⟩⟩)):: .c (.v (.bool false)):: .c (.v (.string ⟨⟨aH v1.y1.den⟩⟩))::x1
 let x6:List AV:= .c (.v (.bool (decide (v2.y0.num<0)))):: .c (.v (.string ⟨⟨aA v2.y0.num.natAbs⟩⟩)):: .c (.v (.bool false)):: .c (.v (.string ⟨⟨aH v2.y0.den⟩⟩)):: .c (.v (.bool (decide (v2.y1.num<0)))):: .c (.v (.string ⟨⟨aA v2.y1.num.natAbs⟩⟩)):: .c (.v (.bool false)):: .c (.v (.string ⟨⟨aH v2.y1.den⟩⟩))::x1
 .need (dI x2) (.need (dI x3) (.need (dN x4) (.need (iN (aX x2) (aX x3)) (.need (kQ (lX (aX x2) (aX x3)) (bW x4)) (.need (bif decide (nU (lX (aX x2) (aX x3)) (bW x4)=0)&&decide (oN (lX (aX x2) (aX x3)) (bW x4)=0)then dI x5&&(dI x6&&(dN x4&&(iN (aX x5) (aX x6)&&(kQ (lX (aX x5) (aX x6)) (bW x4)&&true))))else true) (.ret (.c (.v (.bool (bif decide (nU (lX (aX x2) (aX x3)) (bW x4)=0)&&decide (oN (lX (aX x2) (aX x3)) (bW x4)=0)then bif true then decide (nU (lX (aX x5) (aX x6)) (bW x4)=0)&&decide (oN (lX (aX x5) (aX x6)) (bW x4)=0)else false else false))))))))))
def aqm(v1:L4)(v2:R3):Tr AV:=
 let x1:List AV:=[.c (.v (.bool false)),.c (.v (.string {data:= #[]})),.c (.v (.bool false)),.c (.v (.string {data:= #[]}))]
 let x2:List AV:= .c (.v (.bool (decide (v1.x0.num<0)))):: .c (.v (.string ⟨⟨aA v1.x0.num.natAbs⟩⟩)):: .c (.v (.bool false)):: .c (.v (.string ⟨⟨aH v1.x0.den⟩⟩)):: .c (.v (.bool (decide (v1.x1.num<0)))):: .c (.v (.string ⟨⟨aA v1.x1.num.natAbs⟩⟩)):: .c (.v (.bool false)):: .c (.v (.string ⟨⟨aH v1.x1.den⟩⟩))::x1
 let x3:List AV:=[.c (.v (.bool (decide (v2.p.num<0)))),.c (.v (.string ⟨⟨aA v2.p.num.natAbs⟩⟩)),.c (.v (.bool false)),.c (.v (.string ⟨⟨aH v2.p.den⟩⟩)),.c (.v (.bool (decide (v2.r.num<0)))),.c (.v (.string ⟨⟨aA v2.r.num.natAbs⟩⟩)),.c (.v (.bool false)),.c (.v (.string ⟨⟨aH v2.r.den⟩⟩)),.c (.v (.bool v2.neg))]
 let x4:List AV:= .c (.v (.bool (decide (v1.y0.num<0)))):: .c (.v (.string ⟨⟨aA v1.y0.num.natAbs⟩⟩)):: .c (.v (.bool false)):: .c (.v (.string ⟨⟨aH v1.y0.den⟩⟩)):: .c (.v (.bool (decide (v1.y1.num<0)))):: .c (.v (.string ⟨⟨aA v1.y1.num.natAbs⟩⟩)):: .c (.v (.bool false)):: .c (.v (.string ⟨⟨aH v1.y1.den⟩⟩))::x1
 let x5:Int:=(hold (nU (aX x2) (bW x3))).num
 let x6:Int:=(hold (oN (aX x2) (bW x3))).num
 let x7:Int:=(hold (nU (aX x4) (bW x3))).num
 let x8:Int:=(hold (oN (aX x4) (bW x3))).num
 .need (dI x2) (.need (dN x3) (.need (kQ (aX x2) (bW x3)) (.need (dI x4) (.need (dN x3) (.need (kQ (aX x4) (bW x3)) (.ret (AV.agg [.c (.v (.bool (decide (x5<0)))),.c (.v (.string ⟨⟨aA x5.natAbs⟩⟩)),.c (.v (.bool false)),.c (.v (.string ⟨⟨aH (hold (nU (aX x2) (bW x3))).den⟩⟩)),.c (.v (.bool (decide (x6<0)))),.c (.v (.string ⟨⟨aA x6.natAbs⟩⟩)),.c (.v (.bool false)),.c (.v (.string ⟨⟨aH (hold (oN (aX x2) (bW x3))).den⟩⟩)),.c (.v (.bool (decide (x7<0)))),.c (.v (.string ⟨⟨aA x7.natAbs⟩⟩)),.c (.v (.bool false)),.c (.v (.string ⟨⟨aH (hold (nU (aX x4) (bW x3))).den⟩⟩)),.c (.v (.bool (decide (x8<0)))),.c (.v (.string ⟨⟨aA x8.natAbs⟩⟩)),.c (.v (.bool false)),.c (.v (.string ⟨⟨aH (hold (oN (aX x4) (bW x3))).den⟩⟩))])))))))
def aqn(v1:L4)(v2:L4):Tr AV:=
 let x1:List Bool:=[false==false]
 .ret (.c (.v (.bool (bA [bA [bA ((aH v1.y1.den==aH v2.y1.den)::x1).reverse,bA [aA v1.y1.num.natAbs==aA v2.y1.num.natAbs,decide (v1.y1.num<0)==decide (v2.y1.num<0)].reverse].reverse,bA [bA ((aH v1.y0.den==aH v2.y0.den)::x1).reverse,bA [aA v1.y0.num.natAbs==aA v2.y0.num.natAbs,decide (v1.y0.num<0)==decide (v2.y0.num<0)].reverse].reverse,bA [bA ((aH v1.x1.den==aH v2.x1.den)::x1).reverse,bA [aA v1.x1.num.natAbs==aA v2.x1.num.natAbs,decide (v1.x1.num<0)==decide (v2.x1.num<0)].reverse].reverse,bA [bA ((aH v1.x0.den==aH v2.x0.den)::x1).reverse,bA [aA v1.x0.num.natAbs==aA v2.x0.num.natAbs,decide (v1.x0.num<0)==decide (v2.x0.num<0)].reverse].reverse].reverse))))
theorem akP(v1:L4)(v2:L4)(v3:R3):aI Tryz.prog (za Tryz.prog afg 70 3) bX 1010 Tryz.f356 [.agg [],.agg (dF v1),.agg (dF v2),.agg (aY v3)]=aql v1 v2 v3:=by kernel_rfl
theorem akQ(v1:L4)(v2:R3):aI Tryz.prog (za Tryz.prog afh 70 3) bX 1010 Tryz.f355 [.agg [],.agg (dF v1),.agg (aY v2)]=aqm v1 v2:=by kernel_rfl
theorem akR(v1:L4)(v2:L4):aI Tryz.prog (λ_=>none) bX 1010 Tryz.f354 [.agg [],.agg (dF v1),.agg (dF v2)]=aqn v1 v2:=by kernel_rfl
theorem afi(v1:L4)(v2:L4)(v3:R3)(c1:uL v1=true)(c2:uL v2=true)(c3:YX v3=true):(aql v1 v2 v3).sat λr=>r=bL (qC (xQ v1) (xQ v2) v3&&qC (yQ v1) (yQ v2) v3):=by
 obtain⟨h1,h2⟩:=aqg c1 c2;obtain⟨k1,k2⟩:=aqh c1 c2;have h3:=xL h1.c0 h1.c1 h1.c2 c3;have k3:=xL k1.c0 k1.c1 k1.c2 c3;obtain⟨a,b,c,d⟩:=v1;obtain⟨a',b',c',d'⟩:=v2;obtain⟨p,r,neg⟩:=v3;simp only[xQ,yQ]at h2 h3 k2 k3;simp only[aql,dP,dB,iE,gH,jh,iH,iU,iy,lM,kF,ig,fQ,lF,kM,oH,List.take_succ_cons,List.take_zero,List.drop_succ_cons,List.drop_zero,fV,Bool.and_self,oI,rF,sat_true,Ad,xM,h2,h3,k2,k3];refine ah ?_ (av ?_)
 ·cases (decide (nU (lX ⟨a,b,0⟩ ⟨a',b',0⟩) ⟨p,r,neg⟩=0)&&decide (oN (lX ⟨a,b,0⟩ ⟨a',b',0⟩) ⟨p,r,neg⟩=0))<;>rfl
 ·rw[akO]
  rfl
theorem afj(v1:L4)(v2:R3)(c1:uL v1=true)(c2:YX v2=true):(aqm v1 v2).sat λr=>r=zu ⟨hold (nU (xQ v1) v2),hold (oN (xQ v1) v2),hold (nU (yQ v1) v2),hold (oN (yQ v1) v2)⟩:=by
 obtain⟨h1,h2,h3,h4⟩:=xO c1;have f1:=xL (q:=xQ v1) (h1.mono (by decide) (by decide)) (h2.mono (by decide) (by decide)) rfl c2;have f2:=xL (q:=yQ v1) (h3.mono (by decide) (by decide)) (h4.mono (by decide) (by decide)) rfl c2;obtain⟨a,b,c,d⟩:=v1;obtain⟨p,r,neg⟩:=v2;simp only[xQ,yQ]at f1 f2;simp only[aqm,dP,dB,iE,gH,jh,iH,iU,iy,lM,kF,ig,fQ,lF,kM,oH,List.take_succ_cons,List.take_zero,List.drop_succ_cons,List.drop_zero,fV,Bool.and_self,oI,rF,sat_true,Ad,xM,f1,f2,xQ,yQ];exact av rfl
theorem afk(v1:L4)(v2:L4):(aqn v1 v2).sat λr=>r=bL (Pk v1 v2):=by
 obtain⟨a,b,c,d⟩:=v1;obtain⟨a',b',c',d'⟩:=v2;simp only[aqn,rF];exact av rfl
theorem afl: ∀f s,afg f=some s→aR Tryz.prog f s:=bS YW.spec
theorem akS:aN Tryz.prog 356 aqi:=by
 refine aM aj (zf (N:=70) aj afl 3) (fn:=Tryz.f356) (c:=codeOf Tryz.f356) (by kernel_rfl) (by kernel_rfl) (aG (fn:=Tryz.f356) (c:=codeOf Tryz.f356) (by kernel_rfl) (by kernel_rfl) (by kernel_rfl)) (L:=bX) (N:=1010) (ak _ _) ?_ ?_
 ·intro args v cs h
  unfold aqi at h
  split at h
  ·cases h;rfl
  ·cases h
 ·intro args v cs h hc
  unfold aqi at h
  split at h
  ·rename_i l1 l2 l3
   cases h;have h1:gL l1=true:=hc (gL l1) (by simp);have h2:gL l2=true:=hc (gL l2) (by simp);have h3:dN l3=true:=hc (dN l3) (by simp);have c1:uL (fA l1)=true:=hc (uL (fA l1)) (by simp);have c2:uL (fA l2)=true:=hc (uL (fA l2)) (by simp);have c3:YX (bW l3)=true:=hc (YX (bW l3)) (by simp);obtain⟨v1,rfl⟩: ∃x,l1=dF x:=⟨_,lT h1⟩
   obtain⟨v2,rfl⟩: ∃x,l2=dF x:=⟨_,lT h2⟩
   obtain⟨v3,rfl⟩: ∃x,l3=aY x:=⟨_,lS h3⟩
   try simp only[bD,dM]at*
   have hs:=afi v1 v2 v3 c1 c2 c3;rw[←akP]at hs;generalize aI Tryz.prog (za Tryz.prog afg 70 3) bX 1010 Tryz.f356 [.agg [],.agg (dF v1),.agg (dF v2),.agg (aY v3)]=T at hs⊢;generalize (qC (xQ v1) (xQ v2) v3&&qC (yQ v1) (yQ v2) v3)=z at hs⊢;exact Tr.bC (λr hr=>⟨by subst hr;rfl,bM.of_eq hr⟩) hs
  ·cases h
theorem afm: ∀f s,afh f=some s→aR Tryz.prog f s:=bS Ph.spec
theorem akT:aN Tryz.prog 355 aqj:=by
 refine aM aj (zf (N:=70) aj afm 3) (fn:=Tryz.f355) (c:=codeOf Tryz.f355) (by kernel_rfl) (by kernel_rfl) (aG (fn:=Tryz.f355) (c:=codeOf Tryz.f355) (by kernel_rfl) (by kernel_rfl) (by kernel_rfl)) (L:=bX) (N:=1010) (ak _ _) ?_ ?_
 ·intro args v cs h
  unfold aqj at h
  split at h
  ·cases h;rfl
  ·cases h
 ·intro args v cs h hc
  unfold aqj at h
  split at h
  ·rename_i l1 l2
   cases h;have h1:gL l1=true:=hc (gL l1) (by simp);have h2:dN l2=true:=hc (dN l2) (by simp);have c1:uL (fA l1)=true:=hc (uL (fA l1)) (by simp);have c2:YX (bW l2)=true:=hc (YX (bW l2)) (by simp);obtain⟨v1,rfl⟩: ∃x,l1=dF x:=⟨_,lT h1⟩
   obtain⟨v2,rfl⟩: ∃x,l2=aY x:=⟨_,lS h2⟩
   try simp only[bD,dM]at*
   have hs:=afj v1 v2 c1 c2;rw[←akQ]at hs;generalize aI Tryz.prog (za Tryz.prog afh 70 3) bX 1010 Tryz.f355 [.agg [],.agg (dF v1),.agg (aY v2)]=T at hs⊢;generalize hold (nU (xQ v1) v2)=z0 at hs⊢;generalize hold (oN (xQ v1) v2)=z1 at hs⊢;generalize hold (nU (yQ v1) v2)=z2 at hs⊢;generalize hold (oN (yQ v1) v2)=z3 at hs⊢;exact Tr.bC (λr hr=>⟨by subst hr;rfl,bM.of_eq hr⟩) hs
  ·cases h
theorem akU:aN Tryz.prog 354 aqk:=by
 refine aM aj eP (fn:=Tryz.f354) (c:=codeOf Tryz.f354) (by kernel_rfl) (by kernel_rfl) (aG (fn:=Tryz.f354) (c:=codeOf Tryz.f354) (by kernel_rfl) (by kernel_rfl) (by kernel_rfl)) (L:=bX) (N:=1010) (ak _ _) ?_ ?_
 ·intro args v cs h
  unfold aqk at h
  split at h
  ·cases h;rfl
  ·cases h
 ·intro args v cs h hc
  unfold aqk at h
  split at h
  ·rename_i l1 l2
   cases h;have h1:gL l1=true:=hc (gL l1) (by simp);have h2:gL l2=true:=hc (gL l2) (by simp);obtain⟨v1,rfl⟩: ∃x,l1=dF x:=⟨_,lT h1⟩
   obtain⟨v2,rfl⟩: ∃x,l2=dF x:=⟨_,lT h2⟩
   try simp only[bD]at*
   have hs:=afk v1 v2;rw[←akR]at hs;generalize aI Tryz.prog (λ_=>none) bX 1010 Tryz.f354 [.agg [],.agg (dF v1),.agg (dF v2)]=T at hs⊢;generalize Pk v1 v2=z at hs⊢;exact Tr.bC (λr hr=>⟨by subst hr;rfl,bM.of_eq hr⟩) hs
  ·cases h
end Go.bI
namespace Go.bI
open Go.Proofs
def RO(q:Rat):List IV:=[.v (.bool (decide (q.num<0))),.v (.string ⟨⟨aA q.num.natAbs⟩⟩),.v (.bool false),.v (.string ⟨⟨aH q.den⟩⟩)]
def qN(x:L4):List IV:=RO x.x0++(RO x.x1++(RO x.y0++RO x.y1))
def l40:L4:=⟨0,0,0,0⟩
theorem Ae: ∀{l m:List IV},l.map AV.c=m.map AV.c→l=m
 | [],[],_=>rfl
 | [],_::_,h=>by cases h
 | _::_,[],h=>by cases h
 | x::l,y::m,h=>by
   simp only[List.map_cons,List.cons.injEq,AV.c.injEq]at h;rw[h.1,Ae h.2]
theorem bE(x:L4):gL (dF x)=true:=by
 show(aK (aC x.x0)&&aK (aC x.x1)&&aK (aC x.y0)&&aK (aC x.y1))=true
 rw[iw,iw,iw,iw];rfl
theorem fM(x:R3):dN (aY x)=true:=by
 show(aK (aC x.p)&&aK (aC x.r)&&ug [.c (.v (.bool x.neg))])=true
 rw[iw,iw];rfl
end Go.bI
namespace Go.bI
open Go.Proofs
structure Un where
 a:Int
 b:Int
 oa:Bool
 ob:Bool
 f:L4
def zIV:List IV:=[.v (.bool false),.v (.string ⟨⟨[]⟩⟩),.v (.bool false),.v (.string ⟨⟨[]⟩⟩)]
def LG(n:Int):List IV:=RO (n:Rat)++(zIV++[.v (.bool false)])
def zA(u:Un):List IV:=LG u.a++(LG u.b++([.v (.bool u.oa),.v (.bool u.ob)]++qN u.f))
def gT(n:Int):List AV:=aC (n:Rat)++(Ka++[.c (.v (.bool false))])
def sK(u:Un):List AV:=gT u.a++(gT u.b++([.c (.v (.bool u.oa)),.c (.v (.bool u.ob))]++dF u.f))
def akV(u:Un):AV:= .agg (sK u)
theorem afn(u:Un):(zA u).map AV.c=sK u:=rfl
def xP(l:List AV):Int:=(bW l).p.num
def vV(l:List AV):Bool:=dN l&&(decide ((bW l).r=0)&&(!(bW l).neg&&decide ((bW l).p.den=1)))
def unV(l:List AV):Un:=⟨xP (l.take 9),xP ((l.drop 9).take 9),nK ((l.drop 18).take 1),nK ((l.drop 19).take 1),fA (l.drop 20)⟩
def DF(l:List AV):Bool:=vV (l.take 9)&&(vV ((l.drop 9).take 9)&&(ug ((l.drop 18).take 1)&&(ug ((l.drop 19).take 1)&&gL (l.drop 20))))
theorem vD(n:Int):gT n=aY ⟨(n:Rat),0,false⟩:=by
 show _=aC (n:Rat)++(aC 0++[.c (.v (.bool false))])
 rw[Kc];rfl
theorem Ke{q:Rat}(h:q.den=1):((q.num:Int):Rat)=q:=Rat.ext rfl h.symm
theorem DI{l:List AV}(h:vV l=true):l=gT (xP l):=by
 simp only[vV,cu,fT,Bool.not_eq_true']at h;obtain⟨h1,h2,h3,h4⟩:=h;have e:=lS h1;rw[vD];unfold xP;rw[Ke h4];have:bW l=⟨(bW l).p,0,false⟩:=by rw[←h2, ←h3]
 rw[←this];exact e
theorem bY(n:Int):vV (gT n)=true:=by
 rw[vD];simp only[vV,fM,dM];simp
theorem dw(n:Int):xP (gT n)=n:=by
 rw[vD];simp only[xP,dM];rfl
theorem sZ{l:List AV}(h:ug l=true):l=[.c (.v (.bool (nK l)))]:=by
 unfold ug at h
 split at h
 ·rfl
 ·cases h
theorem Y0{l:List AV}(h:DF l=true):l=sK (unV l):=by
 simp only[DF,cu]at h;obtain⟨h1,h2,h3,h4,h5⟩:=h;have e1:=DI h1;have e2:=DI h2;have e3:=sZ h3;have e4:=sZ h4;have e5:=lT h5
 show l=gT (xP (l.take 9))++(gT (xP ((l.drop 9).take 9))++(([.c (.v (.bool (nK ((l.drop 18).take 1))))]++[.c (.v (.bool (nK ((l.drop 19).take 1))))])++dF (fA (l.drop 20))))
 rw[←e1, ←e2, ←e3, ←e4, ←e5];have a1:=List.take_append_drop 1 (l.drop 19);rw[List.drop_drop]at a1;have a2:=List.take_append_drop 1 (l.drop 18);rw[List.drop_drop]at a2;have a3:=List.take_append_drop 9 (l.drop 9);rw[List.drop_drop]at a3;rw[List.append_assoc,a1,a2,a3,List.take_append_drop]
theorem dG(u:Un):unV (sK u)=u:=by
 show Un.mk (xP (gT u.a)) (xP (gT u.b)) u.oa u.ob (fA (dF u.f))=u
 rw[dw,dw,bD]
theorem dh(u:Un):DF (sK u)=true:=by
 show(vV (gT u.a)&&(vV (gT u.b)&&(true&&(true&&gL (dF u.f)))))=true
 rw[bY,bY,bE];rfl
def u0:Un:=⟨0,0,false,false,l40⟩
def bZ(U:List Un):Nat→List IV:=λk=>zA (U.getD k u0)
def cB(n:Nat)(el:Nat→List IV):List Un:=(List.range n).map λk=>unV ((el k).map .c)
def eH(n:Nat)(el:Nat→List IV):Bool:=(List.range n).all λk=>DF ((el k).map .c)
def GZ(U:List Un):AV:= .c (.sl U.length 36 (bZ U))
theorem tq(n:Nat)(el:Nat→List IV):(cB n el).length=n:=by simp[cB]
theorem VX(n:Nat)(el:Nat→List IV)(k:Nat)(hk:k<n):(cB n el).getD k u0=unV ((el k).map .c):=by
 simp[cB,dR,hk]
theorem wQ{n:Nat}{el:Nat→List IV}(h:eH n el=true): ∀k,k<n→el k=bZ (cB n el) k:=λk hk=>by
 have h1:=List.all_eq_true.1 h k (List.mem_range.2 hk);have h2:=Y0 h1;unfold bZ;rw[VX n el k hk];exact Ae (h2.trans (afn _).symm)
theorem dQ(U:List Un):cB U.length (bZ U)=U:=by
 apply List.ext_getElem
 ·simp[cB]
 ·intro i h1 h2
  simp[cB,bZ,afn,dG,dR,h2]
theorem bT(U:List Un):eH U.length (bZ U)=true:=by
 refine List.all_eq_true.2 λk _=> ?_
 show DF (sK _)=true
 exact dh _
theorem Gt{n:Nat}{el jw:Nat→List IV}(h: ∀k,k<n→el k=jw k):cB n el=cB n jw:=by
 unfold cB;refine List.map_congr_left λk hk=> ?_
 rw[h k (List.mem_range.1 hk)]
theorem Gu{n:Nat}{el jw:Nat→List IV}(h: ∀k,k<n→el k=jw k):eH n el=eH n jw:=by
 have: ∀l:List Nat,(∀k∈l,k<n)→(l.all λk=>DF ((el k).map .c))=(l.all λk=>DF ((jw k).map .c)):=by
  intro l hl
  induction l with
  | nil=>rfl
  | cons x l ih=>
    simp only[List.all_cons];rw[h x (hl x (by simp)),ih λk hk=>hl k (by simp[hk])]
 exact this _ λk hk=>List.mem_range.1 hk
theorem Y3(U:List Un)(i:Nat)(hi:i<U.length)(j:Nat)(c:List IV)(u:Un)(he:(zA (U.getD i u0)).take j++c++(zA (U.getD i u0)).drop (j+c.length)=zA u):
  cB U.length (aP (bZ U) i j c)=U.set i u∧eH U.length (aP (bZ U) i j c)=true:=by
 have key: ∀k,k<U.length→aP (bZ U) i j c k=bZ (U.set i u) k:=by
  intro k hk;unfold aP;by_cases hk2:k=i
  ·subst hk2
   rw[if_pos rfl];unfold bZ;rw[he];simp[dR,hk]
  ·rw[if_neg hk2]
   unfold bZ;simp[dR,List.getElem?_set_ne (Ne.symm hk2)]
 have hl:U.length=(U.set i u).length:=by simp
 rw[Gt key,Gu key];constructor
 ·have:=dQ (U.set i u)
  rw[←hl]at this;exact this
 ·have:=bT (U.set i u)
  rw[←hl]at this;exact this
end Go.bI
namespace Go.bI
def ql(u:Un):Bool:=
 decide (0≤u.a)&&(decide (u.b≤63)&&(!u.ob&&(yG 32768 8 u.f.x0&&(yG 63 8 u.f.x1&&(yG 32768 8 u.f.y0&&(yG 63 8 u.f.y1&&
  (decide (u.a<u.b) || (decide (u.a=u.b)&&(!u.oa&&(decide (u.f.x1=0)&&decide (u.f.y1=0)))))))))))
def mH(u v:Un):Bool:=decide (u.a<u.b)&&bif v.oa then decide (u.b=v.a)else decide (u.b<v.a)
def oO:List Un→Bool
 | []=>true
 | u::l=>ql u&&(match l with | []=>true|v::_=>mH u v)&&oO l
def mI(l:List Un):Bool:=oO l&&(match l with | []=>true|u::_=> !u.oa)
def uj(u v:Un):Bool:=v.oa&&Pk u.f v.f
def kR:Un→List Un→List Un
 | p,[]=> [p]
 | p,u::l=>bif uj p u then kR {p with b:=u.b} l else p::kR u l
def mJ:List Un→List Un
 | []=> []
 | u::l=>kR u l
def Pm:List Un→Bool
 | []=>true
 | u::l=>(match l with | []=>true|v::_=> !uj u v)&&Pm l
theorem tu{u:Un}{l:List Un}(h:oO (u::l)=true):oO l=true:=by
 simp only[oO,cu]at h;exact h.2
theorem nD{u:Un}{l:List Un}(h:oO (u::l)=true):ql u=true:=by
 simp only[oO,cu]at h;exact h.1.1
theorem oJ{u v:Un}{l:List Un}(h:oO (u::v::l)=true):mH u v=true:=by
 rw[oO,cu,cu]at h;exact h.1.2
theorem um{u:Un}(h:ql u=true):0≤u.a∧u.a≤u.b∧u.b≤63∧u.ob=false:=by
 simp only[ql,cu,Bool.or_eq_true,fT,Bool.not_eq_true']at h;obtain⟨h1,h2,h3,_,_,_,_,h4⟩:=h;refine⟨h1,?_,h2,h3⟩;rcases h4 with h4|h4
 ·omega
 ·omega
theorem Af{u:Un}(h:ql u=true)(ho:u.oa=true):u.a<u.b:=by
 simp only[ql,cu,Bool.or_eq_true,fT,Bool.not_eq_true']at h;obtain⟨h1,h2,h3,_,_,_,_,h4⟩:=h;rcases h4 with h4|h4
 ·exact h4
 ·rw[ho]at h4
  exact absurd h4.2.1 (by simp)
theorem ER{u:Un}(h:ql u=true)(ho: ¬u.a<u.b):u.a=u.b∧u.oa=false∧u.f.x1=0∧u.f.y1=0:=by
 simp only[ql,cu,Bool.or_eq_true,fT,Bool.not_eq_true']at h;obtain⟨h1,h2,h3,_,_,_,_,h4⟩:=h;rcases h4 with h4|h4
 ·exact absurd h4 ho
 ·exact⟨h4.1,h4.2.1,h4.2.2.1,h4.2.2.2⟩
theorem rH{u v:Un}(h:mH u v=true)(ho:v.oa=true):u.b=v.a∧u.a<u.b:=by
 unfold mH at h;rw[ho]at h;simp only[cond_true,cu,fT]at h;exact⟨h.2,h.1⟩
theorem ES{u v:Un}(h:mH u v=true)(ho:v.oa=false):u.b<v.a:=by
 unfold mH at h;rw[ho]at h;simp only[cond_false,cu,fT]at h;exact h.2
theorem xR{u v:Un}(h:mH u v=true):u.a<u.b:=by
 unfold mH at h;simp only[cu,fT]at h;exact h.1
theorem afo{u v:Un}(h:mH u v=true):u.b≤v.a:=by
 cases ho:v.oa with
 | true=>have:=rH h ho;omega
 | false=>have:=ES h ho;omega
theorem aa7{p u:Un}(hp:ql p=true)(hu:ql u=true)(hl:mH p u=true)(ho:u.oa=true):ql {p with b:=u.b}=true:=by
 have h1:=um hu;have h2:=rH hl ho;have h3:=Af hu ho;simp only[ql,cu,Bool.or_eq_true,fT,Bool.not_eq_true']at hp⊢;obtain⟨a1,a2,a3,a4,a5,a6,a7,_⟩:=hp;exact⟨a1,h1.2.2.1,a3,a4,a5,a6,a7,.inl (by show p.a<u.b;omega)⟩
theorem RP{p u:Un}{l:List Un}(h:oO (p::u::l)=true)(ho:u.oa=true):oO ({p with b:=u.b}::l)=true:=by
 have hp:=nD h;have hl:=oJ h;have ht:=tu h;have hu:=nD ht;have hg:=aa7 hp hu hl ho;have h2:=rH hl ho;have h3:=Af hu ho;cases l with
 | nil=>simp only[oO,hg,Bool.and_self]
 | cons v l=>
   have hl2:=oJ ht;have ht2:=tu ht;have:mH {p with b:=u.b} v=true:=by
    unfold mH at hl2⊢;rw[cu]at hl2⊢;exact⟨fZ (by show p.a<u.b;omega),hl2.2⟩
   rw[oO,hg,this,ht2];rfl
theorem VY(l:List Un): ∀p:Un, ∃q m,kR p l=q::m∧q.a=p.a∧q.oa=p.oa:=by
 induction l with
 | nil=>intro p;exact⟨p,[],rfl,rfl,rfl⟩
 | cons u l ih=>
   intro p;simp only[kR];cases uj p u with
   | true=>
     obtain⟨q,m,h1,h2,h3⟩:=ih {p with b:=u.b};exact⟨q,m,h1,h2,h3⟩
   | false=>exact⟨p,kR u l,rfl,rfl,rfl⟩
theorem RQ(l:List Un): ∀p:Un, ∃q m,kR p l=q::m∧q.a=p.a∧q.oa=p.oa∧q.f=p.f:=by
 induction l with
 | nil=>intro p;exact⟨p,[],rfl,rfl,rfl,rfl⟩
 | cons u l ih=>
   intro p;simp only[kR];cases uj p u with
   | true=>
     obtain⟨q,m,h1,h2,h3,h4⟩:=ih {p with b:=u.b};exact⟨q,m,h1,h2,h3,h4⟩
   | false=>exact⟨p,kR u l,rfl,rfl,rfl,rfl⟩
theorem Kg: ∀(l:List Un) (p:Un),oO (p::l)=true→oO (kR p l)=true∧Pm (kR p l)=true
 | [],p,h=>⟨h,rfl⟩
 | u::l,p,h=>by
   simp only[kR];cases hj:uj p u with
   | true=>
     have ho:u.oa=true:=by simp only[uj,cu]at hj;exact hj.1
     exact Kg l _ (RP h ho)
   | false=>
     obtain⟨h1,h2⟩:=Kg l u (tu h);obtain⟨q,m,h3,h4,h5,h6⟩:=RQ l u;have hp:=nD h;have hl:=oJ h;have hl':mH p q=true:=by unfold mH at hl⊢;rw[h4,h5];exact hl
     have hj':uj p q=false:=by unfold uj at hj⊢;rw[h5,h6];exact hj
     simp only[cond_false];rw[h3]at h1 h2⊢;constructor
     ·rw[oO,hp,hl',h1];rfl
     ·rw[Pm,hj',h2];rfl
def RS(l:List Un):Bool:=mI l&&Pm l
theorem VZ{l:List Un}(h:mI l=true):RS (mJ l)=true:=by
 unfold mI at h;cases l with
 | nil=>rfl
 | cons u l=>
   rw[cu]at h;obtain⟨h1,h2⟩:=Kg l u h.1;obtain⟨q,m,h3,h4,h5⟩:=VY l u
   show RS (kR u l)=true
   unfold RS mI;rw[h3]at h1 h2⊢;rw[h1,h2,Bool.true_and,Bool.and_true]
   show(!q.oa)=true
   rw[h5];exact h.2
theorem ET: ∀(l:List Un) (p:Un),1≤(kR p l).length∧(kR p l).length≤l.length+1
 | [],p=>⟨Nat.le_refl _,Nat.le_refl _⟩
 | u::l,p=>by
   simp only[kR];cases uj p u with
   | true=>have:=ET l {p with b:=u.b};simp only[cond_true,List.length_cons];omega
   | false=>have:=ET l u;simp only[cond_false,List.length_cons];omega
theorem Kh(l:List Un):(mJ l).length≤l.length∧(l≠ []→1≤(mJ l).length):=by
 cases l with
 | nil=>exact⟨Nat.le_refl _,λh=>absurd rfl h⟩
 | cons u l=>have:=ET l u;exact⟨this.2,λ_=>this.1⟩
end Go.bI
namespace Go.bI
open Go.Proofs
def Gv:Arg Int where
 get:=λa=>match a with | .agg l=>some (xP l,[vV l]) | _=>none
 put:=λn=> .agg (gT n)
 ok:=by
  intro a x cs h hc
  split at h
  ·rename_i l
   simp only[fK,Prod.mk.injEq]at h;obtain⟨rfl,rfl⟩:=h;have:=DI (l:=l) (hc _ (by simp));rw[←this];exact bM.refl _
  ·cases h
def nE:Arg L4 where
 get:=λa=>match a with | .agg l=>some (fA l,[gL l]) | _=>none
 put:=zu
 ok:=by
  intro a x cs h hc
  split at h
  ·rename_i l
   simp only[fK,Prod.mk.injEq]at h;obtain⟨rfl,rfl⟩:=h;have:=lT (l:=l) (hc _ (by simp));unfold zu;rw[←this];exact bM.refl _
  ·cases h
def Pn:Arg Rat where
 get:=λa=>match a with | .agg l=>some (aB l,[aK l]) | _=>none
 put:=nR
 ok:=by
  intro a x cs h hc
  split at h
  ·rename_i l
   simp only[fK,Prod.mk.injEq]at h;obtain⟨rfl,rfl⟩:=h;have:=dX (l:=l) (hc _ (by simp));unfold nR;rw[←this];exact bM.refl _
  ·cases h
structure Iv where
 a:Int
 b:Int
 oa:Bool
 ob:Bool
def pY(i:Iv):List AV:=gT i.a++(gT i.b++[.c (.v (.bool i.oa)),.c (.v (.bool i.ob))])
def ivV(l:List AV):Iv:=⟨xP (l.take 9),xP ((l.drop 9).take 9),nK ((l.drop 18).take 1),nK (l.drop 19)⟩
def DJ(l:List AV):Bool:=vV (l.take 9)&&(vV ((l.drop 9).take 9)&&(ug ((l.drop 18).take 1)&&ug (l.drop 19)))
theorem akW{l:List AV}(h:DJ l=true):l=pY (ivV l):=by
 simp only[DJ,cu]at h;obtain⟨h1,h2,h3,h4⟩:=h;have e1:=DI h1;have e2:=DI h2;have e3:=sZ h3;have e4:=sZ h4
 show l=gT (xP (l.take 9))++(gT (xP ((l.drop 9).take 9))++([.c (.v (.bool (nK ((l.drop 18).take 1))))]++[.c (.v (.bool (nK (l.drop 19))))]))
 rw[←e1, ←e2, ←e3, ←e4];have a2:=List.take_append_drop 1 (l.drop 18);rw[List.drop_drop]at a2;have a3:=List.take_append_drop 9 (l.drop 9);rw[List.drop_drop]at a3;rw[a2,a3,List.take_append_drop]
def Gw:Arg Iv where
 get:=λa=>match a with | .agg l=>some (ivV l,[DJ l]) | _=>none
 put:=λi=> .agg (pY i)
 ok:=by
  intro a x cs h hc
  split at h
  ·rename_i l
   simp only[fK,Prod.mk.injEq]at h;obtain⟨rfl,rfl⟩:=h;have:=akW (l:=l) (hc _ (by simp));rw[←this];exact bM.refl _
  ·cases h
def Y4:Arg Un where
 get:=λa=>match a with | .agg l=>some (unV l,[DF l]) | _=>none
 put:=akV
 ok:=by
  intro a x cs h hc
  split at h
  ·rename_i l
   simp only[fK,Prod.mk.injEq]at h;obtain⟨rfl,rfl⟩:=h;have:=Y0 (l:=l) (hc _ (by simp));unfold akV;rw[←this];exact bM.refl _
  ·cases h
def l9:Arg (List Un) where
 get:=λa=>match a with | .c (.sl n 36 el)=>some (cB n el,[eH n el]) | _=>none
 put:=GZ
 ok:=by
  intro a x cs h hc
  split at h
  ·rename_i n el
   simp only[fK,Prod.mk.injEq]at h;obtain⟨rfl,rfl⟩:=h;unfold GZ;rw[tq];exact bM.sl (wQ (hc _ (by simp)))
  ·cases h
theorem fB(x:Iv):ivV (pY x)=x:=by
 show Iv.mk (xP (gT x.a)) (xP (gT x.b)) x.oa x.ob=x
 rw[dw,dw]
theorem dS(x:Iv):DJ (pY x)=true:=by
 show(vV (gT x.a)&&(vV (gT x.b)&&(true&&true)))=true
 rw[bY,bY];rfl
abbrev F1{X:Type}(A:Arg X):Form (X×Unit):= .cons A .nil
abbrev F2{X Y:Type}(A:Arg X)(B:Arg Y):Form (X×Y×Unit):= .cons A (.cons B .nil)
abbrev F3{X Y Z:Type}(A:Arg X)(B:Arg Y)(C:Arg Z):Form (X×Y×Z×Unit):= .cons A (.cons B (.cons C .nil))
def Ag(n:Int):Bool:=decide (n.natAbs≤1000000)
end Go.bI
namespace Go.bI
open Go.Proofs
def anW:FuncId→Option Spec:=λf=>bif Nat.beq f 120 then some (ay Pg)else bif Nat.beq f 150 then some (ay ae4)else bif Nat.beq f 151 then some (ay VR)else bif Nat.beq f 152 then some (ay aeZ)else bif Nat.beq f 153 then some (ay RG)else none
theorem afp: ∀f s,anW f=some s→aR Tryz.prog f s:=step_ok Ac.spec (step_ok YV.spec (step_ok Iu.spec (step_ok YT.spec (bS Dy.spec))))
def akX(m:Int)(n:Int):Tr AV:=
 let x1:List AV:=[.c (.v (.bool false)),.c (.v (.string ⟨⟨aH 1⟩⟩))]
 let x2:List AV:= .c (.v (.bool (decide (m<0)))):: .c (.v (.string ⟨⟨aA m.natAbs⟩⟩))::x1
 let x3:List AV:= .c (.v (.bool (decide (n<0)))):: .c (.v (.string ⟨⟨aA n.natAbs⟩⟩))::x1
 let x4:List AV:=[.c (.v (.bool false)),.c (.v (.string ⟨⟨aH 1⟩⟩)),.c (.v (.bool false)),.c (.v (.string ⟨⟨[]⟩⟩)),.c (.v (.bool false)),.c (.v (.string ⟨⟨[]⟩⟩)),.c (.v (.bool false))]
 let x5:Int:=(hold (aB x2-aB x3)).num
 let x6:List AV:=[.c (.v (.bool (decide (x5<0)))),.c (.v (.string ⟨⟨aA x5.natAbs⟩⟩)),.c (.v (.bool false)),.c (.v (.string ⟨⟨aH (hold (aB x2-aB x3)).den⟩⟩))]
 let x7:Int:=l8 (aB x6) (aB (.c (.v (.bool false)):: .c (.v (.string ⟨⟨aA (((1:Nat):Int)).natAbs⟩⟩))::x1)) (aB [.c (.v (.bool false)),.c (.v (.string ⟨⟨[]⟩⟩)),.c (.v (.bool false)),.c (.v (.string ⟨⟨[]⟩⟩))])
 .need (aK x2) (.need (aK x3) (.need (jZ (aB x2) (-aB x3)) (.need (dN (.c (.v (.bool (decide (m<0)))):: .c (.v (.string ⟨⟨aA m.natAbs⟩⟩))::x4)) (.need (dN (.c (.v (.bool (decide (n<0)))):: .c (.v (.string ⟨⟨aA n.natAbs⟩⟩))::x4)) (.need true (.need (aK x6) (.need true (.need true (.need (nA (aB x6) (aB (.c (.v (.bool false)):: .c (.v (.string ⟨⟨aA (((1:Nat):Int)).natAbs⟩⟩))::x1)) (aB [.c (.v (.bool false)),.c (.v (.string ⟨⟨[]⟩⟩)),.c (.v (.bool false)),.c (.v (.string ⟨⟨[]⟩⟩))])) (.need true (.need true (.need true (.ite true (.ret (.c (.v (.int IntKind.i64 x7)))) (.ite (x7==0) (.ret (.c (.v (.int IntKind.i64 0)))) (.fail "real.go:128")))))))))))))))
theorem akY(m n:Int):aI Tryz.prog anW bX 1010 Tryz.f101 [.agg (gT m),.agg (gT n)]=akX m n:=by kernel_rfl
theorem Iz{n:Int}:Ag n=true↔n.natAbs≤1000000:=by unfold Ag;exact decide_eq_true_iff
theorem afq{n:Int}(h:Ag n=true):jY 1000000 1 (n:Rat):=⟨Iz.1 h,Nat.le_refl _⟩
theorem akZ(m n:Int):(m:Rat)-(n:Rat)=((m-n:Int):Rat):=by simp
theorem ak0(m n:Int):gW (m-n) 0=gW m n:=by
 unfold gW;by_cases h:m<n
 ·rw[if_pos h,if_pos (by omega)]
 ·rw[if_neg h,if_neg (by omega)]
  by_cases k:m>n
  ·rw[if_pos k,if_pos (by omega)]
  ·rw[if_neg k,if_neg (by omega)]
theorem atl:gW (0:Rat).num 0=0:=by decide
theorem V3(a b:Rat):l8 a b 0=gW a.num 0:=by
 unfold l8;simp only[atl,Int.mul_zero,true_or,if_true]
theorem RU{n:Int}(h:n.natAbs≤2000000):nA (n:Rat) 1 0=true:=by
 have hn:jY 2000000 1 (n:Rat):=⟨h,Nat.le_refl _⟩
 simp only[nA,cu];refine⟨⟨⟨sJ hn hn ?_ ?_ ?_ ?_ ?_ ?_,sJ jY.one jY.one ?_ ?_ ?_ ?_ ?_ ?_⟩,sJ (jY.one.mul jY.one) jY.zero ?_ ?_ ?_ ?_ ?_ ?_⟩,Iy (hn.mul hn) ((jY.one.mul jY.one).mul jY.zero) ?_ ?_ ?_ ?_⟩
 all_goals decide
theorem aa8:aB [AV.c (.v (.bool false)),AV.c (.v (.string ⟨⟨aA (((1:Nat):Int)).natAbs⟩⟩)),AV.c (.v (.bool false)),AV.c (.v (.string ⟨⟨aH 1⟩⟩))]=1:=dK 1
theorem afr(m n:Int)(hm:Ag m=true)(hn:Ag n=true):(akX m n).sat λr=>r=dn .i64 (gW m n):=by
 have f1:jZ (m:Rat) (-(n:Rat))=true:=nC (afq hm) (afq hn).neg (by decide) (by decide) (by decide) (by decide) (by decide) (by decide);have f2:nA (((m-n:Int)):Rat) 1 0=true:=RU (by have:=Iz.1 hm;have:=Iz.1 hn;omega);simp only[akX,aa8,Ad,xM,dP,dB,lF,kM,jh,iH,iU,iy,fV,Bool.and_self,Bool.and_true,Bool.true_and,sat_true,f1,akZ,f2,V3];refine au (λ_=>av ?_) (λh=>by cases h)
 show AV.c (.v (.int IntKind.i64 (gW (m-n) 0)))=_
 rw[ak0];rfl
def aqo:List AV→Option (AV×List Bool):=(F2 Gv Gv).K (λx=>dn .i64 (gW x.1 x.2.1)) λx=> [Ag x.1,Ag x.2.1]
theorem Y5:aN Tryz.prog 101 aqo:=
 (F2 Gv Gv).dO (N:=1010) (L:=bX) aj afp (fn:=Tryz.f101) (c:=codeOf Tryz.f101) (by kernel_rfl) (by kernel_rfl) (by kernel_rfl) (ak _ _) (λ_=>rfl) (M:=λx=>akX x.1 x.2.1) (λx=>akY x.1 x.2.1)
  λx h=>afr x.1 x.2.1 (h _ (by simp)) (h _ (by simp))
end Go.bI
namespace Go.bI
open Go.Proofs
def atm:FuncId→Option Spec:=λf=>bif Nat.beq f 101 then some (ay aqo)else none
theorem ak1: ∀f s,atm f=some s→aR Tryz.prog f s:=bS Y5.spec
def M48(i:Iv)(j:Iv):Tr AV:=
 let x1:List AV:=[.c (.v (.bool false)),.c (.v (.string ⟨⟨aH 1⟩⟩)),.c (.v (.bool false)),.c (.v (.string ⟨⟨[]⟩⟩)),.c (.v (.bool false)),.c (.v (.string ⟨⟨[]⟩⟩)),.c (.v (.bool false))]
 let x2:List AV:= .c (.v (.bool (decide (i.b<0)))):: .c (.v (.string ⟨⟨aA i.b.natAbs⟩⟩))::x1
 let x3:List AV:= .c (.v (.bool (decide (j.a<0)))):: .c (.v (.string ⟨⟨aA j.a.natAbs⟩⟩))::x1
 let x4:Int:=xP x2
 let x5:Int:=xP x3
 let x6:Int:=gW x4 x5
 let x7:Bool:=decide (x6<0)
 let x8:Bool:=x6==0
 .need (vV x2) (.need (vV x3) (.need (Ag x4) (.need (Ag x5) (.need (bif x7 then true else bif x8 then bif i.ob then true else true else true) (.ret (.c (.v (.bool (bif x7 then true else bif x8 then bif i.ob then bif false then true else bif true then true else false else bif false then true else bif true then bif false then true else j.oa else false else bif false then true else false)))))))))
def ak2(i:Iv):Tr AV:=
 let x1:Bool:=false==false
 let x2:List Bool:=[x1]
 let x3:Bool:=bA ((([]:List UInt8)==[])::x2).reverse
 let x4:List UInt8:=aH 1
 .ret (.c (.v (.bool (bA [x1,bA [x3,x3].reverse,bA [bA ((x4==x4)::x2).reverse,bA [aA i.a.natAbs==aA i.b.natAbs,decide (i.a<0)==decide (i.b<0)].reverse].reverse].reverse))))
def ak3(U:List Un)(t:Int):Tr AV:=
 let x1:Int:= ↑U.length
 let x2:Bool:=decide (x1>0)
 let x3:Int:=IntKind.i64.wrap (x1-1)
 let x4:Bool:=decide (0≤x3∧x3<x1)
 let x5:Bool:=false==false
 let x6:List Bool:=[x5]
 let x7:Bool:=bA ((([]:List UInt8)==[])::x6).reverse
 let x8:List UInt8:=aH 1
 let x9:Int:=(U.getD x3.toNat u0).b
 let x10:Bool:=bif true then bA [x5,bA [x7,x7].reverse,bA [bA ((x8==x8)::x6).reverse,bA [aA x9.natAbs==aA t.natAbs,decide (x9<0)==decide (t<0)].reverse].reverse].reverse else false
 let fI:Bool:=x4&&true
 let fU:Bool:=bif true then !(U.getD x3.toNat u0).ob else false
 .need (bif x2 then x4&&bif x10 then fI else true else bif false then fI else true) (.ret (.c (.v (.bool (bif x2 then bif x10 then fU else false else bif false then fU else false)))))
def aqp(i:Iv):Tr AV:=
 .ite i.oa (.ret (.c (.v (.int IntKind.i64 1)))) (.ret (.c (.v (.int IntKind.i64 0))))
theorem aqr(i j:Iv):aI Tryz.prog atm bX 1010 Tryz.f130 [.agg (pY i),.agg (pY j)]=M48 i j:=by kernel_rfl
theorem ak4(i:Iv):aI Tryz.prog (λ_=>none) bX 1010 Tryz.f142 [.agg (pY i)]=ak2 i:=by kernel_rfl
theorem ak5(U:List Un)(t:Int):aI Tryz.prog (λ_=>none) bX 1010 Tryz.f171 [GZ U,.agg (gT t)]=ak3 U t:=by kernel_rfl
theorem ak6(i:Iv):aI Tryz.prog (λ_=>none) bX 1010 Tryz.f219 [.agg (pY i)]=aqp i:=by kernel_rfl
theorem anX(n:Int):xP [AV.c (.v (.bool (decide (n<0)))),AV.c (.v (.string ⟨⟨aA n.natAbs⟩⟩)),AV.c (.v (.bool false)),AV.c (.v (.string ⟨⟨aH 1⟩⟩)),AV.c (.v (.bool false)),AV.c (.v (.string ⟨⟨[]⟩⟩)),AV.c (.v (.bool false)),AV.c (.v (.string ⟨⟨[]⟩⟩)),AV.c (.v (.bool false))]=n:=dw n
theorem afs(n:Int):vV [AV.c (.v (.bool (decide (n<0)))),AV.c (.v (.string ⟨⟨aA n.natAbs⟩⟩)),AV.c (.v (.bool false)),AV.c (.v (.string ⟨⟨aH 1⟩⟩)),AV.c (.v (.bool false)),AV.c (.v (.string ⟨⟨[]⟩⟩)),AV.c (.v (.bool false)),AV.c (.v (.string ⟨⟨[]⟩⟩)),AV.c (.v (.bool false))]=true:=bY n
theorem p9(a b:Int):bA [false==false,bA [bA ((([]:List UInt8)==[])::[false==false]).reverse,bA ((([]:List UInt8)==[])::[false==false]).reverse].reverse,bA [bA ((aH 1==aH 1)::[false==false]).reverse,bA [aA a.natAbs==aA b.natAbs,decide (a<0)==decide (b<0)].reverse].reverse].reverse=decide (a=b):=by
 rw[EP];simp[bA]
theorem ak7(a b:Int):decide (gW a b<0)=decide (a<b):=by
 unfold gW;by_cases h:a<b
 ·rw[if_pos h];simp[h]
 ·rw[if_neg h]
  by_cases k:a>b
  ·rw[if_pos k];simp[h]
  ·rw[if_neg k];simp[h]
theorem ak8(a b:Int):(gW a b==0)=decide (a=b):=by
 unfold gW;by_cases h:a<b
 ·rw[if_pos h];simp;omega
 ·rw[if_neg h]
  by_cases k:a>b
  ·rw[if_pos k];simp;omega
  ·rw[if_neg k];simp;omega
def EU(i j:Iv):Bool:=decide (i.b<j.a) || (decide (i.b=j.a)&&(i.ob || j.oa))
theorem ak9(i j:Iv)(h1:Ag i.b=true)(h2:Ag j.a=true):(M48 i j).sat λr=>r=bL (EU i j):=by
 simp only[M48,anX,afs,h1,h2,sat_true,ak7,ak8];refine ah ?_ (av ?_)
 ·cases decide (i.b<j.a)<;>cases decide (i.b=j.a)<;>cases i.ob<;>rfl
 ·unfold EU
  cases decide (i.b<j.a)<;>cases decide (i.b=j.a)<;>cases i.ob<;>cases j.oa<;>rfl
theorem aft(i:Iv):(ak2 i).sat λr=>r=bL (decide (i.a=i.b)):=by
 simp only[ak2,p9];exact av rfl
def Bo(U:List Un)(t:Int):Bool:=decide (0<U.length)&&(decide ((U.getD (U.length-1) u0).b=t)&& !(U.getD (U.length-1) u0).ob)
theorem afu(U:List Un)(t:Int)(h:decide (U.length≤1000)=true):(ak3 U t).sat λr=>r=bL (Bo U t):=by
 have h:=j4 h;simp only[ak3,p9];by_cases hu:0<U.length
 ·have hw:IntKind.i64.wrap ((U.length:Int)-1)=((U.length-1:Nat):Int):=jR
  have c1:decide ((0:Int)≤((U.length-1:Nat):Int)∧((U.length-1:Nat):Int)<(U.length:Int))=true:=bQ;have c2:decide ((U.length:Int)>0)=true:=bQ;simp only[hw,c1,c2,Int.toNat_natCast,cond_true,Bool.and_self,Bool.true_and];refine ah ?_ (av ?_)
  ·cases decide ((U.getD (U.length-1) u0).b=t)<;>rfl
  ·unfold Bo
   rw[fZ hu];cases decide ((U.getD (U.length-1) u0).b=t)<;>cases (U.getD (U.length-1) u0).ob<;>rfl
 ·have c2:decide ((U.length:Int)>0)=false:=jK (by omega)
  simp only[c2,cond_false];refine ah rfl (av ?_);unfold Bo;rw[jK hu];rfl
theorem afv(i:Iv):(aqp i).sat λr=>r=dn .i64 (bif i.oa then 1 else 0):=au (λh=>av (by rw[h];rfl)) λh=>av (by rw[h];rfl)
def K48:List AV→Option (AV×List Bool):=(F2 Gw Gw).K (λx=>bL (EU x.1 x.2.1)) λx=> [Ag x.1.b,Ag x.2.1.a]
theorem aqs:aN Tryz.prog 130 K48:=
 (F2 Gw Gw).dO (N:=1010) (L:=bX) aj ak1 (fn:=Tryz.f130) (c:=codeOf Tryz.f130) (by kernel_rfl) (by kernel_rfl) (by kernel_rfl) (ak _ _) (λ_=>rfl) (M:=λx=>M48 x.1 x.2.1) (λx=>aqr x.1 x.2.1)
  λx h=>ak9 x.1 x.2.1 (h _ (by simp)) (h _ (by simp))
def aqt:List AV→Option (AV×List Bool):=(F1 Gw).K (λx=>bL (decide (x.1.a=x.1.b))) λx=> []
theorem Y6:aN Tryz.prog 142 aqt:=
 (F1 Gw).dO (N:=1010) (L:=bX) aj eP (fn:=Tryz.f142) (c:=codeOf Tryz.f142) (by kernel_rfl) (by kernel_rfl) (by kernel_rfl) (ak _ _) (λ_=>rfl) (M:=λx=>ak2 x.1) (λx=>ak4 x.1)
  λx h=>aft x.1
def atn:List AV→Option (AV×List Bool):=(F2 l9 Gv).K (λx=>bL (Bo x.1 x.2.1)) λx=> [decide (x.1.length≤1000)]
theorem ala:aN Tryz.prog 171 atn:=
 (F2 l9 Gv).dO (N:=1010) (L:=bX) aj eP (fn:=Tryz.f171) (c:=codeOf Tryz.f171) (by kernel_rfl) (by kernel_rfl) (by kernel_rfl) (ak _ _) (λ_=>rfl) (M:=λx=>ak3 x.1 x.2.1) (λx=>ak5 x.1 x.2.1)
  λx h=>afu x.1 x.2.1 (h _ (by simp))
def ato:List AV→Option (AV×List Bool):=(F1 Gw).K (λx=>dn .i64 (bif x.1.oa then 1 else 0)) λx=> []
theorem alb:aN Tryz.prog 219 ato:=
 (F1 Gw).dO (N:=1010) (L:=bX) aj eP (fn:=Tryz.f219) (c:=codeOf Tryz.f219) (by kernel_rfl) (by kernel_rfl) (by kernel_rfl) (ak _ _) (λ_=>rfl) (M:=λx=>aqp x.1) (λx=>ak6 x.1)
  λx h=>afv x.1
end Go.bI
namespace Go.bI
open Go.Proofs
def Bt(k:Nat)(q:Rat):Prop:=jY (2^k) (2^k) q
theorem Bt.mono{k l:Nat}{q:Rat}(h:Bt k q)(hl:k≤l):Bt l q:=jY.mono h (Nat.pow_le_pow_right (by decide) hl) (Nat.pow_le_pow_right (by decide) hl)
theorem Bt.add{k l:Nat}{x y:Rat}(h:Bt k x)(h':Bt l y):Bt (k+l+1) (x+y):=by
 refine jY.mono (jY.add h h') ?_ ?_
 ·rw[←Nat.pow_add, ←Nat.pow_add,Nat.add_comm l k,Nat.pow_succ];omega
 ·rw[←Nat.pow_add];exact Nat.pow_le_pow_right (by decide) (by omega)
theorem Bt.mul{k l:Nat}{x y:Rat}(h:Bt k x)(h':Bt l y):Bt (k+l) (x*y):=by
 refine jY.mono (jY.mul h h') ?_ ?_<;>rw[←Nat.pow_add]<;>exact Nat.le_refl _
theorem Bt.neg{k:Nat}{x:Rat}(h:Bt k x):Bt k (-x):=jY.neg h
theorem Bt.sub{k l:Nat}{x y:Rat}(h:Bt k x)(h':Bt l y):Bt (k+l+1) (x-y):=by
 rw[Rat.sub_eq_add_neg];exact h.add h'.neg
theorem Bt.zero(k:Nat):Bt k 0:=⟨Nat.zero_le _,Nat.pow_pos (by decide)⟩
theorem vE{n k:Nat}(h:n≤2^k)(hk:k<8000000):n<BIG:=by
 refine Nat.lt_of_le_of_lt h ?_;unfold BIG;exact pow_bigk 1000000 k (by omega)
theorem Po{k l:Nat}{x y:Rat}(h:Bt k x)(h':Bt l y)(hk:k<8000000)(hl:l<8000000):uf x y=true:=by
 have a1:=vE h.1 hk;have a2:=vE h.2 hk;have b1:=vE h'.1 hl;have b2:=vE h'.2 hl;simp only[uf,Dx,cu,fT,Int.natAbs_natCast];exact⟨⟨⟨a1,a2⟩,b1⟩,b2⟩
theorem jE{k l:Nat}{x y:Rat}(h:Bt k x)(h':Bt l y)(hk:k+l+1<8000000):jZ x y=true:=by
 have h0:=Po h h' (by omega) (by omega);obtain⟨a1,a2⟩:=h;obtain⟨b1,b2⟩:=h';have e1:=Nat.mul_le_mul a1 b2;have e2:=Nat.mul_le_mul b1 a2;have e3:=Nat.mul_le_mul a2 b2;have e4:=Int.natAbs_add_le (x.num*y.den) (y.num*x.den);rw[Int.natAbs_mul,Int.natAbs_mul,Int.natAbs_natCast,Int.natAbs_natCast]at e4;have e5:((x.den:Int)*(y.den:Int)).natAbs=x.den*y.den:=by rw[Int.natAbs_mul,Int.natAbs_natCast,Int.natAbs_natCast]
 rw[←Nat.pow_add]at e1 e3;rw[←Nat.pow_add,Nat.add_comm l k]at e2;simp only[jZ,h0,Dx,cu,fT,e5];refine⟨⟨trivial,vE (k:=k+l+1) ?_ hk⟩,vE e3 (by omega)⟩;rw[Nat.pow_succ];omega
theorem kN{k l:Nat}{x y:Rat}(h:Bt k x)(h':Bt l y)(hk:k+l<8000000):kX x y=true:=by
 have h0:=Po h h' (by omega) (by omega);obtain⟨a1,a2⟩:=h;obtain⟨b1,b2⟩:=h';have e1:=Nat.mul_le_mul a1 b1;have e3:=Nat.mul_le_mul a2 b2;have e4:(x.num*y.num).natAbs=x.num.natAbs*y.num.natAbs:=Int.natAbs_mul ..;have e5:((x.den:Int)*(y.den:Int)).natAbs=x.den*y.den:=by rw[Int.natAbs_mul,Int.natAbs_natCast,Int.natAbs_natCast]
 rw[←Nat.pow_add]at e1 e3;simp only[kX,h0,Dx,cu,fT,e4,e5];exact⟨⟨trivial,vE e1 hk⟩,vE e3 hk⟩
def G7(k:Nat)(q:Rat):Bool:=yG (2^k) (2^k) q
theorem qZ{k:Nat}{q:Rat}:G7 k q=true↔Bt k q:=rG
structure Ki (k:Nat) (q:Q3):Prop where
 c0:Bt k q.c0
 c1:Bt k q.c1
 c2:Bt k q.c2
def vW(k:Nat)(q:Q3):Bool:=G7 k q.c0&&(G7 k q.c1&&G7 k q.c2)
theorem mg{k:Nat}{q:Q3}:vW k q=true↔Ki k q:=by
 simp only[vW,cu,qZ];exact⟨λh=>⟨h.1,h.2.1,h.2.2⟩,λh=>⟨h.c0,h.c1,h.c2⟩⟩
def Pp(k:Nat)(l:L4):Bool:=G7 k l.x0&&(G7 k l.x1&&(G7 k l.y0&&G7 k l.y1))
def afw(p q:Q3):Q3:=⟨p.c0+q.c0,p.c1+q.c1,p.c2+q.c2⟩
def DK(p q:Q3):Q3:=⟨p.c0*q.c0,p.c0*q.c1+p.c1*q.c0,p.c0*q.c2+p.c2*q.c0+p.c1*q.c1⟩
def qm(q:Q3):Int:=if q.c2≠0 then 2 else if q.c1≠0 then 1 else if q.c0≠0 then 0 else -1
def yB(p q:Q3):Bool:= !(decide (0≤qm p)&&(decide (0≤qm q)&&decide (2<qm p+qm q)))
def qb(f g:L4):Q3:=afw (DK (lX (xQ f) (xQ g)) (lX (xQ f) (xQ g))) (DK (lX (yQ f) (yQ g)) (lX (yQ f) (yQ g)))
theorem V4(f g:L4):qb f g=qb g f:=by
 simp only[qb,afw,DK,lX,xQ,yQ,Q3.mk.injEq];refine⟨?_,?_,?_⟩<;>grind
def qD(q:Q3):Q3:=⟨hold q.c0,hold q.c1,hold q.c2⟩
theorem zB(q:Q3):qD q=q:=by simp only[qD,fV]
def iY:Arg Q3 where
 get:=λa=>match a with | .agg l=>some (aX l,[dI l]) | _=>none
 put:=jN
 ok:=by
  intro a x cs h hc
  split at h
  ·rename_i l
   simp only[fK,Prod.mk.injEq]at h;obtain⟨rfl,rfl⟩:=h;have:=nu (l:=l) (hc _ (by simp));unfold jN;rw[←this];exact bM.refl _
  ·cases h
def atp:List AV→Option (AV×List Bool):=(F1 iY).K (λx=>dn .i64 (qm x.1)) λ_=> []
def anY:List AV→Option (AV×List Bool):=(F2 iY iY).K (λx=>jN (qD (afw x.1 x.2.1))) λx=> [vW 1000000 x.1,vW 1000000 x.2.1]
def anZ:List AV→Option (AV×List Bool):=(F2 iY iY).K (λx=> .iC [jN (qD (DK x.1 x.2.1)),dn .i64 0]) λx=> [vW 100000 x.1,vW 100000 x.2.1,yB x.1 x.2.1]
def atq:FuncId→Option Spec:=λf=>bif Nat.beq f 153 then some (ay RG)else none
theorem alc: ∀f s,atq f=some s→aR Tryz.prog f s:=bS Dy.spec
def an0:FuncId→Option Spec:=λf=>bif Nat.beq f 122 then some (ay J7)else none
theorem afx: ∀f s,an0 f=some s→aR Tryz.prog f s:=bS vw.spec
def ald(q:Q3):Tr AV:=
 let x1:List AV:=[AV.c (.v (.bool (decide (q.c2.num<0)))),AV.c (.v (.string ⟨⟨aA q.c2.num.natAbs⟩⟩)),AV.c (.v (.bool false)),
  AV.c (.v (.string ⟨⟨aH q.c2.den⟩⟩))]
 let x2:List AV:=[AV.c (.v (.bool (decide (q.c1.num<0)))),AV.c (.v (.string ⟨⟨aA q.c1.num.natAbs⟩⟩)),AV.c (.v (.bool false)),
  AV.c (.v (.string ⟨⟨aH q.c1.den⟩⟩))]
 let x3:List AV:=[AV.c (.v (.bool (decide (q.c0.num<0)))),AV.c (.v (.string ⟨⟨aA q.c0.num.natAbs⟩⟩)),AV.c (.v (.bool false)),
  AV.c (.v (.string ⟨⟨aH q.c0.den⟩⟩))]
 let x4:Bool:=aK x3
 let x5:Bool:=gW (aB x3).num 0 !=0
 Tr.ite true
  (Tr.need true
   (Tr.need (aK x1)
    (Tr.ite (gW (aB x1).num 0 !=0) (Tr.ret (AV.c (.v (.int IntKind.i64 2))))
     (Tr.ite true
      (Tr.need true
       (Tr.need (aK x2)
        (Tr.ite (gW (aB x2).num 0 !=0) (Tr.ret (AV.c (.v (.int IntKind.i64 1))))
         (Tr.ite true
          (Tr.need true
           (Tr.need x4
            (Tr.ite x5 (Tr.ret (AV.c (.v (.int IntKind.i64 0))))
             (Tr.ite false
              (Tr.need false
               (Tr.need x4
                (Tr.ite x5 (Tr.ret (AV.c (.v (.int IntKind.i64 (-1)))))
                 (Tr.ite false (Tr.need false (Tr.need x4 (Tr.ite x5 (Tr.ret (AV.c (.v (.int IntKind.i64 (-2))))) (Tr.fail "rounds"))))
                  (Tr.ret (AV.c (.v (.int IntKind.i64 (-1)))))))))
              (Tr.ret (AV.c (.v (.int IntKind.i64 (-1)))))))))
          (Tr.ret (AV.c (.v (.int IntKind.i64 (-1)))))))))
      (Tr.ret (AV.c (.v (.int IntKind.i64 (-1)))))))))
  (Tr.ret (AV.c (.v (.int IntKind.i64 (-1)))))
def Y7(p:Q3)(q:Q3):Tr AV:=
 let x1:List AV:=[AV.c (.v (.bool (decide (p.c0.num<0)))),AV.c (.v (.string ⟨⟨aA p.c0.num.natAbs⟩⟩)),AV.c (.v (.bool false)),
  AV.c (.v (.string ⟨⟨aH p.c0.den⟩⟩))]
 let x2:List AV:=[AV.c (.v (.bool (decide (q.c0.num<0)))),AV.c (.v (.string ⟨⟨aA q.c0.num.natAbs⟩⟩)),AV.c (.v (.bool false)),
  AV.c (.v (.string ⟨⟨aH q.c0.den⟩⟩))]
 let x3:List AV:=[AV.c (.v (.bool (decide (p.c1.num<0)))),AV.c (.v (.string ⟨⟨aA p.c1.num.natAbs⟩⟩)),AV.c (.v (.bool false)),
  AV.c (.v (.string ⟨⟨aH p.c1.den⟩⟩))]
 let x4:List AV:=[AV.c (.v (.bool (decide (q.c1.num<0)))),AV.c (.v (.string ⟨⟨aA q.c1.num.natAbs⟩⟩)),AV.c (.v (.bool false)),
  AV.c (.v (.string ⟨⟨aH q.c1.den⟩⟩))]
 let x5:List AV:=[AV.c (.v (.bool (decide (p.c2.num<0)))),AV.c (.v (.string ⟨⟨aA p.c2.num.natAbs⟩⟩)),AV.c (.v (.bool false)),
  AV.c (.v (.string ⟨⟨aH p.c2.den⟩⟩))]
 let x6:List AV:=[AV.c (.v (.bool (decide (q.c2.num<0)))),AV.c (.v (.string ⟨⟨aA q.c2.num.natAbs⟩⟩)),AV.c (.v (.bool false)),
  AV.c (.v (.string ⟨⟨aH q.c2.den⟩⟩))]
 let x7:Int:=(hold (aB x1+aB x2)).num
 let x8:Int:=(hold (aB x3+aB x4)).num
 let x9:Int:=(hold (aB x5+aB x6)).num
 Tr.need (aK x1)
  (Tr.need (aK x2)
   (Tr.need (jZ (aB x1) (aB x2))
    (Tr.need (aK x3)
     (Tr.need (aK x4)
      (Tr.need (jZ (aB x3) (aB x4))
       (Tr.need (aK x5)
        (Tr.need (aK x6)
         (Tr.need (jZ (aB x5) (aB x6))
          (Tr.ret
           (AV.agg
            [AV.c (.v (.bool (decide (x7<0)))),AV.c (.v (.string ⟨⟨aA x7.natAbs⟩⟩)),
             AV.c (.v (.bool false)),AV.c (.v (.string ⟨⟨aH (hold (aB x1+aB x2)).den⟩⟩)),
             AV.c (.v (.bool (decide (x8<0)))),AV.c (.v (.string ⟨⟨aA x8.natAbs⟩⟩)),
             AV.c (.v (.bool false)),AV.c (.v (.string ⟨⟨aH (hold (aB x3+aB x4)).den⟩⟩)),
             AV.c (.v (.bool (decide (x9<0)))),AV.c (.v (.string ⟨⟨aA x9.natAbs⟩⟩)),
             AV.c (.v (.bool false)),AV.c (.v (.string ⟨⟨aH (hold (aB x5+aB x6)).den⟩⟩))]))))))))))
theorem ale(q:Q3):aI Tryz.prog atq bX 1005 Tryz.f124 [jN q]=ald q:=by kernel_rfl
theorem aqu(q:Rat):(gW q.num 0 !=0)=decide (q≠0):=by
 unfold gW;have h:q=0↔q.num=0:=Rat.num_eq_zero.symm;by_cases h0:q.num=0
 ·rw[if_neg (by omega),if_neg (by omega),jK (show¬q≠0 from λhh=>hh (h.2 h0))];rfl
 ·rw[fZ (show q≠0 from λhh=>h0 (h.1 hh))]
  split
  ·rfl
  ·split
   ·rfl
   ·omega
theorem afy(q:Q3):(ald q).sat λr=>r=dn .i64 (qm q):=by
 simp only[ald,dP,dB,iE,gH,ig,fQ,fV,Bool.and_self,sat_true,aqu];unfold qm;refine au (λ_=> ?_) (λh=>by cases h);simp only[sat_true];refine au (λh=> ?_) (λh=> ?_)
 ·rw[if_pos (j4 h)];exact av rfl
 ·rw[if_neg (of_decide_eq_false h)]
  refine au (λ_=> ?_) (λh=>by cases h);simp only[sat_true];refine au (λh=> ?_) (λh=> ?_)
  ·rw[if_pos (j4 h)];exact av rfl
  ·rw[if_neg (of_decide_eq_false h)]
   refine au (λ_=> ?_) (λh=>by cases h);simp only[sat_true];refine au (λh=> ?_) (λh=> ?_)
   ·rw[if_pos (j4 h)];exact av rfl
   ·rw[if_neg (of_decide_eq_false h)]
    exact au (λh=>by cases h) (λ_=>av rfl)
theorem aqv:aN Tryz.prog 124 atp:=
 (F1 iY).dO (N:=1005) (L:=bX) aj alc (fn:=Tryz.f124) (c:=codeOf Tryz.f124) (by kernel_rfl) (by kernel_rfl) (by kernel_rfl) (ak _ _) (λ_=>rfl) (M:=λx=>ald x.1) (λx=>ale x.1) λx _=>afy x.1
theorem afz(p q:Q3):aI Tryz.prog an0 bX 1010 Tryz.f75 [jN p,jN q]=Y7 p q:=by kernel_rfl
theorem aa9(p q:Q3)(hp:Ki 1000000 p)(hq:Ki 1000000 q):(Y7 p q).sat λr=>r=jN (qD (afw p q)):=by
 have f0:=jE hp.c0 hq.c0 (by decide);have f1:=jE hp.c1 hq.c1 (by decide);have f2:=jE hp.c2 hq.c2 (by decide);simp only[Y7,dP,dB,iE,gH,ig,fQ,fV,Bool.and_self,sat_true,f0,f1,f2,zB];exact av rfl
theorem alf:aN Tryz.prog 75 anY:=
 (F2 iY iY).dO (N:=1010) (L:=bX) aj afx (fn:=Tryz.f75) (c:=codeOf Tryz.f75) (by kernel_rfl) (by kernel_rfl) (by kernel_rfl) (ak _ _) (λ_=>rfl) (M:=λx=>Y7 x.1 x.2.1) (λx=>afz x.1 x.2.1) λx h=>aa9 x.1 x.2.1 (mg.1 (h _ (by simp))) (mg.1 (h (vW 1000000 x.2.1) (by simp)))
def an1:FuncId→Option Spec:=λf=>bif Nat.beq f 124 then some (ay atp)else bif Nat.beq f 121 then some (ay J8)else bif Nat.beq f 122 then some (ay J7)else none
theorem afA: ∀f s,an1 f=some s→aR Tryz.prog f s:=step_ok aqv.spec (step_ok vC.spec (bS vw.spec))
def Y8(p:Q3)(q:Q3):Tr AV:=
 let x1:List AV:=[AV.c (.v (.bool (decide (p.c2.num<0)))),AV.c (.v (.string ⟨⟨aA p.c2.num.natAbs⟩⟩)),AV.c (.v (.bool false)),
  AV.c (.v (.string ⟨⟨aH p.c2.den⟩⟩))]
 let x2:List AV:=AV.c (.v (.bool (decide (p.c0.num<0))))::
  AV.c (.v (.string ⟨⟨aA p.c0.num.natAbs⟩⟩))::
   AV.c (.v (.bool false))::
    AV.c (.v (.string ⟨⟨aH p.c0.den⟩⟩))::
     AV.c (.v (.bool (decide (p.c1.num<0))))::
      AV.c (.v (.string ⟨⟨aA p.c1.num.natAbs⟩⟩))::
       AV.c (.v (.bool false))::AV.c (.v (.string ⟨⟨aH p.c1.den⟩⟩))::x1
 let x3:List AV:=[AV.c (.v (.bool (decide (q.c2.num<0)))),AV.c (.v (.string ⟨⟨aA q.c2.num.natAbs⟩⟩)),AV.c (.v (.bool false)),
  AV.c (.v (.string ⟨⟨aH q.c2.den⟩⟩))]
 let x4:List AV:=AV.c (.v (.bool (decide (q.c0.num<0))))::
  AV.c (.v (.string ⟨⟨aA q.c0.num.natAbs⟩⟩))::
   AV.c (.v (.bool false))::
    AV.c (.v (.string ⟨⟨aH q.c0.den⟩⟩))::
     AV.c (.v (.bool (decide (q.c1.num<0))))::
      AV.c (.v (.string ⟨⟨aA q.c1.num.natAbs⟩⟩))::
       AV.c (.v (.bool false))::AV.c (.v (.string ⟨⟨aH q.c1.den⟩⟩))::x3
 let x5:Int:=qm (aX x2)
 let x6:Bool:=decide (x5≥0)
 let x7:Int:=qm (aX x4)
 let x8:Bool:=bif true then decide (x7≥0)else false
 let x9:Int:=IntKind.i64.wrap (x5+x7)
 let x10:Bool:=bif true then decide (x9>2)else false
 let fI:List AV:=[AV.c (.v (.bool (decide (p.c0.num<0)))),AV.c (.v (.string ⟨⟨aA p.c0.num.natAbs⟩⟩)),AV.c (.v (.bool false)),
  AV.c (.v (.string ⟨⟨aH p.c0.den⟩⟩))]
 let fU:Bool:=aK fI
 let iM:List AV:=[AV.c (.v (.bool (decide (q.c0.num<0)))),AV.c (.v (.string ⟨⟨aA q.c0.num.natAbs⟩⟩)),AV.c (.v (.bool false)),
  AV.c (.v (.string ⟨⟨aH q.c0.den⟩⟩))]
 let iR:Bool:=aK iM
 let jH:List AV:=[AV.c (.v (.bool (decide (q.c1.num<0)))),AV.c (.v (.string ⟨⟨aA q.c1.num.natAbs⟩⟩)),AV.c (.v (.bool false)),
  AV.c (.v (.string ⟨⟨aH q.c1.den⟩⟩))]
 let kE:Bool:=aK jH
 let jD:List AV:=[AV.c (.v (.bool (decide (p.c1.num<0)))),AV.c (.v (.string ⟨⟨aA p.c1.num.natAbs⟩⟩)),AV.c (.v (.bool false)),
  AV.c (.v (.string ⟨⟨aH p.c1.den⟩⟩))]
 let x18:Bool:=aK jD
 let lW:Int:=(hold (aB fI*aB jH)).num
 let x20:List AV:=[AV.c (.v (.bool (decide (lW<0)))),AV.c (.v (.string ⟨⟨aA lW.natAbs⟩⟩)),AV.c (.v (.bool false)),
  AV.c (.v (.string ⟨⟨aH (hold (aB fI*aB jH)).den⟩⟩))]
 let x21:Int:=(hold (aB jD*aB iM)).num
 let lZ:List AV:=[AV.c (.v (.bool (decide (x21<0)))),AV.c (.v (.string ⟨⟨aA x21.natAbs⟩⟩)),AV.c (.v (.bool false)),
  AV.c (.v (.string ⟨⟨aH (hold (aB jD*aB iM)).den⟩⟩))]
 let x23:Int:=(hold (aB fI*aB x3)).num
 let x24:List AV:=[AV.c (.v (.bool (decide (x23<0)))),AV.c (.v (.string ⟨⟨aA x23.natAbs⟩⟩)),AV.c (.v (.bool false)),
  AV.c (.v (.string ⟨⟨aH (hold (aB fI*aB x3)).den⟩⟩))]
 let x25:Int:=(hold (aB x1*aB iM)).num
 let rY:List AV:=[AV.c (.v (.bool (decide (x25<0)))),AV.c (.v (.string ⟨⟨aA x25.natAbs⟩⟩)),AV.c (.v (.bool false)),
  AV.c (.v (.string ⟨⟨aH (hold (aB x1*aB iM)).den⟩⟩))]
 let x27:Int:=(hold (aB x24+aB rY)).num
 let x28:List AV:=[AV.c (.v (.bool (decide (x27<0)))),AV.c (.v (.string ⟨⟨aA x27.natAbs⟩⟩)),AV.c (.v (.bool false)),
  AV.c (.v (.string ⟨⟨aH (hold (aB x24+aB rY)).den⟩⟩))]
 let x29:Int:=(hold (aB jD*aB jH)).num
 let x30:List AV:=[AV.c (.v (.bool (decide (x29<0)))),AV.c (.v (.string ⟨⟨aA x29.natAbs⟩⟩)),AV.c (.v (.bool false)),
  AV.c (.v (.string ⟨⟨aH (hold (aB jD*aB jH)).den⟩⟩))]
 let x31:Int:=(hold (aB fI*aB iM)).num
 let x32:Int:=(hold (aB x20+aB lZ)).num
 let pV:Int:=(hold (aB x28+aB x30)).num
 Tr.need (dI x2)
  (Tr.need (dI x4)
   (Tr.need (bif x6 then bif x8 then true else true else bif false then true else true)
    (Tr.ite (bif x6 then bif x8 then x10 else false else bif false then x10 else false)
     (Tr.ret
      (AV.iC
       [AV.agg
         [AV.c (.v (.bool false)),AV.c (.v (.string {data:= #[]})),AV.c (.v (.bool false)),
          AV.c (.v (.string {data:= #[]})),AV.c (.v (.bool false)),AV.c (.v (.string {data:= #[]})),
          AV.c (.v (.bool false)),AV.c (.v (.string {data:= #[]})),AV.c (.v (.bool false)),
          AV.c (.v (.string {data:= #[]})),AV.c (.v (.bool false)),AV.c (.v (.string {data:= #[]}))],
        AV.c (.v (.int IntKind.i64 2))]))
     (Tr.need fU
      (Tr.need iR
       (Tr.need (kX (aB fI) (aB iM))
        (Tr.need fU
         (Tr.need kE
          (Tr.need (kX (aB fI) (aB jH))
           (Tr.need x18
            (Tr.need iR
             (Tr.need (kX (aB jD) (aB iM))
              (Tr.need (aK x20)
               (Tr.need (aK lZ)
                (Tr.need (jZ (aB x20) (aB lZ))
                 (Tr.need fU
                  (Tr.need (aK x3)
                   (Tr.need (kX (aB fI) (aB x3))
                    (Tr.need (aK x1)
                     (Tr.need iR
                      (Tr.need (kX (aB x1) (aB iM))
                       (Tr.need (aK x24)
                        (Tr.need (aK rY)
                         (Tr.need (jZ (aB x24) (aB rY))
                          (Tr.need x18
                           (Tr.need kE
                            (Tr.need (kX (aB jD) (aB jH))
                             (Tr.need (aK x28)
                              (Tr.need (aK x30)
                               (Tr.need (jZ (aB x28) (aB x30))
                                (Tr.ret
                                 (AV.iC
                                  [AV.agg
                                    [AV.c (.v (.bool (decide (x31<0)))),
                                     AV.c (.v (.string ⟨⟨aA x31.natAbs⟩⟩)),
                                     AV.c (.v (.bool false)),
                                     AV.c
                                      (IV.v (.string ⟨⟨aH (hold (aB fI*aB iM)).den⟩⟩)),
                                     AV.c (.v (.bool (decide (x32<0)))),
                                     AV.c (.v (.string ⟨⟨aA x32.natAbs⟩⟩)),
                                     AV.c (.v (.bool false)),
                                     AV.c
                                      (IV.v (.string ⟨⟨aH (hold (aB x20+aB lZ)).den⟩⟩)),
                                     AV.c (.v (.bool (decide (pV<0)))),
                                     AV.c (.v (.string ⟨⟨aA pV.natAbs⟩⟩)),
                                     AV.c (.v (.bool false)),
                                     AV.c
                                      (IV.v
                                       (Value.string ⟨⟨aH (hold (aB x28+aB x30)).den⟩⟩))],
                                   AV.c (.v (.int IntKind.i64 0))]))))))))))))))))))))))))))))))))
theorem afB(p q:Q3):aI Tryz.prog an1 bX 1010 Tryz.f68 [jN p,jN q]=Y8 p q:=by kernel_rfl
theorem Y9(q:Q3): -1≤qm q∧qm q≤2:=by
 unfold qm
 split
 ·omega
 ·split
  ·omega
  ·split<;>omega
theorem abb(p q:Q3)(hp:Ki 100000 p)(hq:Ki 100000 q)(hd:yB p q=true):(Y8 p q).sat λr=>r= .iC [jN (qD (DK p q)),dn .i64 0]:=by
 have f00:=kN hp.c0 hq.c0 (by decide);have f01:=kN hp.c0 hq.c1 (by decide);have f10:=kN hp.c1 hq.c0 (by decide);have f02:=kN hp.c0 hq.c2 (by decide);have f20:=kN hp.c2 hq.c0 (by decide);have f11:=kN hp.c1 hq.c1 (by decide);have a1:=jE (hp.c0.mul hq.c1) (hp.c1.mul hq.c0) (by decide);have a2:=jE (hp.c0.mul hq.c2) (hp.c2.mul hq.c0) (by decide);have a3:=jE ((hp.c0.mul hq.c2).add (hp.c2.mul hq.c0)) (hp.c1.mul hq.c1) (by decide);obtain⟨d1,d2⟩:=Y9 p;obtain⟨d3,d4⟩:=Y9 q;have w:IntKind.i64.wrap (qm p+qm q)=qm p+qm q:=wrap_i64 (by omega);have hc:(bif decide (qm p≥0)then bif decide (qm q≥0)then decide (qm p+qm q>2)else false else false)=false:=by
  simp only[yB,Bool.not_eq_true',Bool.and_eq_false_iff,decide_eq_false_iff_not]at hd;by_cases h1:qm p≥0
  ·by_cases h2:qm q≥0
   ·rw[fZ h1,fZ h2,cond_true,cond_true]
    exact jK (by omega)
   ·rw[fZ h1,jK h2];rfl
  ·rw[jK h1];rfl
 have hn:(bif decide (qm p≥0)then bif decide (qm q≥0)then true else true else true)=true:=by
  cases decide (qm p≥0)<;>cases decide (qm q≥0)<;>rfl
 have ep:(⟨p.c0,p.c1,p.c2⟩:Q3)=p:=rfl;have eq':(⟨q.c0,q.c1,q.c2⟩:Q3)=q:=rfl;simp only[Y8,dP,dB,iE,gH,ig,fQ,fV,Bool.and_self,sat_true,ep,eq',w,f00,f01,f10,f02,f20,f11,a1,a2,a3,zB,cond_true,cond_false,hc,hn];refine au (λh=>by cases h) (λ_=> ?_);simp only[sat_true];exact av rfl
theorem alg:aN Tryz.prog 68 anZ:=
 (F2 iY iY).dO (N:=1010) (L:=bX) aj afA (fn:=Tryz.f68) (c:=codeOf Tryz.f68) (by kernel_rfl) (by kernel_rfl) (by kernel_rfl) (ak _ _) (λ_=>rfl) (M:=λx=>Y8 x.1 x.2.1) (λx=>afB x.1 x.2.1) λx h=>abb x.1 x.2.1 (mg.1 (h _ (by simp))) (mg.1 (h (vW 100000 x.2.1) (by simp))) (h (yB x.1 x.2.1) (by simp))
end Go.bI
namespace Go.bI
open Go.Proofs
def DL(q:Rat):Rat:=match q.num.natAbs with
 | 0=>0
 | _+1=>0
theorem Za(q:Rat):DL q=0:=by unfold DL;split<;>rfl
def atr:List AV→Option (AV×List Bool):=(F2 Pn Pn).K (λx=>jN ⟨x.1,x.2.1,DL x.1⟩) λ_=> []
def KQx:List AV→Option (AV×List Bool):=(F1 nE).K (λx=>jN ⟨x.1.x0,x.1.x1,DL x.1.x0⟩) λ_=> []
def KQy:List AV→Option (AV×List Bool):=(F1 nE).K (λx=>jN ⟨x.1.y0,x.1.y1,DL x.1.y0⟩) λ_=> []
def att:List AV→Option (AV×List Bool):=(F2 iY iY).K (λx=>jN (qD (DK x.1 x.2.1))) λx=> [vW 100000 x.1,vW 100000 x.2.1,yB x.1 x.2.1]
def atu:List AV→Option (AV×List Bool):=(F2 nE nE).K (λx=>jN (qD (qb x.1 x.2.1))) λx=> [Pp 10000 x.1,Pp 10000 x.2.1]
def ΓQx:FuncId→Option Spec:=λf=>bif Nat.beq f 47 then some (ay atr)else none
def atv:FuncId→Option Spec:=λf=>bif Nat.beq f 68 then some (ay anZ)else none
theorem alh: ∀f s,atv f=some s→aR Tryz.prog f s:=bS alg.spec
def ali(a:Rat)(b:Rat):Tr AV:=
 Tr.ret
  (AV.agg
   [AV.c (.v (.bool (decide (a.num<0)))),AV.c (.v (.string ⟨⟨aA a.num.natAbs⟩⟩)),AV.c (.v (.bool false)),
    AV.c (.v (.string ⟨⟨aH a.den⟩⟩)),AV.c (.v (.bool (decide (b.num<0)))),
    AV.c (.v (.string ⟨⟨aA b.num.natAbs⟩⟩)),AV.c (.v (.bool false)),
    AV.c (.v (.string ⟨⟨aH b.den⟩⟩)),AV.c (.v (.bool false)),AV.c (.v (.string {data:= #[]})),
    AV.c (.v (.bool false)),AV.c (.v (.string {data:= #[]}))])
def MQx(l:L4):Tr AV:=
 let x1:List AV:=[AV.c (.v (.bool (decide (l.x0.num<0)))),AV.c (.v (.string ⟨⟨aA l.x0.num.natAbs⟩⟩)),AV.c (.v (.bool false)),
  AV.c (.v (.string ⟨⟨aH l.x0.den⟩⟩))]
 let x2:List AV:=[AV.c (.v (.bool (decide (l.x1.num<0)))),AV.c (.v (.string ⟨⟨aA l.x1.num.natAbs⟩⟩)),AV.c (.v (.bool false)),
  AV.c (.v (.string ⟨⟨aH l.x1.den⟩⟩))]
 let x3:Rat:=aB x1
 let x4:Int:=x3.num
 let x5:Rat:=aB x2
 let x6:Int:=x5.num
 let x7:Rat:=DL x3
 let x8:Int:=x7.num
 Tr.need (aK x1)
  (Tr.need (aK x2)
   (Tr.ret
    (AV.agg
     [AV.c (.v (.bool (decide (x4<0)))),AV.c (.v (.string ⟨⟨aA x4.natAbs⟩⟩)),AV.c (.v (.bool false)),
      AV.c (.v (.string ⟨⟨aH x3.den⟩⟩)),AV.c (.v (.bool (decide (x6<0)))),
      AV.c (.v (.string ⟨⟨aA x6.natAbs⟩⟩)),AV.c (.v (.bool false)),
      AV.c (.v (.string ⟨⟨aH x5.den⟩⟩)),AV.c (.v (.bool (decide (x8<0)))),
      AV.c (.v (.string ⟨⟨aA x8.natAbs⟩⟩)),AV.c (.v (.bool false)),
      AV.c (.v (.string ⟨⟨aH x7.den⟩⟩))])))
def MQy(l:L4):Tr AV:=
 let x1:List AV:=[AV.c (.v (.bool (decide (l.y0.num<0)))),AV.c (.v (.string ⟨⟨aA l.y0.num.natAbs⟩⟩)),AV.c (.v (.bool false)),
  AV.c (.v (.string ⟨⟨aH l.y0.den⟩⟩))]
 let x2:List AV:=[AV.c (.v (.bool (decide (l.y1.num<0)))),AV.c (.v (.string ⟨⟨aA l.y1.num.natAbs⟩⟩)),AV.c (.v (.bool false)),
  AV.c (.v (.string ⟨⟨aH l.y1.den⟩⟩))]
 let x3:Rat:=aB x1
 let x4:Int:=x3.num
 let x5:Rat:=aB x2
 let x6:Int:=x5.num
 let x7:Rat:=DL x3
 let x8:Int:=x7.num
 Tr.need (aK x1)
  (Tr.need (aK x2)
   (Tr.ret
    (AV.agg
     [AV.c (.v (.bool (decide (x4<0)))),AV.c (.v (.string ⟨⟨aA x4.natAbs⟩⟩)),AV.c (.v (.bool false)),
      AV.c (.v (.string ⟨⟨aH x3.den⟩⟩)),AV.c (.v (.bool (decide (x6<0)))),
      AV.c (.v (.string ⟨⟨aA x6.natAbs⟩⟩)),AV.c (.v (.bool false)),
      AV.c (.v (.string ⟨⟨aH x5.den⟩⟩)),AV.c (.v (.bool (decide (x8<0)))),
      AV.c (.v (.string ⟨⟨aA x8.natAbs⟩⟩)),AV.c (.v (.bool false)),
      AV.c (.v (.string ⟨⟨aH x7.den⟩⟩))])))
def alj(p:Q3)(q:Q3):Tr AV:=
 let x1:List AV:=[AV.c (.v (.bool (decide (p.c0.num<0)))),AV.c (.v (.string ⟨⟨aA p.c0.num.natAbs⟩⟩)),AV.c (.v (.bool false)),
  AV.c (.v (.string ⟨⟨aH p.c0.den⟩⟩)),AV.c (.v (.bool (decide (p.c1.num<0)))),
  AV.c (.v (.string ⟨⟨aA p.c1.num.natAbs⟩⟩)),AV.c (.v (.bool false)),
  AV.c (.v (.string ⟨⟨aH p.c1.den⟩⟩)),AV.c (.v (.bool (decide (p.c2.num<0)))),
  AV.c (.v (.string ⟨⟨aA p.c2.num.natAbs⟩⟩)),AV.c (.v (.bool false)),
  AV.c (.v (.string ⟨⟨aH p.c2.den⟩⟩))]
 let x2:List AV:=[AV.c (.v (.bool (decide (q.c0.num<0)))),AV.c (.v (.string ⟨⟨aA q.c0.num.natAbs⟩⟩)),AV.c (.v (.bool false)),
  AV.c (.v (.string ⟨⟨aH q.c0.den⟩⟩)),AV.c (.v (.bool (decide (q.c1.num<0)))),
  AV.c (.v (.string ⟨⟨aA q.c1.num.natAbs⟩⟩)),AV.c (.v (.bool false)),
  AV.c (.v (.string ⟨⟨aH q.c1.den⟩⟩)),AV.c (.v (.bool (decide (q.c2.num<0)))),
  AV.c (.v (.string ⟨⟨aA q.c2.num.natAbs⟩⟩)),AV.c (.v (.bool false)),
  AV.c (.v (.string ⟨⟨aH q.c2.den⟩⟩))]
 let x3:Rat:=(qD (DK (aX x1) (aX x2))).c0
 let x4:Int:=x3.num
 let x5:Rat:=(qD (DK (aX x1) (aX x2))).c1
 let x6:Int:=x5.num
 let x7:Rat:=(qD (DK (aX x1) (aX x2))).c2
 let x8:Int:=x7.num
 Tr.need (dI x1)
  (Tr.need (dI x2)
   (Tr.need (vW 100000 (aX x1))
    (Tr.need (vW 100000 (aX x2))
     (Tr.need (yB (aX x1) (aX x2))
      (Tr.ret
       (AV.agg
        [AV.c (.v (.bool (decide (x4<0)))),AV.c (.v (.string ⟨⟨aA x4.natAbs⟩⟩)),AV.c (.v (.bool false)),
         AV.c (.v (.string ⟨⟨aH x3.den⟩⟩)),AV.c (.v (.bool (decide (x6<0)))),
         AV.c (.v (.string ⟨⟨aA x6.natAbs⟩⟩)),AV.c (.v (.bool false)),
         AV.c (.v (.string ⟨⟨aH x5.den⟩⟩)),AV.c (.v (.bool (decide (x8<0)))),
         AV.c (.v (.string ⟨⟨aA x8.natAbs⟩⟩)),AV.c (.v (.bool false)),
         AV.c (.v (.string ⟨⟨aH x7.den⟩⟩))]))))))
theorem alk(a b:Rat):aI Tryz.prog (λ_=>none) bX 1010 Tryz.f47 [nR a,nR b]=ali a b:=by kernel_rfl
theorem aqw(l:L4):aI Tryz.prog ΓQx bX 1010 Tryz.f92 [zu l]=MQx l:=by kernel_rfl
theorem aqx(l:L4):aI Tryz.prog ΓQx bX 1010 Tryz.f93 [zu l]=MQy l:=by kernel_rfl
theorem alm(p q:Q3):aI Tryz.prog atv bX 1010 Tryz.f94 [jN p,jN q]=alj p q:=by kernel_rfl
theorem aqy:aC 0=[.c (.v (.bool false)),.c (.v (.string ⟨⟨[]⟩⟩)),.c (.v (.bool false)),.c (.v (.string ⟨⟨[]⟩⟩))]:=by
 unfold aC oq;rw[show(0:Rat).num.natAbs=0 from rfl,iD];rfl
theorem afC(a b:Rat):(ali a b).sat λr=>r=jN ⟨a,b,DL a⟩:=by
 simp only[ali,dP,dB,iE,gH,iU,iy,ig,fQ,fV,Bool.and_self,sat_true];refine av ?_;rw[Za];unfold jN cK;rw[aqy];rfl
theorem aqz:aN Tryz.prog 47 atr:=
 (F2 Pn Pn).dO (N:=1010) (L:=bX) aj eP (fn:=Tryz.f47) (c:=codeOf Tryz.f47) (by kernel_rfl) (by kernel_rfl) (by kernel_rfl) (ak _ _) (λ_=>rfl) (M:=λx=>ali x.1 x.2.1) (λx=>alk x.1 x.2.1) λx _=>afC x.1 x.2.1
theorem afD: ∀f s,ΓQx f=some s→aR Tryz.prog f s:=bS aqz.spec
theorem aln(l:L4):(MQx l).sat λr=>r=jN ⟨l.x0,l.x1,DL l.x0⟩:=by
 simp only[MQx,dP,dB,iE,gH,iU,iy,ig,fQ,fV,Bool.and_self,sat_true];exact av rfl
theorem alo(l:L4):(MQy l).sat λr=>r=jN ⟨l.y0,l.y1,DL l.y0⟩:=by
 simp only[MQy,dP,dB,iE,gH,iU,iy,ig,fQ,fV,Bool.and_self,sat_true];exact av rfl
theorem afE(p q:Q3)(c1:vW 100000 p=true)(c2:vW 100000 q=true)(c3:yB p q=true):(alj p q).sat λr=>r=jN (qD (DK p q)):=by
 have ep:(⟨p.c0,p.c1,p.c2⟩:Q3)=p:=rfl;have eq':(⟨q.c0,q.c1,q.c2⟩:Q3)=q:=rfl;simp only[alj,dP,dB,iE,gH,iU,iy,ig,fQ,fV,Bool.and_self,sat_true,ep,eq',c1,c2,c3,zB];exact av rfl
theorem atw:aN Tryz.prog 92 KQx:=
 (F1 nE).dO (N:=1010) (L:=bX) aj afD (fn:=Tryz.f92) (c:=codeOf Tryz.f92) (by kernel_rfl) (by kernel_rfl) (by kernel_rfl) (ak _ _) (λ_=>rfl) (M:=λx=>MQx x.1) (λx=>aqw x.1) λx h=>aln x.1
theorem atx:aN Tryz.prog 93 KQy:=
 (F1 nE).dO (N:=1010) (L:=bX) aj afD (fn:=Tryz.f93) (c:=codeOf Tryz.f93) (by kernel_rfl) (by kernel_rfl) (by kernel_rfl) (ak _ _) (λ_=>rfl) (M:=λx=>MQy x.1) (λx=>aqx x.1) λx h=>alo x.1
theorem aqA:aN Tryz.prog 94 att:=
 (F2 iY iY).dO (N:=1010) (L:=bX) aj alh (fn:=Tryz.f94) (c:=codeOf Tryz.f94) (by kernel_rfl) (by kernel_rfl) (by kernel_rfl) (ak _ _) (λ_=>rfl) (M:=λx=>alj x.1 x.2.1) (λx=>alm x.1 x.2.1) λx h=>afE x.1 x.2.1 (h _ (by simp)) (h (vW 100000 x.2.1) (by simp)) (h (yB x.1 x.2.1) (by simp))
def aty:FuncId→Option Spec:=λf=>bif Nat.beq f 92 then some (ay KQx)else bif Nat.beq f 93 then some (ay KQy)else bif Nat.beq f 91 then some (ay aeY)else bif Nat.beq f 94 then some (ay att)else bif Nat.beq f 75 then some (ay anY)else none
theorem alp: ∀f s,aty f=some s→aR Tryz.prog f s:=step_ok atw.spec (step_ok atx.spec (step_ok YS.spec (step_ok aqA.spec (bS alf.spec))))
def alq(f g:L4):Tr AV:=
 let F:=dF f
 let G:=dF g
 let X1:=cK ⟨(fA F).x0,(fA F).x1,DL (fA F).x0⟩
 let X2:=cK ⟨(fA G).x0,(fA G).x1,DL (fA G).x0⟩
 let Y1:=cK ⟨(fA F).y0,(fA F).y1,DL (fA F).y0⟩
 let Y2:=cK ⟨(fA G).y0,(fA G).y1,DL (fA G).y0⟩
 let DX:=cK ⟨hold ((aX X1).c0-(aX X2).c0),hold ((aX X1).c1-(aX X2).c1),hold ((aX X1).c2-(aX X2).c2)⟩
 let DY:=cK ⟨hold ((aX Y1).c0-(aX Y2).c0),hold ((aX Y1).c1-(aX Y2).c1),hold ((aX Y1).c2-(aX Y2).c2)⟩
 let PX:=cK (qD (DK (aX DX) (aX DX)))
 let PY:=cK (qD (DK (aX DY) (aX DY)))
 Tr.need (gL F) (Tr.need (gL G) (Tr.need (dI X1) (Tr.need (dI X2) (Tr.need (iN (aX X1) (aX X2))
 (Tr.need (gL F) (Tr.need (gL G) (Tr.need (dI Y1) (Tr.need (dI Y2) (Tr.need (iN (aX Y1) (aX Y2))
 (Tr.need (dI DX) (Tr.need (dI DX) (Tr.need (vW 100000 (aX DX)) (Tr.need (vW 100000 (aX DX)) (Tr.need (yB (aX DX) (aX DX))
 (Tr.need (dI DY) (Tr.need (dI DY) (Tr.need (vW 100000 (aX DY)) (Tr.need (vW 100000 (aX DY)) (Tr.need (yB (aX DY) (aX DY))
 (Tr.need (dI PX) (Tr.need (dI PY) (Tr.need (vW 1000000 (aX PX)) (Tr.need (vW 1000000 (aX PY))
 (Tr.ret (jN (qD (afw (aX PX) (aX PY))))))))))))))))))))))))))))
theorem alr(f g:L4):aI Tryz.prog aty bX 1010 Tryz.f45 [zu f,zu g]=alq f g:=by kernel_rfl
theorem lG(q:Q3):dI (cK q)=true:=by
 show(aK (aC q.c0)&&aK (aC q.c1)&&aK (aC q.c2))=true
 rw[iw,iw,iw];rfl
theorem IC{k:Nat}{l:L4}(h:Pp k l=true):Bt k l.x0∧Bt k l.x1∧Bt k l.y0∧Bt k l.y1:=by
 simpa only[Pp,cu,qZ]using h
theorem abd:(0:Rat)-0=0:=by grind
theorem Zb(a b:Rat):yB ⟨a,b,0-0⟩ ⟨a,b,0-0⟩=true:=by
 have h:qm ⟨a,b,0-0⟩≤1:=by
  unfold qm;rw[if_neg (by simp only[abd];exact λh=>h rfl)]
  split
  ·omega
  ·split<;>omega
 simp only[yB,Bool.not_eq_true',Bool.and_eq_false_iff,decide_eq_false_iff_not];exact .inr (.inr (by omega))
theorem afF(f g:L4)(hf:Pp 10000 f=true)(hg:Pp 10000 g=true):(alq f g).sat λr=>r=jN (qD (qb f g)):=by
 obtain⟨a0,a1,a2,a3⟩:=IC hf;obtain⟨b0,b1,b2,b3⟩:=IC hg;have z:=Bt.zero 0;have s0:=a0.sub b0;have s1:=a1.sub b1;have s2:=a2.sub b2;have s3:=a3.sub b3;have sz:=z.sub z;have hx:iN ⟨f.x0,f.x1,0⟩ ⟨g.x0,g.x1,0⟩=true:=by
  simp only[iN,nT,cu];exact⟨⟨jE a0 b0.neg (by decide),jE a1 b1.neg (by decide)⟩,jE z z.neg (by decide)⟩
 have hy:iN ⟨f.y0,f.y1,0⟩ ⟨g.y0,g.y1,0⟩=true:=by
  simp only[iN,nT,cu];exact⟨⟨jE a2 b2.neg (by decide),jE a3 b3.neg (by decide)⟩,jE z z.neg (by decide)⟩
 have qx:vW 100000 ⟨f.x0-g.x0,f.x1-g.x1,0-0⟩=true:=mg.2 ⟨s0.mono (by decide),s1.mono (by decide),sz.mono (by decide)⟩;have qy:vW 100000 ⟨f.y0-g.y0,f.y1-g.y1,0-0⟩=true:=mg.2 ⟨s2.mono (by decide),s3.mono (by decide),sz.mono (by decide)⟩;have dx:=Zb (f.x0-g.x0) (f.x1-g.x1);have dy:=Zb (f.y0-g.y0) (f.y1-g.y1);have px:vW 1000000 (DK ⟨f.x0-g.x0,f.x1-g.x1,0-0⟩ ⟨f.x0-g.x0,f.x1-g.x1,0-0⟩)=true:=mg.2 ⟨(s0.mul s0).mono (by decide),((s0.mul s1).add (s1.mul s0)).mono (by decide),(((s0.mul sz).add (sz.mul s0)).add (s1.mul s1)).mono (by decide)⟩;have py:vW 1000000 (DK ⟨f.y0-g.y0,f.y1-g.y1,0-0⟩ ⟨f.y0-g.y0,f.y1-g.y1,0-0⟩)=true:=mg.2 ⟨(s2.mul s2).mono (by decide),((s2.mul s3).add (s3.mul s2)).mono (by decide),(((s2.mul sz).add (sz.mul s2)).add (s3.mul s3)).mono (by decide)⟩;simp only[alq,bD,bE,jm,lG,fV,Za,sat_true,hx,hy,qx,qy,dx,dy,px,py,zB];exact av rfl
theorem aqB:aN Tryz.prog 45 atu:=
 (F2 nE nE).dO (N:=1010) (L:=bX) aj alp (fn:=Tryz.f45) (c:=codeOf Tryz.f45) (by kernel_rfl) (by kernel_rfl) (by kernel_rfl) (ak _ _) (λ_=>rfl) (M:=λx=>alq x.1 x.2.1) (λx=>alr x.1 x.2.1) λx h=>afF x.1 x.2.1 (h _ (by simp)) (h (Pp 10000 x.2.1) (by simp))
end Go.bI
namespace Go.bI
open Go.Proofs
def atz:FuncId→Option Spec:=λf=>bif Nat.beq f 120 then some (ay Pg)else bif Nat.beq f 150 then some (ay ae4)else bif Nat.beq f 151 then some (ay VR)else bif Nat.beq f 152 then some (ay aeZ)else bif Nat.beq f 153 then some (ay RG)else bif Nat.beq f 121 then some (ay J8)else bif Nat.beq f 122 then some (ay J7)else bif Nat.beq f 28 then some (ay VT)else none
theorem als: ∀f s,atz f=some s→aR Tryz.prog f s:=step_ok Ac.spec (step_ok YV.spec (step_ok Iu.spec (step_ok YT.spec (step_ok Dy.spec (step_ok vC.spec (step_ok vw.spec (bS Iw.spec)))))))
def alu(x:R3)(y:R3):Tr AV:=
 let x1:List AV:=[AV.c (.v (.bool (decide (x.p.num<0)))),AV.c (.v (.string ⟨⟨aA x.p.num.natAbs⟩⟩)),AV.c (.v (.bool false)),
  AV.c (.v (.string ⟨⟨aH x.p.den⟩⟩))]
 let x2:List AV:=[AV.c (.v (.bool (decide (y.p.num<0)))),AV.c (.v (.string ⟨⟨aA y.p.num.natAbs⟩⟩)),AV.c (.v (.bool false)),
  AV.c (.v (.string ⟨⟨aH y.p.den⟩⟩))]
 let x3:Rat:=aB x1
 let x4:Rat:=aB x2
 let x5:List AV:=[AV.c (.v (.bool x.neg))]
 let x6:List AV:=[AV.c (.v (.bool y.neg))]
 let x7:Rat:=hold (xK (nK x6))
 let x8:Int:=x7.num
 let x9:List AV:=[AV.c (.v (.bool (decide (x8<0)))),AV.c (.v (.string ⟨⟨aA x8.natAbs⟩⟩)),AV.c (.v (.bool false)),
  AV.c (.v (.string ⟨⟨aH x7.den⟩⟩))]
 let x10:Rat:=hold (x3-x4)
 let fI:Int:=x10.num
 let fU:List AV:=[AV.c (.v (.bool (decide (fI<0)))),AV.c (.v (.string ⟨⟨aA fI.natAbs⟩⟩)),AV.c (.v (.bool false)),
  AV.c (.v (.string ⟨⟨aH x10.den⟩⟩))]
 let iM:Bool:=aK fU
 let iR:Rat:=hold (xK (nK x5))
 let jH:Int:=iR.num
 let kE:List AV:=[AV.c (.v (.bool (decide (jH<0)))),AV.c (.v (.string ⟨⟨aA jH.natAbs⟩⟩)),AV.c (.v (.bool false)),
  AV.c (.v (.string ⟨⟨aH iR.den⟩⟩))]
 let jD:Bool:=aK kE
 let x18:List AV:=[AV.c (.v (.bool (decide (x.r.num<0)))),AV.c (.v (.string ⟨⟨aA x.r.num.natAbs⟩⟩)),AV.c (.v (.bool false)),
  AV.c (.v (.string ⟨⟨aH x.r.den⟩⟩))]
 let lW:Bool:=aK x18
 let x20:Rat:=aB fU
 let x21:Rat:=aB kE
 let lZ:Rat:=aB x18
 let x23:Rat:=hold (-aB x9)
 let x24:Int:=x23.num
 let x25:List AV:=[AV.c (.v (.bool (decide (x24<0)))),AV.c (.v (.string ⟨⟨aA x24.natAbs⟩⟩)),AV.c (.v (.bool false)),
  AV.c (.v (.string ⟨⟨aH x23.den⟩⟩))]
 let rY:List AV:=[AV.c (.v (.bool (decide (y.r.num<0)))),AV.c (.v (.string ⟨⟨aA y.r.num.natAbs⟩⟩)),AV.c (.v (.bool false)),
  AV.c (.v (.string ⟨⟨aH y.r.den⟩⟩))]
 let x27:Bool:=aK rY
 let x28:Rat:=aB rY
 let x29:Int:=IntKind.i64.wrap (gW (aB x25).num 0*gW x28.num 0)
 let x30:Bool:=x29==0
 let x31:Int:=l8 x20 x21 lZ
 let x32:Rat:=hold (x20*x20)
 let pV:Int:=x32.num
 let x34:List AV:=[AV.c (.v (.bool (decide (pV<0)))),AV.c (.v (.string ⟨⟨aA pV.natAbs⟩⟩)),AV.c (.v (.bool false)),
  AV.c (.v (.string ⟨⟨aH x32.den⟩⟩))]
 let yF:Rat:=aB x34
 let vk:Rat:=hold (yF+lZ)
 let r9:Int:=vk.num
 let x38:List AV:=[AV.c (.v (.bool (decide (r9<0)))),AV.c (.v (.string ⟨⟨aA r9.natAbs⟩⟩)),AV.c (.v (.bool false)),
  AV.c (.v (.string ⟨⟨aH vk.den⟩⟩))]
 let x39:Rat:=aB x38
 let x40:Rat:=hold (x20*x21)
 let x41:Int:=x40.num
 let GU:List AV:=[AV.c (.v (.bool (decide (x41<0)))),AV.c (.v (.string ⟨⟨aA x41.natAbs⟩⟩)),AV.c (.v (.bool false)),
  AV.c (.v (.string ⟨⟨aH x40.den⟩⟩))]
 let x43:Rat:=aB
  [AV.c (.v (.bool false)),AV.c (.v (.string ⟨⟨aA (Int.natAbs 2)⟩⟩)),AV.c (.v (.bool false)),
   AV.c (.v (.string ⟨⟨aH 1⟩⟩))]
 let Gs:Rat:=aB GU
 let GV:Rat:=hold (x39-x28)
 let Iq:Int:=GV.num
 let Ea:List AV:=[AV.c (.v (.bool (decide (Iq<0)))),AV.c (.v (.string ⟨⟨aA Iq.natAbs⟩⟩)),AV.c (.v (.bool false)),
  AV.c (.v (.string ⟨⟨aH GV.den⟩⟩))]
 let La:Rat:=hold (x43*Gs)
 let J5:Int:=La.num
 let Ca:List AV:=[AV.c (.v (.bool (decide (J5<0)))),AV.c (.v (.string ⟨⟨aA J5.natAbs⟩⟩)),AV.c (.v (.bool false)),
  AV.c (.v (.string ⟨⟨aH La.den⟩⟩))]
 let Bl:Rat:=aB Ea
 let EO:Rat:=aB Ca
 Tr.need (aK x1)
  (Tr.need (aK x2)
   (Tr.need (jZ x3 (-x4))
    (Tr.need
     (dN
      (AV.c (.v (.bool (decide (x.p.num<0))))::
       AV.c (.v (.string ⟨⟨aA x.p.num.natAbs⟩⟩))::
        AV.c (.v (.bool false))::
         AV.c (.v (.string ⟨⟨aH x.p.den⟩⟩))::
          AV.c (.v (.bool (decide (x.r.num<0))))::
           AV.c (.v (.string ⟨⟨aA x.r.num.natAbs⟩⟩))::
            AV.c (.v (.bool false))::AV.c (.v (.string ⟨⟨aH x.r.den⟩⟩))::x5))
     (Tr.need
      (dN
       (AV.c (.v (.bool (decide (y.p.num<0))))::
        AV.c (.v (.string ⟨⟨aA y.p.num.natAbs⟩⟩))::
         AV.c (.v (.bool false))::
          AV.c (.v (.string ⟨⟨aH y.p.den⟩⟩))::
           AV.c (.v (.bool (decide (y.r.num<0))))::
            AV.c (.v (.string ⟨⟨aA y.r.num.natAbs⟩⟩))::
             AV.c (.v (.bool false))::AV.c (.v (.string ⟨⟨aH y.r.den⟩⟩))::x6))
      (Tr.need (aK x9)
       (Tr.need iM
        (Tr.need jD
         (Tr.need lW
          (Tr.need (nA x20 x21 lZ)
           (Tr.need (aK x25)
            (Tr.need x27
             (Tr.need (bif x30 then true else true)
              (Tr.ite (bif x30 then true else bif false then true else x31==x29) (Tr.ret (AV.c (.v (.int IntKind.i64 x31))))
               (Tr.ite (x31==0) (Tr.ret (AV.c (.v (.int IntKind.i64 x29))))
                (Tr.need iM
                 (Tr.need iM
                  (Tr.need (kX x20 x20)
                   (Tr.need (aK x34)
                    (Tr.need lW
                     (Tr.need (jZ yF lZ)
                      (Tr.need (aK x38)
                       (Tr.need x27
                        (Tr.need (jZ x39 (-x28))
                         (Tr.need true
                          (Tr.need true
                           (Tr.need iM
                            (Tr.need jD
                             (Tr.need (kX x20 x21)
                              (Tr.need true
                               (Tr.need (aK GU)
                                (Tr.need (kX x43 Gs)
                                 (Tr.need (aK Ea)
                                  (Tr.need (aK Ca)
                                   (Tr.need lW
                                    (Tr.need (nA Bl EO lZ)
                                     (Tr.ret
                                      (AV.c
                                       (IV.v
                                        (Value.int IntKind.i64
                                         (IntKind.i64.wrap
                                          (x31*l8 Bl EO lZ)))))))))))))))))))))))))))))))))))))))))
theorem alv(x y:R3):aI Tryz.prog atz bX 1010 Tryz.f101 [DC x,DC y]=alu x y:=by kernel_rfl
def q9:Arg R3 where
 get:=λa=>match a with | .agg l=>some (bW l,[dN l]) | _=>none
 put:=DC
 ok:=by
  intro a x cs h hc
  split at h
  ·rename_i l
   simp only[fK,Prod.mk.injEq]at h;obtain⟨rfl,rfl⟩:=h;have:=lS (l:=l) (hc _ (by simp));unfold DC;rw[←this];exact bM.refl _
  ·cases h
def iO(x y:R3):Int:=
 if gW (-xK y.neg).num 0*gW y.r.num 0=0∨l8 (x.p-y.p) (xK x.neg) x.r=gW (-xK y.neg).num 0*gW y.r.num 0 then l8 (x.p-y.p) (xK x.neg) x.r
 else if l8 (x.p-y.p) (xK x.neg) x.r=0 then gW (-xK y.neg).num 0*gW y.r.num 0
 else l8 (x.p-y.p) (xK x.neg) x.r*l8 ((x.p-y.p)*(x.p-y.p)+x.r-y.r) (2*((x.p-y.p)*xK x.neg)) x.r
def qo(k:Nat)(x:R3):Bool:=G7 k x.p&&G7 k x.r
theorem Pq{k:Nat}{x:R3}(h:qo k x=true):Bt k x.p∧Bt k x.r:=by simpa only[qo,cu,qZ]using h
theorem Bt.one:Bt 0 1:=⟨Nat.le_refl _,Nat.le_refl _⟩
theorem Bt.two:Bt 1 2:=⟨Nat.le_refl _,by decide⟩
theorem Bt.fac(b:Bool):Bt 0 (xK b):=by
 cases b
 ·exact Bt.one
 ·exact Bt.one.neg
theorem Kj{i j k:Nat}{a b r:Rat}(ha:Bt i a)(hb:Bt j b)(hr:Bt k r)(h:i+i<8000000)(h':j+j+k<8000000):nA a b r=true:=by
 simp only[nA,cu];exact⟨⟨⟨kN ha ha h,kN hb hb (by omega)⟩,kN (hb.mul hb) hr h'⟩,Po (ha.mul ha) ((hb.mul hb).mul hr) h h'⟩
theorem Pt{a b:Int}(ha:a= -1∨a=0∨a=1)(hb:b= -1∨b=0∨b=1):a*b= -1∨a*b=0∨a*b=1:=by
 rcases ha with rfl|rfl|rfl<;>rcases hb with rfl|rfl|rfl<;>decide
theorem RV(a b r:Rat):l8 a b r= -1∨l8 a b r=0∨l8 a b r=1:=by
 unfold l8;simp only[]
 split
 ·exact pX _ _
 ·split
  ·exact Pt (pX _ _) (pX _ _)
  ·exact Pt (pX _ _) (pX _ _)
theorem Zc{a:Int}(h:a= -1∨a=0∨a=1):IntKind.i64.wrap a=a:=wrap_i64 (by omega)
theorem alx(b:Bool):nK [AV.c (.v (.bool b))]=b:=by cases b<;>rfl
theorem afG(x y:R3)(hx:qo 100000 x=true)(hy:qo 100000 y=true):(alu x y).sat λr=>r=dn .i64 (iO x y):=by
 obtain⟨x1,x2⟩:=Pq hx;obtain⟨y1,y2⟩:=Pq hy;have ha:=x1.sub y1;have hf:=Bt.fac x.neg;have s1:=jE x1 y1.neg (by decide);have s2:=Kj ha hf x2 (by decide) (by decide);have s3:=kN ha ha (by decide);have s4:=jE (ha.mul ha) x2 (by decide);have s5:=jE ((ha.mul ha).add x2) y2.neg (by decide);have s6:=kN ha hf (by decide);have s7:=kN Bt.two (ha.mul hf) (by decide);have s8:=Kj (((ha.mul ha).add x2).sub y2) (Bt.two.mul (ha.mul hf)) x2 (by decide) (by decide);have n1:=Pt (pX (-xK y.neg).num 0) (pX y.r.num 0);have w1:=Zc n1;have m1:=RV (x.p-y.p) (xK x.neg) x.r;have w2:=Zc (Pt m1 (RV ((x.p-y.p)*(x.p-y.p)+x.r-y.r) (2*((x.p-y.p)*xK x.neg)) x.r));have e2:aB [AV.c (.v (.bool false)),AV.c (.v (.string ⟨⟨aA (Int.natAbs 2)⟩⟩)),AV.c (.v (.bool false)),AV.c (.v (.string ⟨⟨aH 1⟩⟩))]=2:=dK 2;have o2:aK [AV.c (.v (.bool false)),AV.c (.v (.string ⟨⟨aA (Int.natAbs 2)⟩⟩)),AV.c (.v (.bool false)),AV.c (.v (.string ⟨⟨aH 1⟩⟩))]=true:=iw 2;simp only[alu,dP,dB,jh,iH,fV,alx,Bool.and_self,sat_true,e2,o2,s1,s2,s3,s4,s5,s6,s7,s8,w1,w2];unfold iO;generalize gW (-xK y.neg).num 0*gW y.r.num 0=n at*;generalize l8 (x.p-y.p) (xK x.neg) x.r=m at*;refine ah (by cases (n==0)<;>rfl) (au (λh=> ?_) (λh=> ?_))
 ·have h':n=0∨m=n:=by
   cases hn:(n==0)with
   | true=>exact .inl (by simpa using hn)
   | false=>
     rw[hn,cond_false,cond_false]at h;exact .inr (by simpa using h)
  rw[if_pos h'];exact av rfl
 ·have h': ¬(n=0∨m=n):=by
   cases hn:(n==0)with
   | true=>rw[hn]at h;cases h
   | false=>
     rw[hn,cond_false,cond_false]at h;rintro(h0|h0)
     ·subst h0;cases hn
     ·subst h0;simp at h
  rw[if_neg h'];refine au (λh0=> ?_) (λh0=> ?_)
  ·rw[if_pos (by simpa using h0)]
   exact av rfl
  ·rw[if_neg (by simpa using h0)]
   simp only[sat_true];exact av rfl
def aqC:List AV→Option (AV×List Bool):=(F2 q9 q9).K (λx=>dn .i64 (iO x.1 x.2.1)) λx=> [qo 100000 x.1,qo 100000 x.2.1]
theorem afH:aN Tryz.prog 101 aqC:=
 (F2 q9 q9).dO (N:=1010) (L:=bX) aj als (fn:=Tryz.f101) (c:=codeOf Tryz.f101) (by kernel_rfl) (by kernel_rfl) (by kernel_rfl) (ak _ _) (λ_=>rfl) (M:=λx=>alu x.1 x.2.1) (λx=>alv x.1 x.2.1) λx h=>afG x.1 x.2.1 (h _ (by simp)) (h (qo 100000 x.2.1) (by simp))
end Go.bI
namespace Go.bI
open Go.Proofs
structure Ig where
 a:R3
 b:R3
 oa:Bool
 ob:Bool
def dU(i:Ig):List AV:=aY i.a++(aY i.b++[.c (.v (.bool i.oa)),.c (.v (.bool i.ob))])
def yH(l:List AV):Ig:=⟨bW (l.take 9),bW ((l.drop 9).take 9),nK ((l.drop 18).take 1),nK (l.drop 19)⟩
def uo(l:List AV):Bool:=dN (l.take 9)&&(dN ((l.drop 9).take 9)&&(ug ((l.drop 18).take 1)&&ug (l.drop 19)))
theorem IE{l:List AV}(h:uo l=true):l=dU (yH l):=by
 simp only[uo,cu]at h;obtain⟨h1,h2,h3,h4⟩:=h;have e1:=lS h1;have e2:=lS h2;have e3:=sZ h3;have e4:=sZ h4;unfold dU yH;simp only[];rw[←e1, ←e2];have:[AV.c (.v (.bool (nK ((l.drop 18).take 1)))),AV.c (.v (.bool (nK (l.drop 19))))]=l.drop 18:=by
  have e5:l.drop 18=(l.drop 18).take 1++(l.drop 18).drop 1:=(List.take_append_drop 1 _).symm;rw[e5,List.drop_drop,e3,e4];rfl
 rw[this];have e6:l.drop 9=(l.drop 9).take 9++(l.drop 9).drop 9:=(List.take_append_drop 9 _).symm;rw[List.drop_drop]at e6;rw[←e6,List.take_append_drop]
theorem nG(i:Ig):yH (dU i)=i:=by
 show(⟨bW (aY i.a),bW (aY i.b),i.oa,i.ob⟩:Ig)=i
 rw[dM,dM]
theorem j3(i:Ig):uo (dU i)=true:=by
 show(dN (aY i.a)&&(dN (aY i.b)&&(true&&true)))=true
 rw[fM,fM];rfl
def sj:Arg Ig where
 get:=λa=>match a with | .agg l=>some (yH l,[uo l]) | _=>none
 put:=λi=> .agg (dU i)
 ok:=by
  intro a x cs h hc
  split at h
  ·rename_i l
   simp only[fK,Prod.mk.injEq]at h;obtain⟨rfl,rfl⟩:=h;have:=IE (l:=l) (hc _ (by simp));rw[←this];exact bM.refl _
  ·cases h
def ΓIg:FuncId→Option Spec:=λf=>bif Nat.beq f 101 then some (ay aqC)else none
theorem V5: ∀f s,ΓIg f=some s→aR Tryz.prog f s:=bS afH.spec
def aly(i:Ig):Tr AV:=
 let x1:List Bool:=[false==false]
 let x2:Int:=i.a.r.num
 let x3:Int:=i.b.r.num
 let x4:Int:=i.a.p.num
 let x5:Int:=i.b.p.num
 Tr.ret
  (AV.c
   (IV.v
    (Value.bool
     (bA
      [i.a.neg==i.b.neg,
       bA
        [bA ((aH i.a.r.den==aH i.b.r.den)::x1).reverse,
         bA [aA x2.natAbs==aA x3.natAbs,decide (x2<0)==decide (x3<0)].reverse].reverse,
       bA
        [bA ((aH i.a.p.den==aH i.b.p.den)::x1).reverse,
         bA [aA x4.natAbs==aA x5.natAbs,decide (x4<0)==decide (x5<0)].reverse].reverse].reverse))))
def alz(i:Ig)(j:Ig):Tr AV:=
 let x1:Int:=i.b.p.num
 let x2:Int:=i.b.r.num
 let x3:List AV:=[AV.c (.v (.bool (decide (x1<0)))),AV.c (.v (.string ⟨⟨aA x1.natAbs⟩⟩)),AV.c (.v (.bool false)),
  AV.c (.v (.string ⟨⟨aH i.b.p.den⟩⟩)),AV.c (.v (.bool (decide (x2<0)))),
  AV.c (.v (.string ⟨⟨aA x2.natAbs⟩⟩)),AV.c (.v (.bool false)),
  AV.c (.v (.string ⟨⟨aH i.b.r.den⟩⟩)),AV.c (.v (.bool i.b.neg))]
 let x4:Int:=j.a.p.num
 let x5:Int:=j.a.r.num
 let x6:List AV:=[AV.c (.v (.bool (decide (x4<0)))),AV.c (.v (.string ⟨⟨aA x4.natAbs⟩⟩)),AV.c (.v (.bool false)),
  AV.c (.v (.string ⟨⟨aH j.a.p.den⟩⟩)),AV.c (.v (.bool (decide (x5<0)))),
  AV.c (.v (.string ⟨⟨aA x5.natAbs⟩⟩)),AV.c (.v (.bool false)),
  AV.c (.v (.string ⟨⟨aH j.a.r.den⟩⟩)),AV.c (.v (.bool j.a.neg))]
 let x7:Int:=iO (bW x3) (bW x6)
 let x8:Bool:=decide (x7<0)
 let x9:Bool:=x7==0
 Tr.need (dN x3)
  (Tr.need (dN x6)
   (Tr.need (qo 100000 (bW x3))
    (Tr.need (qo 100000 (bW x6))
     (Tr.need (bif x8 then true else bif x9 then bif i.ob then true else true else true)
      (Tr.ret
       (AV.c
        (IV.v
         (Value.bool
          (bif x8 then true
          else
           bif x9 then
            bif i.ob then bif false then true else bif true then true else false
            else bif false then true else bif true then bif false then true else j.oa else false
           else bif false then true else false)))))))))
def alA(i:Ig)(j:Ig):Tr AV:=
 let x1:Int:=i.b.p.num
 let x2:Int:=i.b.r.num
 let x3:List AV:=[AV.c (.v (.bool (decide (x1<0)))),AV.c (.v (.string ⟨⟨aA x1.natAbs⟩⟩)),AV.c (.v (.bool false)),
  AV.c (.v (.string ⟨⟨aH i.b.p.den⟩⟩)),AV.c (.v (.bool (decide (x2<0)))),
  AV.c (.v (.string ⟨⟨aA x2.natAbs⟩⟩)),AV.c (.v (.bool false)),
  AV.c (.v (.string ⟨⟨aH i.b.r.den⟩⟩)),AV.c (.v (.bool i.b.neg))]
 let x4:Int:=j.b.p.num
 let x5:Int:=j.b.r.num
 let x6:List AV:=[AV.c (.v (.bool (decide (x4<0)))),AV.c (.v (.string ⟨⟨aA x4.natAbs⟩⟩)),AV.c (.v (.bool false)),
  AV.c (.v (.string ⟨⟨aH j.b.p.den⟩⟩)),AV.c (.v (.bool (decide (x5<0)))),
  AV.c (.v (.string ⟨⟨aA x5.natAbs⟩⟩)),AV.c (.v (.bool false)),
  AV.c (.v (.string ⟨⟨aH j.b.r.den⟩⟩)),AV.c (.v (.bool j.b.neg))]
 let x7:Int:=iO (bW x3) (bW x6)
 let x8:Bool:=decide (x7<0)
 let x9:Bool:=x7==0
 Tr.need (dN x3)
  (Tr.need (dN x6)
   (Tr.need (qo 100000 (bW x3))
    (Tr.need (qo 100000 (bW x6))
     (Tr.need (bif x8 then true else bif x9 then bif i.ob then true else true else true)
      (Tr.ret
       (AV.c
        (IV.v
         (Value.bool
          (bif x8 then true
          else
           bif x9 then
            bif i.ob then bif false then true else bif true then true else false
            else bif false then true else bif true then bif false then true else !j.ob else false
           else bif false then true else false)))))))))
theorem alB(i:Ig):aI Tryz.prog (λ_=>none) bX 1010 Tryz.f142 [.agg (dU i)]=aly i:=by kernel_rfl
theorem alC(i j:Ig):aI Tryz.prog ΓIg bX 1010 Tryz.f130 [.agg (dU i),.agg (dU j)]=alz i j:=by kernel_rfl
theorem alD(i j:Ig):aI Tryz.prog ΓIg bX 1010 Tryz.f90 [.agg (dU i),.agg (dU j)]=alA i j:=by kernel_rfl
def V6(A B:List AV)(oa ob:Bool):Tr AV:=
 let n:=iO (bW A) (bW B)
 let r:=λ(b:Bool)=>Tr.ret (AV.iC [.agg (A++(B++[bL oa,bL ob])),bL b])
 Tr.need (dN A) (Tr.need (dN B) (Tr.need (qo 100000 (bW A)) (Tr.need (qo 100000 (bW B))
  (Tr.ite (decide (n<0)) (r true) (Tr.ite (n==0) (Tr.ite (!oa) (r (!ob)) (r false)) (Tr.ite false (r (!ob)) (r false)))))))
def V7(i j:Ig)(A:List AV)(oa:Bool):Tr AV:=
 let n:=iO (bW (aY i.b)) (bW (aY j.b))
 Tr.need (dN (aY i.b)) (Tr.need (dN (aY j.b)) (Tr.need (qo 100000 (bW (aY i.b))) (Tr.need (qo 100000 (bW (aY j.b)))
  (Tr.ite (decide (n>0)) (V6 A (aY j.b) oa j.ob) (Tr.ite (n==0) (Tr.ite i.ob (V6 A (aY i.b) oa true) (V6 A (aY i.b) oa j.ob)) (V6 A (aY i.b) oa i.ob))))))
def alE(i j:Ig):Tr AV:=
 let n:=iO (bW (aY i.a)) (bW (aY j.a))
 Tr.need (dN (aY i.a)) (Tr.need (dN (aY j.a)) (Tr.need (qo 100000 (bW (aY i.a))) (Tr.need (qo 100000 (bW (aY j.a)))
  (Tr.ite (decide (n<0)) (V7 i j (aY j.a) j.oa) (Tr.ite (n==0) (Tr.ite i.oa (V7 i j (aY i.a) true) (V7 i j (aY i.a) j.oa)) (V7 i j (aY i.a) i.oa))))))
theorem alF(i j:Ig):aI Tryz.prog ΓIg bX 1010 Tryz.f89 [.agg (dU i),.agg (dU j)]=alE i j:=by kernel_rfl
def Ah(k:Nat)(i:Ig):Bool:=qo k i.a&&qo k i.b
theorem oo{k:Nat}{i:Ig}(h:Ah k i=true):qo k i.a=true∧qo k i.b=true:=by simpa only[Ah,cu]using h
def G8(i j:Ig):Bool:=decide (iO i.b j.a<0) || (iO i.b j.a==0&&(i.ob || j.oa))
def qO(i j:Ig):Bool:=decide (iO i.b j.b<0) || (iO i.b j.b==0&&(i.ob || !j.ob))
def jF(i j:Ig):Ig where
 a:=if iO i.a j.a<0 then j.a else i.a
 b:=if iO i.b j.b>0 then j.b else i.b
 oa:=if iO i.a j.a<0 then j.oa else if iO i.a j.a=0 then i.oa || j.oa else i.oa
 ob:=if iO i.b j.b>0 then j.ob else if iO i.b j.b=0 then i.ob || j.ob else i.ob
def rJ(o:Ig):Bool:=decide (iO o.a o.b<0) || (iO o.a o.b==0&&(!o.oa&& !o.ob))
theorem afI(i j:Ig)(h1:qo 100000 i.b=true)(h2:qo 100000 j.a=true):(alz i j).sat λr=>r=bL (G8 i j):=by
 have e1:bW (aY i.b)=i.b:=dM _;simp only[alz,jh,iH,dP,dB,Bool.and_self,sat_true,h1,h2];unfold G8;generalize iO i.b j.a=n;cases decide (n<0)<;>cases (n==0)<;>cases i.ob<;>exact ah rfl (av rfl)
theorem afJ(i j:Ig)(h1:qo 100000 i.b=true)(h2:qo 100000 j.b=true):(alA i j).sat λr=>r=bL (qO i j):=by
 simp only[alA,jh,iH,dP,dB,Bool.and_self,sat_true,h1,h2];unfold qO;generalize iO i.b j.b=n;cases decide (n<0)<;>cases (n==0)<;>cases i.ob<;>exact ah rfl (av rfl)
theorem afK(o:Ig)(h1:qo 100000 o.a=true)(h2:qo 100000 o.b=true):(V6 (aY o.a) (aY o.b) o.oa o.ob).sat λr=>r= .iC [.agg (dU o),bL (rJ o)]:=by
 simp only[V6,dM,fM,h1,h2,sat_true];unfold rJ;generalize iO o.a o.b=n;cases decide (n<0)with
 | true=>exact au (λ_=>av rfl) (λh=>by cases h)
 | false=>
   refine au (λh=>by cases h) (λ_=> ?_);cases (n==0)with
   | false=>exact au (λh=>by cases h) (λ_=>au (λh=>by cases h) (λ_=>av rfl))
   | true=>
     refine au (λ_=> ?_) (λh=>by cases h);unfold dU;cases o.oa with
     | true=>exact au (λh=>by cases h) (λ_=>av rfl)
     | false=>exact au (λ_=>av rfl) (λh=>by cases h)
theorem afL(i j:Ig)(a:R3)(oa:Bool)(h0:qo 100000 a=true)(h1:qo 100000 i.b=true)(h2:qo 100000 j.b=true){Q:AV→Prop}
  (hq: ∀r,r=AV.iC [.agg (dU ⟨a,(jF i j).b,oa,(jF i j).ob⟩),bL (rJ ⟨a,(jF i j).b,oa,(jF i j).ob⟩)]→Q r):(V7 i j (aY a) oa).sat Q:=by
 have key: ∀(b:R3) (ob:Bool),qo 100000 b=true→b=(jF i j).b→ob=(jF i j).ob→(V6 (aY a) (aY b) oa ob).sat Q:=λb ob hb e1 e2=>by
  refine Tr.bC hq ?_;rw[←e1, ←e2];exact afK ⟨a,b,oa,ob⟩ h0 hb
 simp only[V7,dM,fM,h1,h2,sat_true];refine au (λh=> ?_) (λh=> ?_)
 ·have h:=j4 h
  exact key j.b j.ob h2 (if_pos h).symm (if_pos h).symm
 ·have h:=of_decide_eq_false h
  have eb:i.b=(jF i j).b:=(if_neg h).symm;refine au (λk=> ?_) (λk=> ?_)
  ·have k:iO i.b j.b=0:=by simpa using k
   have eo:(jF i j).ob=(i.ob || j.ob):=by
    show(if _ then _ else _)=_
    rw[if_neg h,if_pos k]
   refine au (λo=>key i.b true h1 eb (by rw[eo,o];rfl)) (λo=>key i.b j.ob h1 eb (by rw[eo,o];rfl))
  ·have k: ¬iO i.b j.b=0:=by simpa using k
   exact key i.b i.ob h1 eb (by show _=(if _ then _ else _);rw[if_neg h,if_neg k])
theorem afM(i j:Ig)(hi:Ah 100000 i=true)(hj:Ah 100000 j=true):(alE i j).sat λr=>r= .iC [.agg (dU (jF i j)),bL (rJ (jF i j))]:=by
 obtain⟨i1,i2⟩:=oo hi;obtain⟨j1,j2⟩:=oo hj;have key: ∀(a:R3) (oa:Bool),qo 100000 a=true→a=(jF i j).a→oa=(jF i j).oa→(V7 i j (aY a) oa).sat λr=>r= .iC [.agg (dU (jF i j)),bL (rJ (jF i j))]:=λa oa ha e1 e2=>by
  refine afL i j a oa ha i2 j2 λr hr=> ?_
  rw[hr,e1,e2]
 simp only[alE,dM,fM,i1,j1,sat_true];refine au (λh=> ?_) (λh=> ?_)
 ·have h:=j4 h
  exact key j.a j.oa j1 (if_pos h).symm (if_pos h).symm
 ·have h:=of_decide_eq_false h
  have eb:i.a=(jF i j).a:=(if_neg h).symm;refine au (λk=> ?_) (λk=> ?_)
  ·have k:iO i.a j.a=0:=by simpa using k
   have eo:(jF i j).oa=(i.oa || j.oa):=by
    show(if _ then _ else _)=_
    rw[if_neg h,if_pos k]
   refine au (λo=>key i.a true i1 eb (by rw[eo,o];rfl)) (λo=>key i.a j.oa i1 eb (by rw[eo,o];rfl))
  ·have k: ¬iO i.a j.a=0:=by simpa using k
   exact key i.a i.oa i1 eb (by show _=(if _ then _ else _);rw[if_neg h,if_neg k])
instance:DecidableEq R3:=λx y=>if h:x.p=y.p∧x.r=y.r∧x.neg=y.neg then .isTrue (by cases x;cases y;simp only[R3.mk.injEq];exact h)else .isFalse (λe=>h (by rw[e];exact⟨rfl,rfl,rfl⟩))
theorem EW(x y:R3):(bA [x.neg==y.neg,decide (x.r=y.r),decide (x.p=y.p)].reverse)=decide (x=y):=by
 obtain⟨p,r,n⟩:=x;obtain⟨p',r',n'⟩:=y;simp only[R3.mk.injEq];by_cases h1:p=p'<;>by_cases h2:r=r'<;>cases n<;>cases n'<;>simp[bA,h1,h2]
theorem afN(i:Ig):(aly i).sat λr=>r=bL (decide (i.a=i.b)):=by
 simp only[aly,rF,EW];exact av rfl
def aqD:List AV→Option (AV×List Bool):=(F1 sj).K (λx=>bL (decide (x.1.a=x.1.b))) λ_=> []
def atA:List AV→Option (AV×List Bool):=(F2 sj sj).K (λx=>bL (G8 x.1 x.2.1)) λx=> [qo 100000 x.1.b,qo 100000 x.2.1.a]
def atB:List AV→Option (AV×List Bool):=(F2 sj sj).K (λx=>bL (qO x.1 x.2.1)) λx=> [qo 100000 x.1.b,qo 100000 x.2.1.b]
def atC:List AV→Option (AV×List Bool):=(F2 sj sj).K (λx=> .iC [.agg (dU (jF x.1 x.2.1)),bL (rJ (jF x.1 x.2.1))]) λx=> [Ah 100000 x.1,Ah 100000 x.2.1]
theorem aqE:aN Tryz.prog 130 atA:=
 (F2 sj sj).dO (N:=1010) (L:=bX) aj V5 (fn:=Tryz.f130) (c:=codeOf Tryz.f130) (by kernel_rfl) (by kernel_rfl) (by kernel_rfl) (ak _ _) (λ_=>rfl) (M:=λx=>alz x.1 x.2.1) (λx=>alC x.1 x.2.1) λx h=>afI x.1 x.2.1 (h _ (by simp)) (h (qo 100000 x.2.1.a) (by simp))
theorem aqF:aN Tryz.prog 90 atB:=
 (F2 sj sj).dO (N:=1010) (L:=bX) aj V5 (fn:=Tryz.f90) (c:=codeOf Tryz.f90) (by kernel_rfl) (by kernel_rfl) (by kernel_rfl) (ak _ _) (λ_=>rfl) (M:=λx=>alA x.1 x.2.1) (λx=>alD x.1 x.2.1) λx h=>afJ x.1 x.2.1 (h _ (by simp)) (h (qo 100000 x.2.1.b) (by simp))
theorem aqG:aN Tryz.prog 89 atC:=
 (F2 sj sj).dO (N:=1010) (L:=bX) aj V5 (fn:=Tryz.f89) (c:=codeOf Tryz.f89) (by kernel_rfl) (by kernel_rfl) (by kernel_rfl) (ak _ _) (λ_=>rfl) (M:=λx=>alE x.1 x.2.1) (λx=>alF x.1 x.2.1) λx h=>afM x.1 x.2.1 (h _ (by simp)) (h (Ah 100000 x.2.1) (by simp))
theorem afO:aN Tryz.prog 142 aqD:=
 (F1 sj).dO (N:=1010) (L:=bX) aj eP (fn:=Tryz.f142) (c:=codeOf Tryz.f142) (by kernel_rfl) (by kernel_rfl) (by kernel_rfl) (ak _ _) (λ_=>rfl) (M:=λx=>aly x.1) (λx=>alB x.1) λx h=>afN x.1
end Go.bI
namespace Go.bI
structure Kk (X:Type) where
 n:Nat
 iv:X→List IV
 V:List AV→X
 ok:List AV→Bool
 d:X
 ok_eq: ∀l,ok l=true→l=(iv (V l)).map AV.c
 V_c: ∀x,V ((iv x).map AV.c)=x
 Pv: ∀x,ok ((iv x).map AV.c)=true
namespace Kk
variable{X:Type}(E:Kk X)
def el(U:List X):Nat→List IV:=λk=>E.iv (U.getD k E.d)
def list(n:Nat)(el:Nat→List IV):List X:=(List.range n).map λk=>E.V ((el k).map AV.c)
def oks(n:Nat)(el:Nat→List IV):Bool:=(List.range n).all λk=>E.ok ((el k).map AV.c)
def sl(U:List X):AV:= .c (.sl U.length E.n (E.el U))
theorem Kl(n:Nat)(el:Nat→List IV):(E.list n el).length=n:=by simp[list]
theorem abe(n:Nat)(el:Nat→List IV)(k:Nat)(hk:k<n):(E.list n el).getD k E.d=E.V ((el k).map AV.c):=by
 simp[list,dR,hk]
theorem V8{n:Nat}{el:Nat→List IV}(h:E.oks n el=true): ∀k,k<n→el k=E.el (E.list n el) k:=λk hk=>by
 have h1:=List.all_eq_true.1 h k (List.mem_range.2 hk);have h2:=E.ok_eq _ h1;unfold Kk.el;rw[E.abe n el k hk];exact Ae h2
theorem aS(U:List X):E.list U.length (E.el U)=U:=by
 apply List.ext_getElem
 ·simp[list]
 ·intro i h1 h2
  simp[list,Kk.el,E.V_c,dR,h2]
theorem bH(U:List X)(n:Nat):E.oks n (E.el U)=true:=List.all_eq_true.2 λk _=>E.Pv _
theorem mK{n:Nat}{el jw:Nat→List IV}(h: ∀k,k<n→el k=jw k):E.list n el=E.list n jw:=by
 unfold list;refine List.map_congr_left λk hk=> ?_
 rw[h k (List.mem_range.1 hk)]
theorem oK{n:Nat}{el jw:Nat→List IV}(h: ∀k,k<n→el k=jw k):E.oks n el=E.oks n jw:=by
 have: ∀l:List Nat,(∀k∈l,k<n)→(l.all λk=>E.ok ((el k).map AV.c))=(l.all λk=>E.ok ((jw k).map AV.c)):=by
  intro l hl
  induction l with
  | nil=>rfl
  | cons x l ih=>
    simp only[List.all_cons];rw[h x (hl x (by simp)),ih λk hk=>hl k (by simp[hk])]
 exact this _ λk hk=>List.mem_range.1 hk
theorem DN(U:List X)(u:X)(jw:Nat→List IV)(he:jw 0=E.iv u): ∀k,k<U.length+1→bN U.length (E.el U) jw k=E.el (U++[u]) k:=by
 intro k hk;unfold bN Kk.el;by_cases hlt:k<U.length
 ·rw[if_pos hlt]
  simp[dR,List.getElem?_append_left hlt]
 ·have:k=U.length:=by omega
  subst this;rw[if_neg hlt,Nat.sub_self,he];simp[dR]
theorem snoc(U:List X)(u:X)(jw:Nat→List IV)(he:jw 0=E.iv u):E.list (U.length+1) (bN U.length (E.el U) jw)=U++[u]∧E.oks (U.length+1) (bN U.length (E.el U) jw)=true:=by
 have hl:U.length+1=(U++[u]).length:=by simp
 rw[E.mK (E.DN U u jw he),E.oK (E.DN U u jw he),hl];exact⟨E.aS _,E.bH _ _⟩
theorem VE(U:List X)(i:Nat)(hi:i<U.length)(j:Nat)(c:List IV)(u:X)(he:(E.iv (U.getD i E.d)).take j++c++(E.iv (U.getD i E.d)).drop (j+c.length)=E.iv u):
  ∀k,k<U.length→aP (E.el U) i j c k=E.el (U.set i u) k:=by
 intro k hk;unfold aP;by_cases hk2:k=i
 ·subst hk2
  rw[if_pos rfl];unfold Kk.el;rw[he];simp[dR,hk]
 ·rw[if_neg hk2]
  unfold Kk.el;simp[dR,List.getElem?_set_ne (Ne.symm hk2)]
theorem set(U:List X)(i:Nat)(hi:i<U.length)(j:Nat)(c:List IV)(u:X)(he:(E.iv (U.getD i E.d)).take j++c++(E.iv (U.getD i E.d)).drop (j+c.length)=E.iv u):
  E.list U.length (aP (E.el U) i j c)=U.set i u∧E.oks U.length (aP (E.el U) i j c)=true:=by
 have key:=E.VE U i hi j c u he;have hl:U.length=(U.set i u).length:=by simp
 rw[E.mK key,E.oK key];constructor
 ·conv=>lhs;rw[hl]
  exact E.aS _
 ·exact E.bH _ _
def arg:Arg (List X) where
 get:=λa=>match a with | .c (.sl n sz el)=>bif Nat.beq sz E.n then some (E.list n el,[E.oks n el])else none | _=>none
 put:=E.sl
 ok:=by
  intro a x cs h hc
  split at h
  ·rename_i n sz el
   cases hb:Nat.beq sz E.n with
   | false=>rw[hb]at h;cases h
   | true=>
     rw[hb]at h;simp only[cond_true,fK,Prod.mk.injEq]at h;obtain⟨rfl,rfl⟩:=h;obtain rfl:sz=E.n:=by simpa using hb
     unfold sl;rw[Kl];exact bM.sl (E.V8 (hc _ (by simp)))
  ·cases h
def ent(t:TypeId):Vw (List X) where
 get:=λe=>match e with|some (.arr n sz el t')=>bif Nat.beq sz E.n&&Nat.beq t t' then some (E.list n el,[E.oks n el])else none | _=>none
 put:=λU=>some (.arr U.length E.n (E.el U) t)
 ok:=by
  intro e U cs h hc
  split at h
  ·rename_i n sz el t'
   cases hb:(Nat.beq sz E.n&&Nat.beq t t')with
   | false=>rw[hb]at h;cases h
   | true=>
     rw[hb]at h;simp only[cond_true,fK,Prod.mk.injEq]at h;obtain⟨rfl,rfl⟩:=h;simp only[cu]at hb;obtain rfl:sz=E.n:=by simpa using hb.1
     obtain rfl:t=t':=by simpa using hb.2
     rw[Kl];exact .arr _ _ _ _ _ (E.V8 (hc _ (by simp)))
  ·cases h
end Kk
def xS(x:R3):List IV:=RO x.p++(RO x.r++[.v (.bool x.neg)])
def uq(i:Ig):List IV:=xS i.a++(xS i.b++[.v (.bool i.oa),.v (.bool i.ob)])
def nV(q:Q3):List IV:=RO q.c0++(RO q.c1++RO q.c2)
def ig0:Ig:=⟨⟨0,0,false⟩,⟨0,0,false⟩,false,false⟩
structure Ul where
 i:Ig
 f:L4
structure Uq where
 i:Ig
 f:Q3
structure Ub where
 i:Ig
 f:L4
 g:L4
def ulV(l:List AV):Ul:=⟨yH (l.take 20),fA (l.drop 20)⟩
def atD(l:List AV):Bool:=uo (l.take 20)&&gL (l.drop 20)
def uqV(l:List AV):Uq:=⟨yH (l.take 20),aX (l.drop 20)⟩
def V9(l:List AV):Bool:=uo (l.take 20)&&dI (l.drop 20)
def ubV(l:List AV):Ub:=⟨yH (l.take 20),fA ((l.drop 20).take 16),fA (l.drop 36)⟩
def atE(l:List AV):Bool:=uo (l.take 20)&&(gL ((l.drop 20).take 16)&&gL (l.drop 36))
def gD:Kk Ul where
 n:=36
 iv:=λu=>uq u.i++qN u.f
 V:=ulV
 ok:=atD
 d:=⟨ig0,l40⟩
 ok_eq:=by
  intro l h;simp only[atD,cu]at h
  show l=dU (yH (l.take 20))++dF (fA (l.drop 20))
  rw[←IE h.1, ←lT h.2,List.take_append_drop]
 V_c:=by
  intro u
  show(⟨yH (dU u.i),fA (dF u.f)⟩:Ul)=u
  rw[nG,bD]
 Pv:=by
  intro u
  show(uo (dU u.i)&&gL (dF u.f))=true
  rw[j3,bE];rfl
def aU:Kk Uq where
 n:=32
 iv:=λu=>uq u.i++nV u.f
 V:=uqV
 ok:=V9
 d:=⟨ig0,⟨0,0,0⟩⟩
 ok_eq:=by
  intro l h;simp only[V9,cu]at h
  show l=dU (yH (l.take 20))++cK (aX (l.drop 20))
  rw[←IE h.1, ←nu h.2,List.take_append_drop]
 V_c:=by
  intro u
  show(⟨yH (dU u.i),aX (cK u.f)⟩:Uq)=u
  rw[nG,jm]
 Pv:=by
  intro u
  show(uo (dU u.i)&&dI (cK u.f))=true
  rw[j3,lG];rfl
def rU:Kk Ub where
 n:=52
 iv:=λu=>uq u.i++(qN u.f++qN u.g)
 V:=ubV
 ok:=atE
 d:=⟨ig0,l40,l40⟩
 ok_eq:=by
  intro l h;simp only[atE,cu]at h
  show l=dU (yH (l.take 20))++(dF (fA ((l.drop 20).take 16))++dF (fA (l.drop 36)))
  have e:l.drop 36=(l.drop 20).drop 16:=by rw[List.drop_drop]
  rw[←IE h.1, ←lT h.2.1, ←lT h.2.2,e,List.take_append_drop,List.take_append_drop]
 V_c:=by
  intro u
  show(⟨yH (dU u.i),fA (dF u.f),fA (dF u.g)⟩:Ub)=u
  rw[nG,bD,bD]
 Pv:=by
  intro u
  show(uo (dU u.i)&&(gL (dF u.f)&&gL (dF u.g)))=true
  rw[j3,bE,bE];rfl
end Go.bI
namespace Go.bI
open Go.Proofs
abbrev RfX:=(List Ul×List Ul×Nat×Int×Int×Unit)×(List Ub×Unit)
abbrev RfR:=(Nat×Unit)×(List Ub×Unit)
def yI:Nat→List Ul→List Ul→List Ub→List Ub
 | 0,_,_,o=>o
 | n+1,x::a,y::b,o=>yI n (if qO x.i y.i then a else x::a) (if qO x.i y.i then y::b else b) (if rJ (jF x.i y.i)then o++[⟨jF x.i y.i,x.f,y.f⟩]else o)
 | _+1,_,_,o=>o
def Lb(U:List Ul):Bool:=U.all λu=>Ah 100000 u.i
def atF(x:RfX):RfR:=match x with
 | ((A,B,n,i,k,()),(O,()))=>(((yI (A.length+B.length) (A.drop i.toNat) (B.drop k.toNat) O).length,()),(yI (A.length+B.length) (A.drop i.toNat) (B.drop k.toNat) O,()))
def M8(x:RfX):Bool:=match x with
 | ((A,B,n,i,k,()),(O,()))=>Lb A&&(Lb B&&(decide (n=O.length)&&(decide (O.length≤100000)&&(decide (i=0)&&(decide (k=0)&&(decide (A.length≤100000)&&decide (B.length≤100000)))))))
def RY:aZ RfX RfR:=yA {nt:=66,live:=[0,1,5,6,7],lifts:=[(5,52,122)]} {nt:=66,live:=[5]} (.with (.cons (rU.ent 122) .nil) (.cons gD.arg (.cons gD.arg (.cons (gu 0 52) (.cons bK (.cons bK .nil)))))) (.with (.cons (rU.ent 122) .nil) (.cons (gu 0 52) .nil)) atF M8
theorem abf:RY.gI:=eG _ _ _ _ _ _
def LRf:Nat→Option (St→Tr (Ex×St)):=λid=>bif Nat.beq id 0 then some (RY.g 0)else none
def ΓRf:FuncId→Option Spec:=λf=>bif Nat.beq f 89 then some (ay atC)else bif Nat.beq f 90 then some (ay atB)else none
theorem afP: ∀f s,ΓRf f=some s→aR Tryz.prog f s:=step_ok aqG.spec (bS aqF.spec)
def MRf(A:List Ul)(B:List Ul):Tr AV:=
 let x1:List Ul:=gD.list A.length (gD.el A)
 let x2:List Ul:=gD.list B.length (gD.el B)
 let x3:List Ub:=rU.list 0 λx=> []
 let x4:List Ub:=yI (x1.length+x2.length) (List.drop (Int.toNat 0) x1) (List.drop (Int.toNat 0) x2) x3
 let x5:Nat:=x4.length
 Tr.need (gD.oks A.length (gD.el A))
  (Tr.need (gD.oks B.length (gD.el B))
   (Tr.need true (Tr.need (M8 ((x1,x2,0,0,0,()),x3,())) (Tr.need (decide (x5≤x5)) (Tr.ret (AV.c (IV.sl x5 52 (rU.el x4))))))))
def Pw(A B:List Ul)(IA IB:List AV)(i k:Int)(m:Nat)(len:Nat)(el:Nat→List IV):Tr (RfX ⊕ RfR):=
 Tr.need (decide (0≤i∧i<(A.length:Int)))<| Tr.need (decide (0≤k∧k<(B.length:Int)))<| Tr.need (uo IA)<| Tr.need (uo IB)<| Tr.need (qo 100000 (yH IA).b)<| Tr.need (qo 100000 (yH IB).b)<|
  Tr.ite (qO (yH IA) (yH IB))
   (Tr.need (gD.oks A.length (gD.el A))<| Tr.need (gD.oks B.length (gD.el B))<| Tr.need (rU.oks len el)<| Tr.ret (Sum.inl ((gD.list A.length (gD.el A),gD.list B.length (gD.el B),m,IntKind.i64.wrap (i+1),k,()),(rU.list len el,()))))
   (Tr.need (gD.oks A.length (gD.el A))<| Tr.need (gD.oks B.length (gD.el B))<| Tr.need (rU.oks len el)<| Tr.ret (Sum.inl ((gD.list A.length (gD.el A),gD.list B.length (gD.el B),m,i,IntKind.i64.wrap (k+1),()),(rU.list len el,()))))
def EX(A B:List Ul)(n:Nat)(i k:Int)(O:List Ub):Tr (RfX ⊕ RfR):=
 let a:=A.getD i.toNat gD.d
 let b:=B.getD k.toNat gD.d
 let IA:=dU a.i
 let IB:=dU b.i
 Tr.need (bif decide (i<(A.length:Int))then true else true)<| Tr.ite (bif decide (i<(A.length:Int))then decide (k<(B.length:Int))else false)
  (Tr.need (decide (0≤i∧i<(A.length:Int)))<| Tr.need (decide (0≤k∧k<(B.length:Int)))<| Tr.need (uo IA)<| Tr.need (uo IB)<| Tr.need (Ah 100000 (yH IA))<| Tr.need (Ah 100000 (yH IB))<|
   Tr.ite (rJ (jF (yH IA) (yH IB)))
    (Tr.need (decide (0≤i∧i<(A.length:Int)))<| Tr.need (decide (0≤k∧k<(B.length:Int)))<| Tr.need (decide (n≤O.length))<| Tr.need true<| Tr.need (decide (n+1≤9223372036854775807))<| Tr.need (decide ((n+1)*600≤140737488355328))<|
     Pw A B IA IB i k (n+1) (n+1) (bN n (rU.el O) λj=>((uq (jF (yH IA) (yH IB))++(qN a.f++qN b.f)).drop (j*52)).take 52))
    (Pw A B IA IB i k n O.length (rU.el O)))
  (Tr.need (rU.oks O.length (rU.el O))<| Tr.ret (Sum.inr ((n,()),(rU.list O.length (rU.el O),()))))
theorem abg(x:RfX):(exec Tryz.prog ΓRf bX 1010 (bn 0 (codeOf Tryz.f43)) (iQ RY.nIn (RY.head x))).bind (RY.fin 0 0)=EX x.1.1 x.1.2.1 x.1.2.2.1 x.1.2.2.2.1 x.1.2.2.2.2.1 x.2.1:=by
 obtain⟨⟨A,B,n,i,k,⟨⟩⟩,⟨O,⟨⟩⟩⟩:=x
 kernel_rfl
theorem aqH(A B:List Ul):aI Tryz.prog ΓRf LRf 1010 Tryz.f43 [gD.sl A,gD.sl B]=MRf A B:=by kernel_rfl
end Go.bI
namespace Go.bI
open Go.Proofs
theorem Zd{U:List Ul}(h:Lb U=true){i:Nat}(hi:i<U.length):Ah 100000 (U.getD i gD.d).i=true:=by
 have:=List.all_eq_true.1 h U[i] (List.getElem_mem hi);have e:U.getD i gD.d=U[i]:=by simp[dR,hi]
 rw[e];exact this
def Cm(a b:Ul)(O:List Ub):List Ub:=if rJ (jF a.i b.i)then O++[⟨jF a.i b.i,a.f,b.f⟩]else O
theorem Km(A B:List Ul)(i k:Nat)(hi:i<A.length)(hk:k<B.length)(hA:A.length≤100000)(hB:B.length≤100000)(a b:Ig)(ha:Ah 100000 a=true)(hb:Ah 100000 b=true)(O:List Ub)(len:Nat)(el:Nat→List IV)(h1:rU.list len el=O)(h2:rU.oks len el=true){R:RfX ⊕ RfR→Prop}
  (hq1:qO a b=true→R (.inl ((A,B,O.length,((i+1:Nat):Int),(k:Nat),()),(O,())))) (hq2:qO a b=false→R (.inl ((A,B,O.length,(i:Nat),((k+1:Nat):Int),()),(O,())))):
  (Pw A B (dU a) (dU b) (i:Nat) (k:Nat) O.length len el).sat R:=by
 have w1:IntKind.i64.wrap ((i:Int)+1)=((i+1:Nat):Int):=jR;have w2:IntKind.i64.wrap ((k:Int)+1)=((k+1:Nat):Int):=jR;have a2:=(oo ha).2;have b2:=(oo hb).2;simp only[Pw,nG,j3,a2,b2,h1,h2,gD.aS,gD.bH,w1,w2,sat_true];refine ah (bQ) (ah (bQ) ?_);simp only[sat_true];refine au (λh=> ?_) (λh=> ?_)
 ·simp only[sat_true]
  exact av (hq1 h)
 ·simp only[sat_true]
  exact av (hq2 h)
theorem abh(A B:List Ul)(hA:Lb A=true)(hB:Lb B=true)(lA:A.length≤100000)(lB:B.length≤100000)(i k:Nat)(hi:i<A.length)(hk:k<B.length)(O:List Ub)(hO:O.length≤300000){R:RfX ⊕ RfR→Prop}
  (hq1:qO (A.getD i gD.d).i (B.getD k gD.d).i=true→R (.inl ((A,B,(Cm (A.getD i gD.d) (B.getD k gD.d) O).length,((i+1:Nat):Int),(k:Nat),()),(Cm (A.getD i gD.d) (B.getD k gD.d) O,()))))
  (hq2:qO (A.getD i gD.d).i (B.getD k gD.d).i=false→R (.inl ((A,B,(Cm (A.getD i gD.d) (B.getD k gD.d) O).length,(i:Nat),((k+1:Nat):Int),()),(Cm (A.getD i gD.d) (B.getD k gD.d) O,())))):
  (EX A B O.length (i:Nat) (k:Nat) O).sat R:=by
 have ha:=Zd hA hi;have hb:=Zd hB hk;have c1:decide ((i:Int)<(A.length:Int))=true:=bQ;have c2:decide ((k:Int)<(B.length:Int))=true:=bQ;unfold EX;simp only[jf];generalize A.getD i gD.d=a at*;generalize B.getD k gD.d=b at*;simp only[nG,j3,ha,hb,c1,c2,sat_true];refine ah rfl (au (λ_=> ?_) (λh=>by cases h));refine ah (bQ) (ah (bQ) ?_);simp only[sat_true];refine au (λhm=> ?_) (λhm=> ?_)
 ·have e:Cm a b O=O++[⟨jF a.i b.i,a.f,b.f⟩]:=by unfold Cm;rw[if_pos hm]
  rw[e]at hq1 hq2;obtain⟨s1,s2⟩:=rU.snoc O ⟨jF a.i b.i,a.f,b.f⟩ (λj=>((uq (jF a.i b.i)++(qN a.f++qN b.f)).drop (j*52)).take 52) rfl;refine ah (bQ) (ah (bQ) (ah (bQ) ?_));simp only[sat_true];refine ah (bQ) (ah (bQ) ?_)
  try simp only[sat_true]
  have hl:O.length+1=(O++[(⟨jF a.i b.i,a.f,b.f⟩:Ub)]).length:=by simp
  have:=Km A B i k hi hk lA lB a.i b.i ha hb (O++[⟨jF a.i b.i,a.f,b.f⟩]) (O.length+1) _ s1 s2 hq1 hq2;rw[←hl]at this;exact this
 ·have e:Cm a b O=O:=by unfold Cm;rw[if_neg (by rw[hm];decide)]
  rw[e]at hq1 hq2;exact Km A B i k hi hk lA lB a.i b.i ha hb O O.length _ (rU.aS O) (rU.bH O _) hq1 hq2
theorem Wd(A B:List Ul)(i k:Nat)(h: ¬(i<A.length∧k<B.length))(O:List Ub){R:RfX ⊕ RfR→Prop}(hq:R (.inr ((O.length,()),(O,())))):(EX A B O.length (i:Nat) (k:Nat) O).sat R:=by
 have c:(bif decide ((i:Int)<(A.length:Int))then decide ((k:Int)<(B.length:Int))else false)=false:=by
  by_cases h1:i<A.length
  ·rw[fZ (show(i:Int)<(A.length:Int)by omega),cond_true]
   exact jK (by omega)
  ·rw[jK (show¬(i:Int)<(A.length:Int)by omega),cond_false]
 unfold EX;simp only[c,rU.aS,rU.bH];exact ah (by cases decide ((i:Int)<(A.length:Int))<;>rfl) (au (λh=>by cases h) (λ_=>ah rfl (av hq)))
theorem M9{X:Type}(U:List X)(d:X){i:Nat}(hi:i<U.length):U.drop i=U.getD i d::U.drop (i+1):=by
 rw[List.drop_eq_getElem_cons hi];simp[dR,hi]
theorem Ai(n:Nat)(b:List Ul)(o:List Ub):yI n [] b o=o:=by cases n<;>rfl
theorem Aj(n:Nat)(a:List Ul)(o:List Ub):yI n a [] o=o:=by cases n<;>cases a<;>rfl
theorem Wh(A B:List Ul)(hA:Lb A=true)(hB:Lb B=true)(lA:A.length≤100000)(lB:B.length≤100000)(Q:RfR→Prop): ∀(n i k:Nat) (O:List Ub),(A.length-i)+(B.length-k)≤n→O.length+n≤300000→
  Q (((yI n (A.drop i) (B.drop k) O).length,()),(yI n (A.drop i) (B.drop k) O,()))→dJ (λx:RfX=>EX x.1.1 x.1.2.1 x.1.2.2.1 x.1.2.2.2.1 x.1.2.2.2.2.1 x.2.1) Q (n+1) ((A,B,O.length,(i:Nat),(k:Nat),()),(O,()))
 | n,i,k,O,hn,hO,hq=>by
   by_cases h:i<A.length∧k<B.length
   ·obtain⟨hi,hk⟩:=h
    obtain⟨m,rfl⟩: ∃m,n=m+1:=⟨n-1,by omega⟩
    have hl:(Cm (A.getD i gD.d) (B.getD k gD.d) O).length≤O.length+1:=by
     unfold Cm
     split
     ·simp
     ·omega
    have e1:=M9 A gD.d hi;have e2:=M9 B gD.d hk;rw[e1,e2]at hq;refine abh A B hA hB lA lB i k hi hk O (by omega) (λhe=> ?_) (λhe=> ?_)
    ·refine Wh A B hA hB lA lB Q m (i+1) k _ (by omega) (by omega) ?_
     simp only[yI,he,if_true]at hq;rw[e2];exact hq
    ·refine Wh A B hA hB lA lB Q m i (k+1) _ (by omega) (by omega) ?_
     simp only[yI,he,if_false]at hq;rw[e1];exact hq
   ·refine Wd A B i k h O ?_
    have:yI n (A.drop i) (B.drop k) O=O:=by
     by_cases h1:i<A.length
     ·rw[List.drop_eq_nil_of_le (show B.length≤k by omega),Aj]
     ·rw[List.drop_eq_nil_of_le (show A.length≤i by omega),Ai]
    rw[this]at hq;exact hq
 termination_by n _ _ _=>n
theorem aqI:bF Tryz.prog 0 LRf (codeOf Tryz.f43):=by
 refine bG (d:=λid=>Nat.beq id 0) (λid=>by unfold LRf;cases Nat.beq id 0<;>rfl) _ ?_;have hb:bU (λid=>Nat.beq id 0) (codeOf Tryz.f43)=[(0,.loop (bn 0 (codeOf Tryz.f43)))]:=by kernel_rfl
 rw[hb];intro p hp g hg;simp only[List.mem_singleton]at hp;subst hp;have hh:LRf 0=some ((RY).g 0):=rfl;rw[hh]at hg;obtain rfl:g=(RY).g 0:=(Option.some.inj hg).symm;refine aZ.sU (N:=1010) aj afP (L:=bX) (ak 0 _) abf (λx=>abg x) ?_;rintro⟨⟨A,B,n,i,k,⟨⟩⟩,⟨O,⟨⟩⟩⟩ hx;have hx:M8 ((A,B,n,i,k,()),(O,()))=true:=hx;simp only[M8,cu,fT]at hx;obtain⟨h1,h2,rfl,h4,rfl,rfl,h7,h8⟩:=hx;exact⟨_,Wh A B h1 h2 h7 h8 (· =RY.res ((A,B,O.length,0,0,()),(O,()))) (A.length+B.length) 0 0 O (by omega) (by omega) rfl⟩
def refine(A B:List Ul):List Ub:=yI (A.length+B.length) A B []
theorem afQ:rU.list 0 (λ_=> [])=[]:=rfl
theorem alG(A B:List Ul)(h1:Lb A=true)(h2:Lb B=true)(h3:A.length≤100000)(h4:B.length≤100000):(MRf A B).sat λr=>r=rU.sl (refine A B):=by
 have hp:M8 ((A,B,0,0,0,()),([],()))=true:=by
  simp only[M8,cu,fT];exact⟨h1,h2,rfl,by simp,trivial,trivial,h3,h4⟩
 simp only[MRf,gD.aS,gD.bH,afQ,hp,sat_true];exact ah (fZ (Nat.le_refl _)) (av rfl)
def KRf:List AV→Option (AV×List Bool):=(F2 gD.arg gD.arg).K (λx=>rU.sl (refine x.1 x.2.1)) λx=> [Lb x.1,Lb x.2.1,decide (x.1.length≤100000),decide (x.2.1.length≤100000)]
theorem atG:aN Tryz.prog 43 KRf:=
 (F2 gD.arg gD.arg).dO (N:=1010) (L:=LRf) aj afP (fn:=Tryz.f43) (c:=codeOf Tryz.f43) (by kernel_rfl) (by kernel_rfl) (by kernel_rfl) aqI (λ_=>rfl) (M:=λx=>MRf x.1 x.2.1) (λx=>aqH x.1 x.2.1) λx h=>alG x.1 x.2.1 (h _ (by simp)) (h (Lb x.2.1) (by simp)) (j4 (h (decide (x.1.length≤100000)) (by simp))) (j4 (h (decide (x.2.1.length≤100000)) (by simp)))
end Go.bI
namespace Go.bI
open Go.Proofs
abbrev PtX:=(Nat×List Ul×Int×Int×Unit)×(List Ul×Unit)
abbrev PtR:=(Nat×Unit)×(List Ul×Unit)
def atH(x:PtX):PtR:=match x with
 | ((n,A,l,i,()),(O,()))=>((A.length,()),(A,()))
def Na(x:PtX):Bool:=match x with
 | ((n,A,l,i,()),(O,()))=>decide (n=0)&&(decide (O.length=0)&&(decide (i=0)&&(decide (l=(A.length:Int))&&decide (A.length≤100000))))
def RZ:aZ PtX PtR:=yA {nt:=22,live:=[3,6,7,8],lifts:=[(3,36,185)]} {nt:=22,live:=[3]} (.with (.cons (gD.ent 185) .nil) (.cons (gu 0 36) (.cons gD.arg (.cons bK (.cons bK .nil))))) (.with (.cons (gD.ent 185) .nil) (.cons (gu 0 36) .nil)) atH Na
theorem abj:RZ.gI:=eG _ _ _ _ _ _
def LPt:Nat→Option (St→Tr (Ex×St)):=λid=>bif Nat.beq id 0 then some (RZ.g 0)else none
def Px:FuncId→Option Spec:=λ_=>none
theorem oz: ∀f s,Px f=some s→aR Tryz.prog f s:=λ_ _ h=>by cases h
def MPt(A:List Ul):Tr AV:=
 let x1:List Ul:=gD.list A.length (gD.el A)
 let x2:Nat:=x1.length
 Tr.need (gD.oks A.length (gD.el A))
  (Tr.need true
   (Tr.need (Na ((0,x1, ↑A.length,0,()),gD.list 0 λx=> [],())) (Tr.need (decide (x2≤x2)) (Tr.ret (AV.c (IV.sl x2 36 (gD.el x1)))))))
def EY(n:Nat)(A:List Ul)(l i:Int)(O:List Ul):Tr (PtX ⊕ PtR):=
 let a:=A.getD i.toNat gD.d
 Tr.ite (decide (i<l))
  (Tr.need (decide (0≤i∧i<(A.length:Int)))<| Tr.need (decide (n≤O.length))<| Tr.need true<| Tr.need (decide (n+1≤9223372036854775807))<| Tr.need (decide ((n+1)*408≤140737488355328))<|
   Tr.need (gD.oks A.length (gD.el A))<| Tr.need (gD.oks (n+1) (bN n (gD.el O) λk=>((uq a.i++qN a.f).drop (k*36)).take 36))<|
    Tr.ret (Sum.inl ((n+1,gD.list A.length (gD.el A),l,IntKind.i64.wrap (i+1),()),(gD.list (n+1) (bN n (gD.el O) λk=>((uq a.i++qN a.f).drop (k*36)).take 36),()))))
  (Tr.need (gD.oks O.length (gD.el O))<| Tr.ret (Sum.inr ((n,()),(gD.list O.length (gD.el O),()))))
theorem abk(x:PtX):(exec Tryz.prog Px bX 1010 (bn 0 (codeOf Tryz.f44)) (iQ RZ.nIn (RZ.head x))).bind (RZ.fin 0 0)=EY x.1.1 x.1.2.1 x.1.2.2.1 x.1.2.2.2.1 x.2.1:=by
 obtain⟨⟨n,A,l,i,⟨⟩⟩,⟨O,⟨⟩⟩⟩:=x
 kernel_rfl
theorem aqJ(A:List Ul):aI Tryz.prog Px LPt 1010 Tryz.f44 [gD.sl A]=MPt A:=by kernel_rfl
theorem abl(A:List Ul)(lA:A.length≤100000)(i:Nat)(hi:i<A.length)(O:List Ul)(hO:O.length=i){R:PtX ⊕ PtR→Prop}
  (hq:R (.inl (((O++[A.getD i gD.d]).length,A,(A.length:Int),((i+1:Nat):Int),()),(O++[A.getD i gD.d],())))):
  (EY O.length A (A.length:Int) (i:Nat) O).sat R:=by
 have w1:IntKind.i64.wrap ((i:Int)+1)=((i+1:Nat):Int):=jR;have c1:decide ((i:Int)<(A.length:Int))=true:=bQ;unfold EY;simp only[jf];generalize A.getD i gD.d=a at*;obtain⟨s1,s2⟩:=gD.snoc O a (λk=>((uq a.i++qN a.f).drop (k*36)).take 36) rfl;simp only[s1,s2,c1,w1,gD.aS,gD.bH];refine au (λ_=> ?_) (λh=>by cases h);refine ah (bQ) (ah (bQ) (ah rfl (ah (bQ) (ah (bQ) (ah rfl (ah rfl (av ?_)))))));have hl:O.length+1=(O++[a]).length:=by simp
 rw[hl];exact hq
theorem Wi(A:List Ul)(i:Nat)(h: ¬i<A.length)(O:List Ul){R:PtX ⊕ PtR→Prop}(hq:R (.inr ((O.length,()),(O,())))):(EY O.length A (A.length:Int) (i:Nat) O).sat R:=by
 have c:decide ((i:Int)<(A.length:Int))=false:=jK (by omega);unfold EY;simp only[c,gD.aS,gD.bH];exact au (λh=>by cases h) (λ_=>ah rfl (av hq))
theorem afR(A:List Ul)(lA:A.length≤100000)(Q:PtR→Prop)(hq:Q ((A.length,()),(A,()))): ∀(n i:Nat),i+n=A.length→
  dJ (λx:PtX=>EY x.1.1 x.1.2.1 x.1.2.2.1 x.1.2.2.2.1 x.2.1) Q (n+1) (((A.take i).length,A,(A.length:Int),(i:Nat),()),(A.take i,()))
 | 0,i,hn=>by
   obtain rfl:i=A.length:=by omega
   refine Wi A _ (by omega) _ ?_;rw[List.take_length];exact hq
 | n+1,i,hn=>by
   have hi:i<A.length:=by omega
   have e:A.take i++[A.getD i gD.d]=A.take (i+1):=by
    rw[List.take_add_one];simp[dR,hi]
   refine abl A lA i hi _ (by rw[List.length_take];omega) ?_;rw[e];exact afR A lA Q hq n (i+1) (by omega)
theorem aqK:bF Tryz.prog 0 LPt (codeOf Tryz.f44):=by
 refine bG (d:=λid=>Nat.beq id 0) (λid=>by unfold LPt;cases Nat.beq id 0<;>rfl) _ ?_;have hb:bU (λid=>Nat.beq id 0) (codeOf Tryz.f44)=[(0,.loop (bn 0 (codeOf Tryz.f44)))]:=by kernel_rfl
 rw[hb];intro p hp g hg;simp only[List.mem_singleton]at hp;subst hp;have hh:LPt 0=some ((RZ).g 0):=rfl;rw[hh]at hg;obtain rfl:g=(RZ).g 0:=(Option.some.inj hg).symm;refine aZ.sU (N:=1010) aj oz (L:=bX) (ak 0 _) abj (λx=>abk x) ?_;rintro⟨⟨n,A,l,i,⟨⟩⟩,⟨O,⟨⟩⟩⟩ hx;have hx:Na ((n,A,l,i,()),(O,()))=true:=hx;simp only[Na,cu,fT]at hx;obtain⟨rfl,h2,rfl,rfl,h5⟩:=hx;obtain rfl:O=[]:=List.length_eq_zero_iff.1 h2;exact⟨_,afR A h5 (· =RZ.res ((0,A,(A.length:Int),0,()),([],()))) rfl A.length 0 (by omega)⟩
theorem afS:gD.list 0 (λ_=> [])=[]:=rfl
theorem alH(A:List Ul)(h1:A.length≤100000):(MPt A).sat λr=>r=gD.sl A:=by
 have hp:Na ((0,A,(A.length:Int),0,()),([],()))=true:=by
  simp only[Na,cu,fT];exact⟨trivial,rfl,trivial,trivial,h1⟩
 simp only[MPt,gD.aS,gD.bH,afS,hp,sat_true];exact ah (fZ (Nat.le_refl _)) (av rfl)
def KPt:List AV→Option (AV×List Bool):=(F1 gD.arg).K (λx=>gD.sl x.1) λx=> [decide (x.1.length≤100000)]
theorem atI:aN Tryz.prog 44 KPt:=
 (F1 gD.arg).dO (N:=1010) (L:=LPt) aj oz (fn:=Tryz.f44) (c:=codeOf Tryz.f44) (by kernel_rfl) (by kernel_rfl) (by kernel_rfl) aqK (λ_=>rfl) (M:=λx=>MPt x.1) (λx=>aqJ x.1) λx h=>alH x.1 (j4 (h (decide (x.1.length≤100000)) (by simp)))
end Go.bI
namespace Go.bI
open Go.Proofs
abbrev UnX:=(Nat×List Uq×Int×Int×Unit)×(List Uq×Unit)
abbrev UnR:=(Nat×Unit)×(List Uq×Unit)
def atJ(x:UnX):UnR:=match x with
 | ((n,A,l,i,()),(O,()))=>((A.length,()),(A,()))
def Nb(x:UnX):Bool:=match x with
 | ((n,A,l,i,()),(O,()))=>decide (n=0)&&(decide (O.length=0)&&(decide (i=0)&&(decide (l=(A.length:Int))&&decide (A.length≤100000))))
def R4:aZ UnX UnR:=yA {nt:=22,live:=[3,6,7,8],lifts:=[(3,32,206)]} {nt:=22,live:=[3]} (.with (.cons (aU.ent 206) .nil) (.cons (gu 0 32) (.cons aU.arg (.cons bK (.cons bK .nil))))) (.with (.cons (aU.ent 206) .nil) (.cons (gu 0 32) .nil)) atJ Nb
theorem abm:R4.gI:=eG _ _ _ _ _ _
def LUn:Nat→Option (St→Tr (Ex×St)):=λid=>bif Nat.beq id 0 then some (R4.g 0)else none
def MUn(A:List Uq):Tr AV:=
 let x1:List Uq:=aU.list A.length (aU.el A)
 let x2:Nat:=x1.length
 Tr.need (aU.oks A.length (aU.el A))
  (Tr.need true
   (Tr.need (Nb ((0,x1, ↑A.length,0,()),aU.list 0 λx=> [],())) (Tr.need (decide (x2≤x2)) (Tr.ret (AV.c (IV.sl x2 32 (aU.el x1)))))))
def EZ(n:Nat)(A:List Uq)(l i:Int)(O:List Uq):Tr (UnX ⊕ UnR):=
 let a:=A.getD i.toNat aU.d
 Tr.ite (decide (i<l))
  (Tr.need (decide (0≤i∧i<(A.length:Int)))<| Tr.need (decide (n≤O.length))<| Tr.need true<| Tr.need (decide (n+1≤9223372036854775807))<| Tr.need (decide ((n+1)*360≤140737488355328))<|
   Tr.need (aU.oks A.length (aU.el A))<| Tr.need (aU.oks (n+1) (bN n (aU.el O) λk=>((uq a.i++nV a.f).drop (k*32)).take 32))<|
    Tr.ret (Sum.inl ((n+1,aU.list A.length (aU.el A),l,IntKind.i64.wrap (i+1),()),(aU.list (n+1) (bN n (aU.el O) λk=>((uq a.i++nV a.f).drop (k*32)).take 32),()))))
  (Tr.need (aU.oks O.length (aU.el O))<| Tr.ret (Sum.inr ((n,()),(aU.list O.length (aU.el O),()))))
theorem abn(x:UnX):(exec Tryz.prog Px bX 1010 (bn 0 (codeOf Tryz.f65)) (iQ R4.nIn (R4.head x))).bind (R4.fin 0 0)=EZ x.1.1 x.1.2.1 x.1.2.2.1 x.1.2.2.2.1 x.2.1:=by
 obtain⟨⟨n,A,l,i,⟨⟩⟩,⟨O,⟨⟩⟩⟩:=x
 kernel_rfl
theorem aqL(A:List Uq):aI Tryz.prog Px LUn 1010 Tryz.f65 [aU.sl A]=MUn A:=by kernel_rfl
theorem abo(A:List Uq)(lA:A.length≤100000)(i:Nat)(hi:i<A.length)(O:List Uq)(hO:O.length=i){R:UnX ⊕ UnR→Prop}
  (hq:R (.inl (((O++[A.getD i aU.d]).length,A,(A.length:Int),((i+1:Nat):Int),()),(O++[A.getD i aU.d],())))):
  (EZ O.length A (A.length:Int) (i:Nat) O).sat R:=by
 have w1:IntKind.i64.wrap ((i:Int)+1)=((i+1:Nat):Int):=jR;have c1:decide ((i:Int)<(A.length:Int))=true:=bQ;unfold EZ;simp only[jf];generalize A.getD i aU.d=a at*;obtain⟨s1,s2⟩:=aU.snoc O a (λk=>((uq a.i++nV a.f).drop (k*32)).take 32) rfl;simp only[s1,s2,c1,w1,aU.aS,aU.bH];refine au (λ_=> ?_) (λh=>by cases h);refine ah (bQ) (ah (bQ) (ah rfl (ah (bQ) (ah (bQ) (ah rfl (ah rfl (av ?_)))))));have hl:O.length+1=(O++[a]).length:=by simp
 rw[hl];exact hq
theorem Wj(A:List Uq)(i:Nat)(h: ¬i<A.length)(O:List Uq){R:UnX ⊕ UnR→Prop}(hq:R (.inr ((O.length,()),(O,())))):(EZ O.length A (A.length:Int) (i:Nat) O).sat R:=by
 have c:decide ((i:Int)<(A.length:Int))=false:=jK (by omega);unfold EZ;simp only[c,aU.aS,aU.bH];exact au (λh=>by cases h) (λ_=>ah rfl (av hq))
theorem afT(A:List Uq)(lA:A.length≤100000)(Q:UnR→Prop)(hq:Q ((A.length,()),(A,()))): ∀(n i:Nat),i+n=A.length→
  dJ (λx:UnX=>EZ x.1.1 x.1.2.1 x.1.2.2.1 x.1.2.2.2.1 x.2.1) Q (n+1) (((A.take i).length,A,(A.length:Int),(i:Nat),()),(A.take i,()))
 | 0,i,hn=>by
   obtain rfl:i=A.length:=by omega
   refine Wj A _ (by omega) _ ?_;rw[List.take_length];exact hq
 | n+1,i,hn=>by
   have hi:i<A.length:=by omega
   have e:A.take i++[A.getD i aU.d]=A.take (i+1):=by
    rw[List.take_add_one];simp[dR,hi]
   refine abo A lA i hi _ (by rw[List.length_take];omega) ?_;rw[e];exact afT A lA Q hq n (i+1) (by omega)
theorem aqM:bF Tryz.prog 0 LUn (codeOf Tryz.f65):=by
 refine bG (d:=λid=>Nat.beq id 0) (λid=>by unfold LUn;cases Nat.beq id 0<;>rfl) _ ?_;have hb:bU (λid=>Nat.beq id 0) (codeOf Tryz.f65)=[(0,.loop (bn 0 (codeOf Tryz.f65)))]:=by kernel_rfl
 rw[hb];intro p hp g hg;simp only[List.mem_singleton]at hp;subst hp;have hh:LUn 0=some ((R4).g 0):=rfl;rw[hh]at hg;obtain rfl:g=(R4).g 0:=(Option.some.inj hg).symm;refine aZ.sU (N:=1010) aj oz (L:=bX) (ak 0 _) abm (λx=>abn x) ?_;rintro⟨⟨n,A,l,i,⟨⟩⟩,⟨O,⟨⟩⟩⟩ hx;have hx:Nb ((n,A,l,i,()),(O,()))=true:=hx;simp only[Nb,cu,fT]at hx;obtain⟨rfl,h2,rfl,rfl,h5⟩:=hx;obtain rfl:O=[]:=List.length_eq_zero_iff.1 h2;exact⟨_,afT A h5 (· =R4.res ((0,A,(A.length:Int),0,()),([],()))) rfl A.length 0 (by omega)⟩
theorem Kn:aU.list 0 (λ_=> [])=[]:=rfl
theorem alI(A:List Uq)(h1:A.length≤100000):(MUn A).sat λr=>r=aU.sl A:=by
 have hp:Nb ((0,A,(A.length:Int),0,()),([],()))=true:=by
  simp only[Nb,cu,fT];exact⟨trivial,rfl,trivial,trivial,h1⟩
 simp only[MUn,aU.aS,aU.bH,Kn,hp,sat_true];exact ah (fZ (Nat.le_refl _)) (av rfl)
def KUn:List AV→Option (AV×List Bool):=(F1 aU.arg).K (λx=>aU.sl x.1) λx=> [decide (x.1.length≤100000)]
theorem atK:aN Tryz.prog 65 KUn:=
 (F1 aU.arg).dO (N:=1010) (L:=LUn) aj oz (fn:=Tryz.f65) (c:=codeOf Tryz.f65) (by kernel_rfl) (by kernel_rfl) (by kernel_rfl) aqM (λ_=>rfl) (M:=λx=>MUn x.1) (λx=>aqL x.1) λx h=>alI x.1 (j4 (h (decide (x.1.length≤100000)) (by simp)))
end Go.bI
namespace Go.bI
open Go.Proofs
abbrev NuX:=(Nat×List Uq×Int×Int×Unit)×(List Uq×Unit)
abbrev NuR:=(Nat×Unit)×(List Uq×Unit)
def atL(x:NuX):NuR:=match x with
 | ((n,A,l,i,()),(O,()))=>((A.length,()),(A,()))
def Nc(x:NuX):Bool:=match x with
 | ((n,A,l,i,()),(O,()))=>decide (n=0)&&(decide (O.length=0)&&(decide (i=0)&&(decide (l=(A.length:Int))&&decide (A.length≤100000))))
def R5:aZ NuX NuR:=yA {nt:=22,live:=[3,6,7,8],lifts:=[(3,32,42)]} {nt:=22,live:=[3]} (.with (.cons (aU.ent 42) .nil) (.cons (gu 0 32) (.cons aU.arg (.cons bK (.cons bK .nil))))) (.with (.cons (aU.ent 42) .nil) (.cons (gu 0 32) .nil)) atL Nc
theorem abp:R5.gI:=eG _ _ _ _ _ _
def LNu:Nat→Option (St→Tr (Ex×St)):=λid=>bif Nat.beq id 0 then some (R5.g 0)else none
def MNu(A:List Uq):Tr AV:=
 let x1:List Uq:=aU.list A.length (aU.el A)
 let x2:Nat:=x1.length
 Tr.need (aU.oks A.length (aU.el A))
  (Tr.need true
   (Tr.need (Nc ((0,x1, ↑A.length,0,()),aU.list 0 λx=> [],())) (Tr.need (decide (x2≤x2)) (Tr.ret (AV.c (IV.sl x2 32 (aU.el x1)))))))
def E5(n:Nat)(A:List Uq)(l i:Int)(O:List Uq):Tr (NuX ⊕ NuR):=
 let a:=A.getD i.toNat aU.d
 Tr.ite (decide (i<l))
  (Tr.need (decide (0≤i∧i<(A.length:Int)))<| Tr.need (decide (n≤O.length))<| Tr.need true<| Tr.need (decide (n+1≤9223372036854775807))<| Tr.need (decide ((n+1)*360≤140737488355328))<|
   Tr.need (aU.oks A.length (aU.el A))<| Tr.need (aU.oks (n+1) (bN n (aU.el O) λk=>((uq a.i++nV a.f).drop (k*32)).take 32))<|
    Tr.ret (Sum.inl ((n+1,aU.list A.length (aU.el A),l,IntKind.i64.wrap (i+1),()),(aU.list (n+1) (bN n (aU.el O) λk=>((uq a.i++nV a.f).drop (k*32)).take 32),()))))
  (Tr.need (aU.oks O.length (aU.el O))<| Tr.ret (Sum.inr ((n,()),(aU.list O.length (aU.el O),()))))
theorem abq(x:NuX):(exec Tryz.prog Px bX 1010 (bn 0 (codeOf Tryz.f72)) (iQ R5.nIn (R5.head x))).bind (R5.fin 0 0)=E5 x.1.1 x.1.2.1 x.1.2.2.1 x.1.2.2.2.1 x.2.1:=by
 obtain⟨⟨n,A,l,i,⟨⟩⟩,⟨O,⟨⟩⟩⟩:=x
 kernel_rfl
theorem aqN(A:List Uq):aI Tryz.prog Px LNu 1010 Tryz.f72 [aU.sl A]=MNu A:=by kernel_rfl
theorem abr(A:List Uq)(lA:A.length≤100000)(i:Nat)(hi:i<A.length)(O:List Uq)(hO:O.length=i){R:NuX ⊕ NuR→Prop}
  (hq:R (.inl (((O++[A.getD i aU.d]).length,A,(A.length:Int),((i+1:Nat):Int),()),(O++[A.getD i aU.d],())))):
  (E5 O.length A (A.length:Int) (i:Nat) O).sat R:=by
 have w1:IntKind.i64.wrap ((i:Int)+1)=((i+1:Nat):Int):=jR;have c1:decide ((i:Int)<(A.length:Int))=true:=bQ;unfold E5;simp only[jf];generalize A.getD i aU.d=a at*;obtain⟨s1,s2⟩:=aU.snoc O a (λk=>((uq a.i++nV a.f).drop (k*32)).take 32) rfl;simp only[s1,s2,c1,w1,aU.aS,aU.bH];refine au (λ_=> ?_) (λh=>by cases h);refine ah (bQ) (ah (bQ) (ah rfl (ah (bQ) (ah (bQ) (ah rfl (ah rfl (av ?_)))))));have hl:O.length+1=(O++[a]).length:=by simp
 rw[hl];exact hq
theorem Wm(A:List Uq)(i:Nat)(h: ¬i<A.length)(O:List Uq){R:NuX ⊕ NuR→Prop}(hq:R (.inr ((O.length,()),(O,())))):(E5 O.length A (A.length:Int) (i:Nat) O).sat R:=by
 have c:decide ((i:Int)<(A.length:Int))=false:=jK (by omega);unfold E5;simp only[c,aU.aS,aU.bH];exact au (λh=>by cases h) (λ_=>ah rfl (av hq))
theorem afU(A:List Uq)(lA:A.length≤100000)(Q:NuR→Prop)(hq:Q ((A.length,()),(A,()))): ∀(n i:Nat),i+n=A.length→
  dJ (λx:NuX=>E5 x.1.1 x.1.2.1 x.1.2.2.1 x.1.2.2.2.1 x.2.1) Q (n+1) (((A.take i).length,A,(A.length:Int),(i:Nat),()),(A.take i,()))
 | 0,i,hn=>by
   obtain rfl:i=A.length:=by omega
   refine Wm A _ (by omega) _ ?_;rw[List.take_length];exact hq
 | n+1,i,hn=>by
   have hi:i<A.length:=by omega
   have e:A.take i++[A.getD i aU.d]=A.take (i+1):=by
    rw[List.take_add_one];simp[dR,hi]
   refine abr A lA i hi _ (by rw[List.length_take];omega) ?_;rw[e];exact afU A lA Q hq n (i+1) (by omega)
theorem aqO:bF Tryz.prog 0 LNu (codeOf Tryz.f72):=by
 refine bG (d:=λid=>Nat.beq id 0) (λid=>by unfold LNu;cases Nat.beq id 0<;>rfl) _ ?_;have hb:bU (λid=>Nat.beq id 0) (codeOf Tryz.f72)=[(0,.loop (bn 0 (codeOf Tryz.f72)))]:=by kernel_rfl
 rw[hb];intro p hp g hg;simp only[List.mem_singleton]at hp;subst hp;have hh:LNu 0=some ((R5).g 0):=rfl;rw[hh]at hg;obtain rfl:g=(R5).g 0:=(Option.some.inj hg).symm;refine aZ.sU (N:=1010) aj oz (L:=bX) (ak 0 _) abp (λx=>abq x) ?_;rintro⟨⟨n,A,l,i,⟨⟩⟩,⟨O,⟨⟩⟩⟩ hx;have hx:Nc ((n,A,l,i,()),(O,()))=true:=hx;simp only[Nc,cu,fT]at hx;obtain⟨rfl,h2,rfl,rfl,h5⟩:=hx;obtain rfl:O=[]:=List.length_eq_zero_iff.1 h2;exact⟨_,afU A h5 (· =R5.res ((0,A,(A.length:Int),0,()),([],()))) rfl A.length 0 (by omega)⟩
theorem alJ(A:List Uq)(h1:A.length≤100000):(MNu A).sat λr=>r=aU.sl A:=by
 have hp:Nc ((0,A,(A.length:Int),0,()),([],()))=true:=by
  simp only[Nc,cu,fT];exact⟨trivial,rfl,trivial,trivial,h1⟩
 simp only[MNu,aU.aS,aU.bH,Kn,hp,sat_true];exact ah (fZ (Nat.le_refl _)) (av rfl)
def KNu:List AV→Option (AV×List Bool):=(F1 aU.arg).K (λx=>aU.sl x.1) λx=> [decide (x.1.length≤100000)]
theorem atM:aN Tryz.prog 72 KNu:=
 (F1 aU.arg).dO (N:=1010) (L:=LNu) aj oz (fn:=Tryz.f72) (c:=codeOf Tryz.f72) (by kernel_rfl) (by kernel_rfl) (by kernel_rfl) aqO (λ_=>rfl) (M:=λx=>MNu x.1) (λx=>aqN x.1) λx h=>alJ x.1 (j4 (h (decide (x.1.length≤100000)) (by simp)))
end Go.bI
namespace Go.bI
open Go.Proofs
abbrev DcX:=(Nat×List Ub×Int×Int×Unit)×(List Uq×Unit)
abbrev DcR:=(Nat×Unit)×(List Uq×Unit)
def jv(A:List Ub):List Uq:=A.map λu=>⟨u.i,qb u.f u.g⟩
def atO(x:DcX):DcR:=match x with
 | ((n,A,l,i,()),(O,()))=>((A.length,()),(jv A,()))
def R6(A:List Ub):Bool:=A.all λu=>Pp 10000 u.f&&Pp 10000 u.g
def Nf(x:DcX):Bool:=match x with
 | ((n,A,l,i,()),(O,()))=>R6 A&&(decide (n=0)&&(decide (O.length=0)&&(decide (i=0)&&(decide (l=(A.length:Int))&&decide (A.length≤300000)))))
def R7:aZ DcX DcR:=yA {nt:=36,live:=[5,12,13,14],lifts:=[(5,32,42)]} {nt:=36,live:=[5]} (.with (.cons (aU.ent 42) .nil) (.cons (gu 0 32) (.cons rU.arg (.cons bK (.cons bK .nil))))) (.with (.cons (aU.ent 42) .nil) (.cons (gu 0 32) .nil)) atO Nf
theorem abt:R7.gI:=eG _ _ _ _ _ _
def LDc:Nat→Option (St→Tr (Ex×St)):=λid=>bif Nat.beq id 0 then some (R7.g 0)else none
def ΓDc:FuncId→Option Spec:=λf=>bif Nat.beq f 45 then some (ay atu)else none
theorem aqP: ∀f s,ΓDc f=some s→aR Tryz.prog f s:=bS aqB.spec
def E8(n:Nat)(A:List Ub)(l i:Int)(O:List Uq):Tr (DcX ⊕ DcR):=
 let a:=A.getD i.toNat rU.d
 let LA:=dF a.f
 let LB:=dF a.g
 let q:=qD (qb (fA LA) (fA LB))
 Tr.ite (decide (i<l))
  (Tr.need (decide (0≤i∧i<(A.length:Int)))<| Tr.need (gL LA)<| Tr.need (gL LB)<| Tr.need (Pp 10000 (fA LA))<| Tr.need (Pp 10000 (fA LB))<|
   Tr.need (decide (n≤O.length))<| Tr.need true<| Tr.need (decide (n+1≤9223372036854775807))<| Tr.need (decide ((n+1)*360≤140737488355328))<|
   Tr.need (rU.oks A.length (rU.el A))<| Tr.need (aU.oks (n+1) (bN n (aU.el O) λk=>((uq a.i++nV q).drop (k*32)).take 32))<|
    Tr.ret (Sum.inl ((n+1,rU.list A.length (rU.el A),l,IntKind.i64.wrap (i+1),()),(aU.list (n+1) (bN n (aU.el O) λk=>((uq a.i++nV q).drop (k*32)).take 32),()))))
  (Tr.need (aU.oks O.length (aU.el O))<| Tr.ret (Sum.inr ((n,()),(aU.list O.length (aU.el O),()))))
theorem abu(x:DcX):(exec Tryz.prog ΓDc bX 1010 (bn 0 (codeOf Tryz.f16)) (iQ R7.nIn (R7.head x))).bind (R7.fin 0 0)=E8 x.1.1 x.1.2.1 x.1.2.2.1 x.1.2.2.2.1 x.2.1:=by
 obtain⟨⟨n,A,l,i,⟨⟩⟩,⟨O,⟨⟩⟩⟩:=x
 kernel_rfl
theorem afV{U:List Ub}(h:R6 U=true){i:Nat}(hi:i<U.length):Pp 10000 (U.getD i rU.d).f=true∧Pp 10000 (U.getD i rU.d).g=true:=by
 have:=List.all_eq_true.1 h U[i] (List.getElem_mem hi);have e:U.getD i rU.d=U[i]:=by simp[dR,hi]
 rw[e];simpa using this
theorem abv(A:List Ub)(hA:R6 A=true)(lA:A.length≤300000)(i:Nat)(hi:i<A.length)(O:List Uq)(hO:O.length=i){R:DcX ⊕ DcR→Prop}
  (hq:R (.inl (((O++[(⟨(A.getD i rU.d).i,qb (A.getD i rU.d).f (A.getD i rU.d).g⟩:Uq)]).length,A,(A.length:Int),((i+1:Nat):Int),()),(O++[⟨(A.getD i rU.d).i,qb (A.getD i rU.d).f (A.getD i rU.d).g⟩],())))):
  (E8 O.length A (A.length:Int) (i:Nat) O).sat R:=by
 have w1:IntKind.i64.wrap ((i:Int)+1)=((i+1:Nat):Int):=jR;have c1:decide ((i:Int)<(A.length:Int))=true:=bQ;obtain⟨b1,b2⟩:=afV hA hi;unfold E8;simp only[jf];generalize A.getD i rU.d=a at*;simp only[bD,bE,b1,b2];have hh:qD (qb a.f a.g)=qb a.f a.g:=zB _;rw[hh];obtain⟨s1,s2⟩:=aU.snoc O ⟨a.i,qb a.f a.g⟩ (λk=>((uq a.i++nV (qb a.f a.g)).drop (k*32)).take 32) rfl;simp only[s1,s2,c1,w1,rU.aS,rU.bH];refine au (λ_=> ?_) (λh=>by cases h);refine ah (bQ) (ah rfl (ah rfl (ah rfl (ah rfl ?_))));refine ah (bQ) (ah rfl (ah (bQ) (ah (bQ) (ah rfl (ah rfl (av ?_))))));have hl:O.length+1=(O++[(⟨a.i,qb a.f a.g⟩:Uq)]).length:=by simp
 rw[hl];exact hq
theorem Wn(A:List Ub)(i:Nat)(h: ¬i<A.length)(O:List Uq){R:DcX ⊕ DcR→Prop}(hq:R (.inr ((O.length,()),(O,())))):(E8 O.length A (A.length:Int) (i:Nat) O).sat R:=by
 have c:decide ((i:Int)<(A.length:Int))=false:=jK (by omega);unfold E8;simp only[c,aU.aS,aU.bH];exact au (λh=>by cases h) (λ_=>ah rfl (av hq))
theorem afW(A:List Ub)(hA:R6 A=true)(lA:A.length≤300000)(Q:DcR→Prop)(hq:Q ((A.length,()),(jv A,()))): ∀(n i:Nat),i+n=A.length→
  dJ (λx:DcX=>E8 x.1.1 x.1.2.1 x.1.2.2.1 x.1.2.2.2.1 x.2.1) Q (n+1) (((jv (A.take i)).length,A,(A.length:Int),(i:Nat),()),(jv (A.take i),()))
 | 0,i,hn=>by
   obtain rfl:i=A.length:=by omega
   refine Wn A _ (by omega) _ ?_;rw[List.take_length];have:(jv A).length=A.length:=by simp[jv]
   rw[this];exact hq
 | n+1,i,hn=>by
   have hi:i<A.length:=by omega
   have e:jv (A.take i)++[⟨(A.getD i rU.d).i,qb (A.getD i rU.d).f (A.getD i rU.d).g⟩]=jv (A.take (i+1)):=by
    have e2:A.take (i+1)=A.take i++[A.getD i rU.d]:=by
     rw[List.take_add_one];simp[dR,hi]
    rw[e2];unfold jv;rw[List.map_append];rfl
   refine abv A hA lA i hi _ (by simp only[jv,List.length_map,List.length_take];omega) ?_;rw[e];exact afW A hA lA Q hq n (i+1) (by omega)
theorem aqQ:bF Tryz.prog 0 LDc (codeOf Tryz.f16):=by
 refine bG (d:=λid=>Nat.beq id 0) (λid=>by unfold LDc;cases Nat.beq id 0<;>rfl) _ ?_;have hb:bU (λid=>Nat.beq id 0) (codeOf Tryz.f16)=[(0,.loop (bn 0 (codeOf Tryz.f16)))]:=by kernel_rfl
 rw[hb];intro p hp g hg;simp only[List.mem_singleton]at hp;subst hp;have hh:LDc 0=some ((R7).g 0):=rfl;rw[hh]at hg;obtain rfl:g=(R7).g 0:=(Option.some.inj hg).symm;refine aZ.sU (N:=1010) aj aqP (L:=bX) (ak 0 _) abt (λx=>abu x) ?_;rintro⟨⟨n,A,l,i,⟨⟩⟩,⟨O,⟨⟩⟩⟩ hx;have hx:Nf ((n,A,l,i,()),(O,()))=true:=hx;simp only[Nf,cu,fT]at hx;obtain⟨h0,rfl,h2,rfl,rfl,h5⟩:=hx;obtain rfl:O=[]:=List.length_eq_zero_iff.1 h2;exact⟨_,afW A h0 h5 (· =R7.res ((0,A,(A.length:Int),0,()),([],()))) rfl A.length 0 (by omega)⟩
end Go.bI
namespace Go.bI
open Go.Proofs
def MHe(A:List Uq)(t:R3):Tr AV:=
 let x1:Int:= ↑A.length
 let x2:Bool:=decide (x1>0)
 let x3:Int:=IntKind.i64.wrap (x1-1)
 let x4:Bool:=decide (0≤x3∧x3<x1)
 let x5:Rat:=(A.getD x3.toNat {i:=ig0,f:={c0:=0,c1:=0,c2:=0}}).i.b.r
 let x6:List Bool:=[false==false]
 let x7:Int:=x5.num
 let x8:Rat:=(A.getD x3.toNat {i:=ig0,f:={c0:=0,c1:=0,c2:=0}}).i.b.p
 let x9:Int:=x8.num
 let x10:Bool:=bif true then
  bA
   [(A.getD x3.toNat {i:=ig0,f:={c0:=0,c1:=0,c2:=0}}).i.b.neg==t.neg,
    bA
     [bA ((aH x5.den==aH t.r.den)::x6).reverse,
      bA [aA x7.natAbs==aA t.r.num.natAbs,decide (x7<0)==decide (t.r.num<0)].reverse].reverse,
    bA
     [bA ((aH x8.den==aH t.p.den)::x6).reverse,
      bA [aA x9.natAbs==aA t.p.num.natAbs,decide (x9<0)==decide (t.p.num<0)].reverse].reverse].reverse
 else false
 let fI:Bool:=x4&&true
 let fU:Bool:=bif true then !(A.getD x3.toNat {i:=ig0,f:={c0:=0,c1:=0,c2:=0}}).i.ob else false
 Tr.need (bif x2 then x4&&bif x10 then fI else true else bif false then fI else true)
  (Tr.ret (AV.c (.v (.bool (bif x2 then bif x10 then fU else false else bif false then fU else false)))))
theorem aqR(A:List Uq)(t:R3):aI Tryz.prog Px bX 1010 Tryz.f143 [aU.sl A,DC t]=MHe A t:=by kernel_rfl
def gU(A:List Uq):Uq:=A.getD (A.length-1) aU.d
def Gx(A:List Uq)(t:R3):Bool:=decide (0<A.length)&&(decide ((gU A).i.b=t)&& !(gU A).i.ob)
theorem alK(A:List Uq)(t:R3)(hA:A.length≤400000):(MHe A t).sat λr=>r=bL (Gx A t):=by
 by_cases h:0<A.length
 ·have w:IntKind.i64.wrap ((A.length:Int)-1)=((A.length-1:Nat):Int):=jR
  have c1:decide ((A.length:Int)>0)=true:=bQ;have c2:decide (0≤((A.length-1:Nat):Int)∧((A.length-1:Nat):Int)<(A.length:Int))=true:=bQ;have c3:decide (0<A.length)=true:=fZ h;have hd:A.getD (A.length-1) {i:=ig0,f:={c0:=0,c1:=0,c2:=0}}=gU A:=rfl;simp only[MHe,Gx,w,c1,c2,c3,jf,hd];generalize gU A=u;simp only[rF,EW,cond_true,Bool.true_and];refine ah ?_ (av ?_)
  ·cases decide (u.i.b=t)<;>rfl
  ·cases decide (u.i.b=t)<;>rfl
 ·have c1:decide ((A.length:Int)>0)=false:=jK (by omega)
  have c3:decide (0<A.length)=false:=jK h;simp only[MHe,Gx,c1,c3];exact ah rfl (av rfl)
def KHe:List AV→Option (AV×List Bool):=(F2 aU.arg q9).K (λx=>bL (Gx x.1 x.2.1)) λx=> [decide (x.1.length≤400000)]
theorem atQ:aN Tryz.prog 143 KHe:=
 (F2 aU.arg q9).dO (N:=1010) (L:=bX) aj oz (fn:=Tryz.f143) (c:=codeOf Tryz.f143) (by kernel_rfl) (by kernel_rfl) (by kernel_rfl) (ak _ _) (λ_=>rfl) (M:=λx=>MHe x.1 x.2.1) (λx=>aqR x.1 x.2.1) λx h=>alK x.1 x.2.1 (j4 (h (decide (x.1.length≤400000)) (by simp)))
end Go.bI
