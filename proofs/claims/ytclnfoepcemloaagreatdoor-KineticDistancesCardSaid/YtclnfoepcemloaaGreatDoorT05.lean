/- Helpers for the proof: no statement of its own. -/
import Derived.Test.YtclnfoepcemloaaGreatDoorT00
import Derived.Test.YtclnfoepcemloaaGreatDoorT04
import Derived.Test.YtclnfoepcemloaaGreatDoorT01
import Derived.Test.YtclnfoepcemloaaGreatDoorT02
import Derived.RangeFuncRecord
set_option linter.unusedVariables false
set_option linter.unusedSimpArgs false
set_option linter.unnecessarySimpa false
set_option linter.deprecated false
set_option maxRecDepth 1000000
namespace Go.bI
open Go.Proofs
structure Stp where
 t:Int
 x:Int
 y:Int
 k:Int
def st0:Stp:=⟨0,0,0,0⟩
def AR(n:Int):Bool:=decide (0≤n)&&decide (n<256)
def agP(s:Stp):List IV:=[.v (.int .u8 s.t),.v (.int .u8 s.x),.v (.int .u8 s.y),.v (.int .u8 s.k)]
def stV:List IV→Stp
 | [.v (.int .u8 a),.v (.int .u8 b),.v (.int .u8 c),.v (.int .u8 d)]=>⟨a,b,c,d⟩
 | _=>st0
def arO:List IV→Bool
 | [.v (.int .u8 a),.v (.int .u8 b),.v (.int .u8 c),.v (.int .u8 d)]=>AR a&&(AR b&&(AR c&&AR d))
 | _=>false
def Stp.ok(s:Stp):Bool:=AR s.t&&(AR s.x&&(AR s.y&&AR s.k))
theorem ZC{l:List IV}(h:arO l=true):l=agP (stV l)∧(stV l).ok=true:=by
 unfold arO at h
 split at h
 ·exact⟨rfl,h⟩
 ·cases h
def zC(S:List Stp):Nat→List IV:=λk=>agP (S.getD k st0)
def nM(n:Nat)(el:Nat→List IV):List Stp:=(List.range n).map λk=>stV (el k)
def zD(n:Nat)(el:Nat→List IV):Bool:=(List.range n).all λk=>arO (el k)
theorem Fz(n:Nat)(el:Nat→List IV):(nM n el).length=n:=by simp[nM]
theorem KR{n:Nat}{el:Nat→List IV}(h:zD n el=true):(∀k,k<n→el k=zC (nM n el) k)∧(nM n el).all Stp.ok=true:=by
 have h1:=List.all_eq_true.1 h;refine⟨λk hk=> ?_,List.all_eq_true.2 λr hr=> ?_⟩
 ·have:=(ZC (h1 k (List.mem_range.2 hk))).1
  have e:(nM n el).getD k st0=stV (el k):=by simp[nM,dR,hk]
  unfold zC;rw[e];exact this
 ·unfold nM at hr
  obtain⟨k,hk,rfl⟩:=List.mem_map.1 hr;exact(ZC (h1 k hk)).2
theorem wU(S:List Stp):nM S.length (zC S)=S:=by
 apply List.ext_getElem
 ·simp[nM]
 ·intro i h1 h2
  simp[nM,zC,agP,stV,dR,h2]
theorem qU{S:List Stp}(h:S.all Stp.ok=true):zD S.length (zC S)=true:=by
 refine List.all_eq_true.2 λk hk=> ?_
 have hk:=List.mem_range.1 hk;have:(S.getD k st0).ok=true:=by
  have:S.getD k st0=S[k]:=by simp[dR,hk]
  rw[this];exact List.all_eq_true.1 h _ (List.getElem_mem hk)
 exact this
structure Cr where
 t:Int
 x:Int
 y:Int
 S:List Stp
def DZ(c:Cr):List AV:=[.c (.v (.int .u8 c.t)),.c (.v (.int .u8 c.x)),.c (.v (.int .u8 c.y)),.c (.sl c.S.length 4 (zC c.S))]
def aoa:Arg Cr where
 get:=λa=>match a with | .agg [.c (.v (.int .u8 t)),.c (.v (.int .u8 x)),.c (.v (.int .u8 y)),.c (.sl n 4 el)]=>some (⟨t,x,y,nM n el⟩,[zD n el]) | _=>none
 put:=λc=> .agg (DZ c)
 ok:=by
  intro a x cs h hc
  split at h
  ·rename_i t x y n el
   simp only[fK,Prod.mk.injEq]at h;obtain⟨rfl,rfl⟩:=h;have h1:=(KR (n:=n) (el:=el) (hc _ (by simp))).1;unfold DZ;simp only[Fz];exact bM.agg (.cons (bM.refl _) (.cons (bM.refl _) (.cons (bM.refl _) (.cons (bM.sl h1) .nil))))
  ·cases h
def eTr:nJ (Cr×List Un×Sm) where
 parse:=λe=>
  match e with
  | [some (.cells [.c (.v (.int .u8 t)),.c (.v (.int .u8 x)),.c (.v (.int .u8 y)),.c (.sl n 4 el)] 82),some (.arr m 36 jw 148),some (.cells l 139)]=>some ((⟨t,x,y,nM n el⟩,cB m jw,ru l),[zD n el,eH m jw,LJ l])
  | _=>none
 ents:=λx=> [some (.cells (DZ x.1) 82),some (.arr x.2.1.length 36 (bZ x.2.1) 148),some (.cells (sN x.2.2) 139)]
 ok:=by
  intro e x cs h hc
  split at h
  ·rename_i t x y n el m jw l
   simp only[fK,Prod.mk.injEq]at h;obtain⟨rfl,rfl⟩:=h;have h1:=(KR (n:=n) (el:=el) (hc _ (by simp))).1;have h2:=wQ (n:=m) (el:=jw) (hc _ (by simp));have h3:=PV (l:=l) (hc _ (by simp));simp only[DZ,Fz,tq];refine .cons (.cells _ _ _ ?_) (.cons (.arr _ _ _ _ _ h2) (.cons ?_ .nil))
   ·exact .cons (bM.refl _) (.cons (bM.refl _) (.cons (bM.refl _) (.cons (bM.sl h1) .nil)))
   ·rw[←h3];exact .refl _
  ·cases h
abbrev T16:=(Unit×Nat×Unit×Bool×Int×Unit)×(Cr×List Un×Sm)
abbrev F16:Form (Unit×Nat×Unit×Bool×Int×Unit):= .cons (ou 0 0) (.cons (Nu 1) (.cons (ou 2 0) (.cons Io (.cons bK .nil))))
abbrev G16:Form (Nat×Unit×Bool×Unit):= .cons (Nu 0) (.cons (ou 1 0) (.cons Io .nil))
def eTo:nJ (List Un×Sm) where
 parse:=λe=>
  match e with
  | [some (.arr m 36 jw 148),some (.cells l 139)]=>some ((cB m jw,ru l),[eH m jw,LJ l])
  | _=>none
 ents:=λx=> [some (.arr x.1.length 36 (bZ x.1) 148),some (.cells (sN x.2) 139)]
 ok:=by
  intro e x cs h hc
  split at h
  ·rename_i m jw l
   simp only[fK,Prod.mk.injEq]at h;obtain⟨rfl,rfl⟩:=h;have h2:=wQ (n:=m) (el:=jw) (hc _ (by simp));have h3:=PV (l:=l) (hc _ (by simp));simp only[tq];refine .cons (.arr _ _ _ _ _ h2) (.cons ?_ .nil);rw[←h3];exact .refl _
  ·cases h
def LK(l:Sm)(s:Stp):Sm:=⟨l.t+1+s.t%8,s.x%64,s.y%64⟩
def ZE(l:Sm)(s:Stp):Sm:=bif decide (s.k%8=1)then⟨l.t,s.y%64,s.x%64⟩else l
def mM(st:List Un×Sm×Bool)(s:Stp):List Un×Sm×Bool:=
 (bif decide (s.k%8=0)then st.1 else st.1++[⟨(ZE st.2.1 s).t,(LK st.2.1 s).t,decide (0<st.1.length)&& !st.2.2,false,nL (ZE st.2.1 s) (LK st.2.1 s)⟩],LK st.2.1 s,decide (s.k%8=0))
def nN(st:List Un×Sm×Bool)(S:List Stp):List Un×Sm×Bool:=S.foldl mM st
def Ny(x:T16):Bool:=decide (x.1.2.1=0)&&(decide (x.2.2.1.length=0)&&(x.1.2.2.2.1&&(decide (x.1.2.2.2.2.1=0)&&(yJ x.2.2.2&&(decide (x.2.2.2.t≤15)&&(x.2.1.S.all Stp.ok&&decide (x.2.1.S.length≤6)))))))
def auA(x:T16):(Nat×Unit×Bool×Unit)×(List Un×Sm):=
 let r:=nN (x.2.2.1,x.2.2.2,x.1.2.2.2.1) x.2.1.S
 ((r.1.length,(),r.2.2,()),(r.1,r.2.1))
def Tc:aZ T16 ((Nat×Unit×Bool×Unit)×(List Un×Sm)):=yA {nt:=133,live:=[1,3,4,5,6],lifts:=[(3,36,148)]} {nt:=133,live:=[3,4,5],lifts:=[(3,36,148)]} (fJ.with eTr F16) (fJ.with eTo G16) auA Ny
theorem abZ:Tc.gI:=eG _ _ _ _ _ _
def L16:Nat→Option (St→Tr (Ex×St)):=λid=>bif Nat.beq id 0 then some (Tc.g 0)else none
def arP:FuncId→Option Spec:=λf=>bif Nat.beq f 28 then some (ay VT)else bif Nat.beq f 59 then some (ay K31)else bif Nat.beq f 61 then some (ay K33)else bif Nat.beq f 63 then some (ay K35)else none
theorem ZF: ∀f s,arP f=some s→aR Tryz.prog f s:=step_ok Iw.spec (step_ok arM.spec (step_ok arN.spec (bS arH.spec)))
def FB(m:Nat)(al:Bool)(i:Int)(c:Cr)(O:List Un)(l:Sm):Tr (T16 ⊕ (Nat×Unit×Bool×Unit)×List Un×Sm):=
 let x1:Int:= ↑c.S.length
 let x2:Bool:=decide (i<x1)
 let x3:Bool:=decide (l.t<0)
 let x4:ByteArray:=⟨⟨aA l.t.natAbs⟩⟩
 let x5:Int:=iv x3 x4
 let x6:Int:=IntKind.i64.wrap (IntKind.i64.wrap (x5+1)+IntKind.i64.wrap ((c.S.getD i.toNat st0).t.tmod 8))
 let x7:Int:=IntKind.i64.wrap ((c.S.getD i.toNat st0).x.tmod 64)
 let x8:Bool:=decide (-9223372036854775808≤x7)
 let x9:Bool:=decide (x7≤9223372036854775807)
 let x10:Int:=IntKind.i64.wrap ((c.S.getD i.toNat st0).y.tmod 64)
 let fI:Bool:=decide (-9223372036854775808≤x10)
 let fU:Bool:=decide (x10≤9223372036854775807)
 let iM:Int:=(c.S.getD i.toNat st0).k.tmod 8
 let iR:Bool:=iM !=0
 let jH:Int:= ↑m
 let kE:Bool:=decide (jH>0)
 let jD:IV:=IV.v (.bool x3)
 let x18:IV:=IV.v (.string x4)
 let lW:IV:=IV.v (.string ⟨⟨aH 1⟩⟩)
 let x20:List AV:=[.c (.v (.bool false)),AV.c lW]
 let x21:List AV:=AV.c jD::AV.c x18:: .c (.v (.bool false))::AV.c lW:: .c (.v (.bool (decide (x10<0)))):: .c (.v (.string ⟨⟨aA x10.natAbs⟩⟩)):: .c (.v (.bool false))::AV.c lW:: .c (.v (.bool (decide (x7<0)))):: .c (.v (.string ⟨⟨aA x7.natAbs⟩⟩))::x20
 let lZ:Bool:=LJ x21
 let x23:IV:=IV.v (.bool (decide (x6<0)))
 let x24:IV:=IV.v (.string ⟨⟨aA x6.natAbs⟩⟩)
 let x25:List AV:=AV.c x23::AV.c x24:: .c (.v (.bool false))::AV.c lW:: .c (.v (.bool (decide (x7<0)))):: .c (.v (.string ⟨⟨aA x7.natAbs⟩⟩)):: .c (.v (.bool false))::AV.c lW:: .c (.v (.bool (decide (x10<0)))):: .c (.v (.string ⟨⟨aA x10.natAbs⟩⟩))::x20
 let rY:Bool:=LJ x25
 let x27:Bool:=He (ru x21) (ru x25)
 let x28:Bool:=decide (m≤O.length)
 let x29:Nat:=m+1
 let x30:Bool:=decide (x29≤9223372036854775807)
 let x31:Nat:=x29*408
 let x32:Bool:=decide (x31≤140737488355328)
 let pV:Bool:=zD c.S.length (zC c.S)
 let x34:Nat:=35+1
 let yF:IV:=IV.v (.string ⟨⟨aH (nL (ru x21) (ru x25)).y1.den⟩⟩)
 let vk:Int:=(nL (ru x21) (ru x25)).y1.num
 let r9:IV:=IV.v (.string ⟨⟨aA vk.natAbs⟩⟩)
 let x38:IV:=IV.v (.bool (decide (vk<0)))
 let x39:IV:=IV.v (.string ⟨⟨aH (nL (ru x21) (ru x25)).y0.den⟩⟩)
 let x40:Int:=(nL (ru x21) (ru x25)).y0.num
 let x41:IV:=IV.v (.string ⟨⟨aA x40.natAbs⟩⟩)
 let GU:IV:=IV.v (.bool (decide (x40<0)))
 let x43:IV:=IV.v (.string ⟨⟨aH (nL (ru x21) (ru x25)).x1.den⟩⟩)
 let Gs:Int:=(nL (ru x21) (ru x25)).x1.num
 let GV:IV:=IV.v (.string ⟨⟨aA Gs.natAbs⟩⟩)
 let Iq:IV:=IV.v (.bool (decide (Gs<0)))
 let Ea:IV:=IV.v (.string ⟨⟨aH (nL (ru x21) (ru x25)).x0.den⟩⟩)
 let La:Int:=(nL (ru x21) (ru x25)).x0.num
 let J5:IV:=IV.v (.string ⟨⟨aA La.natAbs⟩⟩)
 let Ca:IV:=IV.v (.bool (decide (La<0)))
 let Bl:IV:=IV.v (.string {data:= #[]})
 let EO:List IV:=[IV.v (.bool false),Bl,IV.v (.bool false),Bl,IV.v (.bool false),lW,IV.v (.bool false),x24,x23,IV.v (.bool false),Bl,IV.v (.bool false),Bl,IV.v (.bool false),lW,IV.v (.bool false),x18,jD]
 let x53:List IV:=IV.v (.bool false)::IV.v (.bool (bif true then !al else false))::EO
 let x54:List IV:=IV.v (.bool false)::IV.v (.bool false)::EO
 let x55:Bool:=eH O.length (bZ O)
 let Nv:List Un:=cB O.length (bZ O)
 let Zt:List AV:=AV.c jD::AV.c x18:: .c (.v (.bool false))::AV.c lW:: .c (.v (.bool (decide (l.x<0)))):: .c (.v (.string ⟨⟨aA l.x.natAbs⟩⟩)):: .c (.v (.bool false))::AV.c lW:: .c (.v (.bool (decide (l.y<0)))):: .c (.v (.string ⟨⟨aA l.y.natAbs⟩⟩))::x20
 let Qj:Bool:=LJ Zt
 let SQ:Bool:=He (ru Zt) (ru x25)
 let PO:IV:=IV.v (.string ⟨⟨aH (nL (ru Zt) (ru x25)).y1.den⟩⟩)
 let x61:Int:=(nL (ru Zt) (ru x25)).y1.num
 let SE:IV:=IV.v (.string ⟨⟨aA x61.natAbs⟩⟩)
 let Zu:IV:=IV.v (.bool (decide (x61<0)))
 let Zv:IV:=IV.v (.string ⟨⟨aH (nL (ru Zt) (ru x25)).y0.den⟩⟩)
 let x65:Int:=(nL (ru Zt) (ru x25)).y0.num
 let x66:IV:=IV.v (.string ⟨⟨aA x65.natAbs⟩⟩)
 let x67:IV:=IV.v (.bool (decide (x65<0)))
 let x68:IV:=IV.v (.string ⟨⟨aH (nL (ru Zt) (ru x25)).x1.den⟩⟩)
 let x69:Int:=(nL (ru Zt) (ru x25)).x1.num
 let x70:IV:=IV.v (.string ⟨⟨aA x69.natAbs⟩⟩)
 let W9:IV:=IV.v (.bool (decide (x69<0)))
 let Xa:IV:=IV.v (.string ⟨⟨aH (nL (ru Zt) (ru x25)).x0.den⟩⟩)
 let x73:Int:=(nL (ru Zt) (ru x25)).x0.num
 let x74:IV:=IV.v (.string ⟨⟨aA x73.natAbs⟩⟩)
 let x75:IV:=IV.v (.bool (decide (x73<0)))
 .need (bif x2 then true else true) (.ite (bif x2 then bif true then decide (i<6)else false else false) (.need (decide (0≤i∧i<x1)) (.need (iL x3 x4) (.need (decide (0≤x5)) (.need (decide (x5≤1000000)) (.need true (.need true (.need true (.need (decide (-9223372036854775808≤x6)) (.need (decide (x6≤9223372036854775807)) (.need x8 (.need x9 (.need fI (.need fU (.need true (.ite (iM==1) (.need true (.need true (.need true (.need true (.need fI (.need fU (.need x8 (.need x9 (.need true (.ite iR (.ite kE (.need lZ (.need rY (.need x27 (.need x28 (.need true (.need x30 (.need x32 (.need true (.need pV (.need (eH x29 (bN m (bZ O) λk=>List.take x34 (List.drop (k*x34) (yF::IV.v (.bool false)::r9::x38::x39::IV.v (.bool false)::x41::GU::x43::IV.v (.bool false)::GV::Iq::Ea::IV.v (.bool false)::J5::Ca::x53).reverse))) (.need rY (.ret (Sum.inl (((),x29,(),iM==0,IntKind.i64.wrap (i+1),()),{t:=c.t,x:=c.x,y:=c.y,S:=nM c.S.length (zC c.S)},cB x29 (bN m (bZ O) λk=>List.take x34 (List.drop (k*x34) (yF::IV.v (.bool false)::r9::x38::x39::IV.v (.bool false)::x41::GU::x43::IV.v (.bool false)::GV::Iq::Ea::IV.v (.bool false)::J5::Ca::x53).reverse)),ru x25)))))))))))))) (.need lZ (.need rY (.need x27 (.need x28 (.need true (.need x30 (.need x32 (.need true (.need pV (.need (eH x29 (bN m (bZ O) λk=>List.take x34 (List.drop (k*x34) (yF::IV.v (.bool false)::r9::x38::x39::IV.v (.bool false)::x41::GU::x43::IV.v (.bool false)::GV::Iq::Ea::IV.v (.bool false)::J5::Ca::x54).reverse))) (.need rY (.ret (Sum.inl (((),x29,(),iM==0,IntKind.i64.wrap (i+1),()),{t:=c.t,x:=c.x,y:=c.y,S:=nM c.S.length (zC c.S)},cB x29 (bN m (bZ O) λk=>List.take x34 (List.drop (k*x34) (yF::IV.v (.bool false)::r9::x38::x39::IV.v (.bool false)::x41::GU::x43::IV.v (.bool false)::GV::Iq::Ea::IV.v (.bool false)::J5::Ca::x54).reverse)),ru x25))))))))))))))) (.need true (.need pV (.need x55 (.need rY (.ret (Sum.inl (((),m,(),iM==0,IntKind.i64.wrap (i+1),()),{t:=c.t,x:=c.x,y:=c.y,S:=nM c.S.length (zC c.S)},Nv,ru x25))))))))))))))))) (.need true (.ite iR (.ite kE (.need Qj (.need rY (.need SQ (.need x28 (.need true (.need x30 (.need x32 (.need true (.need pV (.need (eH x29 (bN m (bZ O) λk=>List.take x34 (List.drop (k*x34) (PO::IV.v (.bool false)::SE::Zu::Zv::IV.v (.bool false)::x66::x67::x68::IV.v (.bool false)::x70::W9::Xa::IV.v (.bool false)::x74::x75::x53).reverse))) (.need rY (.ret (Sum.inl (((),x29,(),iM==0,IntKind.i64.wrap (i+1),()),{t:=c.t,x:=c.x,y:=c.y,S:=nM c.S.length (zC c.S)},cB x29 (bN m (bZ O) λk=>List.take x34 (List.drop (k*x34) (PO::IV.v (.bool false)::SE::Zu::Zv::IV.v (.bool false)::x66::x67::x68::IV.v (.bool false)::x70::W9::Xa::IV.v (.bool false)::x74::x75::x53).reverse)),ru x25)))))))))))))) (.need Qj (.need rY (.need SQ (.need x28 (.need true (.need x30 (.need x32 (.need true (.need pV (.need (eH x29 (bN m (bZ O) λk=>List.take x34 (List.drop (k*x34) (PO::IV.v (.bool false)::SE::Zu::Zv::IV.v (.bool false)::x66::x67::x68::IV.v (.bool false)::x70::W9::Xa::IV.v (.bool false)::x74::x75::x54).reverse))) (.need rY (.ret (Sum.inl (((),x29,(),iM==0,IntKind.i64.wrap (i+1),()),{t:=c.t,x:=c.x,y:=c.y,S:=nM c.S.length (zC c.S)},cB x29 (bN m (bZ O) λk=>List.take x34 (List.drop (k*x34) (PO::IV.v (.bool false)::SE::Zu::Zv::IV.v (.bool false)::x66::x67::x68::IV.v (.bool false)::x70::W9::Xa::IV.v (.bool false)::x74::x75::x54).reverse)),ru x25))))))))))))))) (.need true (.need pV (.need x55 (.need rY (.ret (Sum.inl (((),m,(),iM==0,IntKind.i64.wrap (i+1),()),{t:=c.t,x:=c.x,y:=c.y,S:=nM c.S.length (zC c.S)},Nv,ru x25)))))))))))))))))))))))) (.need x55 (.need Qj (.ret (Sum.inr ((m,(),al,()),Nv,ru Zt))))))
def M16(c:Cr):Tr AV:=
 let x1:Int:=IntKind.i64.wrap (c.t.tmod 16)
 let x2:Int:=IntKind.i64.wrap (c.x.tmod 64)
 let x3:Int:=IntKind.i64.wrap (c.y.tmod 64)
 let x4:IV:=IV.v (.string ⟨⟨aH 1⟩⟩)
 let x5:List AV:=[.c (.v (.bool (decide (x1<0)))),.c (.v (.string ⟨⟨aA x1.natAbs⟩⟩)),.c (.v (.bool false)),AV.c x4,.c (.v (.bool (decide (x2<0)))),.c (.v (.string ⟨⟨aA x2.natAbs⟩⟩)),.c (.v (.bool false)),AV.c x4,.c (.v (.bool (decide (x3<0)))),.c (.v (.string ⟨⟨aA x3.natAbs⟩⟩)),.c (.v (.bool false)),AV.c x4]
 let x6:List Stp:=nM c.S.length (zC c.S)
 let x7:List Un:=cB 0 λx=> []
 let x8:List Un:=(nN (x7,ru x5,true) x6).fst
 let x9:Nat:=x8.length
 let x10:Bool:=decide (x9≤x9)
 let fI:Nat:=x9+1
 let fU:Nat:=fI*408
 let iM:Nat:=35+1
 let iR:IV:=IV.v (.string {data:= #[]})
 let jH:Int:=(nN (x7,ru x5,true) x6).snd.fst.y
 let kE:Int:=(nN (x7,ru x5,true) x6).snd.fst.x
 let jD:Int:=(nN (x7,ru x5,true) x6).snd.fst.t
 let x18:IV:=IV.v (.string ⟨⟨aA jD.natAbs⟩⟩)
 let lW:IV:=IV.v (.bool (decide (jD<0)))
 let x20:List Un:=cB fI (bN x9 (bZ x8) λk=>List.take iM (List.drop (k*iM) [iR,IV.v (.bool false),iR,IV.v (.bool false),x4,IV.v (.bool false),IV.v (.string ⟨⟨aA jH.natAbs⟩⟩),IV.v (.bool (decide (jH<0))),iR,IV.v (.bool false),iR,IV.v (.bool false),x4,IV.v (.bool false),IV.v (.string ⟨⟨aA kE.natAbs⟩⟩),IV.v (.bool (decide (kE<0))),IV.v (.bool false),IV.v (.bool false),IV.v (.bool false),iR,IV.v (.bool false),iR,IV.v (.bool false),x4,IV.v (.bool false),x18,lW,IV.v (.bool false),iR,IV.v (.bool false),iR,IV.v (.bool false),x4,IV.v (.bool false),x18,lW].reverse))
 let x21:Nat:=x20.length
 let lZ:List Un:=mJ x20
 let x23:List Un:=cB x9 (bZ x8)
 let x24:Nat:=x23.length
 let x25:List Un:=mJ x23
 .need true (.need true (.need true (.need (decide (-9223372036854775808≤x1)) (.need (decide (x1≤9223372036854775807)) (.need (decide (-9223372036854775808≤x2)) (.need (decide (x2≤9223372036854775807)) (.need (decide (-9223372036854775808≤x3)) (.need (decide (x3≤9223372036854775807)) (.need (zD c.S.length (zC c.S)) (.need true (.need (LJ x5) (.need (Ny (((),0,(),true,0,()),{t:=c.t,x:=c.x,y:=c.y,S:=x6},x7,ru x5)) (.ite (nN (x7,ru x5,true) x6).snd.snd (.need x10 (.need true (.need (decide (fI≤9223372036854775807)) (.need (decide (fU≤140737488355328)) (.need (decide (fI≤fI)) (.need (eH fI (bN x9 (bZ x8) λk=>List.take iM (List.drop (k*iM) [iR,IV.v (.bool false),iR,IV.v (.bool false),x4,IV.v (.bool false),IV.v (.string ⟨⟨aA jH.natAbs⟩⟩),IV.v (.bool (decide (jH<0))),iR,IV.v (.bool false),iR,IV.v (.bool false),x4,IV.v (.bool false),IV.v (.string ⟨⟨aA kE.natAbs⟩⟩),IV.v (.bool (decide (kE<0))),IV.v (.bool false),IV.v (.bool false),IV.v (.bool false),iR,IV.v (.bool false),iR,IV.v (.bool false),x4,IV.v (.bool false),x18,lW,IV.v (.bool false),iR,IV.v (.bool false),iR,IV.v (.bool false),x4,IV.v (.bool false),x18,lW].reverse))) (.need (mI x20) (.need (decide (1≤x21)) (.need (decide (x21≤19)) (.ret (AV.c (IV.sl lZ.length 36 (bZ lZ))))))))))))) (.need x10 (.need (eH x9 (bZ x8)) (.need (mI x23) (.need (decide (1≤x24)) (.need (decide (x24≤19)) (.ret (AV.c (IV.sl x25.length 36 (bZ x25))))))))))))))))))))))
theorem ab0(x:T16):(exec Tryz.prog (AQ Tryz.prog arP (λ_=>false) 1010 1) bX 1010 (bn 0 (codeOf Tryz.f24)) (iQ Tc.nIn (Tc.head x))).bind (Tc.fin 0 0)=FB x.1.2.1 x.1.2.2.2.1 x.1.2.2.2.2.1 x.2.1 x.2.2.1 x.2.2.2:=by
 obtain⟨⟨⟨⟩,m,⟨⟩,al,i,⟨⟩⟩,c,O,l⟩:=x
 kernel_rfl
theorem arQ(c:Cr):aI Tryz.prog (AQ Tryz.prog arP (λ_=>false) 1010 1) L16 1010 Tryz.f24 [.agg (DZ c)]=M16 c:=by kernel_rfl
theorem xZ(t x y:Int):[AV.c (.v (.bool (decide (t<0)))),AV.c (.v (.string ⟨⟨aA t.natAbs⟩⟩)),AV.c (.v (.bool false)),AV.c (.v (.string ⟨⟨aH 1⟩⟩)),AV.c (.v (.bool (decide (x<0)))),AV.c (.v (.string ⟨⟨aA x.natAbs⟩⟩)),AV.c (.v (.bool false)),AV.c (.v (.string ⟨⟨aH 1⟩⟩)),AV.c (.v (.bool (decide (y<0)))),AV.c (.v (.string ⟨⟨aA y.natAbs⟩⟩)),AV.c (.v (.bool false)),AV.c (.v (.string ⟨⟨aH 1⟩⟩))]=sN ⟨t,x,y⟩:=rfl
theorem ZG:(#[]:Array UInt8)={toList:=[]}:=rfl
theorem avP:RO 0=zIV:=Ae (show aC 0=Ka from Kc)
def wh(l:Sm):Un:=⟨l.t,l.t,false,false,⟨(l.x:Rat),0,(l.y:Rat),0⟩⟩
theorem ab1(t x y:Int):List.reverse [IV.v (.string ⟨⟨[]⟩⟩),IV.v (.bool false),IV.v (.string ⟨⟨[]⟩⟩),IV.v (.bool false),IV.v (.string ⟨⟨aH 1⟩⟩),IV.v (.bool false),IV.v (.string ⟨⟨aA y.natAbs⟩⟩),IV.v (.bool (decide (y<0))),IV.v (.string ⟨⟨[]⟩⟩),IV.v (.bool false),IV.v (.string ⟨⟨[]⟩⟩),IV.v (.bool false),IV.v (.string ⟨⟨aH 1⟩⟩),IV.v (.bool false),IV.v (.string ⟨⟨aA x.natAbs⟩⟩),IV.v (.bool (decide (x<0))),IV.v (.bool false),IV.v (.bool false),IV.v (.bool false),IV.v (.string ⟨⟨[]⟩⟩),IV.v (.bool false),IV.v (.string ⟨⟨[]⟩⟩),IV.v (.bool false),IV.v (.string ⟨⟨aH 1⟩⟩),IV.v (.bool false),IV.v (.string ⟨⟨aA t.natAbs⟩⟩),IV.v (.bool (decide (t<0))),IV.v (.bool false),IV.v (.string ⟨⟨[]⟩⟩),IV.v (.bool false),IV.v (.string ⟨⟨[]⟩⟩),IV.v (.bool false),IV.v (.string ⟨⟨aH 1⟩⟩),IV.v (.bool false),IV.v (.string ⟨⟨aA t.natAbs⟩⟩),IV.v (.bool (decide (t<0)))]=zA (wh ⟨t,x,y⟩):=by
 show _=LG t++(LG t++([.v (.bool false),.v (.bool false)]++(RO (x:Rat)++(RO 0++(RO (y:Rat)++RO 0)))))
 rw[avP];rfl
theorem ab2(c:Cr)(O:List Un)(l:Sm)(al:Bool)(i:Nat)(hS:c.S.all Stp.ok=true)(hl:i<c.S.length)(h6:i<6)(hO:O.length≤100)(hs:yJ l=true)(ht:l.t≤15+8*i)
  (Q:T16 ⊕ ((Nat×Unit×Bool×Unit)×(List Un×Sm))→Prop) (hq:Q (.inl (((),(mM (O,l,al) (c.S.getD i st0)).1.length,(),(mM (O,l,al) (c.S.getD i st0)).2.2,((i+1:Nat):Int),()),(c,(mM (O,l,al) (c.S.getD i st0)).1,(mM (O,l,al) (c.S.getD i st0)).2.1)))):
  (FB O.length al (i:Nat) c O l).sat Q:=by
 have hk:(c.S.getD i st0).ok=true:=by
  have:c.S.getD i st0=c.S[i]:=by simp[dR,hl]
  rw[this];exact List.all_eq_true.1 hS _ (List.getElem_mem hl)
 generalize hsd:c.S.getD i st0=s at*;simp only[Stp.ok,AR,cu,fT]at hk;have hs2:=hs;simp only[yJ,cu,fT]at hs2;obtain⟨l1,l2,l3,l4,l5,l6⟩:=hs2;have hw1:IntKind.i64.wrap ((i:Int)+1)=((i+1:Nat):Int):=jR;have c1:decide ((0:Int)≤(i:Int)∧(i:Int)<(c.S.length:Int))=true:=bQ;have c2:decide ((i:Int)<(c.S.length:Int))=true:=bQ;have c3:decide ((i:Int)<6)=true:=bQ;have tX:IntKind.i64.wrap (s.x.tmod 64)=s.x%64:=by rw[Int.tmod_eq_emod_of_nonneg hk.2.1.1,wrap_i64 (by omega)]
 have tY:IntKind.i64.wrap (s.y.tmod 64)=s.y%64:=by rw[Int.tmod_eq_emod_of_nonneg hk.2.2.1.1,wrap_i64 (by omega)]
 have tK:s.k.tmod 8=s.k%8:=Int.tmod_eq_emod_of_nonneg hk.2.2.2.1;have tT:IntKind.i64.wrap (IntKind.i64.wrap (l.t+1)+IntKind.i64.wrap (s.t.tmod 8))=l.t+1+s.t%8:=by
  rw[Int.tmod_eq_emod_of_nonneg hk.1.1,wrap_i64 (x:=l.t+1) (by omega),wrap_i64 (x:=s.t%8) (by omega),wrap_i64 (by omega)]
 have r1:decide (0≤l.t)=true:=fZ l1;have r2:decide (l.t≤1000000)=true:=bQ;have r3: ∀z:Int,0≤z→z≤1000→decide (-9223372036854775808≤z)=true:=λz h k=>bQ
 have r4: ∀z:Int,0≤z→z≤1000→decide (z≤9223372036854775807)=true:=λz h k=>bQ
 have a1:=r3 (s.x%64) (by omega) (by omega);have a2:=r4 (s.x%64) (by omega) (by omega);have a3:=r3 (s.y%64) (by omega) (by omega);have a4:=r4 (s.y%64) (by omega) (by omega);have a5:=r3 (l.t+1+s.t%8) (by omega) (by omega);have a6:=r4 (l.t+1+s.t%8) (by omega) (by omega);have d1:decide (O.length+1≤9223372036854775807)=true:=bQ;have d2:decide ((O.length+1)*408≤140737488355328)=true:=bQ;have q1:He l ⟨l.t+1+s.t%8,s.x%64,s.y%64⟩=true:=by
  simp only[He,hs,Bool.true_and,cu,fT];omega
 have q2:He ⟨l.t,s.y%64,s.x%64⟩ ⟨l.t+1+s.t%8,s.x%64,s.y%64⟩=true:=by
  simp only[He,yJ,cu,fT];omega
 have hcr:(⟨c.t,c.x,c.y,c.S⟩:Cr)=c:=rfl;have hle:(⟨l.t,l.x,l.y⟩:Sm)=l:=rfl;have hlen: ∀u:Un,(O++[u]).length=O.length+1:=λu=>by simp
 simp only[FB,Int.toNat_natCast,hsd,pW,mG,tX,tY,tK,tT,ZG];by_cases k1:s.k%8=1
 ·have e1:(s.k%8==1)=true:=by simp[k1]
  have e2:(s.k%8 !=0)=true:=by simp[k1]
  have e3:(s.k%8==0)=false:=by simp[k1]
  have f1:decide (s.k%8=1)=true:=fZ k1;have f2:decide (s.k%8=0)=false:=jK (by omega);by_cases hm:0<O.length
  ·have m1:decide (((O.length:Nat):Int)>0)=true:=bQ
   have m2:decide (0<O.length)=true:=fZ hm;simp only[mM,ZE,LK,f1,f2,m2,cond_true,cond_false,Bool.true_and,hlen]at hq;simp only[↓fC, ↓fD, ↓fE, ↓fF,iA,iB,dY,dZ,d9,eu,dw,bY,dG,dh,fB,dS,bD,bE,dQ,bT,sat_true,iG,gF,kC,jq,eT,eU,Bool.and_true,eq_self,decide_true,Nat.le_refl, ↓xZ,hle,qR,oC,wU,qU hS,hcr,hw1,c1,c2,c3,r1,r2,a1,a2,a3,a4,a5,a6,d1,d2,q2,e1,e2,e3,m1,cond_true]
   repeat first
    | refine ah rfl ?_
    | refine au (λh=>Bool.noConfusion h) (λ_=> ?_)
    | refine au (λ_=> ?_) (λh=>Bool.noConfusion h)
   exact av hq
  ·have m1:decide (((O.length:Nat):Int)>0)=false:=jK (by omega)
   have m2:decide (0<O.length)=false:=jK hm;simp only[mM,ZE,LK,f1,f2,m2,cond_true,cond_false,Bool.false_and,hlen]at hq;simp only[↓fC, ↓fD, ↓fE, ↓fF,iA,iB,dY,dZ,d9,eu,dw,bY,dG,dh,fB,dS,bD,bE,dQ,bT,sat_true,iG,gF,kC,jq,eT,eU,Bool.and_true,eq_self,decide_true,Nat.le_refl, ↓xZ,hle,qR,oC,wU,qU hS,hcr,hw1,c1,c2,c3,r1,r2,a1,a2,a3,a4,a5,a6,d1,d2,q2,e1,e2,e3,m1,cond_true]
   repeat first
    | refine ah rfl ?_
    | refine au (λh=>Bool.noConfusion h) (λ_=> ?_)
    | refine au (λ_=> ?_) (λh=>Bool.noConfusion h)
   exact av hq
 ·have e1:(s.k%8==1)=false:=by simp[k1]
  have f1:decide (s.k%8=1)=false:=jK k1;by_cases k0:s.k%8=0
  ·have e2:(s.k%8 !=0)=false:=by simp[k0]
   have e3:(s.k%8==0)=true:=by simp[k0]
   have f2:decide (s.k%8=0)=true:=fZ k0;simp only[mM,ZE,LK,f1,f2,cond_true,cond_false]at hq;simp only[↓fC, ↓fD, ↓fE, ↓fF,iA,iB,dY,dZ,d9,eu,dw,bY,dG,dh,fB,dS,bD,bE,dQ,bT,sat_true,iG,gF,kC,jq,eT,eU,Bool.and_true,eq_self,decide_true,Nat.le_refl, ↓xZ,hle,qR,oC,wU,qU hS,hcr,hw1,c1,c2,c3,r1,r2,a1,a2,a3,a4,a5,a6,d1,d2,e1,e2,e3,cond_true]
   repeat first
    | refine ah rfl ?_
    | refine au (λh=>Bool.noConfusion h) (λ_=> ?_)
    | refine au (λ_=> ?_) (λh=>Bool.noConfusion h)
   exact av hq
  ·have e2:(s.k%8 !=0)=true:=by simp[k0]
   have e3:(s.k%8==0)=false:=by simp[k0]
   have f2:decide (s.k%8=0)=false:=jK k0;by_cases hm:0<O.length
   ·have m1:decide (((O.length:Nat):Int)>0)=true:=bQ
    have m2:decide (0<O.length)=true:=fZ hm;simp only[mM,ZE,LK,f1,f2,m2,cond_true,cond_false,Bool.true_and,hlen]at hq;simp only[↓fC, ↓fD, ↓fE, ↓fF,iA,iB,dY,dZ,d9,eu,dw,bY,dG,dh,fB,dS,bD,bE,dQ,bT,sat_true,iG,gF,kC,jq,eT,eU,Bool.and_true,eq_self,decide_true,Nat.le_refl, ↓xZ,hle,qR,oC,wU,qU hS,hcr,hw1,c1,c2,c3,r1,r2,a1,a2,a3,a4,a5,a6,d1,d2,q1,e1,e2,e3,m1,cond_true]
    repeat first
     | refine ah rfl ?_
     | refine au (λh=>Bool.noConfusion h) (λ_=> ?_)
     | refine au (λ_=> ?_) (λh=>Bool.noConfusion h)
    exact av hq
   ·have m1:decide (((O.length:Nat):Int)>0)=false:=jK (by omega)
    have m2:decide (0<O.length)=false:=jK hm;simp only[mM,ZE,LK,f1,f2,m2,cond_true,cond_false,Bool.false_and,hlen]at hq;simp only[↓fC, ↓fD, ↓fE, ↓fF,iA,iB,dY,dZ,d9,eu,dw,bY,dG,dh,fB,dS,bD,bE,dQ,bT,sat_true,iG,gF,kC,jq,eT,eU,Bool.and_true,eq_self,decide_true,Nat.le_refl, ↓xZ,hle,qR,oC,wU,qU hS,hcr,hw1,c1,c2,c3,r1,r2,a1,a2,a3,a4,a5,a6,d1,d2,q1,e1,e2,e3,m1,cond_true]
    repeat first
     | refine ah rfl ?_
     | refine au (λh=>Bool.noConfusion h) (λ_=> ?_)
     | refine au (λ_=> ?_) (λh=>Bool.noConfusion h)
    exact av hq
theorem Xl(c:Cr)(O:List Un)(l:Sm)(al:Bool)(Q:T16 ⊕ ((Nat×Unit×Bool×Unit)×(List Un×Sm))→Prop)(hq:Q (.inr ((O.length,(),al,()),(O,l)))):(FB O.length al (c.S.length:Nat) c O l).sat Q:=by
 have c2:decide (((c.S.length:Nat):Int)<(c.S.length:Int))=false:=jK (by omega);have hle:(⟨l.t,l.x,l.y⟩:Sm)=l:=rfl;simp only[FB,c2,cond_false];simp only[↓fC, ↓fD, ↓fE, ↓fF,iA,iB,dY,dZ,d9,eu,dw,bY,dG,dh,fB,dS,bD,bE,dQ,bT,sat_true,iG,gF,kC,jq,eT,eU,Bool.and_true,eq_self,decide_true,Nat.le_refl, ↓xZ,hle,qR,oC]
 repeat first
  | refine ah rfl ?_
  | refine au (λh=>Bool.noConfusion h) (λ_=> ?_)
  | refine au (λ_=> ?_) (λh=>Bool.noConfusion h)
 exact av hq
end Go.bI
namespace Go.bI
open Go.Proofs
theorem FC: ∀(l:List Un) (v:Un),oO l=true→ql v=true→(∀u,l.getLast? =some u→mH u v=true)→oO (l++[v])=true
 | [],v,_,hv,_=>by simp only[List.nil_append,oO,hv,Bool.and_self]
 | [u],v,h,hv,hl=>by
   have:=hl u rfl;have hu:=nD h
   show oO (u::[v])=true
   simp only[oO,hu,hv,this,Bool.and_self]
 | u::w::l,v,h,hv,hl=>by
   have ih:=FC (w::l) v (tu h) hv (λx hx=>hl x (by rw[List.getLast?_cons_cons];exact hx))
   show oO (u::(w::(l++[v])))=true
   rw[oO,nD h,oJ h];exact ih
structure Inv (k:Int) (st:List Un×Sm×Bool):Prop where
 raw:oO st.1=true
 hd: ∀u l,st.1=u::l→u.oa=false
 len:(st.1.length:Int)≤k
 sm:yJ st.2.1=true
 t:st.2.1.t≤15+8*k
 last: ∀u,st.1.getLast? =some u→u.a<u.b∧(bif st.2.2 then u.b<st.2.1.t else u.b=st.2.1.t)
 nil:st.1=[]→st.2.2=true
theorem Td{k:Int}{st:List Un×Sm×Bool}{s:Stp}(h:Inv k st)(hk0:0≤k)(hk:k≤5)(hs:s.ok=true):Inv (k+1) (mM st s):=by
 obtain⟨O,l,al⟩:=st;obtain⟨h1,h2,h3,h4,h5,h6,h7⟩:=h;simp only at h1 h2 h3 h4 h5 h6 h7;simp only[Stp.ok,AR,cu,fT]at hs;have hs2:=h4;simp only[yJ,cu,fT]at hs2;obtain⟨l1,l2,l3,l4,l5,l6⟩:=hs2;have hn:yJ (LK l s)=true:=by
  simp only[yJ,cu,fT];simp only[LK];omega
 have hnt:(LK l s).t≤15+8*(k+1):=by simp only[LK];omega
 by_cases k0:s.k%8=0
 ·have f2:decide (s.k%8=0)=true:=fZ k0
  have he:mM (O,l,al) s=(O,LK l s,true):=by unfold mM;simp only[f2,cond_true]
  rw[he];refine⟨h1,h2,by show(O.length:Int)≤_;omega,hn,hnt,λu hu=> ?_,λ_=>rfl⟩;obtain⟨a,b⟩:=h6 u hu;refine⟨a,?_⟩
  show u.b<(LK l s).t
  simp only[LK];cases al with
  | true=>simp only[cond_true]at b;omega
  | false=>simp only[cond_false]at b;omega
 ·have f2:decide (s.k%8=0)=false:=jK k0
  have hft:(ZE l s).t=l.t:=by
   unfold ZE;cases decide (s.k%8=1)<;>rfl
  have hpre:He (ZE l s) (LK l s)=true:=by
   have hsf:yJ (ZE l s)=true:=by
    unfold ZE;cases decide (s.k%8=1)with
    | true=>simp only[cond_true,yJ,cu,fT];omega
    | false=>exact h4
   simp only[He,hsf,hft,Bool.true_and,cu,fT];simp only[LK];omega
  obtain⟨_,_,hlb⟩:=Ta hpre;generalize hv:(⟨(ZE l s).t,(LK l s).t,decide (0<O.length)&& !al,false,nL (ZE l s) (LK l s)⟩:Un)=v;have he:mM (O,l,al) s=(O++[v],LK l s,false):=by unfold mM;simp only[f2,cond_false,hv]
  rw[he];have va:v.a=l.t:=by rw[←hv];exact hft
  have vb:v.b=l.t+1+s.t%8:=by rw[←hv];rfl
  have vo:v.oa=(decide (0<O.length)&& !al):=by rw[←hv]
  have vob:v.ob=false:=by rw[←hv]
  have vf:uL v.f=true:=by rw[←hv];exact hlb
  have hone:ql v=true:=by
   simp only[uL,cu]at vf;have e1:decide (v.a<v.b)=true:=bQ;have e2:decide (0≤v.a)=true:=bQ;have e3:decide (v.b≤63)=true:=bQ;unfold ql;rw[e1,e2,e3,vob,vf.1.1,vf.1.2,vf.2.1,vf.2.2];rfl
  have agQ: ∀u,O.getLast? =some u→mH u v=true:=by
   intro u hu;obtain⟨a,b⟩:=h6 u hu;have hO:0<O.length:=by
    cases O with
    | nil=>simp at hu
    | cons x O=>simp
   have e1:decide (u.a<u.b)=true:=fZ a;unfold mH;rw[vo,fZ hO,e1,va];cases al with
   | true=>simp only[cond_true]at b;simp;omega
   | false=>simp only[cond_false]at b;simp;omega
  refine⟨FC O v h1 hone agQ,?_,by simp;omega,hn,hnt,?_,λh=>absurd h (by simp)⟩
  ·intro u m hm
   cases O with
   | nil=>
     have:=h7 rfl;subst this;simp only[List.nil_append,List.cons.injEq]at hm;rw[←hm.1,vo];rfl
   | cons x O=>
     simp only[List.cons_append,List.cons.injEq]at hm;rw[←hm.1];exact h2 x O rfl
  ·intro u hu
   rw[List.getLast?_concat]at hu;cases hu;refine⟨by omega,?_⟩
   show v.b=(LK l s).t
   rw[vb];rfl
theorem ZH: ∀(S:List Stp) (k:Int) (st:List Un×Sm×Bool),Inv k st→0≤k→k+S.length≤6→S.all Stp.ok=true→Inv (k+S.length) (nN st S)
 | [],k,st,h,_,_,_=>by simpa[nN]using h
 | s::S,k,st,h,h0,hk,hs=>by
   simp only[List.all_cons,cu]at hs;simp only[List.length_cons]at hk;have h1:=Td h h0 (by omega) hs.1;have h2:=ZH S (k+1) _ h1 (by omega) (by omega) hs.2;have:k+((s::S).length:Int)=k+1+(S.length:Int):=by simp only[List.length_cons];omega
   rw[this];exact h2
def Cr.ok(c:Cr):Bool:=AR c.t&&(AR c.x&&(AR c.y&&(c.S.all Stp.ok&&decide (c.S.length≤6))))
def Cr.s0(c:Cr):Sm:=⟨c.t%16,c.x%64,c.y%64⟩
def yc(c:Cr):List Un:=
 let r:=nN ([],c.s0,true) c.S
 bif r.2.2 then r.1++[wh r.2.1]else r.1
def uE(c:Cr):List Un:=mJ (yc c)
theorem ZI{n:Int}{N D:Nat}(h:n.natAbs≤N)(hD:1≤D):yG N D (n:Rat)=true:=rG.2 ⟨h,hD⟩
theorem Te{c:Cr}(h:c.ok=true):Inv c.S.length (nN ([],c.s0,true) c.S):=by
 simp only[Cr.ok,cu,fT]at h;obtain⟨h1,h2,h3,h4,h5⟩:=h;simp only[AR,cu,fT]at h1 h2 h3;have h0:Inv 0 ([],c.s0,true):=by
  refine⟨rfl,λu l h=>by simp at h,by simp,?_,?_,λu hu=>by simp at hu,λ_=>rfl⟩
  ·simp only[yJ,cu,fT];simp only[Cr.s0];omega
  ·simp only[Cr.s0];omega
 have:=ZH c.S 0 _ h0 (by omega) (by omega) h4;simpa using this
theorem Tf{c:Cr}(h:c.ok=true):mI (yc c)=true∧1≤(yc c).length∧(yc c).length≤7:=by
 have hi:=Te h;have h5:c.S.length≤6:=by
  simp only[Cr.ok,cu,fT]at h;exact h.2.2.2.2
 unfold yc;generalize nN ([],c.s0,true) c.S=r at*;obtain⟨O,l,al⟩:=r;obtain⟨h1,h2,h3,h4,h6,h7,h8⟩:=hi;simp only at h1 h2 h3 h4 h6 h7 h8;simp only;cases al with
 | false=>
   simp only[cond_false];have hne:O≠ []:=λe=>by have:=h8 e;cases this
   cases O with
   | nil=>exact absurd rfl hne
   | cons u O=>
     refine⟨?_,by simp,by simp only[List.length_cons]at*;omega⟩;unfold mI;rw[h1]
     show(!u.oa)=true
     rw[h2 u O rfl];rfl
 | true=>
   simp only[cond_true];simp only[yJ,cu,fT]at h4;have hone:ql (wh l)=true:=by
    have z:yG 63 8 0=true:=rG.2 ⟨by decide,by decide⟩;have e1:decide (0≤l.t)=true:=bQ;have e2:decide (l.t≤63)=true:=bQ;have e3:yG 32768 8 (l.x:Rat)=true:=ZI (by omega) (by decide);have e4:yG 32768 8 (l.y:Rat)=true:=ZI (by omega) (by decide);unfold ql wh;simp only[e1,e2,e3,e4,z];simp
   have agQ: ∀u,O.getLast? =some u→mH u (wh l)=true:=by
    intro u hu;obtain⟨a,b⟩:=h7 u hu;simp only[cond_true]at b;unfold mH wh;rw[fZ a];simp only[cond_false,Bool.true_and];exact fZ b
   have hr:=FC O (wh l) h1 hone agQ;refine⟨?_,by simp,by simp;omega⟩;cases O with
   | nil=>
     unfold mI;rw[hr];rfl
   | cons u O=>
     unfold mI;rw[hr]
     show(!u.oa)=true
     rw[h2 u O rfl];rfl
theorem ab3{c:Cr}(h:c.ok=true):RS (uE c)=true∧1≤(uE c).length∧(uE c).length≤7:=by
 obtain⟨h1,h2,h3⟩:=Tf h;have hm:=Kh (yc c);exact⟨VZ h1,hm.2 (λe=>by rw[e]at h2;simp at h2),Nat.le_trans hm.1 h3⟩
abbrev auB:T16→Tr (T16 ⊕ ((Nat×Unit×Bool×Unit)×(List Un×Sm))):=λx=>FB x.1.2.1 x.1.2.2.2.1 x.1.2.2.2.2.1 x.2.1 x.2.2.1 x.2.2.2
theorem agR(c:Cr)(hc:c.S.all Stp.ok=true)(h6:c.S.length≤6)(Q:(Nat×Unit×Bool×Unit)×(List Un×Sm)→Prop): ∀(k i:Nat) (O:List Un) (l:Sm) (al:Bool),i+k=c.S.length→Inv i (O,l,al)→
  Q (((nN (O,l,al) (c.S.drop i)).1.length,(),(nN (O,l,al) (c.S.drop i)).2.2,()),((nN (O,l,al) (c.S.drop i)).1,(nN (O,l,al) (c.S.drop i)).2.1))→
  dJ auB Q (k+1) (((),O.length,(),al,(i:Nat),()),(c,O,l))
 | 0,i,O,l,al,he,hv,hq=>by
   obtain rfl:i=c.S.length:=by omega
   rw[List.drop_length]at hq;exact Xl c O l al _ hq
 | k+1,i,O,l,al,he,hv,hq=>by
   have hl:i<c.S.length:=by omega
   have hlen:(O.length:Int)≤i:=hv.len;have hsm:yJ l=true:=hv.sm;have ht:l.t≤15+8*i:=hv.t;have hu:c.S.getD i st0=c.S[i]:=by simp[dR,hl]
   refine ab2 c O l al i hc hl (by omega) (by omega) hsm ht _ ?_;have hok:(c.S.getD i st0).ok=true:=by rw[hu];exact List.all_eq_true.1 hc _ (List.getElem_mem hl)
   have hv2:=Td hv (by omega) (by omega) hok;rw[List.drop_eq_getElem_cons hl, ←hu]at hq;have hrun:nN (O,l,al) (c.S.getD i st0::c.S.drop (i+1))=nN (mM (O,l,al) (c.S.getD i st0)) (c.S.drop (i+1)):=rfl;rw[hrun]at hq;generalize mM (O,l,al) (c.S.getD i st0)=st at*;obtain⟨O',l',al'⟩:=st;have hv3:Inv ((i+1:Nat):Int) (O',l',al'):=by
    have:((i+1:Nat):Int)=(i:Int)+1:=by omega
    rw[this];exact hv2
   exact agR c hc h6 Q k (i+1) O' l' al' (by omega) hv3 hq
theorem ab4:bF Tryz.prog 0 L16 (codeOf Tryz.f24):=by
 refine bG (d:=λid=>Nat.beq id 0) (λid=>by unfold L16;cases Nat.beq id 0<;>rfl) _ ?_;have hb:bU (λid=>Nat.beq id 0) (codeOf Tryz.f24)=[(0,.loop (bn 0 (codeOf Tryz.f24)))]:=by kernel_rfl
 rw[hb];intro p hp g hg;simp only[List.mem_singleton]at hp;subst hp;have hh:L16 0=some ((Tc).g 0):=rfl;rw[hh]at hg;obtain rfl:g=(Tc).g 0:=(Option.some.inj hg).symm;refine aZ.sU (N:=1010) aj (l7 aj ZF 1) (L:=bX) (ak 0 _) abZ (λx=>ab0 x) ?_;rintro⟨⟨⟨⟩,m,⟨⟩,al,i,⟨⟩⟩,c,O,l⟩ hx;have hx:Ny (((),m,(),al,i,()),(c,O,l))=true:=hx;simp only[Ny,cu,fT]at hx;have h1:m=0:=hx.1;have h2:O.length=0:=hx.2.1;have h3:al=true:=hx.2.2.1;have h4:i=0:=hx.2.2.2.1;have h5:yJ l=true:=hx.2.2.2.2.1;have h6:l.t≤15:=hx.2.2.2.2.2.1;have h7:c.S.all Stp.ok=true:=hx.2.2.2.2.2.2.1;have h8:c.S.length≤6:=hx.2.2.2.2.2.2.2;clear hx;have h9:O=[]:=List.eq_nil_of_length_eq_zero h2;subst h1 h3 h4 h9;have hv:Inv ((0:Nat):Int) ([],l,true):=⟨rfl,λu l h=>by simp at h,by simp,h5,by simpa using h6,λu hu=>by simp at hu,λ_=>rfl⟩
 exact⟨_,agR c h7 h8 (· =Tc.res (((),0,(),true,0,()),(c,[],l))) c.S.length 0 [] l true (by omega) hv rfl⟩
theorem amJ(c:Cr)(h:c.ok=true):(M16 c).sat λr=>r=GZ (uE c):=by
 obtain⟨hr,hl1,hl2⟩:=Tf h;have hi:=Te h;have h2:=h;simp only[Cr.ok,cu,fT]at h2;obtain⟨a1,a2,a3,hS,hS6⟩:=h2;simp only[AR,cu,fT]at a1 a2 a3;have tT:IntKind.i64.wrap (c.t.tmod 16)=c.t%16:=by rw[Int.tmod_eq_emod_of_nonneg a1.1,wrap_i64 (by omega)]
 have tX:IntKind.i64.wrap (c.x.tmod 64)=c.x%64:=by rw[Int.tmod_eq_emod_of_nonneg a2.1,wrap_i64 (by omega)]
 have tY:IntKind.i64.wrap (c.y.tmod 64)=c.y%64:=by rw[Int.tmod_eq_emod_of_nonneg a3.1,wrap_i64 (by omega)]
 have r3: ∀z:Int,0≤z→z≤1000→decide (-9223372036854775808≤z)=true:=λz h k=>bQ
 have r4: ∀z:Int,0≤z→z≤1000→decide (z≤9223372036854775807)=true:=λz h k=>bQ
 have b1:=r3 (c.t%16) (by omega) (by omega);have b2:=r4 (c.t%16) (by omega) (by omega);have b3:=r3 (c.x%64) (by omega) (by omega);have b4:=r4 (c.x%64) (by omega) (by omega);have b5:=r3 (c.y%64) (by omega) (by omega);have b6:=r4 (c.y%64) (by omega) (by omega);have e0:cB 0 (λ_=>([]:List IV))=[]:=rfl;have hcs:(⟨c.t%16,c.x%64,c.y%64⟩:Sm)=c.s0:=rfl;have hcr:(⟨c.t,c.x,c.y,c.S⟩:Cr)=c:=rfl;have hp:Ny (((),0,(),true,0,()),(c,[],c.s0))=true:=by
  have hs:yJ c.s0=true:=by simp only[yJ,cu,fT];simp only[Cr.s0];omega
  have ht:decide (c.s0.t≤15)=true:=fZ (by simp only[Cr.s0];omega);simp only[Ny,hs,ht,hS,decide_true,Bool.true_and,List.length_nil,fZ hS6]
 simp only[M16,tT,tX,tY,ZG,b1,b2,b3,b4,b5,b6,e0];simp only[↓xZ,qR,oC,wU,qU hS,hcs,hcr,hp,sat_true];have hdef:yc c=bif (nN ([],c.s0,true) c.S).2.2 then(nN ([],c.s0,true) c.S).1++[wh (nN ([],c.s0,true) c.S).2.1]else(nN ([],c.s0,true) c.S).1:=rfl
 unfold uE;generalize nN ([],c.s0,true) c.S=r at*;obtain⟨O,l,al⟩:=r;have hlen:(O.length:Int)≤c.S.length:=hi.len;have d1:decide (O.length+1≤9223372036854775807)=true:=bQ;have d2:decide ((O.length+1)*408≤140737488355328)=true:=bQ;cases al with
 | true=>
   simp only[cond_true]at hdef;rw[hdef]at hr hl1 hl2⊢;have c1:decide (1≤(O++[wh l]).length)=true:=fZ hl1;have c2:decide ((O++[wh l]).length≤19)=true:=bQ;have hle:(⟨l.t,l.x,l.y⟩:Sm)=l:=rfl;simp only[↓fC, ↓fD, ↓fE, ↓fF,iA,iB,dY,dZ,d9,eu,dw,bY,dG,dh,fB,dS,bD,bE,dQ,bT,sat_true,iG,gF,kC,jq,eT,eU,Bool.and_true,eq_self,decide_true,Nat.le_refl,ab1,hle,hr,c1,c2,d1,d2]
   repeat first
    | refine ah rfl ?_
    | refine au (λh=>Bool.noConfusion h) (λ_=> ?_)
    | refine au (λ_=> ?_) (λh=>Bool.noConfusion h)
   exact av rfl
 | false=>
   simp only[cond_false]at hdef;rw[hdef]at hr hl1 hl2⊢;have c1:decide (1≤O.length)=true:=fZ hl1;have c2:decide (O.length≤19)=true:=bQ;simp only[↓fC, ↓fD, ↓fE, ↓fF,iA,iB,dY,dZ,d9,eu,dw,bY,dG,dh,fB,dS,bD,bE,dQ,bT,sat_true,iG,gF,kC,jq,eT,eU,Bool.and_true,eq_self,decide_true,Nat.le_refl,hr,c1,c2]
   repeat first
    | refine ah rfl ?_
    | refine au (λh=>Bool.noConfusion h) (λ_=> ?_)
    | refine au (λ_=> ?_) (λh=>Bool.noConfusion h)
   exact av rfl
def K16:List AV→Option (AV×List Bool):=(F1 aoa).K (λx=>GZ (uE x.1)) λx=> [x.1.ok]
theorem arR:aN Tryz.prog 24 K16:=
 (F1 aoa).dO (N:=1010) (L:=L16) aj (l7 aj ZF 1) (fn:=Tryz.f24) (c:=codeOf Tryz.f24) (by kernel_rfl) (by kernel_rfl) (by kernel_rfl) ab4 (λ_=>rfl) (M:=λx=>M16 x.1) (λx=>arQ x.1)
  λx h=>amJ x.1 (h _ (by simp))
end Go.bI
namespace Go.bI
open Go.Proofs
theorem kH{α:Type}{t:Tr α}{Q:α→Prop}(h:t.sat Q):(Tr.need true t).sat Q:=ah rfl h
theorem KS{α:Type}{a b:Tr α}{Q:α→Prop}(h:a.sat Q):(Tr.ite true a b).sat Q:=au (λ_=>h) (λh=>Bool.noConfusion h)
theorem PW{α:Type}{a b:Tr α}{Q:α→Prop}(h:b.sat Q):(Tr.ite false a b).sat Q:=au (λh=>Bool.noConfusion h) (λ_=>h)
structure Cw where
 t:Int
 x:Int
 y:Int
 m:Nat
 e:Nat→List IV
def FD:Cw:=⟨0,0,0,0,λ_=> []⟩
def arS(c:Cw):List IV:=[.v (.int .u8 c.t),.v (.int .u8 c.x),.v (.int .u8 c.y),.sl c.m 4 c.e]
def cwV(l:List IV):Cw:=match l with | [.v (.int .u8 t),.v (.int .u8 x),.v (.int .u8 y),.sl m 4 e]=>⟨t,x,y,m,e⟩ | _=>FD
def cwI(l:List IV):Bool:=match l with | [.v (.int .u8 _),.v (.int .u8 _),.v (.int .u8 _),.sl _ 4 _]=>true | _=>false
theorem arT{l:List IV}(h:cwI l=true):l=arS (cwV l):=by
 unfold cwI at h
 split at h
 ·rfl
 ·cases h
def rR(C:List Cw):Nat→List IV:=λk=>arS (C.getD k FD)
def og(n:Nat)(el:Nat→List IV):List Cw:=(List.range n).map λk=>cwV (el k)
def Hf(n:Nat)(el:Nat→List IV):Bool:=(List.range n).all λk=>cwI (el k)
theorem FE(n:Nat)(el:Nat→List IV):(og n el).length=n:=by simp[og]
theorem PZ{n:Nat}{el:Nat→List IV}(h:Hf n el=true): ∀k,k<n→el k=rR (og n el) k:=λk hk=>by
 have h1:=arT (List.all_eq_true.1 h k (List.mem_range.2 hk));have e:(og n el).getD k FD=cwV (el k):=by simp[og,dR,hk]
 unfold rR;rw[e];exact h1
theorem mO(C:List Cw):og C.length (rR C)=C:=by
 apply List.ext_getElem
 ·simp[og]
 ·intro i h1 h2
  simp[og,rR,arS,cwV,dR,h2]
theorem mP(C:List Cw):Hf C.length (rR C)=true:=List.all_eq_true.2 λk _=>rfl
def Cw.ok(c:Cw):Bool:=AR c.t&&(AR c.x&&(AR c.y&&zD c.m c.e))
def Cw.cr(c:Cw):Cr:=⟨c.t,c.x,c.y,nM c.m c.e⟩
theorem Cw.aob{c:Cw}(h:c.ok=true)(h6:c.m≤6):c.cr.ok=true:=by
 simp only[Cw.ok,cu]at h;obtain⟨h1,h2,h3,h4⟩:=h
 show(AR c.t&&(AR c.x&&(AR c.y&&((nM c.m c.e).all Stp.ok&&decide ((nM c.m c.e).length≤6)))))=true
 rw[h1,h2,h3,(KR h4).2,Fz,fZ h6];rfl
structure Ob where
 i:Int
 m:Nat
 e:Nat→List IV
def iT:Ob:=⟨0,0,λ_=> []⟩
def agS(o:Ob):List IV:=[.v (.int .i64 o.i),.sl o.m 36 o.e]
def obV(l:List IV):Ob:=match l with | [.v (.int .i64 i),.sl m 36 e]=>⟨i,m,e⟩ | _=>iT
def obI(l:List IV):Bool:=match l with | [.v (.int .i64 _),.sl _ 36 _]=>true | _=>false
theorem arU{l:List IV}(h:obI l=true):l=agS (obV l):=by
 unfold obI at h
 split at h
 ·rfl
 ·cases h
def zF(O:List Ob):Nat→List IV:=λk=>agS (O.getD k iT)
def su(n:Nat)(el:Nat→List IV):List Ob:=(List.range n).map λk=>obV (el k)
def P5(n:Nat)(el:Nat→List IV):Bool:=(List.range n).all λk=>obI (el k)
theorem ab5(n:Nat)(el:Nat→List IV):(su n el).length=n:=by simp[su]
theorem amK{n:Nat}{el:Nat→List IV}(h:P5 n el=true): ∀k,k<n→el k=zF (su n el) k:=λk hk=>by
 have h1:=arU (List.all_eq_true.1 h k (List.mem_range.2 hk));have e:(su n el).getD k iT=obV (el k):=by simp[su,dR,hk]
 unfold zF;rw[e];exact h1
theorem Tg(O:List Ob):su O.length (zF O)=O:=by
 apply List.ext_getElem
 ·simp[su]
 ·intro i h1 h2
  simp[su,zF,agS,obV,dR,h2]
theorem Ti(O:List Ob):P5 O.length (zF O)=true:=List.all_eq_true.2 λk _=>rfl
theorem Xm(m:Nat)(el e:Nat→List IV):su (m+1) (bN m el e)=su m el++[obV (e 0)]:=by
 unfold su;rw[List.range_succ,List.map_append]
 congr 1
 ·refine List.map_congr_left λk hk=> ?_
  have hk:=List.mem_range.1 hk;unfold bN;rw[if_pos hk]
 ·simp only[List.map_cons,List.map_nil,bN,Nat.lt_irrefl,if_false,Nat.sub_self]
theorem ab6(m:Nat)(el e:Nat→List IV):P5 (m+1) (bN m el e)=(P5 m el&&obI (e 0)):=by
 unfold P5;rw[List.range_succ,List.all_append]
 congr 1
 ·have: ∀l:List Nat,(∀k∈l,k<m)→(l.all λk=>obI (bN m el e k))=l.all λk=>obI (el k):=by
   intro l hl
   induction l with
   | nil=>rfl
   | cons x l ih=>
     simp only[List.all_cons];rw[ih λk hk=>hl k (by simp[hk])]
     congr 2
     unfold bN;rw[if_pos (hl x (by simp))]
  exact this _ λk hk=>List.mem_range.1 hk
 ·simp only[List.all_cons,List.all_nil,Bool.and_true,bN,Nat.lt_irrefl,if_false,Nat.sub_self]
abbrev Fl:=List Cw×Nat×Nat×(Nat→List IV)
def nH(x:Fl):List AV:=[.c (.sl x.1.length 4 (rR x.1)),.c (.sl x.2.1 x.2.2.1 x.2.2.2)]
def Nz:Arg Fl where
 get:=λa=>match a with | .agg [.c (.sl n 4 el),.c (.sl a z e)]=>some ((og n el,a,z,e),[Hf n el]) | _=>none
 put:=λx=> .agg (nH x)
 ok:=by
  intro a x cs h hc
  split at h
  ·rename_i n el b z e
   simp only[fK,Prod.mk.injEq]at h;obtain⟨rfl,rfl⟩:=h;have h1:=PZ (n:=n) (el:=el) (hc _ (by simp));unfold nH;simp only[FE];exact bM.agg (.cons (bM.sl h1) (.cons (bM.refl _) .nil))
  ·cases h
def eFl:nJ Fl where
 parse:=λe=>match e with | [some (.cells [.c (.sl n 4 el),.c (.sl a z e')] 49)]=>some ((og n el,a,z,e'),[Hf n el]) | _=>none
 ents:=λx=> [some (.cells (nH x) 49)]
 ok:=by
  intro e x cs h hc
  split at h
  ·rename_i n el b z e'
   simp only[fK,Prod.mk.injEq]at h;obtain⟨rfl,rfl⟩:=h;have h1:=PZ (n:=n) (el:=el) (hc _ (by simp));unfold nH;simp only[FE];exact .cons (.cells _ _ _ (.cons (bM.sl h1) (.cons (bM.refl _) .nil))) .nil
  ·cases h
def arV(O:List Ob):AV:= .c (.sl O.length 2 (zF O))
def aoc(b:Nat):Arg Nat where
 get:=λa=>match a with | .iP b' n 2=>bif Nat.beq b b' then some (n,[])else none | _=>none
 put:=λn=> .iP b n 2
 ok:=by
  intro a x cs h hc
  split at h
  ·rename_i b' n
   cases hb:Nat.beq b b' with
   | false=>rw[hb]at h;cases h
   | true=>
     obtain rfl:b=b':=by simpa using hb
     rw[hb]at h;simp only[cond_true,fK,Prod.mk.injEq]at h;obtain⟨rfl,rfl⟩:=h;exact bM.refl _
  ·cases h
def eFO:nJ (Fl×List Ob) where
 parse:=λe=>match e with | [some (.cells [.c (.sl n 4 el),.c (.sl a z e')] 49),some (.arr m 2 eo 60)]=>some (((og n el,a,z,e'),su m eo),[Hf n el,P5 m eo]) | _=>none
 ents:=λx=> [some (.cells (nH x.1) 49),some (.arr x.2.length 2 (zF x.2) 60)]
 ok:=by
  intro e x cs h hc
  split at h
  ·rename_i n el b z e' m eo
   simp only[fK,Prod.mk.injEq]at h;obtain⟨rfl,rfl⟩:=h;have h1:=PZ (n:=n) (el:=el) (hc (Hf n el) (by simp));have h2:=amK (n:=m) (el:=eo) (hc (P5 m eo) (by simp));unfold nH;simp only[FE,ab5];exact .cons (.cells _ _ _ (.cons (bM.sl h1) (.cons (bM.refl _) .nil))) (.cons (.arr _ _ _ _ _ h2) .nil)
  ·cases h
def Xn(k:Nat)(c:Cw):Ob:=⟨(k:Int)+1,(uE c.cr).length,bZ (uE c.cr)⟩
def rT:Nat→List Cw→List Ob
 | _,[]=> []
 | k,c::l=>Xn k c::rT (k+1) l
theorem Av: ∀(l:List Cw) (k:Nat),(rT k l).length=l.length
 | [],_=>rfl
 | c::l,k=>by simp only[rT,List.length_cons,Av l]
def yg(C:List Cw):Bool:=C.all λc=>decide (c.m≤6)
def FH(x:Fl):Bool:=yg x.1&&(decide (x.1.length≤4)&&decide (x.2.1≤2))
end Go.bI
set_option maxHeartbeats 4000000
namespace Go.bI
open Go.Proofs
def Γ6:FuncId→Option Spec:=λf=>bif Nat.beq f 24 then some (ay K16)else none
theorem aod: ∀f s,Γ6 f=some s→aR Tryz.prog f s:=bS arR.spec
abbrev T5:=(Unit×Bool×Int×Unit)×Fl
abbrev F5:Form (Unit×Bool×Int×Unit):= .cons (ou 0 0) (.cons Io (.cons bK .nil))
abbrev G5:Form (Unit×Bool×Unit):= .cons (ou 0 0) (.cons Io .nil)
def ab7(x:T5):Bool:= !x.1.2.1&&(decide (x.1.2.2.1=0)&&decide (x.2.1.length≤9223372036854775807))
def lp5:aZ T5 (Bool×((Unit×Bool×Unit)×Fl)):=lpR {nt:=29,live:=[1,2,3]} {nt:=29,live:=[1,2]} (fJ.with eFl F5) (fJ.with eFl G5) (λx=>(!yg x.2.1,(((),false,()),x.2))) ab7
theorem agT:lp5.gI:=JY _ _ _ _ _ _
def L5:Nat→Option (St→Tr (Ex×St)):=λid=>bif Nat.beq id 0 then some (lp5.g 0)else none
abbrev T6:=(Unit×Nat×Int×Unit)×(Fl×List Ob)
abbrev F6:Form (Unit×Nat×Int×Unit):= .cons (ou 0 0) (.cons (aoc 1) (.cons bK .nil))
def pre6(x:T6):Bool:=decide (x.1.2.1=0)&&(decide (x.1.2.2.1=0)&&(decide (x.2.2.length=0)&&(x.2.1.1.all Cw.ok&&(yg x.2.1.1&&decide (x.2.1.1.length≤4)))))
def avQ(x:T6):(Unit×Nat×Unit)×(Fl×List Ob):=(((),x.2.1.1.length,()),(x.2.1,rT 0 x.2.1.1))
abbrev G6:Form (Unit×Nat×Unit):= .cons (ou 0 0) (.cons (aoc 1) .nil)
def lp6:aZ T6 ((Unit×Nat×Unit)×(Fl×List Ob)):=yA {nt:=29,live:=[1,3,4],lifts:=[(3,2,60)]} {nt:=29,live:=[1,3],lifts:=[(3,2,60)]} (fJ.with eFO F6) (fJ.with eFO G6) avQ pre6
theorem agU:lp6.gI:=eG _ _ _ _ _ _
def L6:Nat→Option (St→Tr (Ex×St)):=λid=>bif Nat.beq id 0 then some (lp6.g 0)else none
def GA(b:Bool)(i:Int)(C:List Cw)(a:Nat)(z:Nat)(e:Nat→List IV):Tr (T5 ⊕ Bool×(Unit×Bool×Unit)×Fl):=
 let x1:Int:= ↑C.length
 let x2:Int:= ↑(C.getD i.toNat FD).m
 let x3:Bool:=Hf C.length (rR C)
 .ite (decide (i<x1)) (.need (decide (0≤i∧i<x1)) (.ite (decide (x2>6)) (.need x3 (.ret (Sum.inr (true,((),false,()),og C.length (rR C),a,z,e)))) (.need x3 (.ret (Sum.inl (((),b,IntKind.i64.wrap (i+1),()),og C.length (rR C),a,z,e)))))) (.need x3 (.ret (Sum.inr (false,((),b,()),og C.length (rR C),a,z,e))))
def M5(C:List Cw)(a:Nat)(z:Nat)(e:Nat→List IV):Tr AV:=
 let x1:List Cw:=og C.length (rR C)
 let x2:Int:= ↑x1.length
 let x3:Bool:=decide (x2≤4)
 let x4:Int:= ↑a
 .need (Hf C.length (rR C)) (.need (ab7 (((),false,0,()),x1,a,z,e)) (.ite (!yg x1) (.ret (.c (.v (.bool false)))) (.need (bif x3 then true else true) (.ret (.c (.v (.bool (bif x3 then bif true then decide (x4≤2)else false else false))))))))
def NA(m:Nat)(i:Int)(C:List Cw)(a:Nat)(z:Nat)(e:Nat→List IV)(O:List Ob):Tr (T6 ⊕ (Unit×Nat×Unit)×Fl×List Ob):=
 let x1:Int:= ↑C.length
 let x2:Bool:=decide (i<x1)
 let x3:Nat:=m+1
 let x4:Nat:=x3*32
 let x5:Bool:=Hf C.length (rR C)
 let x6:Nat:=1+1
 let x7:List Un:=uE (C.getD i.toNat FD).cr
 let x8:Int:=IntKind.i64.wrap (i+1)
 .need (bif x2 then true else true) (.ite (bif x2 then bif true then decide (i<4)else false else false) (.need (decide (0≤i∧i<x1)) (.need (zD (C.getD i.toNat FD).m (C.getD i.toNat FD).e) (.need (C.getD i.toNat FD).cr.ok (.need (decide (m≤O.length)) (.need true (.need (decide (x3≤9223372036854775807)) (.need (decide (x4≤140737488355328)) (.need x5 (.need (P5 x3 (bN m (zF O) λk=>List.take x6 (List.drop (k*x6) [IV.sl x7.length 36 (bZ x7),IV.v (.int IntKind.i64 x8)].reverse))) (.ret (Sum.inl (((),x3,x8,()),(og C.length (rR C),a,z,e),su x3 (bN m (zF O) λk=>List.take x6 (List.drop (k*x6) [IV.sl x7.length 36 (bZ x7),IV.v (.int IntKind.i64 x8)].reverse)))))))))))))) (.need x5 (.need (P5 O.length (zF O)) (.ret (Sum.inr (((),m,()),(og C.length (rR C),a,z,e),su O.length (zF O)))))))
def M6(C:List Cw)(a:Nat)(z:Nat)(e:Nat→List IV):Tr AV:=
 let x1:List Cw:=og C.length (rR C)
 let x2:Nat:=x1.length
 let x3:List Ob:=rT 0 x1
 let x4:Nat:=x3.length
 .need (Hf C.length (rR C)) (.need true (.need (pre6 (((),0,0,()),(x1,a,z,e),su 0 λx=> [])) (.need (decide (x2≤x4)) (.ret (AV.c (IV.sl x2 2 (zF x3)))))))
theorem agV(x:T5):(exec Tryz.prog (λ_=>none) bX 1010 (bn 0 (codeOf Tryz.f11)) (iQ lp5.nIn (lp5.head x))).bind (lp5.fin 0 0)=GA x.1.2.1 x.1.2.2.1 x.2.1 x.2.2.1 x.2.2.2.1 x.2.2.2.2:=by
 obtain⟨⟨⟨⟩,b,i,⟨⟩⟩,C,a,z,e⟩:=x
 kernel_rfl
theorem agW(x:T6):(exec Tryz.prog Γ6 bX 1010 (bn 0 (codeOf Tryz.f12)) (iQ lp6.nIn (lp6.head x))).bind (lp6.fin 0 0)=NA x.1.2.1 x.1.2.2.1 x.2.1.1 x.2.1.2.1 x.2.1.2.2.1 x.2.1.2.2.2 x.2.2:=by
 obtain⟨⟨⟨⟩,m,i,⟨⟩⟩,⟨C,a,z,e⟩,O⟩:=x
 kernel_rfl
theorem auC(C:List Cw)(a z:Nat)(e:Nat→List IV):aI Tryz.prog (λ_=>none) L5 1010 Tryz.f11 [.agg (nH (C,a,z,e))]=M5 C a z e:=by kernel_rfl
theorem auD(C:List Cw)(a z:Nat)(e:Nat→List IV):aI Tryz.prog Γ6 L6 1010 Tryz.f12 [.agg (nH (C,a,z,e))]=M6 C a z e:=by kernel_rfl
theorem agX(C:List Cw)(a z:Nat)(e:Nat→List IV)(i:Nat)(hi:i<C.length)(hn:C.length≤9223372036854775807)(h6:(C.getD i FD).m≤6)(Q:T5 ⊕ Bool×(Unit×Bool×Unit)×Fl→Prop)(hq:Q (.inl (((),false,((i+1:Nat):Int),()),(C,a,z,e)))):(GA false (i:Nat) C a z e).sat Q:=by
 have hw1:IntKind.i64.wrap ((i:Int)+1)=((i+1:Nat):Int):=jR;have c1:decide ((0:Int)≤(i:Int)∧(i:Int)<(C.length:Int))=true:=bQ;have c2:decide ((i:Int)<(C.length:Int))=true:=bQ;have c3:decide (((C.getD i FD).m:Int)>6)=false:=jK (by omega);simp only[GA,Int.toNat_natCast,c1,c2,c3,hw1,mP,mO];exact KS (kH (PW (kH (av hq))))
theorem ab8(C:List Cw)(a z:Nat)(e:Nat→List IV)(i:Nat)(hi:i<C.length)(h6: ¬(C.getD i FD).m≤6)(Q:T5 ⊕ Bool×(Unit×Bool×Unit)×Fl→Prop)(hq:Q (.inr (true,((),false,()),(C,a,z,e)))):(GA false (i:Nat) C a z e).sat Q:=by
 have c1:decide ((0:Int)≤(i:Int)∧(i:Int)<(C.length:Int))=true:=bQ;have c2:decide ((i:Int)<(C.length:Int))=true:=bQ;have c3:decide (((C.getD i FD).m:Int)>6)=true:=bQ;simp only[GA,Int.toNat_natCast,c1,c2,c3,mP,mO];exact KS (kH (KS (kH (av hq))))
theorem ab9(C:List Cw)(a z:Nat)(e:Nat→List IV)(Q:T5 ⊕ Bool×(Unit×Bool×Unit)×Fl→Prop)(hq:Q (.inr (false,((),false,()),(C,a,z,e)))):(GA false (C.length:Nat) C a z e).sat Q:=by
 have c2:decide (((C.length:Nat):Int)<(C.length:Int))=false:=jK (by omega);simp only[GA,c2,mP,mO];exact PW (kH (av hq))
theorem aoe(C:List Cw)(a z:Nat)(e:Nat→List IV)(hn:C.length≤9223372036854775807)(Q:Bool×(Unit×Bool×Unit)×Fl→Prop): ∀(k i:Nat),i+k=C.length→Q (!yg (C.drop i),((),false,()),(C,a,z,e))→
  dJ (λx:T5=>GA x.1.2.1 x.1.2.2.1 x.2.1 x.2.2.1 x.2.2.2.1 x.2.2.2.2) Q (k+1) (((),false,(i:Nat),()),(C,a,z,e))
 | 0,i,he,hq=>by
   obtain rfl:i=C.length:=by omega
   rw[List.drop_length]at hq;exact ab9 C a z e _ hq
 | k+1,i,he,hq=>by
   have hi:i<C.length:=by omega
   have hu:C.getD i FD=C[i]:=by simp[dR,hi]
   rw[List.drop_eq_getElem_cons hi, ←hu]at hq;by_cases h6:(C.getD i FD).m≤6
   ·have e1:yg (C.getD i FD::C.drop (i+1))=yg (C.drop (i+1)):=by
     unfold yg;rw[List.all_cons,fZ h6,Bool.true_and]
    rw[e1]at hq;exact agX C a z e i hi hn h6 _ (aoe C a z e hn Q k (i+1) (by omega) hq)
   ·have e1:yg (C.getD i FD::C.drop (i+1))=false:=by
     unfold yg;rw[List.all_cons,jK h6,Bool.false_and]
    rw[e1]at hq;exact ab8 C a z e i hi h6 _ hq
theorem agY:bF Tryz.prog 0 L5 (codeOf Tryz.f11):=by
 refine bG (d:=λid=>Nat.beq id 0) (λid=>by unfold L5;cases Nat.beq id 0<;>rfl) _ ?_;have hb:bU (λid=>Nat.beq id 0) (codeOf Tryz.f11)=[(0,.loop (bn 0 (codeOf Tryz.f11)))]:=by kernel_rfl
 rw[hb];intro p hp g hg;simp only[List.mem_singleton]at hp;subst hp;have hh:L5 0=some ((lp5).g 0):=rfl;rw[hh]at hg;obtain rfl:g=(lp5).g 0:=(Option.some.inj hg).symm;refine aZ.sU (N:=1010) aj eP (L:=bX) (ak 0 _) agT (λx=>agV x) ?_;rintro⟨⟨⟨⟩,b,i,⟨⟩⟩,C,a,z,e⟩ hx;have hx:ab7 (((),b,i,()),(C,a,z,e))=true:=hx;simp only[ab7,cu,Bool.not_eq_true',fT]at hx;obtain⟨h1,h2,h3⟩:=hx;subst h1 h2;exact⟨_,aoe C a z e h3 (· =(!yg C,(((),false,()),(C,a,z,e)))) C.length 0 (by omega) rfl⟩
theorem arW(C:List Cw)(a z:Nat)(e:Nat→List IV)(hn:C.length≤9223372036854775807):(M5 C a z e).sat λr=>r=bL (FH (C,a,z,e)):=by
 have hp:ab7 (((),false,0,()),(C,a,z,e))=true:=by
  simp only[ab7,decide_true,Bool.not_false,Bool.true_and,fZ hn]
 have e2:decide (((C.length:Nat):Int)≤4)=decide (C.length≤4):=by
  by_cases h:C.length≤4
  ·rw[fZ h,bQ]
  ·rw[jK h,jK (by omega)]
 have e3:decide (((a:Nat):Int)≤2)=decide (a≤2):=by
  by_cases h:a≤2
  ·rw[fZ h,bQ]
  ·rw[jK h,jK (by omega)]
 simp only[M5,mO,mP,hp,e2,e3];unfold FH;refine kH (kH ?_);cases yg C with
 | false=>exact KS (av rfl)
 | true=>
   refine PW ?_;cases decide (C.length≤4)with
   | false=>exact ah rfl (av rfl)
   | true=>
     refine ah rfl (av ?_);cases decide (a≤2)<;>rfl
def K5:List AV→Option (AV×List Bool):=(F1 Nz).K (λx=>bL (FH x.1)) λx=> [decide (x.1.1.length≤9223372036854775807)]
theorem auE:aN Tryz.prog 11 K5:=
 (F1 Nz).dO (N:=1010) (L:=L5) aj eP (fn:=Tryz.f11) (c:=codeOf Tryz.f11) (by kernel_rfl) (by kernel_rfl) (by kernel_rfl) agY (λ_=>rfl) (M:=λx=>M5 x.1.1 x.1.2.1 x.1.2.2.1 x.1.2.2.2) (λx=>auC x.1.1 x.1.2.1 x.1.2.2.1 x.1.2.2.2)
  λx h=>arW x.1.1 x.1.2.1 x.1.2.2.1 x.1.2.2.2 (dec (h (decide (x.1.1.length≤9223372036854775807)) (by simp)))
theorem amL(i:Int)(U:List Un):obV (List.take (1+1) (List.drop (0*(1+1)) [IV.sl U.length 36 (bZ U),IV.v (.int IntKind.i64 i)].reverse))=⟨i,U.length,bZ U⟩:=rfl
theorem amM(i:Int)(U:List Un):obI (List.take (1+1) (List.drop (0*(1+1)) [IV.sl U.length 36 (bZ U),IV.v (.int IntKind.i64 i)].reverse))=true:=rfl
theorem agZ(C:List Cw)(a z:Nat)(e:Nat→List IV)(O:List Ob)(i:Nat)(hi:i<C.length)(hn:C.length≤4)(hO:O.length=i)(hc:(C.getD i FD).ok=true)(h6:(C.getD i FD).m≤6)(Q:T6 ⊕ (Unit×Nat×Unit)×Fl×List Ob→Prop)
  (hq:Q (.inl (((),(O++[Xn i (C.getD i FD)]).length,((i+1:Nat):Int),()),((C,a,z,e),O++[Xn i (C.getD i FD)])))):(NA O.length (i:Nat) C a z e O).sat Q:=by
 have hw1:IntKind.i64.wrap ((i:Int)+1)=((i+1:Nat):Int):=jR;have c1:decide ((0:Int)≤(i:Int)∧(i:Int)<(C.length:Int))=true:=bQ;have c2:decide ((i:Int)<(C.length:Int))=true:=bQ;have c3:decide ((i:Int)<4)=true:=bQ;have d1:decide (O.length+1≤9223372036854775807)=true:=bQ;have d2:decide ((O.length+1)*32≤140737488355328)=true:=bQ;have hok:=Cw.aob hc h6;have hst:zD (C.getD i FD).m (C.getD i FD).e=true:=by
  simp only[Cw.ok,cu]at hc;exact hc.2.2.2
 have hl:(O++[Xn i (C.getD i FD)]).length=O.length+1:=by simp
 rw[hl]at hq;simp only[NA,Int.toNat_natCast,c1,c2,c3,d1,d2,hok,hst,hw1,mO,mP,Xm,ab6,Tg,Ti,amL,amM,cond_true,Bool.and_self,Nat.le_refl,decide_true]
 repeat first
  | with_reducible refine kH ?_
  | with_reducible refine KS ?_
 refine av ?_;exact hq
theorem acd(C:List Cw)(a z:Nat)(e:Nat→List IV)(O:List Ob)(Q:T6 ⊕ (Unit×Nat×Unit)×Fl×List Ob→Prop)(hq:Q (.inr (((),O.length,()),((C,a,z,e),O)))):(NA O.length (C.length:Nat) C a z e O).sat Q:=by
 have c2:decide (((C.length:Nat):Int)<(C.length:Int))=false:=jK (by omega);simp only[NA,c2,mO,mP,Tg,Ti,cond_false];exact kH (PW (kH (kH (av hq))))
theorem aof(C:List Cw)(a z:Nat)(e:Nat→List IV)(hn:C.length≤4)(hc:C.all Cw.ok=true)(h6:yg C=true)(Q:(Unit×Nat×Unit)×Fl×List Ob→Prop): ∀(k i:Nat) (O:List Ob),i+k=C.length→O.length=i→Q (((),C.length,()),((C,a,z,e),O++rT i (C.drop i)))→
  dJ (λx:T6=>NA x.1.2.1 x.1.2.2.1 x.2.1.1 x.2.1.2.1 x.2.1.2.2.1 x.2.1.2.2.2 x.2.2) Q (k+1) (((),O.length,(i:Nat),()),((C,a,z,e),O))
 | 0,i,O,he,hO,hq=>by
   obtain rfl:i=C.length:=by omega
   rw[List.drop_length]at hq;simp only[rT,List.append_nil]at hq;rw[←hO]at hq;exact acd C a z e O _ hq
 | k+1,i,O,he,hO,hq=>by
   have hi:i<C.length:=by omega
   have hu:C.getD i FD=C[i]:=by simp[dR,hi]
   rw[List.drop_eq_getElem_cons hi, ←hu]at hq;have hm:C.getD i FD∈C:=by rw[hu];exact List.getElem_mem hi
   refine agZ C a z e O i hi hn hO (List.all_eq_true.1 hc _ hm) (dec (List.all_eq_true.1 h6 _ hm)) _ ?_;refine aof C a z e hn hc h6 Q k (i+1) (O++[Xn i (C.getD i FD)]) (by omega) (by simp;omega) ?_;rw[List.append_assoc];exact hq
theorem ag0:bF Tryz.prog 0 L6 (codeOf Tryz.f12):=by
 refine bG (d:=λid=>Nat.beq id 0) (λid=>by unfold L6;cases Nat.beq id 0<;>rfl) _ ?_;have hb:bU (λid=>Nat.beq id 0) (codeOf Tryz.f12)=[(0,.loop (bn 0 (codeOf Tryz.f12)))]:=by kernel_rfl
 rw[hb];intro p hp g hg;simp only[List.mem_singleton]at hp;subst hp;have hh:L6 0=some ((lp6).g 0):=rfl;rw[hh]at hg;obtain rfl:g=(lp6).g 0:=(Option.some.inj hg).symm;refine aZ.sU (N:=1010) aj aod (L:=bX) (ak 0 _) agU (λx=>agW x) ?_;rintro⟨⟨⟨⟩,m,i,⟨⟩⟩,⟨C,a,z,e⟩,O⟩ hx;have hx:pre6 (((),m,i,()),((C,a,z,e),O))=true:=hx;simp only[pre6,cu,fT]at hx;obtain⟨h1,h2,h3,h4,h5,h6⟩:=hx;obtain rfl:O=[]:=List.length_eq_zero_iff.1 h3;subst h1 h2;exact⟨_,aof C a z e h6 h4 h5 (· =(((),C.length,()),((C,a,z,e),rT 0 C))) C.length 0 [] (by omega) rfl rfl⟩
theorem arX(C:List Cw)(a z:Nat)(e:Nat→List IV)(hc:C.all Cw.ok=true)(h6:yg C=true)(hn:C.length≤4):(M6 C a z e).sat λr=>r=arV (rT 0 C):=by
 have e0:su 0 (λ_=>([]:List IV))=[]:=rfl;have hp:pre6 (((),0,0,()),((C,a,z,e),[]))=true:=by
  simp only[pre6,hc,h6,decide_true,Bool.true_and,List.length_nil,fZ hn]
 simp only[M6,mO,mP,e0,hp,Av,Nat.le_refl,decide_true]
 repeat with_reducible refine kH ?_
 refine av ?_;unfold arV;rw[Av]
def K6:List AV→Option (AV×List Bool):=(F1 Nz).K (λx=>arV (rT 0 x.1.1)) λx=> [x.1.1.all Cw.ok,yg x.1.1,decide (x.1.1.length≤4)]
theorem auF:aN Tryz.prog 12 K6:=
 (F1 Nz).dO (N:=1010) (L:=L6) aj aod (fn:=Tryz.f12) (c:=codeOf Tryz.f12) (by kernel_rfl) (by kernel_rfl) (by kernel_rfl) ag0 (λ_=>rfl) (M:=λx=>M6 x.1.1 x.1.2.1 x.1.2.2.1 x.1.2.2.2) (λx=>auD x.1.1 x.1.2.1 x.1.2.2.1 x.1.2.2.2)
  λx h=>arX x.1.1 x.1.2.1 x.1.2.2.1 x.1.2.2.2 (h (x.1.1.all Cw.ok) (by simp)) (h (yg x.1.1) (by simp)) (dec (h (decide (x.1.1.length≤4)) (by simp)))
end Go.bI
namespace Go.bI
open Go.RowKit
def acM(P:Program)(fn:Func)(q:Ex×St):Tr AV:=
 match q.1 with
 | .exit _=> .fail "exit"
 | _=>
   match o7 P q.2 fn.results.toList with
   | some v=>Tr.needs (iJ q.2.mem v).2 (.ret (iJ q.2.mem v).1)
   | none=> .fail "results"
def P9(P:Program)(Γ:FuncId→Option Spec)(L:Nat→Option (St→Tr (Ex×St)))(N:Nat)(fn:Func)(cut:St→Tr AV):Nat→Code→St→Tr AV
 | 0,_,S=>cut S
 | n+1,.seq a b,S=>(exec P Γ L N a S).bind λq=>
   match q.1 with
   | .normal=>P9 P Γ L N fn cut n b q.2
   | _=>acM P fn q
 | _+1,_,_=> .fail "cut"
def KX:Nat→Code→Code
 | n+1,.seq _ b=>KX n b
 | _,c=>c
def amV(P:Program)(Γ:FuncId→Option Spec)(L:Nat→Option (St→Tr (Ex×St)))(N:Nat)(fn:Func)(c:Code)(S:St):Tr AV:=(exec P Γ L N c S).bind (acM P fn)
section
variable{P:Program}{Γ:FuncId→Option Spec}{L:Nat→Option (St→Tr (Ex×St))}{N:Nat}
theorem Bp{k:Nat}: ∀(n:Nat) (c:Code),bF P k L c→bF P k L (KX n c)
 | 0,c,h=>by cases c<;>exact h
 | n+1,.seq a b,h=>Bp n b h.2
 | n+1,.skip,h=>h
 | n+1,.region ..,h=>h
 | n+1,.cond ..,h=>h
 | n+1,.block ..,h=>h
 | n+1,.loop ..,h=>h
 | n+1,.scope ..,h=>h
 | n+1,.rangeFunc ..,h=>h
 | n+1,.exit _,h=>h
 | n+1,.label _,h=>h
 | n+1,.goto _,h=>h
 | n+1,.ret,h=>h
 | n+1,.refuse _,h=>h
theorem D7{C:Ctx}{fn:Func}{cut:St→Tr AV}(hm:P.follows .mixedOrders=true)(hΓ: ∀f s,Γ f=some s→mE C P f s)(hC:C.Ok): ∀(n:Nat) (c:Code),bF P C.k L c→
  (∀(Q:AV→Prop) (S:St) (B:eB) (a:Act) (w:World),(cut S).sat Q→Holds C B S a w→(KX n c).wp P (Bb C λq=>(acM P fn q).sat Q) a w)→
  ∀(Q:AV→Prop) (S:St) (B:eB) (a:Act) (w:World),(P9 P Γ L N fn cut n c S).sat Q→Holds C B S a w→c.wp P (Bb C λq=>(acM P fn q).sat Q) a w
 | 0,c,hl,hcut,Q,S,B,a,w,h,H=>by
   have:KX 0 c=c:=by cases c<;>rfl
   rw[←this];exact hcut Q S B a w (by cases c<;>exact h) H
 | n+1,.seq x y,hl,hcut,Q,S,B,a,w,h,H=>by
   unfold P9 at h;refine wp_seq (Code.wp_mono ?_ (qJ<| gG hm hΓ hC x hl.1 _ S B a w (Tr.gP h) H));rintro e a' w' ⟨ex,S',B',rfl,H',hq⟩;cases ex with
   | normal=>exact D7 hm hΓ hC n y hl.2 hcut Q S' B' a' w' hq H'
   | exit id=>exact⟨.exit id,S',B',rfl,H',hq⟩
   | ret=>exact⟨.ret,S',B',rfl,H',hq⟩
 | n+1,.skip,_,_,_,_,_,_,_,h,_=>h.elim
 | n+1,.region ..,_,_,_,_,_,_,_,h,_=>h.elim
 | n+1,.cond ..,_,_,_,_,_,_,_,h,_=>h.elim
 | n+1,.block ..,_,_,_,_,_,_,_,h,_=>h.elim
 | n+1,.loop ..,_,_,_,_,_,_,_,h,_=>h.elim
 | n+1,.scope ..,_,_,_,_,_,_,_,h,_=>h.elim
 | n+1,.rangeFunc ..,_,_,_,_,_,_,_,h,_=>h.elim
 | n+1,.exit _,_,_,_,_,_,_,_,h,_=>h.elim
 | n+1,.label _,_,_,_,_,_,_,_,h,_=>h.elim
 | n+1,.goto _,_,_,_,_,_,_,_,h,_=>h.elim
 | n+1,.ret,_,_,_,_,_,_,_,h,_=>h.elim
 | n+1,.refuse _,_,_,_,_,_,_,_,h,_=>h.elim
theorem LU{f:FuncId}{fn:Func}{c:Code}(hf:P.funcs[f]? =some fn)(hb:fn.body=some c)
  {args:List AV} {Q:AV→Prop} {A:Nat→Prop} {w:World} {vs:List Value} (hA: ∀b,A b→b<w.heap.size) (hargs:eF A (λ_=>none) w args vs)
  (h: ∀(C:Ctx) (a:Act),C.Ok→C.k=0→Holds C (λ_=>none) (start args fn.ntmps) a w→c.wp P (Bb C λq=>(acM P fn q).sat λr=>bI.fu r=true∧Q r) a w):
  Calls P f vs.toArray w λe w'=> ∃r v,Q r∧bI.fu r=true∧e= .returned v∧aV A (λ_=>none) w' r v∧Below w.heap.size w w':=by
 refine calls_of_wp hf hb ?_;have hown: ∀b,aT A (λ_=>none) (start args fn.ntmps).mem b↔A b:=λb=>by
  constructor
  ·intro h
   rcases h with h|⟨s,e,h1,_⟩
   ·exact h
   ·cases h1
  ·exact λh=>Or.inl h
 have QT: ∀{x:AV} {v:Value},aV A (λ_=>none) w x v→aV (aT A (λ_=>none) (start args fn.ntmps).mem) (λ_=>none) w x v:=
  λh=>h.trans (Trans.refl _ _) (λb _ hb=>(hown b).1 hb) (λ_ _ h=>h)
 have hlen:vs.length=args.length:=hargs.1;have H:Holds ⟨A,λ_=>False,w,0,λ_=>none⟩ (λ_=>none) (start args fn.ntmps) {tmps:=vs.toArray++Array.replicate (fn.ntmps-vs.toArray.size) undef,defers:=[]} w:=by
  refine{defers:=rfl,size:=by simp[start,hlen],tm:=?_,mem:=λs e he=>(by cases he),inj:=λ_ _ _ _ _ h=>(by cases h),kept:=Kept.refl _ _,old:=λs β h=>(by cases h),fresh:=λ_ _=>rfl,base:=λ_ _=>rfl,uF:=Nat.zero_le _};intro t ht;by_cases hlt:t<args.length
  ·have:=QT (hargs.2 t hlt)
   have hlt':t<vs.length:=by omega
   simpa[start,dR,oQ,List.getElem?_append_left hlt,Array.getElem?_append,hlt,hlt']using this
  ·have ht':t-args.length<fn.ntmps-args.length:=by simp only[start,List.length_append,List.length_replicate]at ht;omega
   have hlt': ¬t<vs.length:=by omega
   have e1:(start args fn.ntmps).tm.getD t .any= .c (.v undef):=by
    simp[start,dR,List.getElem?_append_right (Nat.le_of_not_lt hlt),List.getElem?_replicate,ht']
   have e2:(vs.toArray++Array.replicate (fn.ntmps-vs.toArray.size) undef).getD t undef=undef:=by
    simp[oQ,Array.getElem?_append,hlt',Array.getElem?_replicate,hlen,ht',hlt]
   show aV _ _ _ _ _
   rw[e1];simp only[]at e2⊢;rw[e2];exact aV.lit _
 refine Code.wp_mono ?_ (h ⟨A,λ_=>False,w,0,λ_=>none⟩ _ ⟨hA,λ_ h=>h.elim,λ_ _ h=>h⟩ rfl H);rintro e a' w' ⟨ex,S',B',rfl,H',hq⟩
 have key:(match o7 P S' fn.results.toList with|some v=>Tr.needs (iJ S'.mem v).2 (.ret (iJ S'.mem v).1)|none=>Tr.fail "results").sat (λr=>bI.fu r=true∧Q r)→
   a'.defers=[]∧ ∃v,(results fn a'.tmps).run P w'= .ok v w'∧ ∃r v',Q r∧bI.fu r=true∧Ending.returned v= .returned v'∧aV A (λ_=>none) w' r v'∧Below w.heap.size w w':=by
  intro hs;cases hr:o7 P S' fn.results.toList with
  | none=>rw[hr]at hs;exact hs.elim
  | some x=>
    rw[hr]at hs;obtain⟨hcs,hn,hQ⟩:=Tr.mV hs;obtain⟨v,hrun,hrel⟩:=pI H' hr;have adi:=sS H' (A:=A) (λb hb=> .inl hb) x v hrel (λb hb=>by
     rintro⟨s,_,e,_,h2⟩;rcases(H'.old s b h2).1 with h3|h3
     ·exact absurd (hA b hb) (Nat.not_lt.2 h3)
     ·exact h3) hcs
    exact⟨H'.defers,v,hrun,_,v,hQ,hn,rfl,adi.fu hn _,H'.kept.below⟩
 cases ex with
 | normal=>exact key hq
 | ret=>exact key hq
 | exit id=>exact hq.elim
end
end Go.bI
namespace Go.bI
open Go.RowKit
def Aw(nt tb p:Nat)(box x:AV):List AV:=((List.replicate nt .any).set tb box).set p x
def KY(P:Program)(N nt tb p:Nat)(assign body:Code)(ents:List (Option jk))(x:AV):Tr je:=
 (exec P (λ_=>none) bX N assign {tm:=Aw nt tb p (.ptr 0 0) x,mem:=gQ ents,nx:=ents.length}).bind λq=>
  match q.1 with
  | .normal=>(exec P (λ_=>none) bX N body q.2).bind λq=>
    match q.1 with
    | .normal=>
      match Gl ents.length q.2 (bL true)with
      | some o=> .ret o
      | none=> .fail "round: pack"
    | _=> .fail "round: body"
  | _=> .fail "round: assign"
def XJ(P:Program)(N nt tb p:Nat)(assign body:Code)(l:Nat):rX
 | ents,[.ptr 0 0,.c (.v (.func (.yield l') f1 c1)),x]=>bif f1.isEmpty&&c1.isEmpty then(KY P N nt tb p assign body ents x).run.map λo=>{o with conds:=decide (l'=l)::o.conds}else none
 | _,_=>none
def KZ(P:Program)(N nt tb p:Nat)(assign body:Code)(l box:Nat):Spec:=λslot m args=>j6 (XJ P N nt tb p assign body l) slot m (.ptr box 0::args)
theorem Ch{A:Nat→Prop}{w:World}{l:Nat}{o o':Obj}(hl:w.heap[l]? =some o)(hc: ∀D t fz,o≠ .cells D t fz)(hA:A l):Trans A w (w.putObj l o'):=
 ⟨by simp,λb hb hn=>World.putObj_heap_other (λe=>hn (e ▸ hA)),λb hb D t fz hD=>⟨D,t,fz,by
  rw[World.putObj_heap_other]
  ·exact hD
  ·rintro rfl
   rw[hl]at hD;cases hD;exact hc D t fz rfl,rfl⟩⟩
section
variable{P:Program}{C:Ctx}{B:eB}{S:St}{a:Act}{w:World}
theorem Ay(hC:C.Ok)(H:Holds C B S a w){s b:Nat}(hs:B s=some b): ¬C.A0 b:=λhb=>by
 rcases(H.old s b hs).1 with h|h
 ·exact absurd (hC.a0 b hb) (Nat.not_lt.2 h)
 ·exact hC.Lh b hb h
theorem NQ(hC:C.Ok)(H:Holds C B S a w){l:Nat}{o o':Obj}(hl:w.heap[l]? =some o)(hc: ∀D t fz,o≠ .cells D t fz)(hA:C.A0 l):
  (∀t,t<S.tm.length→aV (aT C.A0 B S.mem) B (w.putObj l o') (S.tm.getD t .any) (a.tmps.getD t undef))∧
  (∀s e,S.mem s=some e→(∃β,B s=some β∧iK (aT C.A0 B S.mem) B (w.putObj l o') e (w.putObj l o').heap[β]?)∨(B s=none∧e.none0)):=by
 have ht:Trans (aT C.A0 B S.mem) w (w.putObj l o'):=Ch hl hc (.inl hA);refine⟨λt h=>(H.tm t h).trans ht (λ_ _ h=>h) (λ_ _ h=>h),λs e he=> ?_⟩;rcases H.mem s e he with⟨β,h1,h2⟩|h
 ·refine .inl ⟨β,h1,?_⟩
  rw[World.putObj_heap_other (λe=>Ay hC H h1 (by rw[e];exact hA))];exact h2.trans ht (λ_ _ h=>h) (λ_ _ h=>h)
 ·exact .inr h
theorem Holds.amW(hC:C.Ok)(H:Holds C B S a w){l:Nat}{o o':Obj}(hl:w.heap[l]? =some o)(hc: ∀D t fz,o≠ .cells D t fz)(hA:C.A0 l):
  (Ctx.mk C.A0 (λb=> ∃s,B s=some b) (w.putObj l o') C.k C.B0).Ok∧Holds ⟨C.A0,λb=> ∃s,B s=some b,w.putObj l o',C.k,C.B0⟩ B S a (w.putObj l o'):=by
 obtain⟨h1,h2⟩:=NQ hC H (o':=o') hl hc hA;refine⟨⟨λb hb=> ?_,λb ⟨s,hs⟩=> ?_,λb hb ⟨s,hs⟩=>Ay hC H hs hb⟩,?_⟩
 ·rw[World.putObj_size];exact Nat.lt_of_lt_of_le (hC.a0 b hb) H.kept.size
 ·rw[World.putObj_size];exact(H.old s b hs).2
 ·exact{defers:=H.defers,size:=H.size,tm:=h1,mem:=h2,inj:=H.inj,kept:=Kept.refl _ _,old:=λs β hs=>⟨.inr ⟨s,hs⟩,by rw[World.putObj_size];exact(H.old s β hs).2⟩,fresh:=H.fresh,base:=H.base,uF:=H.uF}
theorem Qa{nt tb p:Nat}{box x:AV}{t:Nat}(ht:t<nt):(Aw nt tb p box x).getD t .any=if t=p then x else if t=tb then box else .any:=by
 unfold Aw;by_cases h1:t=p
 ·subst h1;simp[dR,List.getElem?_set,ht]
 ·by_cases h2:t=tb
  ·subst h2;simp[dR,List.getElem?_set,ht,h1,Ne.symm h1]
  ·simp[dR,List.getElem?_set,ht,h1,h2,Ne.symm h1,Ne.symm h2]
theorem ahp(hm:P.follows .mixedOrders=true){N nt tb p:Nat}{assign body:Code}{fn:FuncId}{tmps:Array Value}{D:Nat}{l:Nat}{Bs:Nat}
  (hnt:tmps.size=nt) (htb:tmps.getD tb undef= .pointer (some ⟨Bs,0,none⟩)) (hpt:p≠tb)
  {ents:List (Option jk)} {o:je} {x:AV} {v:Value} {w:World} {C:Ctx} {B:eB} (hrun:(KY P N nt tb p assign body ents x).run=some o) (hC:C.Ok) (hk:C.k=ents.length) (hw:C.w0=w) (hA:C.A0 l)
  (hl:w.heap[l]? =some (.loop {state:= .ready,pending:=none,fn,tmps,params:= #[p],assign,body,defers:=D})) (H:Holds C B (nI ents ents.length) GQ w) (hB0:B 0=some Bs)
  (hx:aV (aT C.A0 B (gQ ents)) B w x v):
  iW P j5 #[qE l,v] w λe w'=> ∃v B',e= .returned v∧Holds C B' (nI (o.outs++[o.new]) (ents.length+1)) GQ w'∧aV (aT C.A0 B' (gQ (o.outs++[o.new]))) B' w' o.val v:=by
 subst hw;have hlt:l<C.w0.heap.size:=hC.a0 l hA;refine .inr ⟨rfl,l, #[v],rfl,fn,_,assign,body,run_yield hl rfl,roundIn_of_wpIn (F:=Fence.wide) (n:=0) trivial ?_⟩;have au8:=Tr.xD hrun;unfold KY at au8;have hs1:=Tr.gP au8
 let S0:St:={tm:=Aw nt tb p (.ptr 0 0) x,mem:=gQ ents,nx:=ents.length}
 have hlen:S0.tm.length=nt:=by simp[S0,Aw]
 have H0:Holds C B S0 {tmps:=(#[p].zip #[v]).foldl (λtmps (t,a)=>tmps.setIfInBounds t a) tmps,defers:=[]} C.w0:=by
  have hz:(#[p].zip #[v]).foldl (λ(tmps:Array Value) (q:Tmp×Value)=>match q with|(t,a)=>tmps.setIfInBounds t a) tmps=tmps.setIfInBounds p v:=by simp
  refine{H with defers:=rfl,size:=?_,tm:=?_}
  ·show Array.size (Array.foldl _ tmps (#[p].zip #[v]))=_
   rw[hz];rw[Array.size_setIfInBounds,hnt,hlen]
  ·intro t ht
   rw[hlen]at ht
   show aV _ _ _ ((Aw nt tb p (.ptr 0 0) x).getD t .any) (Array.getD (Array.foldl _ tmps (#[p].zip #[v])) t undef)
   rw[hz];rw[Qa ht];have hts:t<tmps.size:=by omega
   by_cases h1:t=p
   ·subst h1
    simp only[if_true];rw[show(tmps.setIfInBounds t v).getD t undef=v by simp[oQ,hts]];exact hx
   ·rw[if_neg h1]
    by_cases h2:t=tb
    ·subst h2
     simp only[if_true];rw[show(tmps.setIfInBounds p v).getD t undef=tmps.getD t undef by simp[oQ,Array.getElem?_setIfInBounds_ne (Ne.symm h1)],htb];exact .ptr 0 0 Bs hB0
    ·rw[if_neg h2];exact .any _
 refine pF ?_ (gG (ro:=some l) hm (Γ:=λ_=>none) (L:=bX) (λf s h=>by cases h) hC assign (ak _ _) _ S0 B _ _ hs1 H0);rintro e a1 W1 ⟨ex,S1,B1,rfl,H1,hq⟩;cases ex with
 | exit j=>exact hq.elim
 | ret=>exact hq.elim
 | normal=>
 simp only at hq;have hl1:W1.heap[l]? =some (.loop {state:= .ready,pending:=none,fn,tmps,params:= #[p],assign,body,defers:=D}):=(H1.kept.block l hlt (hC.Lh l hA)).trans hl;refine⟨_,run_beginRound hl1 rfl,?_⟩;obtain⟨hC2,H2⟩:=Holds.amW hC H1 (o':= .loop {state:= .busy,pending:=none,fn,tmps,params:= #[p],assign,body,defers:=D}) hl1 (λ_ _ _ h=>by cases h) hA;refine pF ?_ (gG (ro:=some l) hm (Γ:=λ_=>none) (L:=bX) (λf s h=>by cases h) hC2 body (ak _ _) _ S1 B1 _ _ (Tr.gP hq) H2);rintro e a3 W3 ⟨ex,S3,B3,rfl,H3,hq3⟩;cases ex with
 | exit j=>exact hq3.elim
 | ret=>exact hq3.elim
 | normal=>
 simp only at hq3;have au9:l<W1.heap.size:=lt_of_heap hl1;have hl2:(W1.putObj l (.loop {state:= .busy,pending:=none,fn,tmps,params:= #[p],assign,body,defers:=D})).heap[l]? =some (.loop {state:= .busy,pending:=none,fn,tmps,params:= #[p],assign,body,defers:=D}):=World.putObj_heap_same au9;have hl3:W3.heap[l]? =some (.loop {state:= .busy,pending:=none,fn,tmps,params:= #[p],assign,body,defers:=D}):=
  (H3.kept.block l (by rw[World.putObj_size];exact au9) (λ⟨s,hs⟩=>Ay hC H1 hs hA)).trans hl2
 refine⟨_,_,run_endRound none hl3,?_⟩
 let W4:=W3.putObj l (.loop {state:= .ready,pending:=none,fn,tmps,params:= #[p],assign,body,defers:=D})
 have hl4:W4.heap[l]? =some (.loop {state:= .ready,pending:=none,fn,tmps,params:= #[p],assign,body,defers:=D}):=World.putObj_heap_same (lt_of_heap hl3);obtain⟨r1,r2⟩:=NQ (o':= .loop {state:= .ready,pending:=none,fn,tmps,params:= #[p],assign,body,defers:=D}) hC2 H3 hl3 (λ_ _ _ h=>by cases h) hA;have av6:W1.heap.size≤W3.heap.size:=by have:=H3.kept.size;simpa using this
 have H4:Holds C B3 S3 a3 W4:=by
  refine{defers:=H3.defers,size:=H3.size,tm:=r1,mem:=r2,inj:=H3.inj,kept:=?_,old:=?_,fresh:=H3.fresh,base:=H3.base,uF:=H3.uF}
  ·refine⟨?_,?_,?_,?_,?_,?_⟩
   ·exact H3.kept.os.trans H1.kept.os
   ·exact H3.kept.tape.trans H1.kept.tape
   ·exact H3.kept.output.trans H1.kept.output
   ·have h1:=H1.kept.size
    show C.w0.heap.size≤(W3.putObj l _).heap.size
    rw[World.putObj_size];omega
   ·intro k hk hX
    by_cases hkl:k=l
    ·rw[hkl,hl4,hl]
    ·show(W3.putObj l _).heap[k]? =_
     rw[World.putObj_heap_other hkl];have h1:=H1.kept.size;rw[H3.kept.block k (by rw[World.putObj_size];omega) (λ⟨s,hs⟩=>by
      rcases(H1.old s k hs).1 with h|h
      ·exact absurd hk (Nat.not_lt.2 h)
      ·exact hX h),World.putObj_heap_other hkl,H1.kept.block k hk hX]
   ·intro k D' t fz hD
    have hkl:k≠l:=by rintro rfl;rw[hl]at hD;cases hD
    obtain⟨D1,t1,f1,h1,e1⟩:=H1.kept.rows k D' t fz hD;obtain⟨D3,t3,f3,h3,e3⟩:=H3.kept.rows k D1 t1 f1 (by rw[World.putObj_heap_other hkl];exact h1);exact⟨D3,t3,f3,(World.putObj_heap_other hkl).trans h3,e3.trans e1⟩
  ·intro s β hs
   have h3:=H3.old s β hs;refine⟨?_,by show β<(W3.putObj l _).heap.size;rw[World.putObj_size];exact h3.2⟩;have h1:=H1.kept.size;rcases h3.1 with h|⟨s',hs'⟩
   ·simp only[World.putObj_size]at h;exact .inl (by omega)
   ·exact(H1.old s' β hs').1
 split at hq3
 ·rename_i o' ho'
  obtain rfl:o'=o:=hq3;obtain⟨B',g1,g2,g3⟩:=uV hk H4 (x:=bL true) (v:= .bool true) (aV.lit _) ho';exact⟨.bool true,B',rfl,g1,g2⟩
 ·exact hq3.elim
theorem ahq(hm:P.follows .mixedOrders=true){N nt tb p:Nat}{assign body:Code}{fn:FuncId}{tmps:Array Value}{D:Nat}{l box:Nat}{Bs:Nat}
  (hnt:tmps.size=nt) (htb:tmps.getD tb undef= .pointer (some ⟨Bs,0,none⟩)) (hpt:p≠tb) (hC:C.Ok) (hA:C.A0 l) (avR:box<C.k) (hBs:C.B0 box=some Bs)
  (hl:C.w0.heap[l]? =some (.loop {state:= .ready,pending:=none,fn,tmps,params:= #[p],assign,body,defers:=D})):mE C P j5 (KZ P N nt tb p assign body l box) where
 look:=λslot m m' args r h hk=>C9 _ slot m m' _ r h hk
 sound:=by
  intro slot args r B S a w vs hr _ H hs hnx hc hv;have hlt:l<C.w0.heap.size:=hC.a0 l hA;have hB:B box=some Bs:=(H.base box avR).trans hBs;have hl':w.heap[l]? =some (.loop {state:= .ready,pending:=none,fn,tmps,params:= #[p],assign,body,defers:=D}):=(H.kept.block l hlt (hC.Lh l hA)).trans hl;have hv':eF (aT C.A0 B S.mem) B w (.ptr box 0::args) (.pointer (some ⟨Bs,0,none⟩)::vs):=hv.cons (.ptr box 0 Bs hB);have main:=Bf (K:=XJ P N nt tb p assign body l) (C:=C)
   (D:=λvs w R=>vs.toList.head? =some (.pointer (some ⟨Bs,0,none⟩))→iW P j5 vs.toList.tail.toArray w R) (λh hr hh=>(h hh).mono hr)
   (I:=λw=>w.heap[l]? =some (.loop {state:= .ready,pending:=none,fn,tmps,params:= #[p],assign,body,defers:=D}))
   (λents args o C' B w vs ho hC' hk hw0 hA' hI H hr hc=>by
    intro hhead;unfold XJ at ho
    split at ho
    ·rename_i l' f1 c1 x
     cases hfc:(f1.isEmpty&&c1.isEmpty)with
     | false=>rw[hfc]at ho;cases ho
     | true=>
     rw[hfc]at ho;simp only[cond_true]at ho;simp only[cu,Array.isEmpty_iff]at hfc;obtain⟨rfl,rfl⟩:=hfc;obtain⟨o1,ho1,rfl⟩:=Option.map_eq_some_iff.1 ho;have hll:l'=l:=j4 (hc _ (List.mem_cons_self ..));obtain⟨v0,vs0,rfl,h0,hr⟩:=hr.head;obtain⟨v1,vs1,rfl,h1,hr⟩:=hr.head;obtain⟨v2,vs2,rfl,h2,hr⟩:=hr.head;obtain rfl:=hr.o8;obtain⟨β,hβ,rfl⟩:=h0.mQ;have hv1:=h1.plain;subst hv1 hll;simp only[List.head?_cons,fK,Value.pointer.injEq,Addr.mk.injEq,and_true]at hhead;subst hhead;have:=ahp hm hnt htb hpt ho1 hC' hk hw0 (hA' _ hA) hI H hβ h2;simpa[qE]using this
    ·cases ho)
   slot (.ptr box 0::args) r B S a w (.pointer (some ⟨Bs,0,none⟩)::vs) hr hC H hl' hs hnx hc hv' (by simp)
  simpa using main
end
end Go.bI
namespace Go.bI
open Go.RowKit
def GI:Value→Value→Bool
 | .bool a,.bool b=>a==b
 | .int k a,.int k' b=>decide (k=k')&&decide (a=b)
 | .string s,.string t=>s.data.toList==t.data.toList
 | .slice none a b,.slice none c d=>Nat.beq a c&&Nat.beq b d
 | _,_=>false
theorem D8{a b:Value}(h:GI a b=true):a=b:=by
 unfold GI at h
 split at h
 ·rw[eq_of_beq h]
 ·simp only[cu,fT]at h
  rw[h.1,h.2]
 ·rename_i s t
  have:=eq_of_beq h
  congr 1
  cases s with|mk s=>cases t with|mk t=>exact congrArg ByteArray.mk (Array.ext' this)
 ·simp only[cu]at h
  rw[Nat.eq_of_beq_eq_true h.1,Nat.eq_of_beq_eq_true h.2]
 ·cases h
def ahr:List IV→List IV→Bool
 | [],[]=>true
 | .v a::l,.v b::m=>GI a b&&ahr l m
 | _,_=>false
theorem Qb: ∀{l m:List IV},ahr l m=true→l=m
 | [],[],_=>rfl
 | .v a::l,.v b::m,h=>by
   simp only[ahr,cu]at h;rw[D8 h.1,Qb h.2]
 | [],.v _::_,h=>by cases h
 | [],.sl .. ::_,h=>by cases h
 | [],.mp _::_,h=>by cases h
 | [],.mq _::_,h=>by cases h
 | .v _::_,[],h=>by cases h
 | .v _::_,.sl .. ::_,h=>by cases h
 | .v _::_,.mp _::_,h=>by cases h
 | .v _::_,.mq _::_,h=>by cases h
 | .sl .. ::_,[],h=>by cases h
 | .sl .. ::_,.v _::_,h=>by cases h
 | .sl .. ::_,.sl .. ::_,h=>by cases h
 | .sl .. ::_,.mp _::_,h=>by cases h
 | .mp _::_,[],h=>by cases h
 | .mp _::_,.v _::_,h=>by cases h
 | .mp _::_,.sl .. ::_,h=>by cases h
 | .mp _::_,.mp _::_,h=>by cases h
def eqZ(f:IV→IV→Bool):List IV→List IV→Bool
 | [],[]=>true
 | x::l,y::m=>f x y&&eqZ f l m
 | _,_=>false
theorem ZV{f:IV→IV→Bool}: ∀{l m:List IV},eqZ f l m=true→l.length=m.length∧ ∀j,j<l.length→f (l.getD j (.v undef)) (m.getD j (.v undef))=true
 | [],[],_=>⟨rfl,λj hj=>by simp at hj⟩
 | x::l,y::m,h=>by
   simp only[eqZ,cu]at h;obtain⟨h1,h2⟩:=ZV h.2;refine⟨by simp[h1],λj hj=> ?_⟩;cases j with
   | zero=>simpa using h.1
   | succ j=>simpa using h2 j (by simpa using hj)
 | [],_::_,h=>by cases h
 | _::_,[],h=>by cases h
def eqJ:Nat→IV→IV→Bool
 | 0,.v a,.v b=>GI a b
 | 0,_,_=>false
 | _+1,.v a,.v b=>GI a b
 | d+1,.sl n sz el,.sl n' sz' jw=>Nat.beq n n'&&(Nat.beq sz sz'&&(List.range n).all λk=>eqZ (eqJ d) (el k) (jw k))
 | _+1,_,_=>false
theorem Tz: ∀(d:Nat) {x y:IV},eqJ d x y=true→ ∀(A:Nat→Prop) (w:World) (v:Value),jG A w x v→jG A w y v
 | 0,.v a,.v b,h,A,w,v,hx=>by
   rw[←D8 (show GI a b=true from h)];exact hx
 | 0,.v _,.sl ..,h,A,w,v,hx=>by cases h
 | 0,.v _,.mp _,h,A,w,v,hx=>by cases h
 | 0,.v _,.mq _,h,A,w,v,hx=>by cases h
 | 0,.sl ..,_,h,A,w,v,hx=>by cases h
 | 0,.mp _,_,h,A,w,v,hx=>by cases h
 | 0,.mq _,_,h,A,w,v,hx=>by cases h
 | _+1,.v a,.v b,h,A,w,v,hx=>by
   rw[←D8 (show GI a b=true from h)];exact hx
 | _+1,.v _,.sl ..,h,A,w,v,hx=>by cases h
 | _+1,.v _,.mp _,h,A,w,v,hx=>by cases h
 | _+1,.v _,.mq _,h,A,w,v,hx=>by cases h
 | _+1,.mp _,_,h,A,w,v,hx=>by cases h
 | _+1,.mq _,_,h,A,w,v,hx=>by cases h
 | _+1,.sl ..,.v _,h,A,w,v,hx=>by cases h
 | _+1,.sl ..,.mp _,h,A,w,v,hx=>by cases h
 | _+1,.sl ..,.mq _,h,A,w,v,hx=>by cases h
 | d+1,.sl n sz el,.sl n' sz' jw,h,A,w,v,hx=>by
   have h:(Nat.beq n n'&&(Nat.beq sz sz'&&(List.range n).all λk=>eqZ (eqJ d) (el k) (jw k)))=true:=h;simp only[cu]at h;obtain⟨h1,h2,h3⟩:=h;obtain rfl:=Nat.eq_of_beq_eq_true h1;obtain rfl:=Nat.eq_of_beq_eq_true h2;have key: ∀k,k<n→(el k).length=(jw k).length∧ ∀j,j<(el k).length→eqJ d ((el k).getD j (.v undef)) ((jw k).getD j (.v undef))=true:=λk hk=>ZV (List.all_eq_true.1 h3 k (List.mem_range.2 hk))
   cases hx with
   | nil=>exact .nil _ _
   | zero=>exact .zero _ _ _
   | sl _ _ _ b off cap hA hb hn hl hs hh=>
     refine .sl n sz jw b off cap hA hb hn (λk hk=>by rw[←(key k hk).1];exact hl k hk) hs λk j hk hj=> ?_
     exact Tz d ((key k hk).2 j (by rw[hl k hk];exact hj)) A w _ (hh k j hk hj)
def eqI:IV→IV→Bool
 | .v a,.v b=>GI a b
 | .sl n sz el,.sl n' sz' jw=>Nat.beq n n'&&(Nat.beq sz sz'&&((List.range n).all λk=>ahr (el k) (jw k))) || eqJ 4 (.sl n sz el) (.sl n' sz' jw)
 | _,_=>false
theorem TA{x y:IV}(h:eqI x y=true):bM (.c x) (.c y):=by
 unfold eqI at h
 split at h
 ·rw[D8 h];exact bM.refl _
 ·rw[Bool.or_eq_true]at h
  rcases h with h|h
  ·simp only[cu]at h
   obtain⟨h1,h2,h3⟩:=h;obtain rfl:=Nat.eq_of_beq_eq_true h1;obtain rfl:=Nat.eq_of_beq_eq_true h2;exact bM.sl λk hk=>Qb (List.all_eq_true.1 h3 k (List.mem_range.2 hk))
  ·intro A B w u hu
   cases hu with
   | c _ _ hi=>exact .c _ _ (Tz 4 h A w u hi)
 ·cases h
def eqP:List IV→List IV→Bool
 | [x],[y]=>eqI x y
 | _,_=>false
theorem ahs{l m:List IV}(h:eqP l m=true):bM (.gq l) (.gq m):=by
 unfold eqP at h
 split at h
 ·rename_i x y
  intro A B w u hu;cases hu with
  | gq _ b off hn hb hj=>
    refine .gq _ b off hn hb λj hj'=> ?_
    obtain rfl:j=0:=by simpa using hj'
    obtain⟨h1,h2⟩:=hj 0 (by simp);refine⟨h1,?_⟩;have:=TA h A B w _ (.c _ _ h2);cases this with
    | c _ _ hc=>exact hc
 ·cases h
def eqC:AV→AV→Bool
 | .c x,.c y=>eqI x y
 | .gq l,.gq m=>eqP l m
 | _,_=>false
theorem K3{x y:AV}(h:eqC x y=true):bM x y:=by
 unfold eqC at h
 split at h
 ·exact TA h
 ·exact ahs h
 ·cases h
def acN:List AV→List AV→Bool
 | [],[]=>true
 | x::l,y::m=>eqC x y&&acN l m
 | _,_=>false
theorem Az: ∀{l m:List AV},acN l m=true→eY l m
 | [],[],_=> .nil
 | x::l,y::m,h=>by
   simp only[acN,cu]at h;exact .cons (K3 h.1) (Az h.2)
 | [],_::_,h=>by cases h
 | _::_,[],h=>by cases h
theorem bM.fnL{f:FuncId}{l m:List AV}(h:eY l m):bM (.fn f l) (.fn f m):=λA B w u hu=>by
 obtain⟨cs,rfl,hr⟩:=hu.I8;have hr':=h.Oz hr;exact .fn f m cs.toArray (by simpa using hr'.1) λj hj=>by simpa[oQ,dR]using hr'.2 j hj
def TB:AV→AV→Bool
  | .agg l,.agg m=>acN l m
  | .iC l,.iC m=>aht l m
  | .fn f l,.fn g m=>Nat.beq f g&&acN l m
  | x,y=>eqC x y
 where aht:List AV→List AV→Bool
  | [],[]=>true
  | .agg l::r,.agg m::s=>acN l m&&aht r s
  | x::r,y::s=>eqC x y&&aht r s
  | _,_=>false
theorem acO: ∀{l m:List AV},TB.aht l m=true→eY l m:=by
 intro l m h
 fun_induction TB.aht l m with
 | case1=>exact .nil
 | case2 l r m s ih=>
   simp only[cu]at h;exact .cons (bM.agg (Az h.1)) (ih h.2)
 | case3 x r y s _ ih=>
   simp only[cu]at h;exact .cons (K3 h.1) (ih h.2)
 | case4=>cases h
theorem FR{x y:AV}(h:TB x y=true):bM x y:=by
 unfold TB at h
 split at h
 ·exact bM.agg (Az h)
 ·exact bM.iC (acO h)
 ·simp only[cu]at h
  rw[Nat.eq_of_beq_eq_true h.1];exact bM.fnL (Az h.2)
 ·exact K3 h
def NR:List AV→List AV→Bool
 | [],[]=>true
 | x::l,y::m=>TB x y&&NR l m
 | _,_=>false
theorem Ci: ∀{l m:List AV},NR l m=true→eY l m
 | [],[],_=> .nil
 | x::l,y::m,h=>by
   simp only[NR,cu]at h;exact .cons (FR h.1) (Ci h.2)
 | [],_::_,h=>by cases h
 | _::_,[],h=>by cases h
def nY:List (List AV×AV)→List AV→Option (AV×List Bool)
 | [],_=>none
 | r::l,args=>bif NR args r.1 then some (r.2,[])else nY l args
def rowOk(K:List AV→Option (AV×List Bool))(r:List AV×AV):Bool:=
 match K r.1 with
 | some (u,cs)=>cs.isEmpty&&(fu r.2&&TB u r.2)
 | none=>false
theorem aN.sees{P:Program}{f:FuncId}{K K':List AV→Option (AV×List Bool)}(h:aN P f K)
  (hw: ∀args v cs,K' args=some (v,cs)→bI.fu v=true∧((∀p∈cs,p)→ ∃JD v0 cs0,eY args JD∧K JD=some (v0,cs0)∧(∀p∈cs0,p)∧bM v0 v)):aN P f K' where
 sound:=by
  intro args v cs hk;obtain⟨hn,hw⟩:=hw args v cs hk;refine⟨hn,λA w vs hA hc hr=> ?_⟩;obtain⟨JD,v0,cs0,hs,h0,hc0,hv⟩:=hw hc;refine((h.sound JD v0 cs0 h0).2 A w vs hA hc0 (hs.Oz hr)).mono ?_;rintro e w' ⟨u,he,hu,hb⟩;exact⟨u,he,hv _ _ _ _ hu,hb⟩
theorem qV{P:Program}{f:FuncId}{K:List AV→Option (AV×List Bool)}(h:aN P f K): ∀{rows:List (List AV×AV)},(∀r∈rows,rowOk K r=true)→aN P f (nY rows):=by
 intro rows hrows;refine h.sees ?_
 induction rows with
 | nil=>intro args v cs hk;cases hk
 | cons r l ih=>
   intro args v cs hk;unfold nY at hk;cases hb:NR args r.1 with
   | false=>rw[hb]at hk;exact ih (λr hr=>hrows r (List.mem_cons_of_mem _ hr)) args v cs hk
   | true=>
     rw[hb]at hk;cases hk;have hr:=hrows r (List.mem_cons_self ..);unfold rowOk at hr
     split at hr
     ·rename_i u cs0 hu
      simp only[cu,List.isEmpty_iff]at hr;obtain⟨rfl,h2,h3⟩:=hr;exact⟨h2,λ_=>⟨r.1,u,[],Ci hb,hu,λp hp=>by(cases hp),FR h3⟩⟩
     ·cases hr
end Go.bI
namespace Go.bI
open Go.RowKit
end Go.bI
namespace Go.bI
open Go.RowKit
def Tr.zI:Tr AV→Option AV
 | .ret a=>bif fu a then some a else none
 | .ite c t e=>bif c then t.zI else e.zI
 | .need p t=>bif p then t.zI else none
 | .both a b=>
   match a.zI,b.zI with
   | some x,some y=>bif TB y x then some x else none
   | _,_=>none
 | .fail _=>none
theorem Tr.qd: ∀{t:Tr AV} {v:AV},t.zI=some v→fu v=true∧t.sat λr=>fu r=true∧bM r v
 | .ret a,v,h=>by
   unfold Tr.zI at h;cases hn:fu a with
   | false=>rw[hn]at h;cases h
   | true=>
     rw[hn]at h;simp only[cond_true,fK]at h;subst h;exact⟨hn,hn,bM.refl _⟩
 | .ite c t e,v,h=>by
   cases c with
   | true=>
     have:=Tr.qd (t:=t) (v:=v) (by simpa[Tr.zI]using h);exact⟨this.1,λ_=>this.2,λh=>by cases h⟩
   | false=>
     have:=Tr.qd (t:=e) (v:=v) (by simpa[Tr.zI]using h);exact⟨this.1,(λh=>by cases h),λ_=>this.2⟩
 | .need p t,v,h=>by
   cases p with
   | true=>
     have:=Tr.qd (t:=t) (v:=v) (by simpa[Tr.zI]using h);exact⟨this.1,rfl,λ_=>this.2⟩
   | false=>simp[Tr.zI]at h
 | .both a b,v,h=>by
   unfold Tr.zI at h
   split at h
   ·rename_i x y hx hy
    cases he:TB y x with
    | false=>rw[he]at h;cases h
    | true=>
      rw[he]at h;simp only[cond_true,fK]at h;subst h;obtain⟨hn,h1⟩:=Tr.qd hx;obtain⟨_,h2⟩:=Tr.qd hy;exact⟨hn,h1,Tr.bC (λr hr=>⟨hr.1,hr.2.trans (FR he)⟩) h2⟩
   ·cases h
 | .fail _,v,h=>by simp[Tr.zI]at h
def wV(P:Program)(Γ:FuncId→Option Spec)(N:Nat)(fn:Func)(args:List AV):Option (AV×List Bool):=
 match (aI P Γ bX N fn args).zI with
 | some v=>some (v,[])
 | none=>none
section
variable{P:Program}{Γ:FuncId→Option Spec}{N:Nat}
theorem Qc(hm:P.follows .mixedOrders=true)(hΓ: ∀f s,Γ f=some s→aR P f s){f:FuncId}{fn:Func}{c:Code}(hf:P.funcs[f]? =some fn)(hb:fn.body=some c)(hn:jS fn=true):aN P f (wV P Γ N fn):=by
 have hk: ∀args v cs,wV P Γ N fn args=some (v,cs)→(aI P Γ bX N fn args).zI=some v:=by
  intro args v cs h;unfold wV at h
  split at h
  ·rename_i u hu
   simp only[fK,Prod.mk.injEq]at h;obtain⟨rfl,_⟩:=h;exact hu
  ·cases h
 refine aM hm hΓ hf hb (aG hf hb hn) (L:=bX) (N:=N) (ak 0 c) (λargs v cs h=>(Tr.qd (hk args v cs h)).1) λargs v cs h _=> ?_
 exact(Tr.qd (hk args v cs h)).2
end
end Go.bI
namespace Go.bI
open Go.Proofs
def Γk:FuncId→Option Spec:=λf=>bif Nat.beq f 306 then some (ay oh)else bif Nat.beq f 261 then some (ay Ht)else bif Nat.beq f 122 then some (ay J7)else bif Nat.beq f 121 then some (ay J8)else bif Nat.beq f 120 then some (ay Pg)else bif Nat.beq f 168 then some (ay aeP)else bif Nat.beq f 151 then some (ay VR)else bif Nat.beq f 153 then some (ay RG)else bif Nat.beq f 192 then some (ay aeQ)else bif Nat.beq f 28 then some (ay VT)else none
theorem GJ: ∀f s,Γk f=some s→aR Tryz.prog f s:=
 step_ok (ado Yo).spec (step_ok (adp YA).spec (step_ok vw.spec (step_ok vC.spec (step_ok Ac.spec (step_ok YP.spec (step_ok Iu.spec (step_ok Dy.spec (step_ok YQ.spec (bS Iw.spec)))))))))
def bsK(l:List UInt8):ByteArray:=⟨⟨l⟩⟩
def rzK(n:Bool)(m:List UInt8):List IV:=[.v (.bool n),.v (.string (bsK m)),.v (.bool false),.v (.string (bsK []))]
def zK:List IV:=rzK false []
def TD(m d:List UInt8):List IV:=[.v (.bool false),.v (.string (bsK m)),.v (.bool false),.v (.string (bsK d)),.v (.bool false),.v (.string (bsK [])),.v (.bool false),.v (.string (bsK [])),.v (.bool false)]
def yC(a b:List IV)(o p:Bool):List IV:=a++b++[.v (.bool o),.v (.bool p)]
def gJ(l:List IV):AV:= .agg (l.map .c)
def nO(n:Nat)(l:List (List IV)):AV:= .c (.sl l.length n λk=>l.getD k [])
def nu1:List IV:=yC (TD [] []) (TD [4] []) false false++(zK++(rzK false [1]++zK))
def nu2:List IV:=yC (TD [] []) (TD [4] []) false false++(rzK false [4]++(rzK true [1]++zK))
def cv(i:Int)(u:List IV):List IV:=[.v (.int .i64 i),.sl 1 32 λk=> [u].getD k []]
def yL:AV:=nO 2 [cv 1 nu1,cv 2 nu2]
def oD:List IV:=yC (TD [] []) (TD [4] []) false false
def sO:FuncId→Bool:=λf=> [98,99,146,147,187,232,188,240,270,56,57,107,158,205,279,280,300,315,182,183,231,265].any λg=>Nat.beq f g
def qW:List IV:=TD [] []
def ra1:List IV:=TD [1] []
def wo:List IV:=TD [2] []
def ra3:List IV:=TD [3] []
def qX:List IV:=TD [4] []
def ids(l:List Int):AV:= .c (.sl l.length 1 λk=> [.v (.int .i64 (l.getD k 0))])
def ra5:List IV:=TD [5] []
def Le:List IV:=TD [9] []
def qg:List IV:=yC (TD [] []) (TD [9] []) false false
def nu3:List IV:=yC (TD [] []) (TD [9] []) false false++(zK++(zK++zK))
def oM:AV:=nO 2 [cv 1 nu1,cv 2 nu2,cv 3 nu3]
end Go.bI
