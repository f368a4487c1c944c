/- Helpers for the proof: no statement of its own. -/
import Derived.Test.YtclnfoepcemloaaGreatDoorT00
import Derived.Test.YtclnfoepcemloaaGreatDoorT04
import Derived.Test.YtclnfoepcemloaaGreatDoorT05
set_option linter.unusedVariables false
set_option linter.unusedSimpArgs false
set_option linter.unnecessarySimpa false
set_option linter.deprecated false
set_option maxRecDepth 1000000
namespace Go.bI
open Go.Proofs
def AU(u:Un):Ul:=⟨⟨⟨u.a,0,false⟩,⟨u.b,0,false⟩,u.oa,u.ob⟩,u.f⟩
theorem arY:zIV=RO 0:=by
 unfold zIV RO;rw[show(0:Rat).num.natAbs=0 from rfl,iD];rfl
theorem amN(u:Un):zA u=gD.iv (AU u):=by
 show LG u.a++(LG u.b++([.v (.bool u.oa),.v (.bool u.ob)]++qN u.f))=(xS ⟨u.a,0,false⟩++(xS ⟨u.b,0,false⟩++[.v (.bool u.oa),.v (.bool u.ob)]))++qN u.f
 unfold LG xS;rw[arY];simp only[List.append_assoc]
theorem amO(U:List Un)(k:Nat)(hk:k<U.length):bZ U k=gD.el (U.map AU) k:=by
 unfold bZ Kk.el;have e:(U.map AU).getD k gD.d=AU (U.getD k u0):=by simp[dR,hk]
 rw[e];exact amN _
theorem Tj{a b:Int}(h:a<b):iO ⟨(a:Rat),0,false⟩ ⟨(b:Rat),0,false⟩= -1:=by
 rw[Al ⟨rfl,rfl⟩ ⟨rfl,rfl⟩]
 show gW ((a:Rat)-(b:Rat)).num 0= -1
 have h1:(a:Rat)<(b:Rat):=by exact_mod_cast h
 rcases IG ((a:Rat)-(b:Rat))with⟨k,e⟩|⟨k,e⟩|⟨k,e⟩
 ·exact e
 ·exfalso;grind
 ·exfalso;grind
theorem Tk{a b:Int}(h:a=b):iO ⟨(a:Rat),0,false⟩ ⟨(b:Rat),0,false⟩=0:=by
 subst h;exact(qP ⟨rfl,rfl⟩ ⟨rfl,rfl⟩).2 rfl
theorem ag1{a:Int}(h0:0≤a)(h:a≤63):Bt 100000 (a:Rat):=Bt.mono (k:=6) ⟨by show a.natAbs≤2^6;omega,by show 1≤2^6;omega⟩ (by decide)
theorem P6{N D k:Nat}{q:Rat}(h:yG N D q=true)(h1:N≤2^k)(h2:D≤2^k)(hk:k≤10000):Bt 10000 q:=Bt.mono (k:=k) (jY.mono (rG.1 h) h1 h2) hk
theorem amP{u:Un}(h:ql u=true):0≤u.a∧u.b≤63∧u.a≤u.b:=by
 simp only[ql,cu,Bool.or_eq_true,fT]at h;omega
theorem ZJ{u:Un}(h:ql u=true):okU (AU u)=true:=by
 obtain⟨l1,l2,l3⟩:=amP h;simp only[ql,cu,Bool.or_eq_true,fT,Bool.not_eq_true']at h;obtain⟨_,_,h3,h4,h5,h6,h7,h8⟩:=h;have b1:G7 100000 (u.a:Rat)=true:=qZ.2 (ag1 l1 (by omega));have b2:G7 100000 (u.b:Rat)=true:=qZ.2 (ag1 (by omega) l2);have bz:G7 100000 0=true:=qZ.2 (Bt.zero _);have q1:G7 10000 u.f.x0=true:=qZ.2 (P6 (k:=15) h4 (by decide) (by decide) (by decide));have q2:G7 10000 u.f.x1=true:=qZ.2 (P6 (k:=15) h5 (by decide) (by decide) (by decide));have q3:G7 10000 u.f.y0=true:=qZ.2 (P6 (k:=15) h6 (by decide) (by decide) (by decide));have q4:G7 10000 u.f.y1=true:=qZ.2 (P6 (k:=15) h7 (by decide) (by decide) (by decide));have hm:rJ (AU u).i=true:=by
  unfold rJ AU;dsimp only;rcases h8 with h8|⟨h8,h9,_⟩
  ·rw[Tj h8];rfl
  ·rw[Tk h8,h3,h9];rfl
 simp only[okU,hm,Bool.and_true,cu];refine⟨rfl,rfl,?_,?_⟩
 ·show((G7 100000 (u.a:Rat)&&G7 100000 0)&&(G7 100000 (u.b:Rat)&&G7 100000 0))=true
  rw[b1,b2,bz];rfl
 ·show(G7 10000 u.f.x0&&(G7 10000 u.f.x1&&(G7 10000 u.f.y0&&G7 10000 u.f.y1)))=true
  rw[q1,q2,q3,q4];rfl
theorem ag2{u v:Un}(h:mH u v=true):G8 (AU u).i (AU v).i=true:=by
 unfold mH at h;rw[cu]at h;obtain⟨_,h⟩:=h;unfold G8 AU;dsimp only;cases hv:v.oa with
 | true=>
   rw[hv]at h;rw[Tk (j4 h)];simp
 | false=>
   rw[hv]at h;rw[Tj (j4 h)];rfl
theorem ZK: ∀{U:List Un},oO U=true→(∀u∈U,okU (AU u)=true)∧abT (U.map AU)=true
 | [],_=>⟨λ_ h=>by simp at h,rfl⟩
 | [u],h=>by
   simp only[oO,cu]at h;exact⟨λv hv=>by simp only[List.mem_singleton]at hv;subst hv;exact ZJ h.1.1,rfl⟩
 | u::v::l,h=>by
   have h1:((ql u&&mH u v)&&oO (v::l))=true:=h;simp only[cu]at h1;obtain⟨⟨a,b⟩,c⟩:=h1;obtain⟨i1,i2⟩:=ZK c;refine⟨λw hw=> ?_,?_⟩
   ·rcases List.mem_cons.1 hw with e|e
    ·rw[e];exact ZJ a
    ·exact i1 w e
   ·show(G8 (AU u).i (AU v).i&&abT ((v::l).map AU))=true
    rw[ag2 b,i2];rfl
def ace(c:Cr):List Ul:=(uE c).map AU
theorem amQ{c:Cr}(h:c.ok=true):yM (ace c)=true:=by
 obtain⟨g,_,l⟩:=ab3 h;unfold RS mI at g;simp only[cu]at g;obtain⟨i1,i2⟩:=ZK g.1.1;simp only[yM,cu,fT];refine⟨List.all_eq_true.2 λu hu=> ?_,i2,by unfold ace;rw[List.length_map];omega⟩;obtain⟨w,hw,rfl⟩:=List.mem_map.1 hu;exact i1 w hw
end Go.bI
namespace Go.bI
open Go.Proofs
def fG:Kk Ob where
 n:=2
 iv:=agS
 V:=λl=>match l with | [.c (.v (.int .i64 i)),.c (.sl m 36 e)]=>⟨i,m,e⟩ | _=>iT
 ok:=λl=>match l with | [.c (.v (.int .i64 _)),.c (.sl _ 36 _)]=>true | _=>false
 d:=iT
 ok_eq:=by
  intro l h
  split at h
  ·rfl
  ·cases h
 V_c:=λ_=>rfl
 Pv:=λ_=>rfl
structure Cv where
 i:Int
 m:Nat
 e:Nat→List IV
def yK:Cv:=⟨0,0,λ_=> []⟩
def gV:Kk Cv where
 n:=2
 iv:=λc=> [.v (.int .i64 c.i),.sl c.m 32 c.e]
 V:=λl=>match l with | [.c (.v (.int .i64 i)),.c (.sl m 32 e)]=>⟨i,m,e⟩ | _=>yK
 ok:=λl=>match l with | [.c (.v (.int .i64 _)),.c (.sl _ 32 _)]=>true | _=>false
 d:=yK
 ok_eq:=by
  intro l h
  split at h
  ·rfl
  ·cases h
 V_c:=λ_=>rfl
 Pv:=λ_=>rfl
def eI1:nJ Int where
 parse:=λe=>match e with | [some (.cells [.c (.v (.int .i64 n))] 3)]=>some (n,[]) | _=>none
 ents:=λn=> [some (.cells [.c (.v (.int .i64 n))] 3)]
 ok:=by
  intro e x cs h hc
  split at h
  ·simp only[fK,Prod.mk.injEq]at h
   obtain⟨rfl,rfl⟩:=h;exact dz.refl _
  ·cases h
def oP:List Ob→Int→Int→Int
 | [],_,_=> -1
 | o::l,id,k=>if o.i=id then k else oP l id (k+1)
abbrev IxX:=(List Ob×Unit×Int×Int×Int×Unit)×Int
abbrev IxR:=Bool×((Int×Unit)×Int)
def auG(x:IxX):IxR:=match x with
 | ((O,(),_,_,_,()),id)=>if oP O id 0= -1 then(false,((0,()),id))else(true,((oP O id 0,()),id))
def NC(x:IxX):Bool:=match x with
 | ((O,(),r,n,i,()),id)=>decide (r=0)&&(decide (n=(O.length:Int))&&(decide (i=0)&&decide (O.length≤1000)))
def Xo:aZ IxX IxR:=lpR {nt:=19,live:=[0,1,4,7,8]} {nt:=19,live:=[4]} (fJ.with eI1 (.cons fG.arg (.cons (OW 41 0 0) (.cons bK (.cons bK (.cons bK .nil)))))) (fJ.with eI1 (F1 bK)) auG NC
theorem acf:Xo.gI:=JY _ _ _ _ _ _
def LIx:Nat→Option (St→Tr (Ex×St)):=λid=>bif Nat.beq id 0 then some (Xo.g 1)else none
def FI(O:List Ob)(r:Int)(n:Int)(i:Int)(id:Int):Tr (IxX ⊕ IxR):=
 Tr.ite (decide (i<n))
  (Tr.need (decide (0≤i∧i<(O.length:Int)))<| Tr.ite ((O.getD i.toNat iT).i==id) (Tr.ret (Sum.inr (true,(i,()),id)))
   (Tr.need (fG.oks O.length (fG.el O)) (Tr.ret (Sum.inl ((fG.list O.length (fG.el O),(),r,n,IntKind.i64.wrap (i+1),()),id)))))
  (Tr.ret (Sum.inr (false,(r,()),id)))
theorem acg(x:IxX):(exec Tryz.prog (AQ Tryz.prog Px (λ_=>false) 1010 1) bX 1010 (bn 0 (codeOf Tryz.f40)) (iQ Xo.nIn (Xo.head x))).bind (Xo.fin 1 0)=FI x.1.1 x.1.2.2.1 x.1.2.2.2.1 x.1.2.2.2.2.1 x.2:=by
 obtain⟨⟨O,⟨⟩,r,n,i,⟨⟩⟩,id⟩:=x
 kernel_rfl
def ach(j id:Int):IxR:=if j= -1 then(false,((0,()),id))else(true,((j,()),id))
theorem aci(O:List Ob)(id:Int)(hn:O.length≤1000)(i:Nat)(hi:i<O.length){R:IxX ⊕ IxR→Prop}(h1:(O.getD i iT).i=id→R (.inr (true,(((i:Nat):Int),()),id)))(h2: ¬(O.getD i iT).i=id→R (.inl ((O,(),0,(O.length:Int),((i+1:Nat):Int),()),id))):
  (FI O 0 (O.length:Int) (i:Nat) id).sat R:=by
 have w1:IntKind.i64.wrap ((i:Int)+1)=((i+1:Nat):Int):=jR;unfold FI;simp only[jf,w1,fG.aS,fG.bH];refine au (λ_=>ah (bQ) (au (λh=>av (h1 (eq_of_beq h))) (λh=>ah rfl (av (h2 λe=>by rw[e]at h;simp at h))))) (λh=>absurd (of_decide_eq_false h) (by omega))
theorem Xp(O:List Ob)(id:Int){R:IxX ⊕ IxR→Prop}(h:R (.inr (false,((0,()),id)))):(FI O 0 (O.length:Int) (O.length:Nat) id).sat R:=by
 unfold FI;exact au (λh=>absurd (j4 h) (by omega)) (λ_=>av h)
theorem ag3(O:List Ob)(id:Int)(hn:O.length≤1000)(Q:IxR→Prop): ∀(k i:Nat),i+k=O.length→Q (ach (oP (O.drop i) id i) id)→
  dJ (λx:IxX=>FI x.1.1 x.1.2.2.1 x.1.2.2.2.1 x.1.2.2.2.2.1 x.2) Q (k+1) ((O,(),0,(O.length:Int),(i:Nat),()),id)
 | 0,i,he,hq=>by
   obtain rfl:i=O.length:=by omega
   rw[List.drop_length]at hq;exact Xp O id hq
 | k+1,i,he,hq=>by
   have hi:i<O.length:=by omega
   have hu:O.getD i iT=O[i]:=by simp[dR,hi]
   rw[List.drop_eq_getElem_cons hi, ←hu]at hq;refine aci O id hn i hi (λe=> ?_) (λe=> ?_)
   ·unfold oP at hq
    rw[if_pos e]at hq;unfold ach at hq;rw[if_neg (by omega)]at hq;exact hq
   ·unfold oP at hq
    rw[if_neg e]at hq;exact ag3 O id hn Q k (i+1) (by omega) hq
theorem arZ:bF Tryz.prog 1 LIx (codeOf Tryz.f40):=by
 refine bG (d:=λid=>Nat.beq id 0) (λid=>by unfold LIx;cases Nat.beq id 0<;>rfl) _ ?_;have hb:bU (λid=>Nat.beq id 0) (codeOf Tryz.f40)=[(0,.loop (bn 0 (codeOf Tryz.f40)))]:=by kernel_rfl
 rw[hb];intro p hp g hg;simp only[List.mem_singleton]at hp;subst hp;have hh:LIx 0=some ((Xo).g 1):=rfl;rw[hh]at hg;obtain rfl:g=(Xo).g 1:=(Option.some.inj hg).symm;refine aZ.sU (N:=1010) aj (l7 aj oz 1) (L:=bX) (ak 1 _) acf (λx=>acg x) ?_;rintro⟨⟨O,⟨⟩,r,n,i,⟨⟩⟩,id⟩ hx;have hx:NC ((O,(),r,n,i,()),id)=true:=hx;simp only[NC,cu,fT]at hx;obtain⟨rfl,rfl,rfl,h4⟩:=hx;exact⟨_,ag3 O id h4 (· =ach (oP O id 0) id) O.length 0 (by omega) rfl⟩
theorem amR{e:List (Option jk)}{x:Int}{cs:List Bool}(h:eI1.parse e=some (x,cs)):e.length=1:=by
 simp only[eI1]at h
 split at h
 ·rfl
 ·cases h
theorem Xq{X Y:Type}{E:nJ Y}{F:Form X}{e:List (Option jk)}{l:List AV}{p:X×Y}{cs:List Bool}(h:(fJ.with E F).parse e l=some (p,cs)): ∃ds,E.parse e=some (p.2,ds):=by
 change (match F.parse l,E.parse e with|some (x,cs),some (y,ds)=>some ((x,y),cs++ds) | _,_=>none)=some (p,cs)at h
 split at h
 ·rename_i x c1 y c2 h1 h2
  simp only[fK,Prod.mk.injEq]at h;obtain⟨rfl,rfl⟩:=h;exact⟨c2,h2⟩
 ·cases h
theorem fJ.auH{P:Program}{Γ:FuncId→Option Spec}{N:Nat}{X:Type}(F:fJ X){out:X→je}{pre:X→List Bool}{Bg:Bool}{L:Nat→Option (St→Tr (Ex×St))}(hm:P.follows .mixedOrders=true)(hΓ: ∀f s,Γ f=some s→aR P f s){f:FuncId}{fn:Func}{c:Code}(hf:P.funcs[f]? =some fn)
  (hb:fn.body=some c) (hn:jS fn=true) (hl: ∀e l x cs,F.parse e l=some (x,cs)→bF P e.length L c) {M:X→Tr je} (hM: ∀x,wG P Γ L N Bg fn (F.ents x) (F.args x)=M x)
  (h: ∀x,(∀p∈pre x,p=true)→(M x).sat (Bj (out x))):uT P f (F.K out pre):=
 F.anP (L:=λ_=>L) hm hΓ hf hb hn hl (λ_ _ _=>rfl) λx hx=>by
  rw[hM x];exact h x hx
abbrev auI:fJ ((List Ob×Unit×Unit)×Int):=fJ.with eI1 (.cons fG.arg (.cons (OW 41 0 0) .nil))
def KIx:rX:=auI.K (λx=>{val:=dn .i64 (oP x.1.1 x.2 0),outs:=[some (.cells [.c (.v (.int .i64 x.2))] 3)]}) λx=> [decide (x.1.1.length≤1000)]
def MIx(O:List Ob)(id:Int):Tr je:=
 let V:=fG.list O.length (fG.el O)
 let r:=ach (oP V id 0) id
 Tr.need (fG.oks O.length (fG.el O))<| Tr.need (NC ((V,(),0,(O.length:Int),0,()),id))<|
  Tr.ite r.1 (Tr.ret {val:= .c (.v (.int .i64 r.2.1.1)),outs:=[some (.cells [.c (.v (.int .i64 r.2.2))] 3)]})
   (Tr.ret {val:= .c (.v (.int .i64 (-1))),outs:=[some (.cells [.c (.v (.int .i64 r.2.2))] 3)]})
theorem ar0(O:List Ob)(id:Int):wG Tryz.prog (AQ Tryz.prog Px (λ_=>false) 1010 1) LIx 1010 true Tryz.f40 [some (.cells [.c (.v (.int .i64 id))] 3)] [fG.sl O,.fn 41 [.ptr 0 0]]=MIx O id:=by kernel_rfl
theorem auJ:uT Tryz.prog 40 KIx:=
 auI.auH (N:=1010) (Bg:=true) (L:=LIx) aj (l7 aj oz 1) (fn:=Tryz.f40) (c:=codeOf Tryz.f40) (by kernel_rfl) (by kernel_rfl) (by kernel_rfl)
  (λe l x cs h=>by
   obtain⟨ds,h2⟩:=Xq h;rw[amR h2];exact arZ)
  (M:=λx=>MIx x.1.1 x.2) (λx=>ar0 x.1.1 x.2) λx h=>by
   obtain⟨⟨O,⟨⟩,⟨⟩⟩,id⟩:=x;have h1:O.length≤1000:=dec (h (decide (O.length≤1000)) (by simp));have hp:NC ((O,(),0,(O.length:Int),0,()),id)=true:=by
    simp only[NC,cu,fT];exact⟨trivial,trivial,trivial,h1⟩
   show(MIx O id).sat _
   simp only[MIx,fG.aS,fG.bH,hp,sat_true];by_cases hj:oP O id 0= -1
   ·unfold ach
    rw[if_pos hj];refine au (λh=>by cases h) (λ_=>av ?_)
    show Bj {val:=dn .i64 (oP O id 0),outs:=_} _
    rw[hj];exact Bj.refl _
   ·unfold ach
    rw[if_neg hj];exact au (λ_=>av (Bj.refl _)) (λh=>by cases h)
end Go.bI
namespace Go.bI
open Go.Proofs
def wm(o:Ob):List Ul:=gD.list o.m o.e
def okO(o:Ob):Bool:=gD.oks o.m o.e&&yM (wm o)
def Hg(i:Int)(D:List Uq):Cv:=⟨i,D.length,aU.el D⟩
def LM(A:List Ob)(at':Int):Nat→List Ob→List Cv
 | _,[]=> []
 | k,o::B=>if(k:Int)=at' then LM A at' (k+1) B else Hg o.i (qw (wm (A.getD at'.toNat iT)) (wm o))::LM A at' (k+1) B
abbrev DsX:=(List Ob×Int×Nat×List Ob×Int×Int×Unit)×(List Cv×Unit)
abbrev DsR:=(Nat×Unit)×(List Cv×Unit)
def auK(x:DsX):DsR:=match x with
 | ((A,j,m,B,n,i,()),(O,()))=>(((LM A j 0 B).length,()),(LM A j 0 B,()))
def ND(x:DsX):Bool:=match x with
 | ((A,j,m,B,n,i,()),(O,()))=>A.all okO&&(B.all okO&&(decide (0≤j)&&(decide (j<(A.length:Int))&&(decide (m=0)&&(decide (O.length=0)&&(decide (i=0)&&(decide (n=(B.length:Int))&&decide (B.length≤1000))))))))
def Xr:aZ DsX DsR:=yA {nt:=47,live:=[0,6,7,21,22,23],lifts:=[(7,2,30)]} {nt:=47,live:=[7],lifts:=[(7,2,30)]} (.with (.cons (gV.ent 30) .nil) (.cons fG.arg (.cons bK (.cons (gu 0 2) (.cons fG.arg (.cons bK (.cons bK .nil))))))) (.with (.cons (gV.ent 30) .nil) (.cons (gu 0 2) .nil)) auK ND
theorem acj:Xr.gI:=eG _ _ _ _ _ _
def LDs:Nat→Option (St→Tr (Ex×St)):=λid=>bif Nat.beq id 1 then some (Xr.g 0)else none
def ΓDs:FuncId→Option Spec:=λf=>bif Nat.beq f 16 then some (ay KDp)else bif Nat.beq f 40 then some (j6 KIx)else none
theorem ag4: ∀f s,ΓDs f=some s→aR Tryz.prog f s:=step_ok agI.spec (bS auJ.spec)
def ZL(A:List Ob)(j:Int)(B:List Ob)(n i:Int)(m len:Nat)(el:Nat→List IV):Tr (DsX ⊕ DsR):=
 Tr.need (fG.oks A.length (fG.el A))<| Tr.need (fG.oks B.length (fG.el B))<| Tr.need (gV.oks len el)<|
  Tr.ret (Sum.inl ((fG.list A.length (fG.el A),j,m,fG.list B.length (fG.el B),n,IntKind.i64.wrap (i+1),()),(gV.list len el,())))
def FJ(A:List Ob)(j:Int)(m:Nat)(B:List Ob)(n i:Int)(O:List Cv):Tr (DsX ⊕ DsR):=
 let a:=A.getD j.toNat iT
 let b:=B.getD i.toNat iT
 let D:=qw (wm a) (wm b)
 Tr.ite (decide (i<n))
  (Tr.need (decide (0≤i∧i<(B.length:Int)))<| Tr.ite (i !=j)
   (Tr.need (decide (0≤j∧j<(A.length:Int)))<| Tr.need (gD.oks a.m a.e)<| Tr.need (gD.oks b.m b.e)<| Tr.need (yM (wm a))<| Tr.need (yM (wm b))<|
    Tr.need (decide (m≤O.length))<| Tr.need true<| Tr.need (decide (m+1≤9223372036854775807))<| Tr.need (decide ((m+1)*32≤140737488355328))<|
     ZL A j B n i (m+1) (m+1) (bN m (gV.el O) λk=>((gV.iv (Hg b.i D)).drop (k*2)).take 2))
   (ZL A j B n i m O.length (gV.el O)))
  (Tr.need (gV.oks O.length (gV.el O))<| Tr.ret (Sum.inr ((m,()),(gV.list O.length (gV.el O),()))))
theorem acn(x:DsX):(exec Tryz.prog ΓDs bX 1010 (bn 1 (codeOf Tryz.f13)) (iQ Xr.nIn (Xr.head x))).bind (Xr.fin 0 1)=FJ x.1.1 x.1.2.1 x.1.2.2.1 x.1.2.2.2.1 x.1.2.2.2.2.1 x.1.2.2.2.2.2.1 x.2.1:=by
 obtain⟨⟨A,j,m,B,n,i,⟨⟩⟩,⟨O,⟨⟩⟩⟩:=x
 kernel_rfl
theorem vI{A:List Ob}(h:A.all okO=true){i:Nat}(hi:i<A.length):gD.oks (A.getD i iT).m (A.getD i iT).e=true∧yM (wm (A.getD i iT))=true:=by
 have:=List.all_eq_true.1 h A[i] (List.getElem_mem hi);have e:A.getD i iT=A[i]:=by simp[dR,hi]
 rw[e];simpa only[okO,cu]using this
theorem NG(A B:List Ob)(j:Int)(i:Nat)(hi:i<B.length)(lB:B.length≤1000)(O':List Cv)(m len:Nat)(el:Nat→List IV)(h1:gV.list len el=O')(h2:gV.oks len el=true)(hm:m=O'.length){R:DsX ⊕ DsR→Prop}
  (hq:R (.inl ((A,j,O'.length,B,(B.length:Int),((i+1:Nat):Int),()),(O',())))):(ZL A j B (B.length:Int) (i:Nat) m len el).sat R:=by
 have w1:IntKind.i64.wrap ((i:Int)+1)=((i+1:Nat):Int):=jR;subst hm;simp only[ZL,h1,h2,fG.aS,fG.bH,w1,sat_true];exact av hq
theorem aco(A B:List Ob)(hA:A.all okO=true)(hB:B.all okO=true)(j:Nat)(hj:j<A.length)(i:Nat)(hi:i<B.length)(lB:B.length≤1000)(O:List Cv)(hO:O.length≤1000){R:DsX ⊕ DsR→Prop}
  (h1:i=j→R (.inl ((A,(j:Int),O.length,B,(B.length:Int),((i+1:Nat):Int),()),(O,()))))
  (h2:i≠j→R (.inl ((A,(j:Int),(O++[Hg (B.getD i iT).i (qw (wm (A.getD j iT)) (wm (B.getD i iT)))]).length,B,(B.length:Int),((i+1:Nat):Int),()),(O++[Hg (B.getD i iT).i (qw (wm (A.getD j iT)) (wm (B.getD i iT)))],())))):
  (FJ A (j:Nat) O.length B (B.length:Int) (i:Nat) O).sat R:=by
 obtain⟨a1,a2⟩:=vI hA hj;obtain⟨b1,b2⟩:=vI hB hi;have c1:decide ((i:Int)<(B.length:Int))=true:=bQ;unfold FJ;simp only[jf,c1,a1,a2,b1,b2];refine au (λ_=>ah (bQ) (au (λh=> ?_) (λh=> ?_))) (λh=>by cases h)
 ·have hne:i≠j:=λe=>by subst e;simp at h
  refine ah (bQ) ?_
  repeat refine ah rfl ?_
  refine ah (bQ) (ah rfl (ah (bQ) (ah (bQ) ?_)));obtain⟨s1,s2⟩:=gV.snoc O (Hg (B.getD i iT).i (qw (wm (A.getD j iT)) (wm (B.getD i iT)))) (λk=>((gV.iv (Hg (B.getD i iT).i (qw (wm (A.getD j iT)) (wm (B.getD i iT))))).drop (k*2)).take 2) rfl;exact NG A B _ i hi lB _ _ _ _ s1 s2 (by simp) (h2 hne)
 ·have he:i=j:=by
   have:((i:Int) !=(j:Int))=false:=h;simp at this;omega
  exact NG A B _ i hi lB _ _ _ _ (gV.aS O) (gV.bH O _) rfl (h1 he)
theorem Xt(A B:List Ob)(j:Int)(i:Nat)(hi: ¬i<B.length)(O:List Cv){R:DsX ⊕ DsR→Prop}(hq:R (.inr ((O.length,()),(O,())))):(FJ A j O.length B (B.length:Int) (i:Nat) O).sat R:=by
 have c1:decide ((i:Int)<(B.length:Int))=false:=jK (by omega);unfold FJ;simp only[c1,gV.aS,gV.bH];exact au (λh=>by cases h) (λ_=>ah rfl (av hq))
theorem Xu(A B:List Ob)(hA:A.all okO=true)(hB:B.all okO=true)(j:Nat)(hj:j<A.length)(lB:B.length≤1000)(Q:DsR→Prop): ∀(n i:Nat) (O:List Cv),i+n=B.length→O.length≤i→Q (((O++LM A (j:Int) i (B.drop i)).length,()),(O++LM A (j:Int) i (B.drop i),()))→
  dJ (λx:DsX=>FJ x.1.1 x.1.2.1 x.1.2.2.1 x.1.2.2.2.1 x.1.2.2.2.2.1 x.1.2.2.2.2.2.1 x.2.1) Q (n+1) ((A,(j:Int),O.length,B,(B.length:Int),(i:Nat),()),(O,()))
 | 0,i,O,he,hl,hq=>by
   rw[List.drop_eq_nil_of_le (by omega)]at hq;simp only[LM,List.append_nil]at hq;exact Xt A B _ i (by omega) O hq
 | n+1,i,O,he,hl,hq=>by
   have hi:i<B.length:=by omega
   have hu:B.getD i iT=B[i]:=by simp[dR,hi]
   rw[List.drop_eq_getElem_cons hi, ←hu]at hq;refine aco A B hA hB j hj i hi lB O (by omega) (λe=> ?_) (λe=> ?_)
   ·unfold LM at hq
    rw[if_pos (by omega)]at hq;exact Xu A B hA hB j hj lB Q n (i+1) O (by omega) (by omega) hq
   ·unfold LM at hq
    rw[if_neg (by omega),jf]at hq;refine Xu A B hA hB j hj lB Q n (i+1) _ (by omega) (by simp;omega) ?_;rw[List.append_assoc];exact hq
theorem ar1:bF Tryz.prog 0 LDs (codeOf Tryz.f13):=by
 refine bG (d:=λid=>Nat.beq id 1) (λid=>by unfold LDs;cases Nat.beq id 1<;>rfl) _ ?_;have hb:bU (λid=>Nat.beq id 1) (codeOf Tryz.f13)=[(1,.loop (bn 1 (codeOf Tryz.f13)))]:=by kernel_rfl
 rw[hb];intro p hp g hg;simp only[List.mem_singleton]at hp;subst hp;have hh:LDs 1=some ((Xr).g 0):=rfl;rw[hh]at hg;obtain rfl:g=(Xr).g 0:=(Option.some.inj hg).symm;refine aZ.sU (N:=1010) aj ag4 (L:=bX) (ak 0 _) acj (λx=>acn x) ?_;rintro⟨⟨A,j,m,B,n,i,⟨⟩⟩,⟨O,⟨⟩⟩⟩ hx;have hx:ND ((A,j,m,B,n,i,()),(O,()))=true:=hx;simp only[ND,cu,fT]at hx;obtain⟨h1,h2,h3,h4,rfl,h6,rfl,rfl,h9⟩:=hx;obtain rfl:O=[]:=List.length_eq_zero_iff.1 h6;obtain⟨j,rfl⟩: ∃k:Nat,j=k:=⟨j.toNat,by omega⟩
 exact⟨_,Xu A B h1 h2 j (by omega) h9 (· =(((LM A (j:Int) 0 B).length,()),(LM A (j:Int) 0 B,()))) B.length 0 [] (by omega) (by simp) rfl⟩
def dsV(O:List Ob)(id:Int):AV:=if oP O id 0<0 then .iC [gV.sl [],dn .i64 9]else .iC [gV.sl (LM O (oP O id 0) 0 O),dn .i64 0]
def KDs:List AV→Option (AV×List Bool):=(F2 fG.arg bK).K (λx=>dsV x.1 x.2.1) λx=> [x.1.all okO,decide (x.1.length≤60)]
def MDs(O:List Ob)(id:Int):Tr AV:=
 let V:=fG.list O.length (fG.el O)
 let j:=oP V id 0
 let D:=LM V j 0 V
 Tr.need (fG.oks O.length (fG.el O))<| Tr.need (decide (V.length≤1000))<|
  Tr.ite (decide (j<0)) (Tr.ret (.iC [.c (.v (.slice none 0 0)),.c (.v (.int .i64 9))]))<|
   Tr.ite (decide (IntKind.i64.wrap ((O.length:Int)-1)>64)) (Tr.ret (.iC [.c (.v (.slice none 0 0)),.c (.v (.int .i64 3))]))<|
    Tr.need (fG.oks O.length (fG.el O))<| Tr.need (fG.oks O.length (fG.el O))<| Tr.need true<| Tr.need (ND ((V,j,0,V,(O.length:Int),0,()),(gV.list 0 (λ_=> []),())))<| Tr.need (decide (D.length≤D.length))<|
     Tr.ret (.iC [gV.sl D,.c (.v (.int .i64 0))])
theorem ar2(O:List Ob)(id:Int):aI Tryz.prog ΓDs LDs 1010 Tryz.f13 [fG.sl O,.c (.v (.int .i64 id))]=MDs O id:=by kernel_rfl
theorem ZM: ∀(O:List Ob) (id k:Int),0≤k→oP O id k<k+O.length∧(oP O id k= -1∨k≤oP O id k)
 | [],id,k,h=>by unfold oP;simp;omega
 | o::l,id,k,h=>by
   have ih:=ZM l id (k+1) (by omega);unfold oP
   split
   ·simp only[List.length_cons];omega
   ·simp only[List.length_cons];omega
theorem Form.Tm{P:Program}{Γ:FuncId→Option Spec}{N:Nat}{L:Nat→Option (St→Tr (Ex×St))}{X:Type}(F:Form X){val:X→AV}{pre:X→List Bool}(hm:P.follows .mixedOrders=true)(hΓ: ∀f s,Γ f=some s→aR P f s){f:FuncId}{fn:Func}{c:Code}(hf:P.funcs[f]? =some fn)(hb:fn.body=some c)
  (hn:jS fn=true) (hl:bF P 0 L c) (hv: ∀x,bI.fu (val x)=true) {M:X→Tr AV} (hM: ∀x,aI P Γ L N fn (F.args x)=M x)
  (h: ∀x,(∀p∈pre x,p=true)→(M x).sat λr=>bI.fu r=true∧bM r (val x)):aN P f (F.K val pre):=
 F.ad6 hm hΓ hf hb hn hl hv λx hx=>by
  rw[hM x];exact h x hx
theorem ag5(O:List Ob)(id:Int):bI.fu (dsV O id)=true:=by
 unfold dsV;split<;>rfl
theorem auL:aN Tryz.prog 13 KDs:=
 (F2 fG.arg bK).Tm (N:=1010) (L:=LDs) aj ag4 (fn:=Tryz.f13) (c:=codeOf Tryz.f13) (by kernel_rfl) (by kernel_rfl) (by kernel_rfl) ar1 (λx=>ag5 x.1 x.2.1) (M:=λx=>MDs x.1 x.2.1) (λx=>ar2 x.1 x.2.1) λx h=>by
  obtain⟨O,id,⟨⟩⟩:=x;have h1:O.all okO=true:=h (O.all okO) (by simp);have h2:O.length≤60:=dec (h (decide (O.length≤60)) (by simp));have hj:=ZM O id 0 (by omega);have c1:decide (O.length≤1000)=true:=bQ;have w1:IntKind.i64.wrap ((O.length:Int)-1)=(O.length:Int)-1:=by rw[wrap_i64 (by omega)]
  have hs:(MDs O id).sat λr=>bI.fu r=true∧bM r (dsV O id):=by
   simp only[MDs,fG.aS,fG.bH,c1,w1,sat_true];refine au (λh=> ?_) (λh=> ?_)
   ·have h:=j4 h
    unfold dsV;rw[if_pos h];exact av ⟨rfl,bM.iC (.cons (bM.nil _ _) (.cons (bM.refl _) .nil))⟩
   ·have h:=of_decide_eq_false h
    unfold dsV;rw[if_neg h];refine au (λh=>absurd (j4 h) (by omega)) (λ_=> ?_);have e0:gV.list 0 (λ_=> [])=[]:=rfl;have hp:ND ((O,oP O id 0,0,O,(O.length:Int),0,()),([],()))=true:=by
     simp only[ND,h1,Bool.true_and,cu,fT];exact⟨by omega,by omega,trivial,rfl,trivial,trivial,by omega⟩
    simp only[e0,hp,sat_true];exact ah (fZ (Nat.le_refl _)) (av ⟨rfl,bM.refl _⟩)
  exact hs
end Go.bI
namespace Go.bI
open Go.Proofs
def jO:Kk (Int×Int) where
 n:=2
 iv:=λp=> [.v (.int .i64 p.1),.v (.int .i64 p.2)]
 V:=λl=>match l with | [.c (.v (.int .i64 i)),.c (.v (.int .i64 j))]=>(i,j) | _=>(0,0)
 ok:=λl=>match l with | [.c (.v (.int .i64 _)),.c (.v (.int .i64 _))]=>true | _=>false
 d:=(0,0)
 ok_eq:=by
  intro l h
  split at h
  ·rfl
  ·cases h
 V_c:=λ_=>rfl
 Pv:=λ_=>rfl
def auM:Vw Ob where
 get:=λe=>match e with|some (.cells [.c (.v (.int .i64 i)),.c (.sl m 36 el)] 60)=>some (⟨i,m,el⟩,[]) | _=>none
 put:=λo=>some (.cells [.c (.v (.int .i64 o.i)),.c (.sl o.m 36 o.e)] 60)
 ok:=by
  intro e x cs h hc
  split at h
  ·simp only[fK,Prod.mk.injEq]at h
   obtain⟨rfl,rfl⟩:=h;exact qK.refl _
  ·cases h
def kg:Nat→List (Ob×Ob)→List Cv
 | _,[]=> []
 | k,p::T=>Hg ((k+1:Nat):Int) (qw (wm p.1) (wm p.2))::kg (k+1) T
def kr(T:List (Ob×Ob)):List (Int×Int):=T.map λp=>(p.1.i,p.2.i)
abbrev PiX:=(List Ob×Nat×Nat×Unit×List Ob×Int×Int×List Ob×Int×Int×Unit)×(List Cv×List (Int×Int)×Ob×Unit)
abbrev PiR:=(List Ob×Nat×Nat×List Ob×Int×Int×Unit)×(List Cv×List (Int×Int)×Unit)
def auN(x:PiX):PiR:=match x with
 | ((A,m,k,(),B,n,i,D,l,j,()),(C,I,a,()))=>((A,(C++kg I.length (D.map λd=>(a,d))).length,(I++kr (D.map λd=>(a,d))).length,B,n,i,()),(C++kg I.length (D.map λd=>(a,d)),I++kr (D.map λd=>(a,d)),()))
def NH(x:PiX):Bool:=match x with
 | ((A,m,k,(),B,n,i,D,l,j,()),(C,I,a,()))=>okO a&&(D.all okO&&(decide (j=0)&&(decide (l=(D.length:Int))&&(decide (m=C.length)&&(decide (k=I.length)&&(decide (C.length≤1000)&&(decide (I.length≤1000)&&decide (D.length≤1000))))))))
def Tn:aZ PiX PiR:=yA {nt:=63,live:=[0,6,7,9,24,25,26,34,35,36],lifts:=[(6,2,30),(7,2,63)]} {nt:=63,live:=[0,6,7,24,25,26],lifts:=[(6,2,30),(7,2,63)]}
 (.with (.cons (gV.ent 30) (.cons (jO.ent 63) (.cons auM .nil))) (.cons fG.arg (.cons (gu 0 2) (.cons (gu 1 2) (.cons (ou 2 0) (.cons fG.arg (.cons bK (.cons bK (.cons fG.arg (.cons bK (.cons bK .nil)))))))))))
 (.with (.cons (gV.ent 30) (.cons (jO.ent 63) .nil)) (.cons fG.arg (.cons (gu 0 2) (.cons (gu 1 2) (.cons fG.arg (.cons bK (.cons bK .nil))))))) auN NH
theorem acp:Tn.gI:=eG _ _ _ _ _ _
def LPi:Nat→Option (St→Tr (Ex×St)):=λid=>bif Nat.beq id 2 then some (Tn.g 0)else none
def Ld(A:List Ob):Nat→List Ob→List (Ob×Ob)
 | _,[]=> []
 | k,b::B=>((A.drop (k+1)).map λd=>(b,d))++Ld A (k+1) B
abbrev PoX:=(List Ob×Nat×Nat×List Ob×Int×Int×Unit)×(List Cv×List (Int×Int)×Unit)
abbrev PoR:=(Nat×Nat×Unit)×(List Cv×List (Int×Int)×Unit)
def auO(x:PoX):PoR:=match x with
 | ((A,m,k,B,n,i,()),(C,I,()))=>(((kg 0 (Ld A 0 B)).length,(kr (Ld A 0 B)).length,()),(kg 0 (Ld A 0 B),kr (Ld A 0 B),()))
def NI(x:PoX):Bool:=match x with
 | ((A,m,k,B,n,i,()),(C,I,()))=>A.all okO&&(B.all okO&&(decide (A.length=B.length)&&(decide (m=0)&&(decide (k=0)&&(decide (C.length=0)&&(decide (I.length=0)&&(decide (i=0)&&(decide (n=(B.length:Int))&&decide (B.length≤12)))))))))
def Tp:aZ PoX PoR:=yA {nt:=63,live:=[0,6,7,24,25,26],lifts:=[(6,2,30),(7,2,63)]} {nt:=63,live:=[6,7],lifts:=[(6,2,30),(7,2,63)]}
 (.with (.cons (gV.ent 30) (.cons (jO.ent 63) .nil)) (.cons fG.arg (.cons (gu 0 2) (.cons (gu 1 2) (.cons fG.arg (.cons bK (.cons bK .nil)))))))
 (.with (.cons (gV.ent 30) (.cons (jO.ent 63) .nil)) (.cons (gu 0 2) (.cons (gu 1 2) .nil))) auO NI
theorem acr:Tp.gI:=eG _ _ _ _ _ _
def LPo:Nat→Option (St→Tr (Ex×St)):=λid=>bif Nat.beq id 0 then some (Tp.g 0)else none
def ΓPi:FuncId→Option Spec:=λf=>bif Nat.beq f 16 then some (ay KDp)else none
theorem P7: ∀f s,ΓPi f=some s→aR Tryz.prog f s:=bS agI.spec
def aog(A:List Ob)(B:List Ob)(n i:Int)(D:List Ob)(l j:Int)(m k:Nat)(c:Nat)(ec:Nat→List IV)(q:Nat)(eq':Nat→List IV)(a:Ob):Tr (PiX ⊕ PiR):=
 Tr.need (fG.oks A.length (fG.el A))<| Tr.need (fG.oks B.length (fG.el B))<| Tr.need (fG.oks D.length (fG.el D))<| Tr.need (gV.oks c ec)<| Tr.need (jO.oks q eq')<|
  Tr.ret (Sum.inl ((fG.list A.length (fG.el A),m,k,(),fG.list B.length (fG.el B),n,i,fG.list D.length (fG.el D),l,IntKind.i64.wrap (j+1),()),(gV.list c ec,jO.list q eq',⟨a.i,a.m,a.e⟩,())))
def FK(A:List Ob)(m k:Nat)(B:List Ob)(n i:Int)(D:List Ob)(l j:Int)(C:List Cv)(I:List (Int×Int))(a:Ob):Tr (PiX ⊕ PiR):=
 let d:=D.getD j.toNat iT
 let Q:=qw (wm a) (wm d)
 Tr.ite (decide (j<l))
  (Tr.need (decide (0≤j∧j<(D.length:Int)))<| Tr.need (decide (k≤I.length))<| Tr.need true<| Tr.need (decide (k+1≤9223372036854775807))<| Tr.need (decide ((k+1)*16≤140737488355328))<|
   Tr.need (gD.oks a.m a.e)<| Tr.need (gD.oks d.m d.e)<| Tr.need (yM (wm a))<| Tr.need (yM (wm d))<|
   Tr.need (decide (m≤C.length))<| Tr.need true<| Tr.need (decide (m+1≤9223372036854775807))<| Tr.need (decide ((m+1)*32≤140737488355328))<|
    aog A B n i D l j (m+1) (k+1) (m+1) (bN m (gV.el C) λq=>((gV.iv (Hg ((k+1:Nat):Int) Q)).drop (q*2)).take 2) (k+1) (bN k (jO.el I) λq=>((jO.iv (a.i,d.i)).drop (q*2)).take 2) a)
  (Tr.need (fG.oks A.length (fG.el A))<| Tr.need (fG.oks B.length (fG.el B))<| Tr.need (gV.oks C.length (gV.el C))<| Tr.need (jO.oks I.length (jO.el I))<|
   Tr.ret (Sum.inr ((fG.list A.length (fG.el A),m,k,fG.list B.length (fG.el B),n,i,()),(gV.list C.length (gV.el C),jO.list I.length (jO.el I),()))))
theorem acs(x:PiX):(exec Tryz.prog ΓPi bX 1010 (bn 2 (codeOf Tryz.f14)) (iQ Tn.nIn (Tn.head x))).bind (Tn.fin 0 2)=FK x.1.1 x.1.2.1 x.1.2.2.1 x.1.2.2.2.2.1 x.1.2.2.2.2.2.1 x.1.2.2.2.2.2.2.1 x.1.2.2.2.2.2.2.2.1 x.1.2.2.2.2.2.2.2.2.1 x.1.2.2.2.2.2.2.2.2.2.1 x.2.1 x.2.2.1 x.2.2.2.1:=by
 obtain⟨⟨A,m,k,⟨⟩,B,n,i,D,l,j,⟨⟩⟩,⟨C,I,a,⟨⟩⟩⟩:=x
 kernel_rfl
abbrev auP:PiX→Tr (PiX ⊕ PiR):=λx=>FK x.1.1 x.1.2.1 x.1.2.2.1 x.1.2.2.2.2.1 x.1.2.2.2.2.2.1 x.1.2.2.2.2.2.2.1 x.1.2.2.2.2.2.2.2.1 x.1.2.2.2.2.2.2.2.2.1 x.1.2.2.2.2.2.2.2.2.2.1 x.2.1 x.2.2.1 x.2.2.2.1
theorem acu(A B:List Ob)(n i:Int)(D:List Ob)(hD:D.all okO=true)(lD:D.length≤1000)(a:Ob)(ha:okO a=true)(j:Nat)(hj:j<D.length)(C:List Cv)(I:List (Int×Int))(lC:C.length≤5000)(lI:I.length≤5000){R:PiX ⊕ PiR→Prop}
  (hq:R (.inl ((A,(C++kg I.length [(a,D.getD j iT)]).length,(I++kr [(a,D.getD j iT)]).length,(),B,n,i,D,(D.length:Int),((j+1:Nat):Int),()),(C++kg I.length [(a,D.getD j iT)],I++kr [(a,D.getD j iT)],a,())))):
  (FK A C.length I.length B n i D (D.length:Int) (j:Nat) C I a).sat R:=by
 obtain⟨d1,d2⟩:=vI hD hj;have ha':gD.oks a.m a.e=true∧yM (wm a)=true:=by simpa only[okO,cu]using ha
 obtain⟨a1,a2⟩:=ha';have w1:IntKind.i64.wrap ((j:Int)+1)=((j+1:Nat):Int):=jR;have c1:decide ((j:Int)<(D.length:Int))=true:=bQ;unfold FK;simp only[jf,c1,a1,a2,d1,d2];refine au (λ_=> ?_) (λh=>by cases h);refine ah (bQ) (ah (bQ) (ah rfl (ah (bQ) (ah (bQ) ?_))));refine ah rfl (ah rfl (ah rfl (ah rfl ?_)));refine ah (bQ) (ah rfl (ah (bQ) (ah (bQ) ?_)));generalize D.getD j iT=d at*;obtain⟨s1,s2⟩:=gV.snoc C (Hg ((I.length+1:Nat):Int) (qw (wm a) (wm d))) (λq=>((gV.iv (Hg ((I.length+1:Nat):Int) (qw (wm a) (wm d)))).drop (q*2)).take 2) rfl;obtain⟨t1,t2⟩:=jO.snoc I (a.i,d.i) (λq=>((jO.iv (a.i,d.i)).drop (q*2)).take 2) rfl;unfold aog;simp only[s1,s2,t1,t2,fG.aS,fG.bH,w1,sat_true];refine av ?_;have e1:C.length+1=(C++kg I.length [(a,d)]).length:=by simp[kg]
 have e2:I.length+1=(I++kr [(a,d)]).length:=by simp[kr]
 rw[←e1, ←e2]at hq;exact hq
theorem Xv(A B:List Ob)(n i:Int)(D:List Ob)(a:Ob)(j:Nat)(hj: ¬j<D.length)(C:List Cv)(I:List (Int×Int)){R:PiX ⊕ PiR→Prop}(hq:R (.inr ((A,C.length,I.length,B,n,i,()),(C,I,())))):(FK A C.length I.length B n i D (D.length:Int) (j:Nat) C I a).sat R:=by
 have c1:decide ((j:Int)<(D.length:Int))=false:=jK (by omega);unfold FK;simp only[c1,fG.aS,fG.bH,gV.aS,gV.bH,jO.aS,jO.bH,sat_true];exact au (λh=>by cases h) (λ_=>by simp only[sat_true];exact av hq)
theorem zG: ∀(S T:List (Ob×Ob)) (k:Nat),kg k (S++T)=kg k S++kg (k+S.length) T
 | [],_,_=>rfl
 | s::S,T,k=>by
   simp only[List.cons_append,kg,List.length_cons,zG S T (k+1)];rw[show k+1+S.length=k+(S.length+1)by omega]
theorem KT: ∀(T:List (Ob×Ob)) (k:Nat),(kg k T).length=T.length
 | [],_=>rfl
 | _::T,k=>by simp only[kg,List.length_cons,KT T]
theorem KU(T:List (Ob×Ob)):(kr T).length=T.length:=by simp[kr]
theorem ag6(A B:List Ob)(n i:Int)(D:List Ob)(hD:D.all okO=true)(lD:D.length≤1000)(a:Ob)(ha:okO a=true)(Q:PiR→Prop): ∀(z j:Nat) (C:List Cv) (I:List (Int×Int)),j+z=D.length→C.length≤1000+j→I.length≤1000+j→
  Q ((A,(C++kg I.length ((D.drop j).map λd=>(a,d))).length,(I++kr ((D.drop j).map λd=>(a,d))).length,B,n,i,()),(C++kg I.length ((D.drop j).map λd=>(a,d)),I++kr ((D.drop j).map λd=>(a,d)),()))→
  dJ auP Q (z+1) ((A,C.length,I.length,(),B,n,i,D,(D.length:Int),(j:Nat),()),(C,I,a,()))
 | 0,j,C,I,he,hC,hI,hq=>by
   rw[List.drop_eq_nil_of_le (by omega)]at hq;simp only[List.map_nil,kg,kr,List.append_nil]at hq;exact Xv A B n i D a j (by omega) C I hq
 | z+1,j,C,I,he,hC,hI,hq=>by
   have hj:j<D.length:=by omega
   have hu:D.getD j iT=D[j]:=by simp[dR,hj]
   rw[List.drop_eq_getElem_cons hj, ←hu]at hq;refine acu A B n i D hD lD a ha j hj C I (by omega) (by omega) ?_;refine ag6 A B n i D hD lD a ha Q z (j+1) _ _ (by omega) (by simp[kg];omega) (by simp[kr];omega) ?_;have e1:C++kg I.length [(a,D.getD j iT)]++kg (I++kr [(a,D.getD j iT)]).length ((D.drop (j+1)).map λd=>(a,d))=C++kg I.length ((D.getD j iT::D.drop (j+1)).map λd=>(a,d)):=by
    rw[List.append_assoc,List.map_cons];have:=zG [(a,D.getD j iT)] ((D.drop (j+1)).map λd=>(a,d)) I.length;rw[List.singleton_append]at this;rw[this];simp[kr]
   have e2:I++kr [(a,D.getD j iT)]++kr ((D.drop (j+1)).map λd=>(a,d))=I++kr ((D.getD j iT::D.drop (j+1)).map λd=>(a,d)):=by simp[kr]
   rw[e1,e2];exact hq
theorem ar3:bF Tryz.prog 0 LPi (bn 0 (codeOf Tryz.f14)):=by
 refine bG (d:=λid=>Nat.beq id 2) (λid=>by unfold LPi;cases Nat.beq id 2<;>rfl) _ ?_;have hb:bU (λid=>Nat.beq id 2) (bn 0 (codeOf Tryz.f14))=[(2,.loop (bn 2 (codeOf Tryz.f14)))]:=by kernel_rfl
 rw[hb];intro p hp g hg;simp only[List.mem_singleton]at hp;subst hp;have hh:LPi 2=some ((Tn).g 0):=rfl;rw[hh]at hg;obtain rfl:g=(Tn).g 0:=(Option.some.inj hg).symm;refine aZ.sU (N:=1010) aj P7 (L:=bX) (ak 0 _) acp (λx=>acs x) ?_;rintro⟨⟨A,m,k,⟨⟩,B,n,i,D,l,j,⟨⟩⟩,⟨C,I,a,⟨⟩⟩⟩ hx;have hx:NH ((A,m,k,(),B,n,i,D,l,j,()),(C,I,a,()))=true:=hx;simp only[NH,cu,fT]at hx;obtain⟨h1,h2,rfl,rfl,rfl,rfl,h7,h8,h9⟩:=hx;exact⟨_,ag6 A B n i D h2 h9 a h1 (· =Tn.res ((A,C.length,I.length,(),B,n,i,D,(D.length:Int),0,()),(C,I,a,()))) D.length 0 C I (by omega) (by omega) (by omega) rfl⟩
theorem Xw{X:Type}(E:Kk X)(A:List X)(k:Nat):E.list (A.length-k) (λj=>E.el A (j+k))=A.drop k∧E.oks (A.length-k) (λj=>E.el A (j+k))=true:=by
 have h: ∀j,j<A.length-k→E.el A (j+k)=E.el (A.drop k) j:=by
  intro j hj;unfold Kk.el;simp only[dR,List.getElem?_drop,Nat.add_comm j k]
 rw[E.mK h,E.oK h];have:=E.aS (A.drop k);rw[List.length_drop]at this;exact⟨this,E.bH _ _⟩
def FL(A:List Ob)(m k:Nat)(B:List Ob)(n i:Int)(C:List Cv)(I:List (Int×Int)):Tr (PoX ⊕ PoR):=
 let j:=IntKind.i64.wrap (i+1)
 let A1:=fG.list A.length (fG.el A)
 let B1:=fG.list B.length (fG.el B)
 let D:=fG.list (A.length-j.toNat) λq=>fG.el A (q+j.toNat)
 let C1:=gV.list C.length (gV.el C)
 let I1:=jO.list I.length (jO.el I)
 let b:=B.getD i.toNat iT
 let T:=D.map λd=>((⟨b.i,b.m,b.e⟩:Ob),d)
 let C2:=C1++kg I1.length T
 let I2:=I1++kr T
 Tr.ite (decide (i<n))
  (Tr.need (decide (0≤i∧i<(B.length:Int)))<| Tr.need (decide (0≤j∧j≤(A.length:Int)))<| Tr.need (fG.oks A.length (fG.el A))<| Tr.need (fG.oks B.length (fG.el B))<| Tr.need (fG.oks (A.length-j.toNat) λq=>fG.el A (q+j.toNat))<|
   Tr.need (gV.oks C.length (gV.el C))<| Tr.need (jO.oks I.length (jO.el I))<| Tr.need (NH ((A1,m,k,(),B1,n,i,D,((A.length-j.toNat:Nat):Int),0,()),(C1,I1,⟨b.i,b.m,b.e⟩,())))<|
    Tr.need (fG.oks A1.length (fG.el A1))<| Tr.need (fG.oks B1.length (fG.el B1))<| Tr.need (gV.oks C2.length (gV.el C2))<| Tr.need (jO.oks I2.length (jO.el I2))<|
     Tr.ret (Sum.inl ((fG.list A1.length (fG.el A1),C2.length,I2.length,fG.list B1.length (fG.el B1),n,j,()),(gV.list C2.length (gV.el C2),jO.list I2.length (jO.el I2),()))))
  (Tr.need (gV.oks C.length (gV.el C))<| Tr.need (jO.oks I.length (jO.el I))<| Tr.ret (Sum.inr ((m,k,()),(C1,I1,()))))
theorem acv(x:PoX):(exec Tryz.prog ΓPi LPi 1010 (bn 0 (codeOf Tryz.f14)) (iQ Tp.nIn (Tp.head x))).bind (Tp.fin 0 0)=FL x.1.1 x.1.2.1 x.1.2.2.1 x.1.2.2.2.1 x.1.2.2.2.2.1 x.1.2.2.2.2.2.1 x.2.1 x.2.2.1:=by
 obtain⟨⟨A,m,k,B,n,i,⟨⟩⟩,⟨C,I,⟨⟩⟩⟩:=x
 kernel_rfl
theorem ag7{A:List Ob}(h:A.all okO=true)(k:Nat):(A.drop k).all okO=true:=List.all_eq_true.2 λo ho=>List.all_eq_true.1 h o (List.mem_of_mem_drop ho)
theorem acw(A B:List Ob)(hA:A.all okO=true)(hB:B.all okO=true)(hl:A.length=B.length)(lB:B.length≤12)(i:Nat)(hi:i<B.length)(C:List Cv)(I:List (Int×Int))(lC:C.length≤1000)(lI:I.length≤1000){R:PoX ⊕ PoR→Prop}
  (hq:R (.inl ((A,(C++kg I.length ((A.drop (i+1)).map λd=>(B.getD i iT,d))).length,(I++kr ((A.drop (i+1)).map λd=>(B.getD i iT,d))).length,B,(B.length:Int),((i+1:Nat):Int),()),(C++kg I.length ((A.drop (i+1)).map λd=>(B.getD i iT,d)),I++kr ((A.drop (i+1)).map λd=>(B.getD i iT,d)),())))):
  (FL A C.length I.length B (B.length:Int) (i:Nat) C I).sat R:=by
 have w1:IntKind.i64.wrap ((i:Int)+1)=((i+1:Nat):Int):=jR;have c1:decide ((i:Int)<(B.length:Int))=true:=bQ;obtain⟨d1,d2⟩:=Xw fG A (i+1);obtain⟨b1,b2⟩:=vI hB hi;have hb:okO (B.getD i iT)=true:=by unfold okO;rw[b1,b2];rfl
 unfold FL;simp only[w1,c1,jf];generalize B.getD i iT=b at*;have hp:NH ((A,C.length,I.length,(),B,(B.length:Int),(i:Int),A.drop (i+1),((A.length-(i+1):Nat):Int),0,()),(C,I,b,()))=true:=by
  simp only[NH,hb,ag7 hA,Bool.true_and,cu,fT,List.length_drop];exact⟨trivial,trivial,trivial,trivial,lC,lI,by omega⟩
 simp only[fG.aS,fG.bH,gV.aS,gV.bH,jO.aS,jO.bH,d1,d2,hp,sat_true];refine au (λ_=>ah (bQ) (ah (bQ) ?_)) (λh=>by cases h);simp only[sat_true];exact av hq
theorem Xx(A B:List Ob)(i:Nat)(hi: ¬i<B.length)(C:List Cv)(I:List (Int×Int)){R:PoX ⊕ PoR→Prop}(hq:R (.inr ((C.length,I.length,()),(C,I,())))):(FL A C.length I.length B (B.length:Int) (i:Nat) C I).sat R:=by
 have c1:decide ((i:Int)<(B.length:Int))=false:=jK (by omega);unfold FL;simp only[c1,gV.aS,gV.bH,jO.aS,jO.bH];exact au (λh=>by cases h) (λ_=>ah rfl (ah rfl (av hq)))
abbrev auQ:PoX→Tr (PoX ⊕ PoR):=λx=>FL x.1.1 x.1.2.1 x.1.2.2.1 x.1.2.2.2.1 x.1.2.2.2.2.1 x.1.2.2.2.2.2.1 x.2.1 x.2.2.1
theorem ag8(A B:List Ob)(hA:A.all okO=true)(hB:B.all okO=true)(hl:A.length=B.length)(lB:B.length≤12)(Q:PoR→Prop): ∀(z i:Nat) (S:List (Ob×Ob)),i+z=B.length→S.length≤12*i→
  Q (((kg 0 (S++Ld A i (B.drop i))).length,(kr (S++Ld A i (B.drop i))).length,()),(kg 0 (S++Ld A i (B.drop i)),kr (S++Ld A i (B.drop i)),()))→
  dJ auQ Q (z+1) ((A,(kg 0 S).length,(kr S).length,B,(B.length:Int),(i:Nat),()),(kg 0 S,kr S,()))
 | 0,i,S,he,hS,hq=>by
   rw[List.drop_eq_nil_of_le (by omega)]at hq;simp only[Ld,List.append_nil]at hq;exact Xx A B i (by omega) _ _ hq
 | z+1,i,S,he,hS,hq=>by
   have hi:i<B.length:=by omega
   have hu:B.getD i iT=B[i]:=by simp[dR,hi]
   rw[List.drop_eq_getElem_cons hi, ←hu]at hq;have hq':Q (((kg 0 ((S++((A.drop (i+1)).map λd=>(B.getD i iT,d)))++Ld A (i+1) (B.drop (i+1)))).length,(kr ((S++((A.drop (i+1)).map λd=>(B.getD i iT,d)))++Ld A (i+1) (B.drop (i+1)))).length,()),(kg 0 ((S++((A.drop (i+1)).map λd=>(B.getD i iT,d)))++Ld A (i+1) (B.drop (i+1))),kr ((S++((A.drop (i+1)).map λd=>(B.getD i iT,d)))++Ld A (i+1) (B.drop (i+1))),())):=by
    rw[List.append_assoc];exact hq
   have e1:kg 0 S++kg (kr S).length ((A.drop (i+1)).map λd=>(B.getD i iT,d))=kg 0 (S++((A.drop (i+1)).map λd=>(B.getD i iT,d))):=by
    rw[zG,KU,Nat.zero_add]
   have e2:kr S++kr ((A.drop (i+1)).map λd=>(B.getD i iT,d))=kr (S++((A.drop (i+1)).map λd=>(B.getD i iT,d))):=by simp[kr]
   refine acw A B hA hB hl lB i hi _ _ (by rw[KT];omega) (by rw[KU];omega) ?_;rw[e1,e2];exact ag8 A B hA hB hl lB Q z (i+1) _ (by omega) (by simp;omega) hq'
theorem ag9:bF Tryz.prog 0 LPo (codeOf Tryz.f14):=by
 refine bG (d:=λid=>Nat.beq id 0) (λid=>by unfold LPo;cases Nat.beq id 0<;>rfl) _ ?_;have hb:bU (λid=>Nat.beq id 0) (codeOf Tryz.f14)=[(0,.loop (bn 0 (codeOf Tryz.f14)))]:=by kernel_rfl
 rw[hb];intro p hp g hg;simp only[List.mem_singleton]at hp;subst hp;have hh:LPo 0=some ((Tp).g 0):=rfl;rw[hh]at hg;obtain rfl:g=(Tp).g 0:=(Option.some.inj hg).symm;refine aZ.sU (N:=1010) aj P7 (L:=LPi) ar3 acr (λx=>acv x) ?_;rintro⟨⟨A,m,k,B,n,i,⟨⟩⟩,⟨C,I,⟨⟩⟩⟩ hx;have hx:NI ((A,m,k,B,n,i,()),(C,I,()))=true:=hx;simp only[NI,cu,fT]at hx;obtain⟨h1,h2,h3,rfl,rfl,h6,h7,rfl,rfl,h10⟩:=hx;obtain rfl:C=[]:=List.length_eq_zero_iff.1 h6;obtain rfl:I=[]:=List.length_eq_zero_iff.1 h7;exact⟨_,ag8 A B h1 h2 h3 h10 (· =Tp.res ((A,0,0,B,(B.length:Int),0,()),([],[],()))) B.length 0 [] (by omega) (by simp) rfl⟩
def LP(O:List Ob):List (Ob×Ob):=Ld O 0 O
def prV(O:List Ob):AV:=if O.length≤11 then .iC [gV.sl (kg 0 (LP O)),jO.sl (kr (LP O)),dn .i64 0]else .iC [gV.sl [],jO.sl [],dn .i64 3]
def KPr:List AV→Option (AV×List Bool):=(F1 fG.arg).K (λx=>prV x.1) λx=> [x.1.all okO,decide (x.1.length≤12)]
def MPr(O:List Ob):Tr AV:=
 let x2:=decide ((O.length:Int)>64)
 let x3:=IntKind.i64.wrap ((IntKind.i64.wrap ((O.length:Int)*IntKind.i64.wrap ((O.length:Int)-1))).tdiv 2)
 let V:=fG.list O.length (fG.el O)
 let T:=Ld V 0 V
 Tr.need (bif x2 then true else decide ((2:Int)≠0)&&true)<|
  Tr.ite (bif x2 then true else bif false then true else decide (x3>64))
   (Tr.ret (.iC [.c (.v (.slice none 0 0)),.c (.v (.slice none 0 0)),.c (.v (.int .i64 3))]))
   (Tr.need (fG.oks O.length (fG.el O))<| Tr.need (fG.oks O.length (fG.el O))<| Tr.need true<| Tr.need true<|
    Tr.need (NI ((V,0,0,V,(O.length:Int),0,()),(gV.list 0 (λ_=> []),jO.list 0 (λ_=> []),())))<|
     Tr.need (decide ((kg 0 T).length≤(kg 0 T).length))<| Tr.need (decide ((kr T).length≤(kr T).length))<|
      Tr.ret (.iC [gV.sl (kg 0 T),jO.sl (kr T),.c (.v (.int .i64 0))]))
theorem aha(O:List Ob):aI Tryz.prog ΓPi LPo 1010 Tryz.f14 [fG.sl O]=MPr O:=by kernel_rfl
theorem Tq(O:List Ob):bI.fu (prV O)=true:=by
 unfold prV;split<;>rfl
theorem auR:aN Tryz.prog 14 KPr:=
 (F1 fG.arg).Tm (N:=1010) (L:=LPo) aj P7 (fn:=Tryz.f14) (c:=codeOf Tryz.f14) (by kernel_rfl) (by kernel_rfl) (by kernel_rfl) ag9 (λx=>Tq x.1) (M:=λx=>MPr x.1) (λx=>aha x.1) λx h=>by
  obtain⟨O,⟨⟩⟩:=x;have h1:O.all okO=true:=h (O.all okO) (by simp);have h2:O.length≤12:=dec (h (decide (O.length≤12)) (by simp))
  show(MPr O).sat λr=>bI.fu r=true∧bM r (prV O)
  have c2:decide ((O.length:Int)>64)=false:=jK (by omega);have w1:IntKind.i64.wrap ((O.length:Int)-1)=(O.length:Int)-1:=by rw[wrap_i64 (by omega)]
  have hm:(O.length:Int)*((O.length:Int)-1)≤200∧0≤(O.length:Int)*((O.length:Int)-1)∧(((O.length:Int)*((O.length:Int)-1)).tdiv 2>64↔ ¬O.length≤11):=by
   have:O.length<13:=by omega
   generalize O.length=n at*;clear h1 h2 c2 w1
   match n,this with
   | 0,_=>decide
   | 1,_=>decide
   | 2,_=>decide
   | 3,_=>decide
   | 4,_=>decide
   | 5,_=>decide
   | 6,_=>decide
   | 7,_=>decide
   | 8,_=>decide
   | 9,_=>decide
   | 10,_=>decide
   | 11,_=>decide
   | 12,_=>decide
  obtain⟨m1,m2,m3⟩:=hm;have w2:IntKind.i64.wrap ((O.length:Int)*((O.length:Int)-1))=(O.length:Int)*((O.length:Int)-1):=by rw[wrap_i64 (by omega)]
  have w3:IntKind.i64.wrap (((O.length:Int)*((O.length:Int)-1)).tdiv 2)=((O.length:Int)*((O.length:Int)-1)).tdiv 2:=by
   generalize (O.length:Int)*((O.length:Int)-1)=q at*;have h1:=Int.tdiv_nonneg m2 (show(0:Int)≤2 by decide);have h2:=Int.tdiv_le_self 2 m2;rw[wrap_i64];omega
  have e0:gV.list 0 (λ_=> [])=[]:=rfl;have e1:jO.list 0 (λ_=> [])=[]:=rfl;have hp:NI ((O,0,0,O,(O.length:Int),0,()),([],[],()))=true:=by
   simp only[NI,h1,Bool.true_and,cu,fT];exact⟨trivial,trivial,trivial,rfl,rfl,trivial,trivial,h2⟩
  simp only[MPr,c2,w1,w2,w3,fG.aS,fG.bH,e0,e1,hp,cond_false,sat_true];refine ah rfl (au (λh=> ?_) (λh=> ?_))
  ·have h:=m3.1 (j4 h)
   unfold prV;rw[if_neg h];exact av ⟨rfl,bM.iC (.cons (bM.nil _ _) (.cons (bM.nil _ _) (.cons (bM.refl _) .nil)))⟩
  ·have h:O.length≤11:=by
    have:=of_decide_eq_false h;by_cases hh:O.length≤11
    ·exact hh
    ·exact absurd (m3.2 hh) this
   unfold prV;rw[if_pos h];simp only[sat_true];exact ah (fZ (Nat.le_refl _)) (ah (fZ (Nat.le_refl _)) (av ⟨rfl,bM.refl _⟩))
end Go.bI
namespace Go.bI
open Go.Proofs
abbrev SeX:=List Uq×List Uq×Int×Int×Unit
abbrev FSe:Form SeX:= .cons aU.arg (.cons aU.arg (.cons bK (.cons bK .nil)))
def NJ(x:SeX):Bool:=rQ x.1 x.2.1&&(decide (x.2.2.1=(x.1.length:Nat))&&(decide (x.2.2.2.1=0)&&decide (x.1.length≤100000)))
def Xy:aZ SeX Unit:=yA {nt:=26,live:=[0,1,12,13]} {nt:=26,live:=[]} (fJ.pure FSe) (fJ.pure Form.nil) (λ_=>()) NJ
theorem acy:Xy.gI:=eG _ _ _ _ _ _
def LSe:Nat→Option (St→Tr (Ex×St)):=λid=>bif Nat.beq id 0 then some (Xy.g 0)else none
def ahb(i j:Ig):Bool:=bA [i.ob==j.ob,i.oa==j.oa,WL i.b j.b,WL i.a j.a].reverse
def ahc(u v:Uq):Bool:=bA [agv u.f v.f,ahb u.i v.i].reverse
def FM(U V:List Uq)(n i:Int):Tr (SeX ⊕ Unit):=
 let u:=U.getD i.toNat aU.d
 let v:=V.getD i.toNat aU.d
 Tr.ite (decide (i<n))
  (Tr.need (decide (0≤i∧i<(U.length:Int)))<| Tr.need (decide (0≤i∧i<(V.length:Int)))<| Tr.ite (!ahc u v) (Tr.fail "out")
   (Tr.need (aU.oks U.length (aU.el U))<| Tr.need (aU.oks V.length (aU.el V))<| Tr.ret (Sum.inl (aU.list U.length (aU.el U),aU.list V.length (aU.el V),n,IntKind.i64.wrap (i+1),()))))
  (Tr.ret (Sum.inr ()))
theorem acz(x:SeX):(exec Tryz.prog Px bX 1010 (bn 0 (codeOf Tryz.f42)) (iQ Xy.nIn (Xy.head x))).bind (Xy.fin 0 0)=FM x.1 x.2.1 x.2.2.1 x.2.2.2.1:=by
 obtain⟨U,V,n,i,⟨⟩⟩:=x
 kernel_rfl
theorem ahd(i j:Ig):ahb i j=abJ i j:=by
 have e: ∀x y:R3,decide (x=y)=Sw x y:=λx y=>by
  cases h:Sw x y with
  | true=>exact fZ (Kz.1 h)
  | false=>exact jK λk=>by rw[Kz.2 k]at h;cases h
 simp only[ahb,IK,e];unfold abJ;cases Sw i.a j.a<;>cases Sw i.b j.b<;>cases (i.oa==j.oa)<;>cases (i.ob==j.ob)<;>rfl
theorem ahe(u v:Uq):ahc u v=Sy u v:=by
 simp only[ahc,ahd,Zl];unfold Sy;cases abJ u.i v.i<;>cases eqQ u.f v.f<;>rfl
theorem acA(U:List Uq)(hn:U.length≤100000)(i:Nat)(hi:i<U.length){R:SeX ⊕ Unit→Prop}(hq:R (.inl (U,U,(U.length:Int),((i+1:Nat):Int),()))):(FM U U (U.length:Int) (i:Nat)).sat R:=by
 have w1:IntKind.i64.wrap ((i:Int)+1)=((i+1:Nat):Int):=jR;have c1:decide ((i:Int)<(U.length:Int))=true:=bQ;unfold FM;simp only[w1,c1,ahe,Sz.2 rfl,aU.aS,aU.bH,Bool.not_true];exact au (λ_=>ah (bQ) (ah (bQ) (au (λh=>by cases h) (λ_=>ah rfl (ah rfl (av hq)))))) (λh=>by cases h)
theorem Xz(U:List Uq)(i:Nat)(hi: ¬i<U.length){R:SeX ⊕ Unit→Prop}(hq:R (.inr ())):(FM U U (U.length:Int) (i:Nat)).sat R:=by
 have c1:decide ((i:Int)<(U.length:Int))=false:=jK (by omega);unfold FM;simp only[c1];exact au (λh=>by cases h) (λ_=>av hq)
theorem ahf(U:List Uq)(hn:U.length≤100000)(Q:Unit→Prop)(hq:Q ()): ∀(k i:Nat),i+k=U.length→dJ (λx:SeX=>FM x.1 x.2.1 x.2.2.1 x.2.2.2.1) Q (k+1) (U,U,(U.length:Nat),(i:Nat),())
 | 0,i,he=>Xz U i (by omega) hq
 | k+1,i,he=>acA U hn i (by omega) (ahf U hn Q hq k (i+1) (by omega))
theorem ar4:bF Tryz.prog 0 LSe (codeOf Tryz.f42):=by
 refine bG (d:=λid=>Nat.beq id 0) (λid=>by unfold LSe;cases Nat.beq id 0<;>rfl) _ ?_;have hb:bU (λid=>Nat.beq id 0) (codeOf Tryz.f42)=[(0,.loop (bn 0 (codeOf Tryz.f42)))]:=by kernel_rfl
 rw[hb];intro p hp g hg;simp only[List.mem_singleton]at hp;subst hp;have hh:LSe 0=some ((Xy).g 0):=rfl;rw[hh]at hg;obtain rfl:g=(Xy).g 0:=(Option.some.inj hg).symm;refine aZ.sU (N:=1010) aj oz (L:=bX) (ak 0 _) acy (λx=>acz x) ?_;rintro⟨U,V,n,i,⟨⟩⟩ hx;have hx:NJ (U,V,n,i,())=true:=hx;simp only[NJ,cu,fT,kG]at hx;obtain⟨rfl,rfl,rfl,h4⟩:=hx;exact⟨_,ahf U h4 (· =()) rfl U.length 0 (by omega)⟩
def KSe:List AV→Option (AV×List Bool):=(F2 aU.arg aU.arg).K (λx=>bL true) λx=> [rQ x.1 x.2.1,decide (x.1.length≤100000)]
def MSe(U V:List Uq):Tr AV:=
 Tr.ite ((U.length:Int) !=(V.length:Int)) (Tr.ret (bL false)) (Tr.need (aU.oks U.length (aU.el U))<| Tr.need (aU.oks V.length (aU.el V))<| Tr.need (NJ (aU.list U.length (aU.el U),aU.list V.length (aU.el V),(U.length:Int),0,()))<| Tr.ret (bL true))
theorem ar5(U V:List Uq):aI Tryz.prog (AQ Tryz.prog Px (λ_=>false) 1010 1) LSe 1010 Tryz.f42 [aU.sl U,aU.sl V]=MSe U V:=by kernel_rfl
theorem auS:aN Tryz.prog 42 KSe:=
 (F2 aU.arg aU.arg).dO (N:=1010) (L:=LSe) aj (l7 aj oz 1) (fn:=Tryz.f42) (c:=codeOf Tryz.f42) (by kernel_rfl) (by kernel_rfl) (by kernel_rfl) ar4 (λ_=>rfl) (M:=λx=>MSe x.1 x.2.1) (λx=>ar5 x.1 x.2.1) λx h=>by
  obtain⟨U,V,⟨⟩⟩:=x;have h1:U=V:=kG.1 (h (rQ U V) (by simp));have h2:U.length≤100000:=dec (h (decide (U.length≤100000)) (by simp));subst h1;have hp:NJ (U,U,(U.length:Int),0,())=true:=by
   simp only[NJ,kG.2 rfl,Bool.true_and,cu,fT];exact⟨trivial,trivial,h2⟩
  have hne:((U.length:Int) !=(U.length:Int))=false:=by simp
  simp only[MSe,hne,aU.aS,aU.bH,hp];exact au (λh=>by cases h) (λ_=>ah rfl (ah rfl (ah rfl (av rfl))))
def ΓSa:FuncId→Option Spec:=λf=>bif Nat.beq f 42 then some (ay KSe)else none
theorem ar6: ∀f s,ΓSa f=some s→aR Tryz.prog f s:=bS auS.spec
def MSa(U V:List Uq):Tr AV:=
 Tr.need (aU.oks U.length (aU.el U))<| Tr.need (aU.oks V.length (aU.el V))<| Tr.need (rQ (aU.list U.length (aU.el U)) (aU.list V.length (aU.el V)))<| Tr.need (decide ((aU.list U.length (aU.el U)).length≤100000))<| Tr.ret (bL true)
theorem ar7(U V:List Uq):aI Tryz.prog ΓSa bX 1010 Tryz.f15 [aU.sl U,aU.sl V]=MSa U V:=by kernel_rfl
theorem auT:aN Tryz.prog 15 KSe:=
 (F2 aU.arg aU.arg).dO (N:=1010) (L:=bX) aj ar6 (fn:=Tryz.f15) (c:=codeOf Tryz.f15) (by kernel_rfl) (by kernel_rfl) (by kernel_rfl) (ak _ _) (λ_=>rfl) (M:=λx=>MSa x.1 x.2.1) (λx=>ar7 x.1 x.2.1) λx h=>by
  obtain⟨U,V,⟨⟩⟩:=x;have h1:rQ U V=true:=h (rQ U V) (by simp);have h2:decide (U.length≤100000)=true:=h (decide (U.length≤100000)) (by simp);simp only[MSa,aU.aS,aU.bH,h1,h2,sat_true];exact av rfl
end Go.bI
namespace Go.bI
open Go.Proofs
theorem jG.auU{A:Nat→Prop}{w:World}{v:Value}{sz:Nat}{el:Nat→List IV}(h:jG A w (.v (.slice none 0 0)) v):jG A w (.sl 0 sz el) v:=by
 cases h with
 | v=>exact .nil _ _
theorem bM.nO{n sz:Nat}{el jw:Nat→List IV}(hl: ∀k,k<n→(jw k).length=(el k).length)(h: ∀k,k<n→ ∀j (A:Nat→Prop)(w:World)(v:Value),jG A w ((el k).getD j (.v undef)) v→jG A w ((jw k).getD j (.v undef)) v):bM (.c (.sl n sz el)) (.c (.sl n sz jw)):=by
 intro A B w u hu;cases hu with
 | c _ _ hi=>
   cases hi with
   | nil=>exact .c _ _ (.nil _ _)
   | zero=>exact .c _ _ (.zero _ _ _)
   | sl _ _ _ b off cap h1 h2 h3 h4 h5 h6=>
     exact .c _ _ (.sl n sz jw b off cap h1 h2 h3 (λk hk=>by rw[hl k hk];exact h4 k hk) h5 λk j hk hj=>h k hk j A w _ (h6 k j hk hj))
def oxV(l:List IV):Ob:=match l with | [.v (.int .i64 i),.sl m 36 e]=>⟨i,m,e⟩ | [.v (.int .i64 i),.v (.slice none 0 0)]=>⟨i,0,λ_=> []⟩ | _=>iT
def oxI(l:List IV):Bool:=match l with | [.v (.int .i64 _),.sl _ 36 _]=>true | [.v (.int .i64 _),.v (.slice none 0 0)]=>true | _=>false
theorem ZN{l:List IV}(h:oxI l=true):l.length=(fG.iv (oxV l)).length∧ ∀j (A:Nat→Prop) (w:World) (v:Value),jG A w (l.getD j (.v undef)) v→jG A w ((fG.iv (oxV l)).getD j (.v undef)) v:=by
 unfold oxI at h
 split at h
 ·exact⟨rfl,λj A w v k=>k⟩
 ·refine⟨rfl,λj A w v k=> ?_⟩
  match j with
  | 0=>exact k
  | 1=>exact jG.auU k
  | j+2=>exact k
 ·cases h
def oxs(n:Nat)(el:Nat→List IV):List Ob:=(List.range n).map λk=>oxV (el k)
theorem ZO(n:Nat)(el:Nat→List IV):(oxs n el).length=n:=by simp[oxs]
def NK:Arg (List Ob) where
 get:=λa=>match a with | .c (.sl n sz el)=>bif Nat.beq sz 2 then some (oxs n el,[(List.range n).all λk=>oxI (el k)])else none | _=>none
 put:=fG.sl
 ok:=by
  intro a x cs h hc
  split at h
  ·rename_i n sz el
   cases hb:Nat.beq sz 2 with
   | false=>rw[hb]at h;cases h
   | true=>
     rw[hb]at h;simp only[cond_true,fK,Prod.mk.injEq]at h;obtain⟨rfl,rfl⟩:=h;obtain rfl:sz=2:=by simpa using hb
     have hok:=List.all_eq_true.1 (hc _ (List.mem_singleton_self _));unfold Kk.sl;rw[ZO];have e: ∀k,k<n→fG.el (oxs n el) k=fG.iv (oxV (el k)):=λk hk=>by
      unfold Kk.el oxs;simp[dR,hk]
     refine bM.nO (λk hk=> ?_) λk hk j A w v hv=> ?_
     ·rw[e k hk];exact(ZN (hok k (List.mem_range.2 hk))).1.symm
     ·rw[e k hk];exact(ZN (hok k (List.mem_range.2 hk))).2 j A w v hv
  ·cases h
theorem ahg(O:List Ob):oxs O.length (fG.el O)=O:=by
 apply List.ext_getElem
 ·simp[oxs]
 ·intro i h1 h2
  simp only[oxs,List.getElem_map,List.getElem_range]
  show oxV (fG.iv (O.getD i iT))=O[i]
  simp[dR,h2,fG,agS,oxV]
theorem ahh(O:List Ob):((List.range O.length).all λk=>oxI (fG.el O k))=true:=List.all_eq_true.2 λk _=>rfl
def KPx:List AV→Option (AV×List Bool):=(F1 NK).K (λx=>prV x.1) λx=> [x.1.all okO,decide (x.1.length≤12)]
theorem auV:aN Tryz.prog 14 KPx:=
 Form.weaken (F1 NK) auR (λx=>Tq x.1) λx h=>by
  obtain⟨O,⟨⟩⟩:=x;have h1:O.all okO=true:=h (O.all okO) (by simp);have h2:decide (O.length≤12)=true:=h (decide (O.length≤12)) (by simp);have e:(F1 fG.arg).parse ((F1 NK).args (O,()))=some ((fG.list O.length (fG.el O),()),[fG.oks O.length (fG.el O)]):=rfl;refine⟨prV (fG.list O.length (fG.el O)),[fG.oks O.length (fG.el O),(fG.list O.length (fG.el O)).all okO,decide ((fG.list O.length (fG.el O)).length≤12)],?_,?_,by rw[fG.aS]⟩
  ·unfold KPr Form.K
   rw[e];rfl
  ·rw[fG.aS,fG.bH,h1,h2]
   simp
def XA:Kk Int where
 n:=2
 iv:=λi=> [.v (.int .i64 i),.v (.slice none 0 0)]
 V:=λl=>match l with | [.c (.v (.int .i64 i)),.c (.v (.slice none 0 0))]=>i | _=>0
 ok:=λl=>match l with | [.c (.v (.int .i64 _)),.c (.v (.slice none 0 0))]=>true | _=>false
 d:=0
 ok_eq:=by
  intro l h
  split at h
  ·rfl
  ·cases h
 V_c:=λ_=>rfl
 Pv:=λ_=>rfl
def LQ(O:List Ob)(j:Nat):Nat→List Ob→List Cv→Bool
 | _,[],_=>true
 | k,o::B,C=>
   if k=j then LQ O j (k+1) B C else
    match C with
    | []=>false
    | c::C=>decide (c.i=o.i)&&(aU.oks c.m c.e&&(rQ (aU.list c.m c.e) (qw (wm o) (wm (O.getD j iT)))&&(decide (c.m≤1000)&&LQ O j (k+1) B C)))
theorem D5{A B:List Ul}(hA:yM A=true)(hB:yM B=true):(qw A B).length≤1000:=by
 obtain⟨_,_,_,h⟩:=SL hA hB;simp only[KH,cu,fT]at h;have:=SK (jv (refine A B));unfold qw;omega
theorem ZP(O:List Ob)(j:Nat)(hj:yM (wm (O.getD j iT))=true): ∀(B:List Ob) (k:Nat),B.all okO=true→LQ O j k B (LM O (j:Int) k B)=true
 | [],_,_=>by unfold LQ;rfl
 | o::B,k,h=>by
   simp only[List.all_cons,cu]at h;have ih:=ZP O j hj B (k+1) h.2;have ho:yM (wm o)=true:=by
    have:=h.1;simp only[okO,cu]at this;exact this.2
   unfold LQ LM;by_cases e:k=j
   ·rw[if_pos e,if_pos (by omega)];exact ih
   ·rw[if_neg e,if_neg (by omega),jf]
    have hl:=D5 hj ho;simp only[ih,Hg,aU.aS,aU.bH,abU hj ho,kG.2 rfl,decide_true,Bool.and_true,Bool.true_and];exact fZ hl
def AX:Nat→List (Ob×Ob)→List Cv→List (Int×Int)→Bool
 | _,[],_,_=>true
 | _,_::_,[],_=>false
 | _,_::_,_::_,[]=>false
 | k,p::T,c::C,q::I=>decide (c.i=((k+1:Nat):Int))&&(aU.oks c.m c.e&&(rQ (aU.list c.m c.e) (qw (wm p.1) (wm p.2))&&(decide (c.m≤1000)&&(decide (q.1=p.1.i)&&(decide (q.2=p.2.i)&&AX (k+1) T C I)))))
theorem ZQ: ∀(T:List (Ob×Ob)) (k:Nat),(∀p∈T,yM (wm p.1)=true∧yM (wm p.2)=true)→AX k T (kg k T) (kr T)=true
 | [],_,_=>rfl
 | p::T,k,h=>by
   have ih:=ZQ T (k+1) λq hq=>h q (.tail _ hq)
   obtain⟨h1,h2⟩:=h p (by simp);simp only[kg,kr,List.map_cons,AX,Hg,aU.aS,aU.bH,kG.2 rfl,fZ (D5 h1 h2),decide_true,Bool.true_and];exact ih
def D6:Nat→List Ob→Bool
 | _,[]=>true
 | k,o::B=>decide (o.i=((k+1:Nat):Int))&&D6 (k+1) B
theorem NM: ∀{O:List Ob} {k:Nat},D6 k O=true→ ∀{i:Nat},i<O.length→(O.getD i iT).i=((k+i+1:Nat):Int)
 | [],_,_,i,hi=>by simp at hi
 | o::O,k,h,i,hi=>by
   simp only[D6,cu,fT]at h
   match i with
   | 0=>simpa using h.1
   | i+1=>
     have:=NM h.2 (i:=i) (by simpa using hi);simp only[List.getD_cons_succ];rw[this]
     congr 1
     omega
theorem NN: ∀(l:List Cw) (k:Nat),D6 k (rT k l)=true
 | [],_=>rfl
 | c::l,k=>by
   simp only[rT,D6,cu,fT];exact⟨rfl,NN l (k+1)⟩
theorem Tt: ∀(O:List Ob) (k:Nat) (id:Int),D6 k O=true→oP O id k=if(k:Int)<id∧id≤k+O.length then id-1 else -1
 | [],k,id,_=>by
   unfold oP;rw[if_neg (by simp only[List.length_nil];omega)]
 | o::O,k,id,h=>by
   simp only[D6,cu,fT]at h;have ih:=Tt O (k+1) id h.2;unfold oP;rw[h.1];simp only[List.length_cons];by_cases e:((k+1:Nat):Int)=id
   ·rw[if_pos e,if_pos (by omega)];omega
   ·rw[if_neg e]
    have e2:((k:Int)+1)=((k+1:Nat):Int):=rfl;rw[e2,ih];by_cases c:((k+1:Nat):Int)<id∧id≤((k+1:Nat):Int)+O.length
    ·rw[if_pos c,if_pos (by omega)]
    ·rw[if_neg c,if_neg (by omega)]
theorem amS{c:Cw}(h:c.ok=true)(h6:c.m≤6)(k:Nat):okO (Xn k c)=true:=by
 have hc:=Cw.aob h h6;have e1: ∀j,j<(uE c.cr).length→bZ (uE c.cr) j=gD.el (ace c.cr) j:=λj hj=>amO _ j hj
 have e2:(uE c.cr).length=(ace c.cr).length:=by unfold ace;rw[List.length_map]
 have e3:gD.list (uE c.cr).length (bZ (uE c.cr))=ace c.cr:=by
  rw[gD.mK e1,e2,gD.aS]
 unfold okO wm Xn;dsimp only;rw[e3,amQ hc,gD.oK e1,gD.bH];rfl
theorem ahi: ∀(l:List Cw) (k:Nat),l.all Cw.ok=true→yg l=true→(rT k l).all okO=true
 | [],_,_,_=>rfl
 | c::l,k,h1,h2=>by
   simp only[List.all_cons,cu]at h1;simp only[yg,List.all_cons,cu,fT]at h2;simp only[rT,List.all_cons,cu];exact⟨amS h1.1 h2.1 k,ahi l (k+1) h1.2 h2.2⟩
end Go.bI
namespace Go.bI
open Go.Proofs
abbrev A0X:=Int×List Ob×List Cv×List Cv×List (Int×Int)×Int×Int×Int×Unit
abbrev A0R:=List Ob×List Cv×List (Int×Int)×Int×Unit
abbrev FA0:Form A0X:= .cons bK (.cons fG.arg (.cons gV.arg (.cons gV.arg (.cons jO.arg (.cons bK (.cons bK (.cons bK .nil)))))))
abbrev GA0:Form A0R:= .cons fG.arg (.cons gV.arg (.cons jO.arg (.cons bK .nil)))
def KV(x:A0X):Bool:=match x with
 | (id,O,C,p,I,g,at',i,())=>O.all okO&&(D6 0 O&&((decide (C.length=0) || (decide (1≤id)&&(decide (id≤(O.length:Int))&&LQ O (id-1).toNat 0 O C)))&&(decide (at'=0)&&(decide (i=0)&&decide (O.length≤100)))))
def auW(x:A0X):A0R:=match x with
 | (id,O,C,p,I,g,at',i,())=>(O,p,I,g,())
def XB:aZ A0X A0R:=yA {nt:=241,live:=[1,5,6,8,9,10,11,12]} {nt:=241,live:=[5,8,9,10]} (.pure FA0) (.pure GA0) auW KV
theorem acB:XB.gI:=eG _ _ _ _ _ _
abbrev A4X:=List Ob×List Cv×List (Int×Int)×Int×Int×Int×Int×Unit
abbrev Tv:=List Ob×List Cv×List (Int×Int)×Int×Int×Int×Unit
abbrev A2R:=List Cv×List (Int×Int)×Int×Int×Unit
abbrev FA4:Form A4X:= .cons fG.arg (.cons gV.arg (.cons jO.arg (.cons bK (.cons bK (.cons bK (.cons bK .nil))))))
abbrev FA2:Form Tv:= .cons fG.arg (.cons gV.arg (.cons jO.arg (.cons bK (.cons bK (.cons bK .nil)))))
abbrev GA2:Form A2R:= .cons gV.arg (.cons jO.arg (.cons bK (.cons bK .nil)))
def NP(x:A4X):Bool:=match x with
 | (O,p,I,g,k,i,j,())=>O.all okO&&(decide (0≤i)&&(decide (i<(O.length:Int))&&(decide (j=i+1)&&(decide (0≤k)&&(decide (k≤1000)&&(decide (O.length≤100)&&AX k.toNat ((O.drop (i.toNat+1)).map λd=>(O.getD i.toNat iT,d)) (p.drop k.toNat) (I.drop k.toNat)))))))
def auX(x:A4X):Tv:=match x with
 | (O,p,I,g,k,i,j,())=>(O,p,I,g,k+((O.drop (i.toNat+1)).length:Nat),i,())
def Tw:aZ A4X Tv:=yA {nt:=241,live:=[5,8,9,10,13,14,15]} {nt:=241,live:=[5,8,9,10,13,14]} (.pure FA4) (.pure FA2) auX NP
theorem acC:Tw.gI:=eG _ _ _ _ _ _
def LA4:Nat→Option (St→Tr (Ex×St)):=λid=>bif Nat.beq id 4 then some (Tw.g 0)else none
def KW(x:Tv):Bool:=match x with
 | (O,p,I,g,k,i,())=>O.all okO&&(decide (i=0)&&(decide (k=0)&&(decide (O.length≤12)&&AX 0 (LP O) p I)))
def auY(x:Tv):A2R:=match x with
 | (O,p,I,g,k,i,())=>(p,I,g,((LP O).length:Nat),())
def XC:aZ Tv A2R:=yA {nt:=241,live:=[5,8,9,10,13,14]} {nt:=241,live:=[8,9,10,13]} (.pure FA2) (.pure GA2) auY KW
theorem acD:XC.gI:=eG _ _ _ _ _ _
abbrev A6X:=(List Cv×List (Int×Int)×Int×Int×Nat×Int×Unit)×(List Int×Unit)
abbrev A6R:=(List Cv×List (Int×Int)×Int×Int×Nat×Unit)×(List Int×Unit)
def amT:List Int:=[1,2,3,4,5,6,7,8,9,10,11,12]
def ahj(x:A6X):Bool:=match x with
 | ((p,I,g,k,m,i,()),(N,()))=>decide (m=0)&&(decide (N.length=0)&&decide (i=1))
def auZ(x:A6X):A6R:=match x with
 | ((p,I,g,k,m,i,()),(N,()))=>((p,I,g,k,12,()),(amT,()))
def XD:aZ A6X A6R:=yA {nt:=241,live:=[8,9,10,13,16,17],lifts:=[(16,2,60)]} {nt:=241,live:=[8,9,10,13,16],lifts:=[(16,2,60)]}
 (.with (.cons (XA.ent 60) .nil) (.cons gV.arg (.cons jO.arg (.cons bK (.cons bK (.cons (gu 0 2) (.cons bK .nil)))))))
 (.with (.cons (XA.ent 60) .nil) (.cons gV.arg (.cons jO.arg (.cons bK (.cons bK (.cons (gu 0 2) .nil)))))) auZ ahj
theorem acE:XD.gI:=eG _ _ _ _ _ _
def LA:Nat→Option (St→Tr (Ex×St)):=λid=>bif Nat.beq id 0 then some (XB.g 0)else bif Nat.beq id 2 then some (XC.g 0)else bif Nat.beq id 6 then some (XD.g 0)else none
def ΓA:FuncId→Option Spec:=λf=>bif Nat.beq f 15 then some (ay KSe)else bif Nat.beq f 16 then some (ay KDp)else none
theorem ZR: ∀f s,ΓA f=some s→aR Tryz.prog f s:=step_ok auT.spec (bS agI.spec)
def zH(id:Int)(O:List Ob)(C:List Cv)(p:List Cv)(I:List (Int×Int))(g:Int)(at':Int)(i:Int):Tr (A0X ⊕ A0R):=
 let x1:Int:= ↑O.length
 let x2:Int:= ↑C.length
 let x3:Bool:=decide (x2>0)
 let x4:Bool:=decide (0≤i∧i<x1)
 let x5:Int:=(O.getD i.toNat iT).i
 let x6:Bool:=decide (0≤at'∧at'<x2)
 let x7:Bool:=(C.getD at'.toNat yK).i !=x5
 let x8:Int:=IntKind.i64.wrap (id-1)
 let x9:Nat:=(O.getD x8.toNat iT).m
 let x10:List Ul:=gD.list (O.getD i.toNat iT).m (O.getD i.toNat iT).e
 let fI:List Ul:=gD.list x9 (O.getD x8.toNat iT).e
 let fU:List Uq:=qw x10 fI
 let iM:Nat:=fU.length
 let iR:List Uq:=aU.list (C.getD at'.toNat yK).m (C.getD at'.toNat yK).e
 let jH:Nat:=iR.length
 let kE:Bool:=fG.oks O.length (fG.el O)
 let jD:Bool:=gV.oks C.length (gV.el C)
 let x18:Bool:=gV.oks p.length (gV.el p)
 let lW:Bool:=jO.oks I.length (jO.el I)
 let x20:List Ob:=fG.list O.length (fG.el O)
 let x21:List Cv:=gV.list C.length (gV.el C)
 let lZ:List Cv:=gV.list p.length (gV.el p)
 let x23:List (Int×Int):=jO.list I.length (jO.el I)
 Tr.ite (decide (i<x1))
  (Tr.need (bif x3 then x4&&true else true)
   (Tr.ite (bif x3 then bif true then x5 !=id else false else false)
    (Tr.need x6
     (Tr.need x4
      (Tr.need
       (bif x7 then true
       else
        x6&&
         (x4&&
          (decide (0≤x8∧x8<x1)&&
           (gD.oks (O.getD i.toNat iT).m (O.getD i.toNat iT).e&&
            (gD.oks x9 (O.getD x8.toNat iT).e&&
             (yM x10&&
              (yM fI&&
               (aU.oks (C.getD at'.toNat yK).m (C.getD at'.toNat yK).e&&
                (aU.oks iM (aU.el fU)&&(rQ iR (aU.list iM (aU.el fU))&&(decide (jH≤100000)&&true)))))))))))
       (Tr.ite (bif x7 then true else bif false then true else !true) (Tr.fail "out")
        (Tr.need kE
         (Tr.need jD
          (Tr.need x18 (Tr.need lW (Tr.ret (Sum.inl (id,x20,x21,lZ,x23,g,IntKind.i64.wrap (at'+1),IntKind.i64.wrap (i+1),())))))))))))
    (Tr.need kE (Tr.need jD (Tr.need x18 (Tr.need lW (Tr.ret (Sum.inl (id,x20,x21,lZ,x23,g,at',IntKind.i64.wrap (i+1),())))))))))
  (Tr.need kE (Tr.need x18 (Tr.need lW (Tr.ret (Sum.inr (x20,lZ,x23,g,()))))))
def FN(O:List Ob)(p:List Cv)(I:List (Int×Int))(g:Int)(k:Int)(i:Int)(j:Int):Tr (A4X ⊕ Tv):=
 let x1:Int:= ↑O.length
 let x2:Int:= ↑p.length
 let x3:Bool:=decide (k≥x2)
 let x4:Bool:=decide (0≤k∧k<x2)
 let x5:Bool:=decide (0≤i∧i<x1)
 let x6:Bool:=decide (0≤j∧j<x1)
 let x7:List Ul:=gD.list (O.getD i.toNat iT).m (O.getD i.toNat iT).e
 let x8:List Ul:=gD.list (O.getD j.toNat iT).m (O.getD j.toNat iT).e
 let x9:List Uq:=qw x7 x8
 let x10:Nat:=x9.length
 let fI:List Uq:=aU.list (p.getD k.toNat yK).m (p.getD k.toNat yK).e
 let fU:Nat:=fI.length
 let iM:Bool:=x4&&
  (x5&&
   (x6&&
    (gD.oks (O.getD i.toNat iT).m (O.getD i.toNat iT).e&&
     (gD.oks (O.getD j.toNat iT).m (O.getD j.toNat iT).e&&
      (yM x7&&
       (yM x8&&
        (aU.oks (p.getD k.toNat yK).m (p.getD k.toNat yK).e&&
         (aU.oks x10 (aU.el x9)&&(rQ fI (aU.list x10 (aU.el x9))&&(decide (fU≤100000)&&true))))))))))
 let iR:Bool:=bif true then true else iM
 let jH:Int:= ↑I.length
 let kE:Bool:=bif false then true else !bA [(I.getD k.toNat (0,0)).snd==(O.getD j.toNat iT).i,(I.getD k.toNat (0,0)).fst==(O.getD i.toNat iT).i].reverse
 let jD:Bool:=decide (0≤k∧k<jH)&&(x5&&(x6&&bif kE then true else iM))
 let x18:Bool:=bif true then iR else jD
 let lW:Int:=IntKind.i64.wrap (k+1)
 let x20:Bool:=bif false then true else(p.getD k.toNat yK).i !=lW
 let x21:Bool:=x4&&bif x20 then iR else jD
 let lZ:Bool:=bif false then true else decide (k≥jH)
 let x23:Bool:=bif false then true else !true
 let x24:Bool:=bif true then true else x23
 let x25:Bool:=bif kE then true else x23
 let rY:Bool:=bif true then x24 else x25
 let x27:Bool:=bif x20 then x24 else x25
 let x28:Bool:=fG.oks O.length (fG.el O)
 let x29:Bool:=gV.oks p.length (gV.el p)
 let x30:Bool:=jO.oks I.length (jO.el I)
 let x31:List Ob:=fG.list O.length (fG.el O)
 let x32:List Cv:=gV.list p.length (gV.el p)
 let pV:List (Int×Int):=jO.list I.length (jO.el I)
 Tr.ite (decide (j<x1))
  (Tr.need (bif x3 then bif true then x18 else x21 else bif lZ then x18 else x21)
   (Tr.ite (bif x3 then bif true then rY else x27 else bif lZ then rY else x27) (Tr.fail "out")
    (Tr.need x28 (Tr.need x29 (Tr.need x30 (Tr.ret (Sum.inl (x31,x32,pV,g,lW,i,IntKind.i64.wrap (j+1),()))))))))
  (Tr.need x28 (Tr.need x29 (Tr.need x30 (Tr.ret (Sum.inr (x31,x32,pV,g,k,i,()))))))
def FP(O:List Ob)(p:List Cv)(I:List (Int×Int))(g:Int)(k:Int)(i:Int):Tr (Tv ⊕ A2R):=
 let x1:Int:= ↑O.length
 let x2:Bool:=gV.oks p.length (gV.el p)
 let x3:Bool:=jO.oks I.length (jO.el I)
 let x4:List Ob:=fG.list O.length (fG.el O)
 let x5:List Cv:=gV.list p.length (gV.el p)
 let x6:List (Int×Int):=jO.list I.length (jO.el I)
 let x7:Nat:=x4.length
 let x8:Nat:=x5.length
 let x9:Nat:=x6.length
 Tr.ite (decide (i<x1))
  (Tr.need (fG.oks O.length (fG.el O))
   (Tr.need x2
    (Tr.need x3
     (Tr.need (NP (x4,x5,x6,g,k,i,IntKind.i64.wrap (i+1),()))
      (Tr.need (fG.oks x7 (fG.el x4))
       (Tr.need (gV.oks x8 (gV.el x5))
        (Tr.need (jO.oks x9 (jO.el x6))
         (Tr.ret
          (Sum.inl
           (fG.list x7 (fG.el x4),gV.list x8 (gV.el x5),jO.list x9 (jO.el x6),g,k+ ↑(List.drop (i.toNat+1) x4).length,
            IntKind.i64.wrap (i+1),()))))))))))
  (Tr.need x2 (Tr.need x3 (Tr.ret (Sum.inr (x5,x6,g,k,())))))
def FQ(p:List Cv)(I:List (Int×Int))(g:Int)(k:Int)(m:Nat)(i:Int)(N:List Int):Tr (A6X ⊕ A6R):=
 let x1:Nat:=m+1
 let x2:Nat:=x1*32
 let x3:Bool:=gV.oks p.length (gV.el p)
 let x4:Bool:=jO.oks I.length (jO.el I)
 let x5:Nat:=1+1
 let x6:List Cv:=gV.list p.length (gV.el p)
 let x7:List (Int×Int):=jO.list I.length (jO.el I)
 Tr.ite (decide (i≤12))
  (Tr.need (decide (m≤N.length))
   (Tr.need true
    (Tr.need (decide (x1≤9223372036854775807))
     (Tr.need (decide (x2≤140737488355328))
      (Tr.need x3
       (Tr.need x4
        (Tr.need
         (XA.oks x1
          (bN m (XA.el N) λk=>List.take x5 (List.drop (k*x5) [IV.v (.slice none 0 0),IV.v (.int IntKind.i64 i)].reverse)))
         (Tr.ret
          (Sum.inl
           ((x6,x7,g,k,x1,IntKind.i64.wrap (i+1),()),
             XA.list x1
              (bN m (XA.el N) λk=>List.take x5 (List.drop (k*x5) [IV.v (.slice none 0 0),IV.v (.int IntKind.i64 i)].reverse)),
             ()))))))))))
  (Tr.need x3 (Tr.need x4 (Tr.need (XA.oks N.length (XA.el N)) (Tr.ret (Sum.inr ((x6,x7,g,k,m,()),XA.list N.length (XA.el N),()))))))
theorem acF(x:A0X):(exec Tryz.prog ΓA bX 1010 (bn 0 (codeOf Tryz.f4)) (iQ XB.nIn (XB.head x))).bind (XB.fin 0 0)=zH x.1 x.2.1 x.2.2.1 x.2.2.2.1 x.2.2.2.2.1 x.2.2.2.2.2.1 x.2.2.2.2.2.2.1 x.2.2.2.2.2.2.2.1:=by
 obtain⟨id,O,C,p,I,g,at',i,⟨⟩⟩:=x
 kernel_rfl
theorem acG(x:A4X):(exec Tryz.prog ΓA bX 1010 (bn 4 (codeOf Tryz.f4)) (iQ Tw.nIn (Tw.head x))).bind (Tw.fin 0 4)=FN x.1 x.2.1 x.2.2.1 x.2.2.2.1 x.2.2.2.2.1 x.2.2.2.2.2.1 x.2.2.2.2.2.2.1:=by
 obtain⟨O,p,I,g,k,i,j,⟨⟩⟩:=x
 kernel_rfl
theorem acH(x:Tv):(exec Tryz.prog ΓA LA4 1010 (bn 2 (codeOf Tryz.f4)) (iQ XC.nIn (XC.head x))).bind (XC.fin 0 2)=FP x.1 x.2.1 x.2.2.1 x.2.2.2.1 x.2.2.2.2.1 x.2.2.2.2.2.1:=by
 obtain⟨O,p,I,g,k,i,⟨⟩⟩:=x
 kernel_rfl
theorem acI(x:A6X):(exec Tryz.prog ΓA bX 1010 (bn 6 (codeOf Tryz.f4)) (iQ XD.nIn (XD.head x))).bind (XD.fin 0 6)=FQ x.1.1 x.1.2.1 x.1.2.2.1 x.1.2.2.2.1 x.1.2.2.2.2.1 x.1.2.2.2.2.2.1 x.2.1:=by
 obtain⟨⟨p,I,g,k,m,i,⟨⟩⟩,⟨N,⟨⟩⟩⟩:=x
 kernel_rfl
abbrev au0:A0X→Tr (A0X ⊕ A0R):=λx=>zH x.1 x.2.1 x.2.2.1 x.2.2.2.1 x.2.2.2.2.1 x.2.2.2.2.2.1 x.2.2.2.2.2.2.1 x.2.2.2.2.2.2.2.1
abbrev au1:A4X→Tr (A4X ⊕ Tv):=λx=>FN x.1 x.2.1 x.2.2.1 x.2.2.2.1 x.2.2.2.2.1 x.2.2.2.2.2.1 x.2.2.2.2.2.2.1
abbrev au2:Tv→Tr (Tv ⊕ A2R):=λx=>FP x.1 x.2.1 x.2.2.1 x.2.2.2.1 x.2.2.2.2.1 x.2.2.2.2.2.1
abbrev au3:A6X→Tr (A6X ⊕ A6R):=λx=>FQ x.1.1 x.1.2.1 x.1.2.2.1 x.1.2.2.2.1 x.1.2.2.2.2.1 x.1.2.2.2.2.2.1 x.2.1
theorem GD(id:Int)(O:List Ob)(C p:List Cv)(I:List (Int×Int))(g:Int)(a i:Nat)(hi:i<O.length)(hO:O.length≤100)(h:C.length=0∨(O.getD i iT).i=id){R:A0X ⊕ A0R→Prop}
  (hq:R (.inl (id,O,C,p,I,g,(a:Int),((i+1:Nat):Int),()))):(zH id O C p I g (a:Nat) (i:Nat)).sat R:=by
 have w1:IntKind.i64.wrap ((i:Int)+1)=((i+1:Nat):Int):=jR;have c1:decide ((i:Int)<(O.length:Int))=true:=bQ;have c2:decide ((0:Int)≤(i:Int)∧(i:Int)<(O.length:Int))=true:=bQ;have hc:(bif decide ((C.length:Int)>0)then bif true then(O.getD i iT).i !=id else false else false)=false:=by
  rcases h with h|h
  ·rw[jK (by omega)];rfl
  ·rw[h];simp
 unfold zH;simp only[jf,w1,c1,c2,hc,fG.aS,fG.bH,gV.aS,gV.bH,jO.aS,jO.bH];refine au (λ_=>ah (by cases decide ((C.length:Int)>0)<;>rfl) (au (λh=>by cases h) (λ_=> ?_))) (λh=>by cases h);exact ah rfl (ah rfl (ah rfl (ah rfl (av hq))))
theorem XE(O:List Ob)(C p:List Cv)(I:List (Int×Int))(g:Int)(a i j:Nat)(hi:i<O.length)(hO:O.length≤100)(ha:a<C.length)(la:a≤100)(hok:O.all okO=true)(hj:j<O.length)(hne:(O.getD i iT).i≠((j:Int)+1))
  (h1:(C.getD a yK).i=(O.getD i iT).i) (h2:aU.oks (C.getD a yK).m (C.getD a yK).e=true) (h3:aU.list (C.getD a yK).m (C.getD a yK).e=qw (wm (O.getD i iT)) (wm (O.getD j iT))) (h4:(C.getD a yK).m≤1000) {R:A0X ⊕ A0R→Prop}
  (hq:R (.inl ((j:Int)+1,O,C,p,I,g,((a+1:Nat):Int),((i+1:Nat):Int),()))):(zH ((j:Int)+1) O C p I g (a:Nat) (i:Nat)).sat R:=by
 have w1:IntKind.i64.wrap ((i:Int)+1)=((i+1:Nat):Int):=jR;have w2:IntKind.i64.wrap ((a:Int)+1)=((a+1:Nat):Int):=jR;have w3:IntKind.i64.wrap ((j:Int)+1-1)=(j:Int):=jR;have c1:decide ((i:Int)<(O.length:Int))=true:=bQ;have c2:decide ((0:Int)≤(i:Int)∧(i:Int)<(O.length:Int))=true:=bQ;have c3:decide ((0:Int)≤(j:Int)∧(j:Int)<(O.length:Int))=true:=bQ;have c4:decide ((0:Int)≤(a:Int)∧(a:Int)<(C.length:Int))=true:=bQ;have c5:decide ((C.length:Int)>0)=true:=bQ;obtain⟨a1,a2⟩:=vI hok hi;obtain⟨b1,b2⟩:=vI hok hj;have a2:yM (gD.list (O.getD i iT).m (O.getD i iT).e)=true:=a2;have b2:yM (gD.list (O.getD j iT).m (O.getD j iT).e)=true:=b2;have h3':aU.list (C.getD a yK).m (C.getD a yK).e=qw (gD.list (O.getD i iT).m (O.getD i iT).e) (gD.list (O.getD j iT).m (O.getD j iT).e):=h3;have hl:(qw (gD.list (O.getD i iT).m (O.getD i iT).e) (gD.list (O.getD j iT).m (O.getD j iT).e)).length≤100000:=by
  have:=D5 a2 b2;omega
 have c6:=fZ hl;have e1:((O.getD i iT).i !=((j:Int)+1))=true:=bne_iff_ne.2 hne;have e2:((C.getD a yK).i !=(O.getD i iT).i)=false:=by rw[h1];exact bne_self_eq_false _
 unfold zH;simp only[jf,w1,w2,w3,c1,c2,c3,c4,c5,e1,e2,a1,a2,b1,b2,h2,h3',c6,aU.aS,aU.bH,kG.2 rfl,fG.aS,fG.bH,gV.aS,gV.bH,jO.aS,jO.bH];refine au (λ_=>ah rfl (au (λ_=>ah rfl (ah rfl (ah rfl (au (λh=>by cases h) (λ_=> ?_))))) (λh=>by cases h))) (λh=>by cases h);exact ah rfl (ah rfl (ah rfl (ah rfl (av hq))))
theorem XF(id:Int)(O:List Ob)(C p:List Cv)(I:List (Int×Int))(g a:Int)(i:Nat)(hi: ¬i<O.length){R:A0X ⊕ A0R→Prop}(hq:R (.inr (O,p,I,g,()))):(zH id O C p I g a (i:Nat)).sat R:=by
 have c1:decide ((i:Int)<(O.length:Int))=false:=jK (by omega);unfold zH;simp only[c1,fG.aS,fG.bH,gV.aS,gV.bH,jO.aS,jO.bH];exact au (λh=>by cases h) (λ_=>ah rfl (ah rfl (ah rfl (av hq))))
theorem P8(id:Int)(O:List Ob)(C p:List Cv)(I:List (Int×Int))(g:Int)(hok:O.all okO=true)(hid:D6 0 O=true)(hO:O.length≤100)(Q:A0R→Prop)(hq:Q (O,p,I,g,())): ∀(n i a:Nat),i+n=O.length→a≤i→
  (C.length=0∨ ∃j:Nat,id=(j:Int)+1∧j<O.length∧LQ O j i (O.drop i) (C.drop a)=true)→dJ au0 Q (n+1) (id,O,C,p,I,g,(a:Int),(i:Int),())
 | 0,i,a,he,ha,h=>XF id O C p I g a i (by omega) hq
 | n+1,i,a,he,ha,h=>by
   have hi:i<O.length:=by omega
   have hu:O.getD i iT=O[i]:=by simp[dR,hi]
   have hii:=NM hid hi;rcases h with h|⟨j,rfl,hj,h⟩
   ·exact GD id O C p I g a i hi hO (.inl h) (P8 id O C p I g hok hid hO Q hq n (i+1) a (by omega) (by omega) (.inl h))
   ·rw[List.drop_eq_getElem_cons hi, ←hu]at h
    by_cases e:i=j
    ·refine GD _ O C p I g a i hi hO (.inr (by rw[hii];omega)) (P8 _ O C p I g hok hid hO Q hq n (i+1) a (by omega) (by omega) (.inr ⟨j,rfl,hj,?_⟩))
     unfold LQ at h;rw[if_pos e]at h;exact h
    ·unfold LQ at h
     rw[if_neg e]at h
     split at h
     ·cases h
     ·rename_i c C' hC
      have hal:a<C.length:=by
       by_cases k:a<C.length
       ·exact k
       ·rw[List.drop_eq_nil_of_le (by omega)]at hC;cases hC
      have hcd:C.drop a=C.getD a yK::C.drop (a+1):=by
       rw[List.drop_eq_getElem_cons hal];simp[dR,hal]
      rw[hcd]at hC;obtain⟨rfl,rfl⟩:=List.cons.inj hC;simp only[cu,fT,kG]at h;obtain⟨k1,k2,k3,k4,k5⟩:=h;refine XE O C p I g a i j hi hO hal (by omega) hok hj (by rw[hii];omega) k1 k2 k3 k4 ?_;exact P8 _ O C p I g hok hid hO Q hq n (i+1) (a+1) (by omega) (by omega) (.inr ⟨j,rfl,hj,k5⟩)
theorem acJ(O:List Ob)(p:List Cv)(I:List (Int×Int))(g:Int)(k i j:Nat)(hok:O.all okO=true)(hO:O.length≤100)(hi:i<O.length)(hj:j<O.length)(hk:k<p.length)(hl:k<I.length)(lk:k≤5000)
  (h1:(p.getD k yK).i=((k+1:Nat):Int)) (h2:aU.oks (p.getD k yK).m (p.getD k yK).e=true) (h3:aU.list (p.getD k yK).m (p.getD k yK).e=qw (wm (O.getD i iT)) (wm (O.getD j iT))) (h5:(I.getD k (0,0)).1=(O.getD i iT).i) (h6:(I.getD k (0,0)).2=(O.getD j iT).i) {R:A4X ⊕ Tv→Prop}
  (hq:R (.inl (O,p,I,g,((k+1:Nat):Int),(i:Int),((j+1:Nat):Int),()))):(FN O p I g (k:Nat) (i:Nat) (j:Nat)).sat R:=by
 have w1:IntKind.i64.wrap ((k:Int)+1)=((k+1:Nat):Int):=jR;have w2:IntKind.i64.wrap ((j:Int)+1)=((j+1:Nat):Int):=jR;have c1:decide ((j:Int)<(O.length:Int))=true:=bQ;have c2:decide ((0:Int)≤(i:Int)∧(i:Int)<(O.length:Int))=true:=bQ;have c3:decide ((0:Int)≤(j:Int)∧(j:Int)<(O.length:Int))=true:=bQ;have c4:decide ((0:Int)≤(k:Int)∧(k:Int)<(p.length:Int))=true:=bQ;have c5:decide ((0:Int)≤(k:Int)∧(k:Int)<(I.length:Int))=true:=bQ;have c6:decide ((k:Int)≥(p.length:Int))=false:=jK (by omega);have c7:decide ((k:Int)≥(I.length:Int))=false:=jK (by omega);obtain⟨a1,a2⟩:=vI hok hi;obtain⟨b1,b2⟩:=vI hok hj;have a2:yM (gD.list (O.getD i iT).m (O.getD i iT).e)=true:=a2;have b2:yM (gD.list (O.getD j iT).m (O.getD j iT).e)=true:=b2;have h3':aU.list (p.getD k yK).m (p.getD k yK).e=qw (gD.list (O.getD i iT).m (O.getD i iT).e) (gD.list (O.getD j iT).m (O.getD j iT).e):=h3;have hl:(qw (gD.list (O.getD i iT).m (O.getD i iT).e) (gD.list (O.getD j iT).m (O.getD j iT).e)).length≤100000:=by
  have:=D5 a2 b2;omega
 have c8:=fZ hl;have e1:((p.getD k yK).i !=((k+1:Nat):Int))=false:=by rw[h1];exact bne_self_eq_false _
 have e2:(!bA [(I.getD k (0,0)).2==(O.getD j iT).i,(I.getD k (0,0)).1==(O.getD i iT).i].reverse)=false:=by
  rw[h5,h6];simp[bA]
 unfold FN;simp only[jf,w1,w2,c1,c2,c3,c4,c5,c6,c7,e1,e2,a1,a2,b1,b2,h2,h3',c8,aU.aS,aU.bH,kG.2 rfl,fG.aS,fG.bH,gV.aS,gV.bH,jO.aS,jO.bH];refine au (λ_=>ah rfl (au (λh=>by cases h) (λ_=> ?_))) (λh=>by cases h);exact ah rfl (ah rfl (ah rfl (av hq)))
theorem XG(O:List Ob)(p:List Cv)(I:List (Int×Int))(g k i:Int)(j:Nat)(hj: ¬j<O.length){R:A4X ⊕ Tv→Prop}(hq:R (.inr (O,p,I,g,k,i,()))):(FN O p I g k i (j:Nat)).sat R:=by
 have c1:decide ((j:Int)<(O.length:Int))=false:=jK (by omega);unfold FN;simp only[c1,fG.aS,fG.bH,gV.aS,gV.bH,jO.aS,jO.bH];exact au (λh=>by cases h) (λ_=>ah rfl (ah rfl (ah rfl (av hq))))
theorem Tx{k:Nat}{a b:Ob}{T:List (Ob×Ob)}{p:List Cv}{I:List (Int×Int)}(h:AX k ((a,b)::T) (p.drop k) (I.drop k)=true):
  k<p.length∧k<I.length∧(p.getD k yK).i=((k+1:Nat):Int)∧aU.oks (p.getD k yK).m (p.getD k yK).e=true∧aU.list (p.getD k yK).m (p.getD k yK).e=qw (wm a) (wm b)∧(I.getD k (0,0)).1=a.i∧(I.getD k (0,0)).2=b.i∧AX (k+1) T (p.drop (k+1)) (I.drop (k+1))=true:=by
 have hk:k<p.length:=by
  by_cases e:k<p.length
  ·exact e
  ·rw[List.drop_eq_nil_of_le (show p.length≤k by omega)]at h;cases h
 have hl:k<I.length:=by
  by_cases e:k<I.length
  ·exact e
  ·rw[List.drop_eq_nil_of_le (show I.length≤k by omega),List.drop_eq_getElem_cons hk]at h;cases h
 have e1:p.drop k=p.getD k yK::p.drop (k+1):=by rw[List.drop_eq_getElem_cons hk];simp[dR,hk]
 have e2:I.drop k=I.getD k (0,0)::I.drop (k+1):=by rw[List.drop_eq_getElem_cons hl];simp[dR,hl]
 rw[e1,e2]at h;simp only[AX,cu,fT,kG]at h;obtain⟨k1,k2,k3,k4,k5,k6,k7⟩:=h;exact⟨hk,hl,k1,k2,k3,k5,k6,k7⟩
theorem ahk(O:List Ob)(p:List Cv)(I:List (Int×Int))(g:Int)(hok:O.all okO=true)(hO:O.length≤100)(i:Nat)(hi:i<O.length)(Q:Tv→Prop): ∀(n j k:Nat),j+n=O.length→k+n≤5000→
  AX k ((O.drop j).map λd=>(O.getD i iT,d)) (p.drop k) (I.drop k)=true→Q (O,p,I,g,((k+n:Nat):Int),(i:Int),())→dJ au1 Q (n+1) (O,p,I,g,(k:Int),(i:Int),(j:Int),())
 | 0,j,k,he,hk,h,hq=>XG O p I g _ _ j (by omega) hq
 | n+1,j,k,he,hk,h,hq=>by
   have hj:j<O.length:=by omega
   have hu:O.getD j iT=O[j]:=by simp[dR,hj]
   rw[List.drop_eq_getElem_cons hj, ←hu,List.map_cons]at h;obtain⟨k1,k2,k3,k4,k5,k6,k7,k8⟩:=Tx h;refine acJ O p I g k i j hok hO hi hj k1 k2 (by omega) k3 k4 k5 k6 k7 ?_;refine ahk O p I g hok hO i hi Q n (j+1) (k+1) (by omega) (by omega) k8 ?_;rw[show k+1+n=k+(n+1)by omega];exact hq
theorem ar8:bF Tryz.prog 0 LA4 (bn 2 (codeOf Tryz.f4)):=by
 refine bG (d:=λid=>Nat.beq id 4) (λid=>by unfold LA4;cases Nat.beq id 4<;>rfl) _ ?_;have hb:bU (λid=>Nat.beq id 4) (bn 2 (codeOf Tryz.f4))=[(4,.loop (bn 4 (codeOf Tryz.f4)))]:=by kernel_rfl
 rw[hb];intro p hp g hg;simp only[List.mem_singleton]at hp;subst hp;have hh:LA4 4=some ((Tw).g 0):=rfl;rw[hh]at hg;obtain rfl:g=(Tw).g 0:=(Option.some.inj hg).symm;refine aZ.sU (N:=1010) aj ZR (L:=bX) (ak 0 _) acC (λx=>acG x) ?_;rintro⟨O,p,I,g,k,i,j,⟨⟩⟩ hx;have hx:NP (O,p,I,g,k,i,j,())=true:=hx;simp only[NP,cu,fT]at hx;obtain⟨h1,h2,h3,rfl,h5,h6,h7,h8⟩:=hx;obtain⟨i,rfl⟩: ∃n:Nat,i=n:=⟨i.toNat,by omega⟩
 obtain⟨k,rfl⟩: ∃n:Nat,k=n:=⟨k.toNat,by omega⟩
 simp only[jf]at h8;refine⟨_,ahk O p I g h1 h7 i (by omega) (· =Tw.res (O,p,I,g,(k:Int),(i:Int),(i:Int)+1,())) (O.length-(i+1)) (i+1) k (by omega) (by omega) h8 ?_⟩
 show _=(O,p,I,g,(k:Int)+((O.drop ((i:Int).toNat+1)).length:Nat),(i:Int),())
 rw[jf,List.length_drop];rfl
theorem GH: ∀{S T:List (Ob×Ob)} {k:Nat} {p:List Cv} {I:List (Int×Int)},AX k (S++T) (p.drop k) (I.drop k)=true→AX k S (p.drop k) (I.drop k)=true∧AX (k+S.length) T (p.drop (k+S.length)) (I.drop (k+S.length))=true
 | [],T,k,p,I,h=>⟨rfl,h⟩
 | s::S,T,k,p,I,h=>by
   obtain⟨a,b⟩:=s;rw[List.cons_append]at h;obtain⟨k1,k2,k3,k4,k5,k6,k7,k8⟩:=Tx h;obtain⟨i1,i2⟩:=GH k8;refine⟨?_,?_⟩
   ·have e1:p.drop k=p.getD k yK::p.drop (k+1):=by rw[List.drop_eq_getElem_cons k1];simp[dR,k1]
    have e2:I.drop k=I.getD k (0,0)::I.drop (k+1):=by rw[List.drop_eq_getElem_cons k2];simp[dR,k2]
    rw[e1,e2]at h⊢;simp only[AX,cu]at h⊢;exact⟨h.1,h.2.1,h.2.2.1,h.2.2.2.1,h.2.2.2.2.1,h.2.2.2.2.2.1,i1⟩
   ·rw[List.length_cons,show k+(S.length+1)=k+1+S.length by omega]
    exact i2
theorem acK (O:List Ob) (p:List Cv) (I:List (Int×Int)) (g:Int) (k i:Nat) (hok:O.all okO=true) (hO:O.length≤12) (hi:i<O.length) (lk:k≤1000) (h:AX k ((O.drop (i+1)).map λd=>(O.getD i iT,d)) (p.drop k) (I.drop k)=true) {R:Tv ⊕ A2R→Prop}
  (hq:R (.inl (O,p,I,g,((k+(O.drop (i+1)).length:Nat):Int),((i+1:Nat):Int),()))):(FP O p I g (k:Nat) (i:Nat)).sat R:=by
 have w1:IntKind.i64.wrap ((i:Int)+1)=((i+1:Nat):Int):=jR;have c1:decide ((i:Int)<(O.length:Int))=true:=bQ;have hp:NP (O,p,I,g,(k:Int),(i:Int),((i+1:Nat):Int),())=true:=by
  simp only[NP,cu,fT,jf];exact⟨hok,by omega,by omega,by omega,by omega,by omega,by omega,h⟩
 unfold FP;simp only[jf,w1,c1,hp,fG.aS,fG.bH,gV.aS,gV.bH,jO.aS,jO.bH];refine au (λ_=> ?_) (λh=>by cases h)
 repeat refine ah rfl ?_
 exact av hq
theorem XH(O:List Ob)(p:List Cv)(I:List (Int×Int))(g k:Int)(i:Nat)(hi: ¬i<O.length){R:Tv ⊕ A2R→Prop}(hq:R (.inr (p,I,g,k,()))):(FP O p I g k (i:Nat)).sat R:=by
 have c1:decide ((i:Int)<(O.length:Int))=false:=jK (by omega);unfold FP;simp only[c1,gV.aS,gV.bH,jO.aS,jO.bH];exact au (λh=>by cases h) (λ_=>ah rfl (ah rfl (av hq)))
theorem ahl(O:List Ob)(p:List Cv)(I:List (Int×Int))(g:Int)(hok:O.all okO=true)(hO:O.length≤12)(Q:A2R→Prop): ∀(n i k:Nat),i+n=O.length→k≤12*i→
  AX k (Ld O i (O.drop i)) (p.drop k) (I.drop k)=true→Q (p,I,g,((k+(Ld O i (O.drop i)).length:Nat):Int),())→dJ au2 Q (n+1) (O,p,I,g,(k:Int),(i:Int),())
 | 0,i,k,he,hk,h,hq=>by
   rw[List.drop_eq_nil_of_le (by omega)]at hq;exact XH O p I g _ i (by omega) hq
 | n+1,i,k,he,hk,h,hq=>by
   have hi:i<O.length:=by omega
   have hu:O.getD i iT=O[i]:=by simp[dR,hi]
   rw[List.drop_eq_getElem_cons hi, ←hu]at h hq;simp only[Ld]at h hq;obtain⟨h1,h2⟩:=GH h;rw[List.length_map]at h2;refine acK O p I g k i hok hO hi (by omega) h1 ?_;refine ahl O p I g hok hO Q n (i+1) _ (by omega) (by rw[List.length_drop];omega) h2 ?_;rw[List.length_append,List.length_map, ←Nat.add_assoc]at hq;exact hq
theorem acL(p:List Cv)(I:List (Int×Int))(g k:Int)(N:List Int)(i:Int)(hi:i≤12)(h0:0≤i)(hN:N.length≤1000){R:A6X ⊕ A6R→Prop}(hq:R (.inl ((p,I,g,k,(N++[i]).length,i+1,()),(N++[i],())))):(FQ p I g k N.length i N).sat R:=by
 have w1:IntKind.i64.wrap (i+1)=i+1:=by rw[wrap_i64 (by omega)]
 have c1:decide (i≤12)=true:=fZ hi;obtain⟨s1,s2⟩:=XA.snoc N i (λk=>List.take (1+1) (List.drop (k*(1+1)) [IV.v (.slice none 0 0),IV.v (.int IntKind.i64 i)].reverse)) rfl;unfold FQ;simp only[w1,c1,s1,s2,gV.aS,gV.bH,jO.aS,jO.bH];refine au (λ_=> ?_) (λh=>by cases h);refine ah (bQ) (ah rfl (ah (bQ) (ah (bQ) (ah rfl (ah rfl (ah rfl (av ?_)))))));have hl:N.length+1=(N++[i]).length:=by simp
 rw[hl];exact hq
theorem XI(p:List Cv)(I:List (Int×Int))(g k:Int)(N:List Int){R:A6X ⊕ A6R→Prop}(hq:R (.inr ((p,I,g,k,N.length,()),(N,())))):(FQ p I g k N.length 13 N).sat R:=by
 have c1:decide ((13:Int)≤12)=false:=by decide
 unfold FQ;simp only[c1,XA.aS,XA.bH,gV.aS,gV.bH,jO.aS,jO.bH];exact au (λh=>by cases h) (λ_=>ah rfl (ah rfl (ah rfl (av hq))))
theorem ahm(p:List Cv)(I:List (Int×Int))(g k:Int)(Q:A6R→Prop): ∀(n:Nat) (i:Int) (N:List Int),i+n=13→0≤i→N.length+n≤1000→Q ((p,I,g,k,(N++(List.range n).map λq:Nat=>i+(q:Int)).length,()),(N++(List.range n).map λq:Nat=>i+(q:Int),()))→dJ au3 Q (n+1) ((p,I,g,k,N.length,i,()),(N,()))
 | 0,i,N,he,h0,hN,hq=>by
   obtain rfl:i=13:=by omega
   simp only[List.range_zero,List.map_nil,List.append_nil]at hq;exact XI p I g k N hq
 | n+1,i,N,he,h0,hN,hq=>by
   refine acL p I g k N i (by omega) h0 (by omega) ?_;refine ahm p I g k Q n (i+1) (N++[i]) (by omega) (by omega) (by simp;omega) ?_;have e:(List.range (n+1)).map (λq:Nat=>i+(q:Int))=i::(List.range n).map λq:Nat=>i+1+(q:Int):=by
    rw[List.range_succ_eq_map,List.map_cons,List.map_map]
    congr 1
    ·simp
    ·refine List.map_congr_left λq _=> ?_
     show i+((q+1:Nat):Int)=_
     omega
   rw[e]at hq;rw[List.append_assoc,List.singleton_append];exact hq
theorem au4:bF Tryz.prog 0 LA (codeOf Tryz.f4):=by
 refine bG (d:=λid=>Nat.beq id 0 || (Nat.beq id 2 || Nat.beq id 6)) (λid=>by unfold LA;cases Nat.beq id 0<;>cases Nat.beq id 2<;>cases Nat.beq id 6<;>rfl) _ ?_;have hb:bU (λid=>Nat.beq id 0 || (Nat.beq id 2 || Nat.beq id 6)) (codeOf Tryz.f4)=[(0,.loop (bn 0 (codeOf Tryz.f4))),(2,.loop (bn 2 (codeOf Tryz.f4))),(6,.loop (bn 6 (codeOf Tryz.f4)))]:=by kernel_rfl
 rw[hb];intro p hp g hg;simp only[List.mem_cons,List.not_mem_nil,or_false]at hp;rcases hp with rfl|rfl|rfl
 ·have hh:LA 0=some (XB.g 0):=rfl
  rw[hh]at hg;obtain rfl:g=XB.g 0:=(Option.some.inj hg).symm;refine aZ.sU (N:=1010) aj ZR (L:=bX) (ak 0 _) acB (λx=>acF x) ?_;rintro⟨id,O,C,p,I,g,at',i,⟨⟩⟩ hx;have hx:KV (id,O,C,p,I,g,at',i,())=true:=hx;simp only[KV,cu,Bool.or_eq_true,fT]at hx;obtain⟨h1,h2,h3,rfl,rfl,h6⟩:=hx;refine⟨_,P8 id O C p I g h1 h2 h6 (· =(O,p,I,g,())) rfl O.length 0 0 (by omega) (Nat.le_refl _) ?_⟩;rcases h3 with h3|⟨h3,h4,h5⟩
  ·exact .inl h3
  ·exact .inr ⟨(id-1).toNat,by omega,by omega,h5⟩
 ·have hh:LA 2=some (XC.g 0):=rfl
  rw[hh]at hg;obtain rfl:g=XC.g 0:=(Option.some.inj hg).symm;refine aZ.sU (N:=1010) aj ZR (L:=LA4) ar8 acD (λx=>acH x) ?_;rintro⟨O,p,I,g,k,i,⟨⟩⟩ hx;have hx:KW (O,p,I,g,k,i,())=true:=hx;simp only[KW,cu,fT]at hx;obtain⟨h1,rfl,rfl,h4,h5⟩:=hx;refine⟨_,ahl O p I g h1 h4 (· =(p,I,g,(((LP O).length:Nat):Int),())) O.length 0 0 (by omega) (by omega) h5 ?_⟩;rw[Nat.zero_add];rfl
 ·have hh:LA 6=some (XD.g 0):=rfl
  rw[hh]at hg;obtain rfl:g=XD.g 0:=(Option.some.inj hg).symm;refine aZ.sU (N:=1010) aj ZR (L:=bX) (ak 0 _) acE (λx=>acI x) ?_;rintro⟨⟨p,I,g,k,m,i,⟨⟩⟩,⟨N,⟨⟩⟩⟩ hx;have hx:ahj ((p,I,g,k,m,i,()),(N,()))=true:=hx;simp only[ahj,cu,fT]at hx;obtain⟨rfl,h2,rfl⟩:=hx;obtain rfl:N=[]:=List.length_eq_zero_iff.1 h2;exact⟨_,ahm p I g k (· =((p,I,g,k,12,()),(amT,()))) 12 1 [] (by decide) (by decide) (by decide) rfl⟩
end Go.bI
namespace Go.bI
open Go.Proofs
def dsL(O:List Ob)(id:Int):List Cv:=if oP O id 0<0 then []else LM O (oP O id 0) 0 O
def dsE(O:List Ob)(id:Int):Int:=if oP O id 0<0 then 9 else 0
def KDv:List AV→Option (AV×List Bool):=(F2 fG.arg bK).K (λx=> .iC [gV.sl (dsL x.1 x.2.1),.c (.v (.int .i64 (dsE x.1 x.2.1)))]) λx=> [x.1.all okO,decide (x.1.length≤60)]
theorem ar9(O:List Ob)(id:Int):dsV O id= .iC [gV.sl (dsL O id),.c (.v (.int .i64 (dsE O id)))]:=by
 unfold dsV dsL dsE
 split<;>rfl
theorem au5:aN Tryz.prog 13 KDv:=by
 have e:KDv=KDs:=by
  unfold KDv KDs
  congr 1
  funext x
  exact(ar9 x.1 x.2.1).symm
 rw[e];exact auL
def prC(O:List Ob):List Cv:=if O.length≤11 then kg 0 (LP O)else []
def prI(O:List Ob):List (Int×Int):=if O.length≤11 then kr (LP O)else []
def prE(O:List Ob):Int:=if O.length≤11 then 0 else 3
def KPv:List AV→Option (AV×List Bool):=(F1 NK).K (λx=> .iC [gV.sl (prC x.1),jO.sl (prI x.1),.c (.v (.int .i64 (prE x.1)))]) λx=> [x.1.all okO,decide (x.1.length≤12)]
theorem asa(O:List Ob):prV O= .iC [gV.sl (prC O),jO.sl (prI O),.c (.v (.int .i64 (prE O)))]:=by
 unfold prV prC prI prE;by_cases h:O.length≤11
 ·simp only[if_pos h];rfl
 ·simp only[if_neg h];rfl
theorem aoh:aN Tryz.prog 14 KPv:=by
 have e:KPv=KPx:=by
  unfold KPv KPx
  congr 1
  funext x
  exact(asa x.1).symm
 rw[e];exact auV
def au6:List AV→Option (AV×List Bool):=(F1 NK).K (λx=> .iC [.c (.v (.slice none 0 0)),.c (.v (.slice none 0 0)),.c (.v (.int .i64 3))]) λx=> [decide (x.1.length=12)]
theorem asb:aN Tryz.prog 14 au6:=
 (F1 NK).dO (N:=1010) (L:=LPo) aj P7 (fn:=Tryz.f14) (c:=codeOf Tryz.f14) (by kernel_rfl) (by kernel_rfl) (by kernel_rfl) ag9 (λ_=>rfl) (M:=λx=>MPr x.1) (λx=>aha x.1) λx h=>by
  obtain⟨O,⟨⟩⟩:=x;have h1:O.length=12:=dec (h (decide (O.length=12)) (by simp))
  show(MPr O).sat _
  have c3:decide (IntKind.i64.wrap ((IntKind.i64.wrap ((12:Int)*IntKind.i64.wrap ((12:Int)-1))).tdiv 2)>64)=true:=by decide
  have hl:(O.length:Int)=12:=by omega
  simp only[MPr,hl,c3];exact ah rfl (au (λ_=>av rfl) (λh=>by cases h))
def KPz:List AV→Option (AV×List Bool):=λargs=>match args with
 | [.c (.sl n sz el)]=>(match el 0 with | [_,.v _]=>bif Nat.ble 12 n then au6 [.c (.sl n sz el)]else KPv [.c (.sl n sz el)] | _=>KPv [.c (.sl n sz el)])
 | _=>none
theorem au7:aN Tryz.prog 14 KPz where
 sound:=by
  intro args v cs h;unfold KPz at h
  split at h
  ·split at h
   ·rename_i n _ _ _ _ _ _
    cases hb:Nat.ble 12 n with
    | true=>rw[hb]at h;exact asb.sound _ _ _ h
    | false=>rw[hb]at h;exact aoh.sound _ _ _ h
   ·exact aoh.sound _ _ _ h
  ·cases h
def ahn:List AV→Option (AV×List Bool):=λl=>match l with | []=>some (bL true,[]) | _=>none
def ΓL:FuncId→Option Spec:=λf=>bif Nat.beq f 10 then some (ay ahn)else bif Nat.beq f 11 then some (ay K5)else bif Nat.beq f 12 then some (ay K6)else bif Nat.beq f 13 then some (ay KDv)else bif Nat.beq f 14 then some (ay KPz)else none
def MKd(C:List Cw)(a:Nat)(z:Nat)(e:Nat→List IV)(id:Int):Tr AV:=
 let x1:Bool:=Hf C.length (rR C)
 let x2:List Cw:=og C.length (rR C)
 let x3:Nat:=x2.length
 let x4:List Ob:=rT 0 x2
 let x5:Nat:=x4.length
 let x6:Bool:=fG.oks x5 (zF x4)
 let x7:List Ob:=fG.list x5 (zF x4)
 let x8:Nat:=x7.length
 let x9:List Ob:=oxs x5 (zF x4)
 let x10:Nat:=x9.length
 let fI:Bool:=decide (id<1)
 let fU:Int:= ↑x5
 let iM:Int:=dsE x7 id
 let iR:Bool:=iM !=9
 let jH:List Cv:=dsL x7 id
 let kE:Nat:=jH.length
 let jD:Int:= ↑kE
 let x18:List Cv:=prC x9
 let lW:Nat:=x18.length
 let x20:List (Int×Int):=prI x9
 let x21:Nat:=x20.length
 let lZ:List Cv:=gV.list lW (gV.el x18)
 let x23:List (Int×Int):=jO.list x21 (jO.el x20)
 let x24:Int:=prE x9
 let x25:Nat:=lZ.length
 let rY:Nat:=x23.length
 let x27:List Ob:=fG.list x8 (fG.el x7)
 let x28:List Cv:=gV.list x25 (gV.el lZ)
 let x29:List (Int×Int):=jO.list rY (jO.el x23)
 let x30:Nat:=x28.length
 let x31:Nat:=x29.length
 let x32:Bool:=x24==0
 let pV:Int:= ↑(LP x27).length
 let x34:Bool:=bif true then ↑(gV.list x30 (gV.el x28)).length==pV else false
 let yF:Bool:=bif true then ↑(jO.list x31 (jO.el x29)).length==pV else false
 let vk:Bool:=bif true then 3==3 else false
 let r9:Bool:=bif vk then true else true
 let x38:Bool:=bif false then true else true
 let x39:Bool:=bif yF then r9 else x38
 let x40:Bool:=bif false then r9 else x38
 let x41:Bool:=bif true then prE (oxs (Int.toNat 11) (XA.el amT))==0 else false
 let GU:Bool:=bif vk then x41 else false
 let x43:Bool:=bif false then x41 else false
 let Gs:Bool:=bif yF then GU else x43
 let GV:Bool:=bif false then GU else x43
 let Iq:Bool:=iM !=0
 Tr.need (bif !true then true else x1&&(decide (x3≤9223372036854775807)&&true))
  (Tr.ite (bif !true then true else bif false then true else !FH (x2,a,z,e)) (Tr.ret (AV.c (.v (.bool true))))
   (Tr.need x1
    (Tr.need (x2.all Cw.ok)
     (Tr.need (yg x2)
      (Tr.need (decide (x3≤4))
       (Tr.need x6
        (Tr.need (x7.all okO)
         (Tr.need (decide (x8≤60))
          (Tr.need ((List.range x5).all λk=>oxI (zF x4 k))
           (Tr.need (x9.all okO)
            (Tr.need (decide (x10≤12))
             (Tr.need (bif fI then true else true)
              (Tr.ite (bif fI then true else bif false then true else decide (id>fU))
               (Tr.need (bif iR then true else true)
                (Tr.ite (bif iR then true else bif false then true else decide (jD>0)) (Tr.ret (AV.c (.v (.bool false))))
                 (Tr.need x6
                  (Tr.need (gV.oks kE (gV.el jH))
                   (Tr.need (gV.oks lW (gV.el x18))
                    (Tr.need (jO.oks x21 (jO.el x20))
                     (Tr.need (KV (id,x7,gV.list kE (gV.el jH),lZ,x23,x24,0,0,()))
                      (Tr.need (fG.oks x8 (fG.el x7))
                       (Tr.need (gV.oks x25 (gV.el lZ))
                        (Tr.need (jO.oks rY (jO.el x23))
                         (Tr.need (KW (x27,x28,x29,x24,0,0,()))
                          (Tr.need (gV.oks x30 (gV.el x28))
                           (Tr.need (jO.oks x31 (jO.el x29))
                            (Tr.need true
                             (Tr.need true
                              (Tr.need true
                               (Tr.need true
                                (Tr.need true
                                 (Tr.need true
                                  (Tr.need true
                                   (Tr.need true
                                    (Tr.need true
                                     (Tr.need true
                                      (Tr.need (bif x32 then bif x34 then x39 else x40 else bif false then x39 else x40)
                                       (Tr.ret
                                        (AV.c
                                         (IV.v
                                          (Value.bool
                                           (bif x32 then bif x34 then Gs else GV
                                           else bif false then Gs else GV)))))))))))))))))))))))))))))
               (Tr.need (bif Iq then true else true)
                (Tr.ite (bif Iq then true else bif false then true else jD !=IntKind.i64.wrap (fU-1))
                 (Tr.ret (AV.c (.v (.bool false))))
                 (Tr.need x6
                  (Tr.need (gV.oks kE (gV.el jH))
                   (Tr.need (gV.oks lW (gV.el x18))
                    (Tr.need (jO.oks x21 (jO.el x20))
                     (Tr.need (KV (id,x7,gV.list kE (gV.el jH),lZ,x23,x24,0,0,()))
                      (Tr.need (fG.oks x8 (fG.el x7))
                       (Tr.need (gV.oks x25 (gV.el lZ))
                        (Tr.need (jO.oks rY (jO.el x23))
                         (Tr.need (KW (x27,x28,x29,x24,0,0,()))
                          (Tr.need (gV.oks x30 (gV.el x28))
                           (Tr.need (jO.oks x31 (jO.el x29))
                            (Tr.need true
                             (Tr.need true
                              (Tr.need true
                               (Tr.need true
                                (Tr.need true
                                 (Tr.need true
                                  (Tr.need true
                                   (Tr.need true
                                    (Tr.need true
                                     (Tr.need true
                                      (Tr.need (bif x32 then bif x34 then x39 else x40 else bif false then x39 else x40)
                                       (Tr.ret
                                        (AV.c
                                         (IV.v
                                          (Value.bool
                                           (bif x32 then bif x34 then Gs else GV
                                           else bif false then Gs else GV))))))))))))))))))))))))))))))))))))))))))
theorem asc(C:List Cw)(a z:Nat)(e:Nat→List IV)(id:Int):aI Tryz.prog ΓL LA 1010 Tryz.f4 [.agg (nH (C,a,z,e)),.c (.v (.int .i64 id))]=MKd C a z e id:=by kernel_rfl
theorem ZT(A:List Ob)(j:Nat): ∀(B:List Ob) (k:Nat),(LM A (j:Int) k B).length=if k≤j∧j<k+B.length then B.length-1 else B.length
 | [],k=>by
   rw[if_neg (by simp only[List.length_nil];omega)];rfl
 | b::B,k=>by
   have ih:=ZT A j B (k+1);unfold LM;by_cases h:k=j
   ·rw[if_pos (by omega),ih,if_neg (by omega),if_pos (by simp only[List.length_cons];omega)];simp
   ·rw[if_neg (by omega)]
    simp only[List.length_cons];rw[ih];by_cases h2:k+1≤j∧j<k+1+B.length
    ·rw[if_pos h2,if_pos (by omega)];omega
    ·rw[if_neg h2,if_neg (by omega)]
theorem ZU{O:List Ob}: ∀{B:List Ob} {k:Nat} {p:Ob×Ob},p∈Ld O k B→p.1∈B∧p.2∈O
 | [],_,_,h=>by simp[Ld]at h
 | b::B,k,p,h=>by
   simp only[Ld,List.mem_append,List.mem_map]at h;rcases h with⟨d,hd,rfl⟩|h
   ·exact⟨List.mem_cons_self ..,List.mem_of_mem_drop hd⟩
   ·have:=ZU h
    exact⟨.tail _ this.1,this.2⟩
theorem aho{o:Ob}(h:okO o=true):yM (wm o)=true:=by
 simp only[okO,cu]at h;exact h.2
theorem aoi(O:List Ob):zF O=fG.el O:=rfl
theorem amU(C:List Cw)(a z:Nat)(e:Nat→List IV)(id:Int)(hC:C.all Cw.ok=true)(hl:C.length≤9223372036854775807):(MKd C a z e id).sat λr=>r=bL true:=by
 have c0:=fZ hl;cases hs:FH (C,a,z,e)with
 | false=>
   simp only[MKd,mO,mP,c0,hs];exact ah rfl (au (λ_=>av rfl) (λh=>by cases h))
 | true=>
   have hs':=hs;simp only[FH,cu,fT]at hs';obtain⟨h1,h2,_⟩:=hs';have hok:=ahi C 0 hC h1;have hid:=NN C 0;have hlen:=Av C 0;have hO4:(rT 0 C).length≤4:=by omega
   generalize hO:rT 0 C=O at*;have c4:decide (C.length≤4)=true:=fZ h2;have c5:decide (O.length≤60)=true:=bQ;have c6:decide (O.length≤12)=true:=bQ;have hj:=Tt O 0 id hid;have e1:prC O=kg 0 (LP O):=by unfold prC;rw[if_pos (by omega)]
   have e2:prI O=kr (LP O):=by unfold prI;rw[if_pos (by omega)]
   have e3:prE O=0:=by unfold prE;rw[if_pos (by omega)]
   have e4:prE (oxs (Int.toNat 11) (XA.el amT))=0:=by unfold prE;rw[ZO,if_pos (by decide)]
   have kT:AX 0 (LP O) (kg 0 (LP O)) (kr (LP O))=true:=ZQ _ _ λp hp=>by
    obtain⟨m1,m2⟩:=ZU hp;exact⟨aho (List.all_eq_true.1 hok _ m1),aho (List.all_eq_true.1 hok _ m2)⟩
   have p2:KW (O,kg 0 (LP O),kr (LP O),0,0,0,())=true:=by
    simp only[KW,hok,kT,Bool.true_and,Bool.and_true,cu,fT];exact⟨trivial,trivial,by omega⟩
   have l1:((kg 0 (LP O)).length:Int)==((LP O).length:Int):=by rw[KT];exact beq_self_eq_true _
   have l2:((kr (LP O)).length:Int)==((LP O).length:Int):=by rw[KU];exact beq_self_eq_true _
   have fin: ∀D:List Cv,D=dsL O id→(D.length=0∨(1≤id∧id≤(O.length:Int)∧LQ O (id-1).toNat 0 O D=true))→KV (id,O,D,kg 0 (LP O),kr (LP O),0,0,0,())=true:=by
    intro D _ h;simp only[KV,hok,hid,Bool.true_and,cu,Bool.or_eq_true,fT];exact⟨h,trivial,trivial,by omega⟩
   by_cases hin:id<1∨id>(O.length:Int)
   ·have hneg:oP O id 0= -1:=by
     have h0:oP O id ((0:Nat):Int)= -1:=by rw[hj,if_neg (by omega)]
     exact h0
    have d1:dsE O id=9:=by unfold dsE;rw[if_pos (by omega)]
    have d2:dsL O id=[]:=by unfold dsL;rw[if_pos (by omega)]
    have p0:=fin [] d2.symm (.inl rfl);have b1:(bif decide (id<1)then true else bif false then true else decide (id>(O.length:Int)))=true:=by
     by_cases k:id<1
     ·rw[fZ k];rfl
     ·rw[jK k,fZ (show id>(O.length:Int)by omega)];rfl
    have b0:(bif decide (id<1)then true else true)=true:=by cases decide (id<1)<;>rfl
    have el0:gV.list (List.length ([]:List Cv)) (gV.el [])=[]:=gV.aS [];have ok0:gV.oks (List.length ([]:List Cv)) (gV.el [])=true:=gV.bH [] _;simp only[MKd,mO,mP,c0,hs,hO,aoi,fG.aS,fG.bH,ahg,ahh,hC,h1,hok,c4,c5,c6,b0,b1,d1,d2,e1,e2,e3,e4,gV.aS,gV.bH,jO.aS,jO.bH,p0,p2,l1,l2]
    repeat first
     | refine ah rfl ?_
     | refine au (λh=>Bool.noConfusion h) (λ_=> ?_)
     | refine au (λ_=> ?_) (λh=>Bool.noConfusion h)
    exact av rfl
   ·have hpos:oP O id 0=id-1:=by
     have h0:oP O id ((0:Nat):Int)=id-1:=by rw[hj,if_pos (by omega)]
     exact h0
    obtain⟨j,rfl⟩: ∃j:Nat,id=(j:Int)+1:=⟨(id-1).toNat,by omega⟩
    have hj2:(j:Int)+1-1=(j:Int):=by omega
    rw[hj2]at hpos;have d1:dsE O ((j:Int)+1)=0:=by unfold dsE;rw[if_neg (by omega)]
    have d2:dsL O ((j:Int)+1)=LM O (j:Int) 0 O:=by unfold dsL;rw[if_neg (by omega),hpos]
    have hjl:j<O.length:=by omega
    have kD:=ZP O j (aho (by rw[show O.getD j iT=O[j]by simp[dR,hjl]];exact List.all_eq_true.1 hok _ (List.getElem_mem hjl))) O 0 hok;have p0:=fin (LM O (j:Int) 0 O) d2.symm (.inr ⟨by omega,by omega,by rw[hj2];exact kD⟩);have dl:=ZT O j O 0;rw[if_pos (by omega)]at dl;have b1:decide ((j:Int)+1<1)=false:=jK (by omega);have b2:decide ((j:Int)+1>(O.length:Int))=false:=jK (by omega);have w1:IntKind.i64.wrap ((O.length:Int)-1)=((O.length-1:Nat):Int):=jR;have b3:(((LM O (j:Int) 0 O).length:Int) !=((O.length-1:Nat):Int))=false:=by rw[dl];exact bne_self_eq_false _
    simp only[MKd,mO,mP,c0,hs,hO,aoi,fG.aS,fG.bH,ahg,ahh,hC,h1,hok,c4,c5,c6,b1,b2,b3,w1,d1,d2,e1,e2,e3,e4,gV.aS,gV.bH,jO.aS,jO.bH,p0,p2,l1,l2]
    repeat first
     | refine ah rfl ?_
     | refine au (λh=>Bool.noConfusion h) (λ_=> ?_)
     | refine au (λ_=> ?_) (λh=>Bool.noConfusion h)
    exact av rfl
end Go.bI
