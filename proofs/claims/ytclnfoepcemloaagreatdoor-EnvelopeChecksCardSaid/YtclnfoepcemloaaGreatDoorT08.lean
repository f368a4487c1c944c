/- Helpers for the proof: no statement of its own. -/
import Derived.Test.YtclnfoepcemloaaGreatDoorT00
import Derived.Test.YtclnfoepcemloaaGreatDoorT07
import Derived.Test.YtclnfoepcemloaaGreatDoorT06
import Derived.Test.YtclnfoepcemloaaGreatDoorT05
import Derived.Test.YtclnfoepcemloaaGreatDoorRows
import Derived.Test.YtclnfoepcemloaaGreatDoorTie
import Derived.Test.YtclnfoepcemloaaGreatDoorCards
import Derived.ProofKit
import Derived.LaidMore
import Derived.OpenShut
import Derived.Stop.Joined
import Derived.Below
import Derived.Lay
import Derived.MakeChecks
import Derived.ChangeSame
import Derived.SevenTiedAt
import Derived.Deep.Slices
import Derived.Deep.Fields
import Derived.Lib.SmallJoins
import Derived.Carry
set_option linter.unusedVariables false
set_option linter.unusedSimpArgs false
set_option linter.unnecessarySimpa false
set_option linter.deprecated false
set_option maxRecDepth 1000000
open Nat(beq)
open Go.Proofs.Tryz(prog)
namespace Go.bA
open Go.Proofs
def Γo:FuncId→Option Spec:=λf=>bif beq f 49 then some (au (nH WB))else bif beq f 50 then some (au (nH WC))else bif beq f 51 then some (au (nH WE))else bif beq f 52 then some (au (nH Pz))else bif beq f 23 then some (au (nH PG))else none
theorem ar5: ∀f s,Γo f=some s→aH prog f s:=step_ok afo.spec (step_ok afp.spec (step_ok afq.spec (step_ok SQ.spec (bM Ta.spec))))
def ar6(l:List Int):IV:= .sl l.length 1 λk=> [.v (.int .i64 (l.getD k 0))]
def ar7:AV:=H8 21 [H7 Fu DV false false++[ar6 [1,2]],H7 DV Fv true false++[ar6 [2,1]]]
def PI:List (List AV×AV):=[([xP],ar7)]
theorem akx:rowOk (z8 prog (iR prog Γo AQ 70 10) 70 Tryz.f18) ([xP],ar7)=true:=by kernel_rfl
theorem Tc:aF prog 18 (nH PI):=by
 refine sV (Py aI (jW (N:=70) (ms:=AQ) aI ar5 10) (fn:=Tryz.f18) (c:=codeOf Tryz.f18) (N:=70) (by kernel_rfl) (by kernel_rfl) (by kernel_rfl)) ?_;intro r hr;simp only[PI,List.mem_cons,List.not_mem_nil,or_false]at hr;subst hr;exact akx
end Go.bA
namespace Go.bA
open Go.RowKit
def ar8(S:St):St:={S with tm:=(lq S.mem S.tm).1,mem:=bV S.mem ((uY S.tm).map λb=>(b,none))}
section
variable{P:Program}{Γ:FuncId→Option Spec}{L:Nat→Option (St→Tr (Ex×St))}{N:Nat}
theorem Holds.freeze{C:Ctx}{B:dI}{S:St}{a:Act}{w:World}(hC:C.Ok)(H:Holds C B S a w)(hc: ∀p∈(lq S.mem S.tm).2,p):Holds C B (ar8 S) a w:=by
 have H':=Holds.drops (uY S.tm) S H;have hA: ∀b,aU C.A0 B (bV S.mem ((uY S.tm).map λb=>(b,none))) b→aU C.A0 B S.mem b:=λb hb=>by
  rcases hb with hb|⟨t,e,h1,h2⟩
  ·exact .inl hb
  ·obtain⟨_,h4⟩:=pO (uY S.tm) S.mem t e h1
   exact .inr ⟨t,e,h4,h2⟩
 have hT:=vw H hA S.tm a.tmps.toList (uf H.size H.tm) (λb hb=>by
  rintro⟨t,ht,e,h1,h2⟩;rcases hb with hb|⟨t',e',h3,h4⟩
  ·rcases(H.old t b h2).1 with h3|h3
   ·exact absurd (hC.a0 b hb) (Nat.not_lt.2 h3)
   ·exact hC.Il b hb h3
  ·obtain⟨h5,h6⟩:=pO (uY S.tm) S.mem t' e' h3
   exact h5 (H.inj t' t e' e b h6 h1 h4 h2 ▸ ht)) hc
 exact{H' with size:=(kg hT).1,tm:=(kg hT).2}
def ar9(P:Program)(Γ:FuncId→Option Spec)(L:Nat→Option (St→Tr (Ex×St)))(N:Nat)(fn:Func)(c:Code)(S:St):Tr AV:=Tr.needs (lq S.mem S.tm).2 (ake P Γ L N fn c (ar8 S))
theorem WG{C:Ctx}{fn:Func}{c:Code}(hm:P.follows .mixedOrders=true)(hΓ: ∀f s,Γ f=some s→lG C P f s)(hC:C.Ok)(hl:bB P C.k L c)
  (Q:AV→Prop) (S:St) (B:dI) (a:Act) (w:World) (h:(ar9 P Γ L N fn c S).sat Q) (H:Holds C B S a w):c.wp P (Am C λq=>(aaB P fn q).sat Q) a w:=by
 obtain⟨hc,h⟩:=Tr.dR h;exact pQ (eU hm hΓ hC c hl _ _ _ _ _ (Tr.cK h) (Holds.freeze hC H hc))
def PK(P:Program)(Γ:FuncId→Option Spec)(N:Nat)(fn:Func)(n:Nat)(args:List AV):Tr AV:=
 match fn.body with
 | some c=>Pt P Γ dn N fn (ar9 P Γ dn N fn (Kw n c)) n c (start args fn.ntmps)
 | none=> .fail "body"
theorem Ld(hm:P.follows .mixedOrders=true)(hΓ: ∀f s,Γ f=some s→aH P f s){f:FuncId}{fn:Func}{c:Code}(hf:P.funcs[f]? =some fn)(hb:fn.body=some c)
  (hcall: ∀args w,(callFunc f args).run P w= .ok (.enter f args) w) {K:List AV→Option (AV×List Bool)} (n:Nat)
  (hn: ∀args v cs,K args=some (v,cs)→bA.dY v=true)
  (h: ∀args v cs,K args=some (v,cs)→(∀p∈cs,p)→(PK P Γ N fn n args).sat λr=>bA.dY r=true∧bL r v):aF P f K where
 sound:=λargs v cs hk=>⟨hn args v cs hk,λA w vs hA hc hargs=>by
  have hs:=h args v cs hk hc;unfold PK at hs;rw[hb]at hs;refine gF.enter hf ⟨hcall _ _,(Lb hf hb (Q:=λr=>bL r v) hA hargs λC a hC hk H=> ?_).mono ?_⟩
  ·exact DR hm (y9 hΓ C) hC n c (by rw[hk];exact aA 0 c) (λQ S B a w hq H=>WG hm (y9 hΓ C) hC (by rw[hk];exact AP n c (aA 0 c)) Q S B a w hq H) _ _ _ _ _ hs H
  ·rintro e w' ⟨r,u,NJ,_,rfl,hrel,hb⟩
   exact⟨u,rfl,NJ _ _ _ _ hrel,hb⟩⟩
def KA(P:Program)(Γ:FuncId→Option Spec)(N n:Nat)(fn:Func)(args:List AV):Option (AV×List Bool):=
 match (PK P Γ N fn n args).yY with
 | some v=>some (v,[])
 | none=>none
theorem M6(hm:P.follows .mixedOrders=true)(hΓ: ∀f s,Γ f=some s→aH P f s){f:FuncId}{fn:Func}{c:Code}(hf:P.funcs[f]? =some fn)(hb:fn.body=some c)(hn:dz fn=true)(n:Nat):aF P f (KA P Γ N n fn):=by
 have hk: ∀args v cs,KA P Γ N n fn args=some (v,cs)→(PK P Γ N fn n args).yY=some v:=by
  intro args v cs h;unfold KA at h
  split at h
  ·rename_i u hu
   simp only[fu,Prod.mk.injEq]at h;obtain⟨rfl,_⟩:=h;exact hu
  ·cases h
 refine Ld (N:=N) hm hΓ hf hb (cO hf hb hn) n (λargs v cs h=>(Tr.oQ (hk args v cs h)).1) λargs v cs h _=> ?_
 exact(Tr.oQ (hk args v cs h)).2
end
end Go.bA
namespace Go.bA
open Go.Proofs
def Γ19:FuncId→Option Spec:=λf=>bif beq f 18 then some (au (nH PI))else Γk f
theorem apB: ∀f s,Γ19 f=some s→aH prog f s:=by
 intro f s h;unfold Γ19 at h;cases h1:beq f 18 with
 | true=>
   rw[h1]at h;cases h;rw[Nat.eq_of_beq_eq_true h1];exact Tc.spec
 | false=>
   rw[h1]at h;exact DU f s h
def lw(r:List IV)(i:Int):List IV:=r++[.v (.int .i64 i)]
def aky:AV:= .fG [H8 21 [lw (H7 Fu DV false false) 1,lw (H7 DV Fv true false) 2],H8 32 [H7 Fu DV false false++(zK++(rzK false [1]++zK)),H7 DV Fv true false++(rzK false [4]++(rzK true [1]++zK))]]
def afr:List (List AV×AV):=[([xP,.c (.v (.int .i64 0))],aky)]
theorem apC:rowOk (KA prog (iR prog Γ19 AQ 70 20) 70 4 Tryz.f55) ([xP,.c (.v (.int .i64 0))],aky)=true:=by kernel_rfl
theorem akz:aF prog 55 (nH afr):=by
 refine sV (M6 aI (jW (N:=70) (ms:=AQ) aI apB 20) (fn:=Tryz.f55) (c:=codeOf Tryz.f55) (N:=70) (by kernel_rfl) (by kernel_rfl) (by kernel_rfl) 4) ?_;intro r hr;simp only[afr,List.mem_cons,List.not_mem_nil,or_false]at hr;subst hr;exact apC
end Go.bA
namespace Go.bA
open Go.Proofs
def Γ20:FuncId→Option Spec:=λf=>bif beq f 55 then some (au (nH afr))else Γk f
theorem apD: ∀f s,Γ20 f=some s→aH prog f s:=by
 intro f s h;unfold Γ20 at h;cases h1:beq f 55 with
 | true=>
   rw[h1]at h;cases h;rw[Nat.eq_of_beq_eq_true h1];exact akz.spec
 | false=>
   rw[h1]at h;exact DU f s h
def WH:List (List AV×AV):=[([xP],aky)]
theorem akA:rowOk (eG prog (iR prog Γ20 AQ 70 20) 70 Tryz.f20) ([xP],aky)=true:=by kernel_rfl
theorem afs:aF prog 20 (nH WH):=by
 refine sV (jc aI (jW (N:=70) (ms:=AQ) aI apD 20) (fn:=Tryz.f20) (c:=codeOf Tryz.f20) (N:=70) (by kernel_rfl) (by kernel_rfl) (by kernel_rfl)) ?_;intro r hr;simp only[WH,List.mem_cons,List.not_mem_nil,or_false]at hr;subst hr;exact akA
def Γ5k:FuncId→Option Spec:=λf=>bif beq f 18 then some (au (nH PI))else bif beq f 20 then some (au (nH WH))else bif beq f 23 then some (au (nH PG))else Γk f
theorem apE: ∀f s,Γ5k f=some s→aH prog f s:=by
 intro f s h;unfold Γ5k at h;cases h1:beq f 18 with
 | true=>
   rw[h1]at h;cases h;rw[Nat.eq_of_beq_eq_true h1];exact Tc.spec
 | false=>
 rw[h1]at h;simp only[cond_false]at h;cases h2:beq f 20 with
 | true=>
   rw[h2]at h;cases h;rw[Nat.eq_of_beq_eq_true h2];exact afs.spec
 | false=>
 rw[h2]at h;simp only[cond_false]at h;cases h3:beq f 23 with
 | true=>
   rw[h3]at h;cases h;rw[Nat.eq_of_beq_eq_true h3];exact Ta.spec
 | false=>
 rw[h3]at h;exact DU f s h
end Go.bA
namespace Go.bA
open Go.Proofs
def alf:List (List AV×AV):=[([],bJ true)]
theorem apF:rowOk (KA prog (iR prog Γ5k AQ 70 20) 70 2 Tryz.f5) ([],bJ true)=true:=by kernel_rfl
theorem akB:aF prog 5 (nH alf):=by
 refine sV (M6 aI (jW (N:=70) (ms:=AQ) aI apE 20) (fn:=Tryz.f5) (c:=codeOf Tryz.f5) (N:=70) (by kernel_rfl) (by kernel_rfl) (by kernel_rfl) 2) ?_;intro r hr;simp only[alf,List.mem_cons,List.not_mem_nil,or_false]at hr;subst hr;exact apF
end Go.bA
namespace Go.bA
open Go.Proofs
theorem asa:aF prog 5 K5 where
 sound:=by
  intro args v cs h;unfold K5 at h
  split at h
  ·cases h
   exact akB.sound [] _ _ rfl
  ·cases h
theorem alg: ∀f s,Γ3 f=some s→aH prog f s:=step_ok asa.spec (step_ok ao4.spec (step_ok apl.spec (step_ok apm.spec (bM arP.spec))))
theorem akC: ∀x,(exec prog Γ3 dn 1010 (aR 0 (codeOf Tryz.f3)) (eY lId.nIn (lId.head x))).bind (lId.fin 0 0)=tId x:=λx=>by
 obtain⟨⟨I,a,m,i,⟨⟩⟩,⟨O,⟨⟩⟩⟩:=x
 kernel_rfl
def KLw:List AV→Option (AV×List Bool):=(F3 jQ.arg mV.arg YP).K (λ_=>bJ true) λx=> [x.1.all okV,decide (x.1.length≤9223372036854775807),oZ x.2.2.1]
theorem apG:aF prog 3 KLw:=
 (F3 jQ.arg mV.arg YP).ji (N:=1010) (L:=qK 0 lId) aI alg (fn:=Tryz.f3) (c:=codeOf Tryz.f3) (by kernel_rfl) (by kernel_rfl) (by kernel_rfl)
  (nk alg (cZ _ _ _ _ _ _) akC aeW) (λ_=>rfl) (M:=λx=>M3 x.1 x.2.1 x.2.2.1) (λx=>by obtain⟨W,I,a,⟨⟩⟩:=x;exact arR W I a) λx h=>by
  obtain⟨W,I,a,⟨⟩⟩:=x;exact apn W I a (h (W.all okV) (by simp)) (dec (h (decide (W.length≤9223372036854775807)) (by simp))) (h (oZ a) (by simp))
end Go.bA
namespace Go.bA
open Go.Proofs Go.RowKit
theorem BM{W:World}{a:Addr}{v:Value}(h:W.cell? a=some v):a.spot=none∧a.block<W.heap.size:=by
 refine⟨World.cell?_spot h,?_⟩;unfold World.cell? at h
 split at h
 ·rename_i hh
  exact(Array.getElem?_eq_some_iff.1 hh).1
 ·cases h
theorem Aa{α:Type}(d:α){P:Nat→α→Prop}: ∀n:Nat,(∀i,i<n→ ∃x,P i x)→ ∃l:List α,l.length=n∧ ∀i,i<n→P i (l.getD i d)
 | 0,_=>⟨[],rfl,λi hi=>by omega⟩
 | n+1,h=>by
   obtain⟨l,hl,hp⟩:=Aa d n λi hi=>h i (by omega)
   obtain⟨x,hx⟩:=h n (by omega);refine⟨l++[x],by simp[hl],λi hi=> ?_⟩;by_cases hin:i<n
   ·have:(l++[x]).getD i d=l.getD i d:=by
     simp[dJ,List.getElem?_append_left (by omega:i<l.length)]
    rw[this];exact hp i hin
   ·obtain rfl:i=n:=by omega
    have:(l++[x]).getD i d=x:=by
     simp[dJ,hl]
    rw[this];exact hx
theorem WI{W:World}{b off:Nat}{x0 x1 x2 x3:Int}(h0:W.cell? ⟨b,off+0,none⟩=some (.int .u8 x0))(h1:W.cell? ⟨b,off+1,none⟩=some (.int .u8 x1))(h2:W.cell? ⟨b,off+2,none⟩=some (.int .u8 x2))(h3:W.cell? ⟨b,off+3,none⟩=some (.int .u8 x3)):
  ∀j,j<4→ ∃n,W.cell? ⟨b,off+j,none⟩=some (.int .u8 n)∧([.v (.int .u8 x0),.v (.int .u8 x1),.v (.int .u8 x2),.v (.int .u8 x3)]:List IV).getD j (.v undef)= .v (.int .u8 n):=by
 intro j hj;rcases(show j=0∨j=1∨j=2∨j=3 by omega)with rfl|rfl|rfl|rfl
 ·exact⟨x0,h0,rfl⟩
 ·exact⟨x1,h1,rfl⟩
 ·exact⟨x2,h2,rfl⟩
 ·exact⟨x3,h3,rfl⟩
theorem KC{W:World}{b off len cap:Nat}(hb:b<W.heap.size)(hc:len≤cap)
  (h: ∀i,i<len→ ∀j,j<4→ ∃n,W.cell? ⟨b,off+(i*4+j),none⟩=some (.int .u8 n)∧oZ n=true):
  ∃S:List Stp,S.all Stp.ok=true∧jd (λ_=>False) W (.sl S.length 4 (yX S)) (.slice (some ⟨b,off,none⟩) len cap):=by
 obtain⟨S,hS,hp⟩:=Aa (P:=λi s=>s.ok=true∧ ∀j,j<4→ ∃n,W.cell? ⟨b,off+(i*4+j),none⟩=some (.int .u8 n)∧(aeA s).getD j (.v undef)= .v (.int .u8 n)) st0 len λi hi=>by
  obtain⟨x0,e0,o0⟩:=h i hi 0 (by omega);obtain⟨x1,e1,o1⟩:=h i hi 1 (by omega);obtain⟨x2,e2,o2⟩:=h i hi 2 (by omega);obtain⟨x3,e3,o3⟩:=h i hi 3 (by omega);refine⟨⟨x0,x1,x2,x3⟩,by show(oZ x0&&(oZ x1&&(oZ x2&&oZ x3)))=true;rw[o0,o1,o2,o3];rfl,λj hj=> ?_⟩;have:=WI (off:=off+i*4) (by rw[Nat.add_assoc];exact e0) (by rw[Nat.add_assoc];exact e1) (by rw[Nat.add_assoc];exact e2) (by rw[Nat.add_assoc];exact e3) j hj;rw[Nat.add_assoc]at this;exact this
 subst hS;refine⟨S,List.all_eq_true.2 λr hr=> ?_,?_⟩
 ·obtain⟨i,hi,rfl⟩:=List.mem_iff_getElem.1 hr
  have:=(hp i hi).1;simpa[dJ,hi]using this
 ·refine .sl S.length 4 _ b off cap (λh=>h) hb hc (λk _=>rfl) (λk j hk hj=> ?_) (λk j hk hj=> ?_)
  ·obtain⟨n,hn,_⟩:=(hp k hk).2 j hj
   exact⟨by rw[hn];rfl,by rw[vg hn];rfl⟩
  ·obtain⟨n,hn,he⟩:=(hp k hk).2 j hj
   rw[vg hn]
   show jd _ W ((aeA (S.getD k st0)).getD j (.v undef)) _
   rw[he];exact .v _
structure apH (W:World) (b off i:Nat) (c:Wr):Prop where
 ok:okV c=true
 t:W.cell? ⟨b,off+(i*7+0),none⟩=some (.int .u8 c.t)
 x:W.cell? ⟨b,off+(i*7+1),none⟩=some (.int .u8 c.x)
 y:W.cell? ⟨b,off+(i*7+2),none⟩=some (.int .u8 c.y)
 s: ∃v,W.cell? ⟨b,off+(i*7+3),none⟩=some v∧v.oneCell'=true∧jd (λ_=>False) W (.sl c.m 4 c.e) v
 k:W.cell? ⟨b,off+(i*7+4),none⟩=some (.int .u8 c.k)
 g:W.cell? ⟨b,off+(i*7+5),none⟩=some (.int .u8 c.g)
 p:W.cell? ⟨b,off+(i*7+6),none⟩=some (.int .u8 c.p)
theorem KD{W:World}{b off len cap:Nat}(hb:b<W.heap.size)(hc:len≤cap)(h: ∀i,i<len→ ∃c,apH W b off i c):
  ∃C:List Wr,C.length=len∧C.all okV=true∧jd (λ_=>False) W (.sl C.length 7 (jQ.el C)) (.slice (some ⟨b,off,none⟩) len cap):=by
 obtain⟨C,hC,hp⟩:=Aa wr0 len h;subst hC;refine⟨C,rfl,List.all_eq_true.2 λr hr=> ?_,?_⟩
 ·obtain⟨i,hi,rfl⟩:=List.mem_iff_getElem.1 hr
  have:=(hp i hi).ok;simpa[dJ,hi]using this
 ·have key: ∀k j,k<C.length→j<7→ ∃v,W.cell? ⟨b,off+(k*7+j),none⟩=some v∧v.oneCell'=true∧jd (λ_=>False) W ((jQ.el C k).getD j (.v undef)) v:=by
   intro k j hk hj;have hh:=hp k hk;obtain⟨v,e3,o3,r3⟩:=hh.s;rcases(show j=0∨j=1∨j=2∨j=3∨j=4∨j=5∨j=6 by omega)with rfl|rfl|rfl|rfl|rfl|rfl|rfl
   ·exact⟨_,hh.t,rfl,.v _⟩
   ·exact⟨_,hh.x,rfl,.v _⟩
   ·exact⟨_,hh.y,rfl,.v _⟩
   ·exact⟨v,e3,o3,r3⟩
   ·exact⟨_,hh.k,rfl,.v _⟩
   ·exact⟨_,hh.g,rfl,.v _⟩
   ·exact⟨_,hh.p,rfl,.v _⟩
  refine .sl C.length 7 _ b off cap (λh=>h) hb hc (λk _=>rfl) (λk j hk hj=> ?_) (λk j hk hj=> ?_)
  ·obtain⟨v,hv,ho,_⟩:=key k j hk hj
   exact⟨by rw[hv];rfl,by rw[vg hv];exact ho⟩
  ·obtain⟨v,hv,_,hr⟩:=key k j hk hj
   rw[vg hv];exact hr
theorem Le{W:World}{b off len cap:Nat}(hb:b<W.heap.size)(hc:len≤cap)(h: ∀i,i<len→ ∃c:Int,W.cell? ⟨b,off+i,none⟩=some (.int .i64 c)):
  ∃C:List Int,C.length=len∧jd (λ_=>False) W (.sl C.length 1 (mV.el C)) (.slice (some ⟨b,off,none⟩) len cap):=by
 obtain⟨C,hC,hp⟩:=Aa (0:Int) len h;subst hC;refine⟨C,rfl,?_⟩;have key: ∀k j,k<C.length→j<1→W.cell? ⟨b,off+(k*1+j),none⟩=some (.int .i64 (C.getD k 0)):=by
  intro k j hk hj;obtain rfl:j=0:=by omega
  have:=hp k hk;rw[Nat.mul_one,Nat.add_zero];exact this
 refine .sl C.length 1 _ b off cap (λh=>h) hb hc (λk _=>rfl) (λk j hk hj=> ?_) (λk j hk hj=> ?_)
 ·have hv:=key k j hk hj
  exact⟨by rw[hv];rfl,by rw[vg hv];rfl⟩
 ·have hv:=key k j hk hj
  rw[vg hv];obtain rfl:j=0:=by omega
  exact .v _
theorem aft{C:List Wr}{I:List Int}{a:Int}(hc:C.all okV=true)(hl:C.length≤9223372036854775807)(ha:oZ a=true)(hi:I.length≤9223372036854775807)(W:World){v0 v1:Value}(h0:jd (λ_=>False) W (.sl C.length 7 (jQ.el C)) v0)(h1:jd (λ_=>False) W (.sl I.length 1 (mV.el I)) v1):
  Calls prog 3 #[v0,v1,.int .u8 a] W λe w'=>e= .returned (.bool true)∧Below W.heap.size W w':=by
 have hk:KLw [jQ.sl C,mV.sl I,.c (.v (.int .u8 a))]=some (bJ true,[jQ.oks C.length (jQ.el C),mV.oks I.length (mV.el I),(jQ.list C.length (jQ.el C)).all okV,decide ((jQ.list C.length (jQ.el C)).length≤9223372036854775807),oZ a]):=rfl;have hs:=(apG.sound _ _ _ hk).2 (λ_=>False) W [v0,v1,.int .u8 a] (λb h=>h.elim) (by
  intro p hp;simp only[List.mem_cons,List.not_mem_nil,or_false,jQ.aG,jQ.aP,mV.aG,mV.aP]at hp;rcases hp with rfl|rfl|rfl|rfl|rfl
  ·rfl
  ·rfl
  ·exact hc
  ·exact dK hl
  ·exact ha) (dN.cons (.c _ _ h0) (dN.cons (.c _ _ h1) (dN.cons (.c _ _ (.v _)) .nil)))
 have henter:=cO (P:=prog) (f:=3) (fn:=Tryz.f3) (c:=codeOf Tryz.f3) (by kernel_rfl) (by kernel_rfl) (by kernel_rfl) #[v0,v1,.int .u8 a] W;rcases hs with⟨_,⟨_,apI⟩|⟨v,w',hval,_⟩⟩|⟨hy,_⟩
 ·refine apI.mono ?_
  rintro e w' ⟨u,rfl,hr,hb⟩;rw[show u= .bool true from hr.plain];exact⟨rfl,hb⟩
 ·have e2:(callFunc 3 #[v0,v1,.int .u8 a]).run prog W= .ok (.value v) w':=hval
  rw[henter]at e2;cases e2
 ·exact absurd hy (by decide)
end Go.bA
namespace Go.Proofs.YtclnfoepcemloaaGreatDoor
open Go Go.ChangeShapes Go.WideShapes Go.ChangeAt Go.WideMaps Go.WideElems Go.RowKit
section
variable{H:Type}{enc:TypeId×Value→H}{P:Program}
theorem closing{f:Func}{s:ChangeSpec}{apart fresh handsOn again:Bool}{W W':World}{args:Array Value}{v:Value}{ds gs:List (DataW H)}{before pa pv:List MemPlace}
  (hW:DataW.Whole enc P f.params.toList s.vars apart W args.toList ds gs before)
  (hres: ∀(b:Nat) (sp:Nat→Bool) (hd:Bool),DataW.TrodAll enc P W' b sp hd f.resultTypes.toList (v.resultList f.resultTypes.size) (s.fn H (ds++gs)).results [])
  (hargs: ∀sp:Nat→Bool,(∀p∈before,sp p.block=true)→DataW.TrodAll enc P W' 0 sp true f.params.toList args.toList (s.fn H (ds++gs)).args pa)
  (hvars: ∀sp:Nat→Bool,(∀p∈before,sp p.block=true)→DataW.TrodVars enc P W' sp s.vars (s.fn H (ds++gs)).vars pv)
  (hps:before=pa++pv) (hb:Below W.heap.size W W')
  (hok: ∀(j:Nat) (t:TypeId) (r:Value),f.resultTypes[j]? =some t→(v.resultList f.resultTypes.size)[j]? =some r→Value.okWide P W' .any 0 t r):
  s.post enc P f apart fresh handsOn again W args v W':=by
 have hlt: ∀p∈before,p.block<W.heap.size:=λp hp=>hW.lt p hp
 have hold: ∀p∈before,(λb=>decide (b<W.heap.size)) p.block=true:=λp hp=>by simpa using hlt p hp
 refine⟨ds,gs,before,[],pa,pv,hW,hres _ _ _,hargs _ hold,hvars _ hold,World.keptBut_mono (λp hp=>⟨hp,?_⟩) (hb.frame (· ∈before)),λ_=> ?_⟩
 ·rw[hps,List.mem_append]at hp
  exact Or.inr hp
 ·obtain⟨_,_,_,_,_,hz,hn⟩:=hW
  refine⟨hok,_,_,([]++pa)++pv,⟨[]++pa,pv,trodAll_append (hargs _ (λ_ _=>rfl)) (hres _ _ _),hvars _ (λ_ _=>rfl),rfl,?_,?_⟩,?_⟩
  ·intro b off hp
   have hin:MemPlace.cell b off∈before:=by rw[hps];simpa using hp
   rw[hb.frozen (hlt _ hin)];exact hz b off hin
  ·intro ha
   have:=hn ha;rw[hps]at this;simpa using this
  ·intro p hp _
   rw[hps];simpa using hp
end
theorem own:ownKnob prog.godebug=none:=by kernel_rfl
abbrev M7:List (String×DataW Unit):=Rows.envelopeChecksRow.laid
theorem afu(os:Os)(args:Array Value):laidMetH prog M7 ((World.laidAll prog os M7).forCall (λ_ _=>0) ⟨#[],args,[]⟩).memory:=by
 rw[MakeChecks.laidMetH_plain _ _ _ (by kernel_rfl)];exact laidMet_laidAll _ (by kernel_rfl) (by kernel_rfl)
theorem u5:prog.underlying 5=some (.int .u8):=by kernel_rfl
theorem u3:prog.underlying 3=some (.int .i64):=by kernel_rfl
theorem u4:prog.underlying 4=some .bool:=by kernel_rfl
end Go.Proofs.YtclnfoepcemloaaGreatDoor
namespace Go.Proofs.YtclnfoepcemloaaGreatDoor
open Go Go.ChangeShapes Go.WideShapes Go.ChangeAt Go.WideMaps Go.WideElems Go.RowKit Go.ChangeMaps Go.Deep Go.Joins
section
variable{H:Type}{enc:TypeId×Value→H}{P:Program}{w:World}{base:Nat}{spare:Nat→Bool}{held:Bool}
theorem afv{t e:TypeId}{fs:Array Field}{fuel:Nat}{cs:List Value}{x:DataW H×List MemPlace}(ht:P.underlying t=some (.slice e))(he:P.underlying e=some (.struct fs))
  (hone:oneCellFields P fs=true) (hC:P.cellsOf e=fs.size) (h:DataW.trod enc P w base spare held fuel t cs=some x):
  cs=[.slice none 0 0]∨
  ∃(a:Addr) (len cap:Nat),cs=[.slice (some a) len cap]∧len≤cap∧cap≤maxLen∧
   ∀i,i<(if spare a.block then cap else len)→ ∀(j:Nat) (f:Field),fs[j]? =some f→ ∃(v:Value) (n:Nat) (y:DataW H×List MemPlace),w.cell? (a.add (i*fs.size+j))=some v∧DataW.trod enc P w base spare held n f.type [v]=some y:=by
 rcases open_slice ht h with h0|⟨a,len,cap,m,n,D,Pl,hcs,hb,hl,hm,hmm,hx,hi⟩
 ·exact .inl h0.1
 ·refine .inr ⟨a,len,cap,hcs,hl,hm,λi hlt j f hj=> ?_⟩
  have him:i<m:=by rw[hmm];exact hlt
  obtain⟨cs',hc,ht'⟩:=hi i him;rw[hC]at hc;obtain⟨ys,n',hn',hy,hlen,hyl,hf⟩:=DataW.trod_struct he ht';obtain⟨_,hcl,hat⟩:=World.cells?_some hc;obtain⟨ho,hk⟩:=hone_of hone j f hj;have hjl:j<fs.size:=(Array.getElem?_eq_some_iff.1 hj).1;have hcell:=hat j hjl;have hv:cs'[j]? =some (cs'[j]'(by omega)):=List.getElem?_eq_getElem (by omega);have h1:=hf j f hj;rw[ho,hk]at h1;have hone':(cs'.drop j).take 1=[cs'[j]'(by omega)]:=by
   rw[List.drop_eq_getElem_cons (by omega)];rfl
  rw[hone']at h1;have hys:ys[j]? =some (ys[j]'(by omega)):=List.getElem?_eq_getElem (by omega);refine⟨_,_,_,?_,h1.trans hys⟩;rw[←Go.Deep.add_add,hcell,hv]
end
theorem u22:prog.underlying 22=some (.slice 84):=by kernel_rfl
theorem u23:prog.underlying 23=some (.slice 3):=by kernel_rfl
theorem u80:prog.underlying 80=some (.slice 142):=by kernel_rfl
noncomputable def Fw (t:TypeId):Array Field:=match prog.underlying t with|some (.struct fs)=>fs | _=> #[]
theorem u82:prog.underlying 82=some (.struct (Fw 82)):=by kernel_rfl
theorem u84:prog.underlying 84=some (.struct (Fw 84)):=by kernel_rfl
theorem as1:prog.underlying 142=some (.struct (Fw 142)):=by kernel_rfl
theorem akD:(Fw 142).size=4:=by kernel_rfl
theorem afw:((List.range 4).all λj=>decide (((Fw 142)[j]?).map (·.type)=some 5))=true:=by kernel_rfl
theorem apJ:oneCellFields prog (Fw 142)=true:=by kernel_rfl
theorem afx:prog.cellsOf 142=(Fw 142).size:=by kernel_rfl
theorem akE:prog.cellsOf 82=4:=by kernel_rfl
theorem akF:prog.cellsOf 84=7:=by kernel_rfl
theorem cells5:prog.cellsOf 5=1:=by kernel_rfl
theorem cells3:prog.cellsOf 3=1:=by kernel_rfl
theorem akG:prog.cellsOf 80=1:=by kernel_rfl
theorem apK:prog.funcs[3]? =some Tryz.f3:=by kernel_rfl
theorem alh:Tryz.f3.params.toList=[22,23,5]:=by kernel_rfl
theorem wf_u8{n:Int}(hn:(Lit.int .u8 n).wf=true):bA.oZ n=true:=by
 simp only[Lit.wf,IntKind.min,IntKind.max,IntKind.signed,IntKind.bits,bI,dS]at hn;have h1:0≤n:=by simpa using hn.1
 have h2:n≤255:=by simpa using hn.2
 simp only[bA.oZ,bI,dS];omega
section
variable{H:Type}{enc:TypeId×Value→H}{W:World}{base:Nat}{held:Bool}
abbrev AU:Nat→Bool:=λ_=>true
theorem WJ{fuel:Nat}{v:Value}{x:DataW H×List MemPlace}(h:DataW.trod enc prog W base AU held fuel 80 [v]=some x):
  ∃(m:Nat) (e:Nat→List bA.IV),bA.xK m e=true∧v.oneCell'=true∧bA.jd (λ_=>False) W (.sl m 4 e) v:=by
 rcases afv u80 as1 apJ afx h with h0|⟨a,len,cap,h0,hl,hm,hf⟩
 ·obtain rfl:v= .slice none 0 0:=by simpa using h0
  exact⟨0,λ_=> [],rfl,rfl,.nil _ _⟩
 ·obtain rfl:v= .slice (some a) len cap:=by simpa using h0
  rw[if_pos rfl]at hf;have cell: ∀i,i<cap→ ∀j,j<4→ ∃n,W.cell? (a.add (i*4+j))=some (.int .u8 n)∧bA.oZ n=true:=by
   intro i hi j hj;have ht:((Fw 142)[j]?).map (·.type)=some 5:=iX (List.all_eq_true.1 afw j (List.mem_range.2 hj));obtain⟨f,hf1,hf2⟩:=Option.map_eq_some_iff.1 ht;obtain⟨v,n,y,hc,hy⟩:=hf i hi j f hf1;rw[hf2]at hy;obtain⟨k,hk,_,hw⟩:=DataW.trod_int u5 hy;obtain rfl:v= .int .u8 k:=by simpa using hk
   rw[akD]at hc;exact⟨k,hc,wf_u8 hw⟩
  by_cases h0:cap=0
  ·subst h0
   obtain rfl:len=0:=by omega
   exact⟨0,λ_=> [],rfl,rfl,.zero _ _ _⟩
  ·obtain⟨n0,hc0,_⟩:=cell 0 (by omega) 0 (by omega)
   obtain⟨hs,hb⟩:=bA.BM hc0;obtain⟨b,off,sp⟩:=a;obtain rfl:sp=none:=by simpa[Addr.add]using hs
   have hb:b<W.heap.size:=by simpa[Addr.add]using hb
   obtain⟨S,hS,hr⟩:=bA.KC (W:=W) (b:=b) (off:=off) (len:=len) (cap:=cap) hb hl λi hi j hj=>by
    obtain⟨n,hn,hw⟩:=cell i (by omega) j hj;rw[add_plain]at hn;exact⟨n,hn,hw⟩
   exact⟨S.length,bA.yX S,bA.ql hS,rfl,hr⟩
theorem Gh{t:TypeId}{fuel:Nat}{cs:List Value}{x:DataW H×List MemPlace}(hu:prog.underlying t=some (.struct (Fw t)))(h:DataW.trod enc prog W base AU held fuel t cs=some x):
  cs.length=prog.cellsOf t∧ ∀(j u o:Nat),((Fw t)[j]?).map (λ(f:Field)=>(f.type,f.offset))=some (u,o)→ ∃n y,DataW.trod enc prog W base AU held n u ((cs.drop o).take (prog.cellsOf u))=some y:=by
 obtain⟨xs,n,_,_,hl,hlen,hg⟩:=DataW.trod_struct hu h;refine⟨hl,λj u o hj=> ?_⟩;obtain⟨f,hf1,hf2⟩:=Option.map_eq_some_iff.1 hj;simp only[Prod.mk.injEq]at hf2;have:=hg j f hf1;rw[hf2.1,hf2.2]at this;have hjl:j<(Fw t).size:=(Array.getElem?_eq_some_iff.1 hf1).1;exact⟨n,_,this.trans (List.getElem?_eq_getElem (by omega))⟩
theorem one_cell{cs:List Value}{j:Nat}(h:j<cs.length): ∃v,cs[j]? =some v∧(cs.drop j).take 1=[v]:=by
 refine⟨cs[j],List.getElem?_eq_getElem h,?_⟩;rw[List.drop_eq_getElem_cons h];rfl
theorem afy{fuel:Nat}{v:Value}{x:DataW H×List MemPlace}(h:DataW.trod enc prog W base AU held fuel 23 [v]=some x):
  ∃C:List Int,C.length≤9223372036854775807∧bA.jd (λ_=>False) W (.sl C.length 1 (bA.mV.el C)) v:=by
 rcases open_ints u23 u3 cells3 h with⟨h0,_⟩|⟨a,len,cap,zs,h0,_,hl,hm,hz,_,hc,_⟩
 ·obtain rfl:v= .slice none 0 0:=by simpa using h0
  exact⟨[],by decide,.nil _ _⟩
 ·obtain rfl:v= .slice (some a) len cap:=by simpa using h0
  have hm':cap≤9223372036854775807:=hm;rw[if_pos rfl]at hz;by_cases h0:cap=0
  ·subst h0
   obtain rfl:len=0:=by omega
   exact⟨[],by decide,.zero _ _ _⟩
  ·obtain⟨hs,hb⟩:=bA.BM (hc 0 (by omega))
   obtain⟨b,off,sp⟩:=a;obtain rfl:sp=none:=by simpa[Addr.add]using hs
   have hb:b<W.heap.size:=by simpa[Addr.add]using hb
   obtain⟨C,hC,hr⟩:=bA.Le (W:=W) (b:=b) (off:=off) (len:=len) (cap:=cap) hb hl λi hi=>⟨_,by
    have:=hc i (by omega);rw[add_plain]at this;exact this⟩
   exact⟨C,by omega,hr⟩
theorem WK{fuel:Nat}{v:Value}{x:DataW H×List MemPlace}(h:DataW.trod enc prog W base AU held fuel 22 [v]=some x):
  ∃C:List bA.Wr,C.all bA.okV=true∧C.length≤9223372036854775807∧bA.jd (λ_=>False) W (.sl C.length 7 (bA.jQ.el C)) v:=by
 rcases open_slice u22 h with h0|⟨a,len,cap,m,n,D,Pl,h0,hb,hl,hm,hmm,hx,hi⟩
 ·obtain rfl:v= .slice none 0 0:=by simpa using h0.1
  exact⟨[],rfl,by decide,.nil _ _⟩
 ·obtain rfl:v= .slice (some a) len cap:=by simpa using h0
  rw[if_pos rfl]at hmm;subst hmm;have hm':m≤9223372036854775807:=hm
  have asb: ∀i,i<m→ ∃(x0 x1 x2 k g p:Int) (v3:Value) (n3:Nat) (y3:DataW H×List MemPlace),
    (W.cell? (a.add (i*7+0))=some (.int .u8 x0)∧bA.oZ x0=true)∧(W.cell? (a.add (i*7+1))=some (.int .u8 x1)∧bA.oZ x1=true)∧(W.cell? (a.add (i*7+2))=some (.int .u8 x2)∧bA.oZ x2=true)∧
    (W.cell? (a.add (i*7+3))=some v3∧DataW.trod enc prog W base AU held n3 80 [v3]=some y3)∧
    (W.cell? (a.add (i*7+4))=some (.int .u8 k)∧bA.oZ k=true)∧(W.cell? (a.add (i*7+5))=some (.int .u8 g)∧bA.oZ g=true)∧(W.cell? (a.add (i*7+6))=some (.int .u8 p)∧bA.oZ p=true):=by
   intro i him;obtain⟨cs,hc,ht⟩:=hi i him;rw[akF]at hc;obtain⟨_,hcl,hat⟩:=World.cells?_some hc;have cell: ∀j,j<7→W.cell? (a.add (i*7+j))=cs[j]? :=λj hj=>by rw[←Go.Deep.add_add];exact hat j hj
   obtain⟨_,part⟩:=Gh u84 ht;obtain⟨nc,yc,tc⟩:=part 0 82 0 (by kernel_rfl);rw[akE,List.drop_zero]at tc;obtain⟨_,asc⟩:=Gh u82 tc;have num: ∀{n:Nat} {y:DataW H×List MemPlace} {u:Value},DataW.trod enc prog W base AU held n 5 [u]=some y→ ∃z,u= .int .u8 z∧bA.oZ z=true:=λh=>by
    obtain⟨k,hk,_,hw⟩:=DataW.trod_int u5 h;exact⟨k,by simpa using hk,wf_u8 hw⟩
   have car: ∀(j t:Nat),j<4→((Fw 82)[j]?).map (λ(f:Field)=>(f.type,f.offset))=some (t,j)→prog.cellsOf t=1→ ∃(u:Value) (n:Nat) (y:DataW H×List MemPlace),cs[j]? =some u∧DataW.trod enc prog W base AU held n t [u]=some y:=by
    intro j t hj hf h1;obtain⟨n,y,h⟩:=asc j t j hf;rw[h1,List.drop_take]at h;obtain⟨u,hu,hu2⟩:=one_cell (cs:=cs) (j:=j) (by omega);have e:((cs.drop j).take (4-j)).take 1=[u]:=by
     rw[List.take_take,show min 1 (4-j)=1 by omega];exact hu2
    rw[e]at h;exact⟨u,n,y,hu,h⟩
   have own: ∀(j q:Nat),q<7→((Fw 84)[j]?).map (λ(f:Field)=>(f.type,f.offset))=some (5,q)→ ∃z,cs[q]? =some (.int .u8 z)∧bA.oZ z=true:=by
    intro j q hq hf;obtain⟨n,y,h⟩:=part j 5 q hf;rw[cells5]at h;obtain⟨u,hu,hu2⟩:=one_cell (cs:=cs) (j:=q) (by omega);rw[hu2]at h;obtain⟨z,rfl,hz⟩:=num h;exact⟨z,hu,hz⟩
   obtain⟨u0,_,_,e0,t0⟩:=car 0 5 (by omega) (by kernel_rfl) cells5;obtain⟨u1,_,_,e1,t1⟩:=car 1 5 (by omega) (by kernel_rfl) cells5;obtain⟨u2,_,_,e2,t2⟩:=car 2 5 (by omega) (by kernel_rfl) cells5;obtain⟨u3,n3,y3,e3,t3⟩:=car 3 80 (by omega) (by kernel_rfl) akG;obtain⟨x0,rfl,o0⟩:=num t0;obtain⟨x1,rfl,o1⟩:=num t1;obtain⟨x2,rfl,o2⟩:=num t2;obtain⟨k,e4,o4⟩:=own 1 4 (by omega) (by kernel_rfl);obtain⟨g,e5,o5⟩:=own 2 5 (by omega) (by kernel_rfl);obtain⟨p,e6,o6⟩:=own 3 6 (by omega) (by kernel_rfl);exact⟨x0,x1,x2,k,g,p,u3,n3,y3,⟨(cell 0 (by omega)).trans e0,o0⟩,⟨(cell 1 (by omega)).trans e1,o1⟩,⟨(cell 2 (by omega)).trans e2,o2⟩,⟨(cell 3 (by omega)).trans e3,t3⟩,⟨(cell 4 (by omega)).trans e4,o4⟩,⟨(cell 5 (by omega)).trans e5,o5⟩,⟨(cell 6 (by omega)).trans e6,o6⟩⟩
  by_cases h0:m=0
  ·subst h0
   obtain rfl:len=0:=by omega
   exact⟨[],rfl,by decide,.zero _ _ _⟩
  ·obtain⟨x0,_,_,_,_,_,_,_,_,⟨hc0,_⟩,_⟩:=asb 0 (by omega)
   obtain⟨hs,hb⟩:=bA.BM hc0;obtain⟨b,off,sp⟩:=a;obtain rfl:sp=none:=by simpa[Addr.add]using hs
   have hb:b<W.heap.size:=by simpa[Addr.add]using hb
   obtain⟨C,hC,hok,hr⟩:=bA.KD (W:=W) (b:=b) (off:=off) (len:=len) (cap:=m) hb hl λi hi=>by
    obtain⟨x0,x1,x2,k,g,p,v3,n3,y3,⟨e0,o0⟩,⟨e1,o1⟩,⟨e2,o2⟩,⟨e3,t3⟩,⟨e4,o4⟩,⟨e5,o5⟩,⟨e6,o6⟩⟩:=asb i (by omega);obtain⟨q,e,so,oc,r3⟩:=WJ t3;rw[add_plain]at e0 e1 e2 e3 e4 e5 e6;exact⟨⟨x0,x1,x2,q,e,k,g,p⟩,⟨by show(bA.xK q e&&(bA.oZ x0&&(bA.oZ x1&&(bA.oZ x2&&(bA.oZ k&&(bA.oZ g&&bA.oZ p))))))=true;rw[so,o0,o1,o2,o4,o5,o6];rfl,e0,e1,e2,⟨v3,e3,oc,r3⟩,e4,e5,e6⟩⟩
   exact⟨C,hok,by omega,hr⟩
theorem Td{b0:Nat}{v:Value}{d:DataW H}{ps:List MemPlace}(hv:Value.okWide prog W .any b0 22 v)(h:DataW.Trod enc prog W base AU held 22 v d ps):
  ∃C:List bA.Wr,C.all bA.okV=true∧C.length≤9223372036854775807∧bA.jd (λ_=>False) W (.sl C.length 7 (bA.jQ.el C)) v:=by
 obtain⟨a,len,cap,rfl⟩:=okWide_slice u22 hv;obtain⟨fuel,hf⟩:=h;exact WK hf
theorem aaG{b0:Nat}{v:Value}{d:DataW H}{ps:List MemPlace}(hv:Value.okWide prog W .any b0 23 v)(h:DataW.Trod enc prog W base AU held 23 v d ps):
  ∃C:List Int,C.length≤9223372036854775807∧bA.jd (λ_=>False) W (.sl C.length 1 (bA.mV.el C)) v:=by
 obtain⟨a,len,cap,rfl⟩:=okWide_slice u23 hv;obtain⟨fuel,hf⟩:=h;exact afy hf
end
end Go.Proofs.YtclnfoepcemloaaGreatDoor
