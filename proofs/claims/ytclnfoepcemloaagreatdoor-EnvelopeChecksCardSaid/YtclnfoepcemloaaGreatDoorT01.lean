/- Helpers for the proof: no statement of its own. -/
import Derived.Test.YtclnfoepcemloaaGreatDoorT00
import Derived.LoopN
import Derived.Scope
import Derived.Laws.Externs
import Derived.Lib.Bytealg
import Derived.Test.YtclnfoepcemloaaGreatDoorProg
set_option linter.unusedVariables false
set_option linter.unusedSimpArgs false
set_option linter.unnecessarySimpa false
set_option linter.deprecated false
set_option maxRecDepth 1000000
open Go.IntKind(i64 u64 u32)
open Nat(beq)
open Go.Proofs.Tryz(prog)
open Go.bA.Tr(need ret)
namespace Go.bA
open Go.RowKit
namespace Tr
theorem aZ{α:Type}{Q Q':α→Prop}(h: ∀a,Q a→Q' a): ∀{t:Tr α},t.sat Q→t.sat Q'
 | .ret a,hs=>h a hs
 | .ite c t e,hs=>⟨λhc=>aZ h (hs.1 hc),λhc=>aZ h (hs.2 hc)⟩
 | .need p t,hs=>⟨hs.1,λhp=>aZ h (hs.2 hp)⟩
 | .both a b,hs=>⟨aZ h hs.1,aZ h hs.2⟩
 | .fail _,hs=>hs.elim
theorem cK{α β:Type}{Q:β→Prop}{f:α→Tr β}: ∀{t:Tr α},(t.bind f).sat Q→t.sat λa=>(f a).sat Q
 | .ret a,hs=>hs
 | .ite c t e,hs=>⟨λhc=>cK (hs.1 hc),λhc=>cK (hs.2 hc)⟩
 | .need p t,hs=>⟨hs.1,λhp=>cK (hs.2 hp)⟩
 | .both a b,hs=>⟨cK hs.1,cK hs.2⟩
 | .fail _,hs=>hs.elim
theorem dR{α:Type}{Q:α→Prop}: ∀{l:List Bool} {t:Tr α},(needs l t).sat Q→(∀p∈l,p)∧t.sat Q
 | [],t,h=>⟨by simp,h⟩
 | p::l,t,h=>by
   obtain⟨h1,h2⟩:=dR (h.2 h.1);exact⟨by intro q hq;rcases List.mem_cons.1 hq with rfl|hq;exact h.1;exact h1 q hq,h2⟩
end Tr
section
variable{P:Program}{Γ:FuncId→Option Spec}{all:List Oper}{base:Nat}
def StepA(P:Program)(Γ:FuncId→Option Spec)(all:List Oper)(base i:Nat)(o:Oper)(S S':St)(d:Did):Prop:=
 (nW all S.tm o=some false∧S'=S.apply o.dst {val:= .c (.v undef)}∧d=⟨i,[],[]⟩)∨
 (nW all S.tm o=some true∧ ∃r,Ah P Γ (base+i) o S.tm S.mem=some r∧(∀p∈r.conds,p)∧S'=S.apply o.dst r∧d=⟨i,r.reads,r.upd.map (·.1)⟩)
def Runs(P:Program)(Γ:FuncId→Option Spec)(all:List Oper)(base:Nat):List Nat→St→St→List Did→Prop
 | [],S,S',ds=>S'=S∧ds=[]
 | i::l,S,S',ds=> ∃o S1 d ds',all[i]? =some o∧StepA P Γ all base i o S S1 d∧Runs P Γ all base l S1 S' ds'∧ds=d::ds'
theorem lY{Q:St×List Did→Prop}: ∀(l:List Oper) (i:Nat) (S:St) (ds:List Did),(∀j,l[j]? =all[i+j]?)→(gK P Γ all base l i S ds).sat Q→
  ∃S' ds',Runs P Γ all base (List.range' i l.length) S S' ds'∧Q (S',ds'.reverse++ds)
 | [],i,S,ds,_,h=>⟨S,[],⟨rfl,rfl⟩,h⟩
 | o::l,i,S,ds,hl,h=>by
   have h0:all[i]? =some o:=by simpa using(hl 0).symm
   have hl': ∀j,l[j]? =all[i+1+j]? :=λj=>by have:=hl (j+1);simpa[Nat.add_assoc,Nat.add_comm 1 j]using this
   unfold gK at h
   split at h
   ·exact h.elim
   ·rename_i hw
    obtain⟨S',ds',hr,hq⟩:=lY l (i+1) _ _ hl' h;exact⟨S',_,⟨o,_,_,ds',h0,.inl ⟨hw,rfl,rfl⟩,hr,rfl⟩,by simpa using hq⟩
   ·rename_i hw
    split at h
    ·exact h.elim
    ·rename_i r hv
     obtain⟨hc,h⟩:=Tr.dR h;cases hsrc:qD all i with
     | false=>
       simp only[hsrc,cond_false]at h;obtain⟨S',ds',hr,hq⟩:=lY l (i+1) _ _ hl' h;exact⟨S',_,⟨o,_,_,ds',h0,.inr ⟨hw,r,hv,hc,rfl,rfl⟩,hr,rfl⟩,by simpa using hq⟩
     | true=>
       simp only[hsrc,cond_true]at h
       split at h
       ·rename_i b hrv
        cases b with
        | true=>
          have h1:=h.1 rfl;have he:({r with val:=bJ true}:Eff)=r:=by cases r;simp only at hrv;subst hrv;rfl
          rw[he]at h1;obtain⟨S',ds',hr,hq⟩:=lY l (i+1) _ _ hl' h1;exact⟨S',_,⟨o,_,_,ds',h0,.inr ⟨hw,r,hv,hc,rfl,rfl⟩,hr,rfl⟩,by simpa using hq⟩
        | false=>
          have h1:=h.2 rfl;have he:({r with val:=bJ false}:Eff)=r:=by cases r;simp only at hrv;subst hrv;rfl
          rw[he]at h1;obtain⟨S',ds',hr,hq⟩:=lY l (i+1) _ _ hl' h1;exact⟨S',_,⟨o,_,_,ds',h0,.inr ⟨hw,r,hv,hc,rfl,rfl⟩,hr,rfl⟩,by simpa using hq⟩
       ·exact h.elim
variable{C:Ctx}{B:dI}{S S':St}{a:Act}{w:World}
theorem Lv{o:Oper}{b:Bool}(H:Holds C B S a w)(h:nW all S.tm o=some b):Region.wanted o (yielded all.toArray a.tmps)=b:=by
 unfold nW at h;unfold Region.wanted
 split at h
 ·rename_i hg;rw[hg];simp at h;subst h;rfl
 ·rename_i j want hg
  rw[hg];simp only[]
  split at h
  ·rename_i d hd
   split at h
   ·rename_i c hc
    simp only[fu]at h;subst h;have ht:d<S.tm.length:=by
     rcases Nat.lt_or_ge d S.tm.length with ht|ht
     ·exact ht
     ·rw[dJ,List.getElem?_eq_none ht]at hc;cases hc
    have hrel:=H.tm d ht;rw[hc]at hrel;have hv:=hrel.plain;have hsz:d<a.tmps.size:=by rw[H.size];exact ht
    have hy:yielded all.toArray a.tmps j=some c:=by
     unfold yielded;have h1:(all.toArray[j]?).bind (·.dst)=some d:=by simpa using hd
     rw[h1];simp only[Option.bind_some];rw[Array.getElem?_eq_getElem hsz];have h2:a.tmps[d]= .bool c:=by simpa[nS,hsz]using hv
     rw[h2]
    rw[hy];cases c<;>cases want<;>rfl
   ·rename_i vs hc
    simp only[fu]at h;subst h;have ht:d<S.tm.length:=by
     rcases Nat.lt_or_ge d S.tm.length with ht|ht
     ·exact ht
     ·rw[dJ,List.getElem?_eq_none ht]at hc;cases hc
    have hrel:=H.tm d ht;rw[hc]at hrel;have hv:=hrel.plain;have hsz:d<a.tmps.size:=by rw[H.size];exact ht
    have hy:yielded all.toArray a.tmps j=none:=by
     unfold yielded;have h1:(all.toArray[j]?).bind (·.dst)=some d:=by simpa using hd
     rw[h1];simp only[Option.bind_some];rw[Array.getElem?_eq_getElem hsz];have h2:a.tmps[d]= .tuple vs:=by simpa[nS,hsz]using hv
     rw[h2]
    rw[hy];rfl
   ·cases h
  ·cases h
abbrev TP(B:dI)(base:Nat)(l:List Nat):Prop:= ∀i∈l,B (base+i)=none
theorem KM{slot:Nat}{o:Oper}{tm:List AV}{m:Mem}{r:Eff}(h:Ah P Γ slot o tm m=some r): ∀c,o.op≠ .defer c:=by
 intro c hop;unfold Ah at h;simp only[hop]at h;cases h
theorem FJ(hΓ: ∀f s,Γ f=some s→lG C P f s)(hC:C.Ok){i:Nat}{o:Oper}{d:Did}(ho:all[i]? =some o)(h:StepA P Γ all base i o S S' d)
  (H:Holds C B S a w) (hf:B (base+i)=none) (hnx:Between C S (base+i)) {K:Act→World→Prop} {Q:Exit→Act→World→Prop}
  (hK: ∀a' w' B',Holds C B' S' a' w'→(∀j,j≠base+i→B' j=B j)→K a' w') (ro:Option Nat):wpOpIn (Fence.PN ro) 0 P all.toArray Q i K a w:=by
 unfold wpOpIn;have ho':all.toArray[i]? =some o:=by simpa using ho
 rw[ho'];simp only[];rcases h with⟨hw,rfl,rfl⟩|⟨hw,r,hv,hc,rfl,rfl⟩
 ·rw[Lv H hw]
  simp only[Bool.false_eq_true,if_false];refine⟨λ_ _=>trivial,hK _ _ B ?_ (λ_ _=>rfl)⟩;rw[apply_pure _ _ _ rfl];exact H.put o.dst (aV.lit _)
 ·rw[Lv H hw]
  simp only[if_true];exact Oper.FB ro 0 (KM hv) (Qk hΓ hv hc H hf hnx hC hK)
theorem Ql{i:Nat}{o:Oper}{d:Did}(h:StepA P Γ all base i o S S' d):S'.nx=S.nx:=by
 rcases h with⟨_,rfl,_⟩|⟨_,r,_,_,rfl,_⟩<;>rfl
theorem Bf(hΓ: ∀f s,Γ f=some s→lG C P f s)(hC:C.Ok){Q:Exit→Act→World→Prop}: ∀(l:List Nat) (S:St) (ds:List Did) (B:dI) (a:Act) (w:World),
  Runs P Γ all base l S S' ds→Holds C B S a w→TP B base l→l.Nodup→(∀i∈l,Between C S (base+i))→
  (∀a' w' B',Holds C B' S' a' w'→Q .normal a' w')→ ∀(ro:Option Nat),wpOpsIn (Fence.PN ro) 0 P all.toArray Q l a w
 | [],S,ds,B,a,w,hr,H,_,_,_,hQ,ro=>by
   obtain⟨rfl,rfl⟩:=hr;exact hQ _ _ B H
 | i::l,S,ds,B,a,w,hr,H,hf,hn,hb,hQ,ro=>by
   obtain⟨o,S1,d,ds',ho,hs,hr,rfl⟩:=hr;rw[wpOpsIn_cons];refine FJ hΓ hC ho hs H (hf i (by simp)) (hb i (by simp)) (λa' w' B' H' hB=> ?_) ro;refine Bf hΓ hC l S1 ds' B' a' w' hr H' (λj hj=> ?_) (List.nodup_cons.1 hn).2 (λj hj=>by unfold Between;rw[Ql hs];exact hb j (by simp[hj])) hQ ro;have hne:j≠i:=by rintro rfl;exact(List.nodup_cons.1 hn).1 hj
   rw[hB _ (by omega)];exact hf j (by simp[hj])
end
end Go.bA
namespace Go.bA
open Go.RowKit
section
variable{P:Program}{Γ:FuncId→Option Spec}{all:List Oper}{base:Nat}
theorem tZ{tm tm':List AV}: ∀{l:List Operand},(∀x∈l,bQ tm' x=bQ tm x)→l.map (bQ tm')=l.map (bQ tm)
 | [],_=>rfl
 | x::l,h=>by rw[List.map_cons,List.map_cons,h x (by simp),tZ λy hy=>h y (by simp[hy])]
theorem wI{m m':Mem}{x:AV}{n sz:Nat}{el:Nat→List IV}{cs:List Bool}{rs:List Nat}(h:qN m x=some (n,sz,el,cs,rs))(hm: ∀s∈rs,m' s=m s):qN m' x=some (n,sz,el,cs,rs):=by
 unfold qN at h⊢
 split at h
 ·exact h
 ·exact h
 ·exact h
 ·rename_i b n0 sz0
  have hb:m' b=m b:=by
   apply hm
   split at h
   ·rename_i n' sz' iV t _
    cases hb:beq sz0 sz' with
    | true=>rw[hb]at h;simp only[cond_true,fu,Prod.mk.injEq]at h;obtain⟨_,_,_,_,rfl⟩:=h;simp
    | false=>rw[hb]at h;cases h
   ·cases h
  simp only[hb];exact h
 ·cases h
theorem Nn{m m':Mem}{e p:Nat}{x:AV}{n:Nat}{el:Nat→List IV}{cs:List Bool}{rs:List Nat}(h:Ih m e p x=some (n,el,cs,rs))(hm: ∀s∈rs,m' s=m s):Ih m' e p x=some (n,el,cs,rs):=by
 unfold Ih at h⊢
 split at h
 ·exact h
 ·rename_i b n0 sz0
  have hb:m' b=m b:=by
   apply hm
   split at h
   ·rename_i n' sz' iV e' _
    cases hb:(beq sz0 p&&beq sz' p&&beq e e')with
    | true=>rw[hb]at h;simp only[cond_true,fu,Prod.mk.injEq]at h;obtain⟨_,_,_,rfl⟩:=h;simp
    | false=>rw[hb]at h;cases h
   ·cases h
  simp only[hb];exact h
 ·cases h
theorem Np{m m':Mem}{t u e p D7:Nat}{y:AV}{n:Nat}{el:Nat→List IV}{cs:List Bool}{rs:List Nat}(h:D6 P m t u e p D7 y=some (n,el,cs,rs))(hm: ∀s∈rs,m' s=m s):D6 P m' t u e p D7 y=some (n,el,cs,rs):=by
 unfold D6 at h⊢;cases htu:beq t u with
 | false=>rw[htu]at h;exact h
 | true=>
   rw[htu]at h;simp only[cond_true]at h⊢;cases hv:qN m y with
   | none=>rw[hv]at h;cases h
   | some q=>
     obtain⟨k,sz,iV,cs',rs'⟩:=q;rw[hv]at h;have hrs:rs'=rs:=by
      simp only at h;cases hb:(beq sz p || beq k 0)with
      | true=>rw[hb]at h;simp only[cond_true,fu,Prod.mk.injEq]at h;exact h.2.2.2
      | false=>rw[hb]at h;cases h
     rw[wI hv (by rw[hrs];exact hm)];exact h
theorem KN{slot:Nat}{m m':Mem}{ts:List TypeId}{x y:AV}{r:Eff}(h:y5 P slot m ts x y=some r)(hm: ∀s∈r.reads,m' s=m s):y5 P slot m' ts x y=some r:=by
 unfold y5 at h⊢
 split at h
 ·rename_i t u
  split at h
  ·rename_i e ht
   split at h
   ·rename_i p D7 z hp hby hz
    cases hzc:beq z.cells.size (p+1)with
    | false=>rw[hzc]at h;cases h
    | true=>
      rw[hzc]at h;simp only[cond_true]at h
      split at h
      ·rename_i n el c1 r1 k iV c2 r2 hd hsr
       cases h;have h1:=Nn (m':=m') hd (λs hs=>hm s (by simp[hs]));have h2:=Np (m':=m') hsr (λs hs=>hm s (by simp[hs]));simp only[ht,hp,hby,hz,hzc,cond_true,h1,h2]
      ·cases h
   ·cases h
  ·cases h
 ·cases h
theorem Qm{m m':Mem}{ts:List TypeId}{x y:AV}{r:Eff}(h:Lg P m ts x y=some r)(hm: ∀s∈r.reads,m' s=m s):Lg P m' ts x y=some r:=by
 unfold Lg at h⊢
 split at h
 ·rename_i t u b n sz
  split at h
  ·rename_i e ht
   split at h
   ·rename_i p n' sz' el e' k Gy iV cs rs hp hb hv
    cases hall:(beq sz p&&beq sz' p&&beq Gy p&&(rs.all λr=> !beq r b))with
    | false=>rw[hall]at h;cases h
    | true=>
      rw[hall]at h;simp only[cond_true,fu]at h;subst h;have hb':m' b=m b:=hm b (by simp);have hv':(bif beq t u then qN m' y else none)=some (k,Gy,iV,cs,rs):=by
       cases htu:beq t u with
       | false=>rw[htu]at hv;cases hv
       | true=>
         rw[htu]at hv;simp only[cond_true]at hv⊢;exact wI hv λs hs=>hm s (by simp[hs])
      simp only[ht,hp,hb',hb,hv',hall,cond_true]
   ·cases h
  ·cases h
 ·cases h
theorem Nq{m m':Mem}{t:TypeId}{x:AV}{r:Eff}(h:D8 P m t x=some r)(hm: ∀s∈r.reads,m' s=m s):D8 P m' t x=some r:=by
 unfold D8 at h⊢
 split at h
 ·rename_i e b k n sz hu
  have hb:m' b=m b:=by
   apply hm
   split at h
   ·rename_i p z n' sz' el e' h1 h2 h3
    cases hall:(beq p sz&&(beq sz' sz&&(Nat.ble k n'&&(beq z.cells.size sz&&z.cells.toList.all (·.oneCell')))))with
    | false=>rw[hall]at h;cases h
    | true=>rw[hall]at h;simp only[cond_true,fu]at h;rw[←h];simp
   ·cases h
  rw[hb];exact h
 ·cases h
theorem II{slot:Nat}{m m':Mem}{b:Builtin}{ts:List TypeId}{xs:List AV}{r:Eff}(h:xU P slot m b ts xs=some r)(hm: ∀s∈r.reads,m' s=m s):xU P slot m' b ts xs=some r:=by
 unfold xU at h⊢
 split at h
 ·exact h
 ·exact KN h hm
 ·exact Qm h hm
 ·exact h
 ·exact h
 ·exact h
 ·exact Nq h hm
 ·cases h
theorem Nr{m m':Mem}{s d:TypeId}{x:AV}{r:Eff}(h:Ea P m s d x=some r)(hm: ∀s∈r.reads,m' s=m s):Ea P m' s d x=some r:=by
 unfold Ea at h⊢
 split at h
 ·rename_i e hs hd
  split at h
  ·rename_i n sz el cs rs he hv
   have hrs:r.reads=rs:=by
    cases hb:(beq sz 1 || beq n 0)with
    | true=>rw[hb]at h;simp only[cond_true,fu]at h;rw[←h]
    | false=>rw[hb]at h;cases h
   rw[hrs]at hm;simp only[hs,hd,he,wI hv hm];exact h
  ·cases h
 ·exact h
theorem Ns{m m':Mem}{t:TypeId}{x:AV}{lo hi:Option AV}{r:Eff}(h:D9 P m t x lo hi=some r)(hm: ∀s∈r.reads,m' s=m s):D9 P m' t x lo hi=some r:=by
 unfold D9 at h⊢
 split at h
 ·exact h
 ·exact h
 ·exact h
 ·exact h
 ·rename_i n e b sz hu
  split at h
  ·rename_i _ p n' sz' el t' k h' hp hb
   have hb':m' b=m b:=by
    apply hm
    cases hc:(beq sz p&&beq sz' p&&beq n n'&& !beq n 0)with
    | true=>rw[hc]at h;simp only[cond_true,fu]at h;rw[←h];simp
    | false=>rw[hc]at h;cases h
   simp only[hp,hb',hb];exact h
  ·cases h
 ·rename_i n e b hu
  split at h
  ·rename_i _ p l t' k h' hp hb
   have hb':m' b=m b:=by
    apply hm
    split at h
    ·rename_i c _
     cases hc:(beq l.length (n*p)&& !beq n 0&&l.all gU)with
     | true=>rw[hc]at h;simp only[cond_true,fu]at h;rw[←h];simp
     | false=>rw[hc]at h;cases h
    ·cases h
   simp only[hp,hb',hb];exact h
  ·cases h
 ·cases h
theorem Qn(hΓ: ∀f s,Γ f=some s→su s){slot:Nat}{tm tm':List AV}{m m':Mem}{c:Call}{r:Eff}(hr:PW P Γ slot tm m c=some r)(h: ∀x∈c.operands,bQ tm' x=bQ tm x)(hm: ∀s∈r.reads,m' s=m s):
  PW P Γ slot tm' m' c=some r:=by
 unfold PW at hr⊢;have hargs:c.args.toList.map (bQ tm')=c.args.toList.map (bQ tm):=tZ λx hx=>h x (by simp[Call.operands];exact .inr (by simpa using hx))
 rw[hargs];cases hc:c.callee with
 | builtin b=>rw[hc]at hr;exact II hr hm
 | invoke recv name=>
   rw[hc]at hr;have hf:bQ tm' recv=bQ tm recv:=h recv (by simp[Call.operands,hc]);simp only[hf]at hr⊢
   split at hr
   ·rename_i t u _
    split at hr
    ·rename_i g _
     cases hs:Ba Γ g with
     | none=>simp[hs]at hr
     | some s=>simp only[hs,Option.bind_some]at hr⊢;exact hΓ g s (Em hs).2 slot m m' _ r hr hm
    ·cases hr
   ·cases hr
 | value f=>
   rw[hc]at hr;have hf:bQ tm' f=bQ tm f:=h f (by simp[Call.operands,hc]);simp only[hf]at hr⊢;have key: ∀(g:FuncId) (asL:List AV),((Ba Γ g).bind λs=>s slot m asL)=some r→((Ba Γ g).bind λs=>s slot m' asL)=some r:=by
    intro g asL hg;cases hs:Ba Γ g with
    | none=>simp[hs]at hg
    | some s=>simp only[hs,Option.bind_some]at hg⊢;exact hΓ g s (Em hs).2 slot m m' asL r hg hm
   have key2: ∀(g:FuncId) (asL:List AV),((Γ g).bind λs=>s slot m asL)=some r→((Γ g).bind λs=>s slot m' asL)=some r:=by
    intro g asL hg;cases hs:Γ g with
    | none=>simp[hs]at hg
    | some s=>simp only[hs,Option.bind_some]at hg⊢;exact hΓ g s hs slot m m' asL r hg hm
   split at hr
   ·rename_i g first cap _
    cases hfc:(first.isEmpty&&cap.isEmpty)with
    | false=>
      simp only[hfc,cond_false]at hr⊢;cases TN:(y7 first.toList&&cap.isEmpty)with
      | false=>simp[TN]at hr
      | true=>
        simp only[TN,cond_true]at hr⊢;exact key _ _ hr
    | true=>simp only[hfc,cond_true]at hr⊢;exact key _ _ hr
   ·rename_i l first cap _
    cases hfc:(first.isEmpty&&(cap.isEmpty&&(P.funcs[jo]?).isNone))with
    | false=>simp[hfc]at hr
    | true=>simp only[hfc,cond_true]at hr⊢;exact key2 _ _ hr
   ·exact key _ _ hr
   ·cases hr
theorem Qo{m m':Mem}{t:TypeId}{x:AV}{r:Eff}(h:Fx P m t x=some r)(hm: ∀s∈r.reads,m' s=m s):Fx P m' t x=some r:=by
 unfold Fx at h⊢
 split at h
 ·rename_i b off
  have hb:m' b=m b:=by
   apply hm
   split at h
   ·split at h
    ·cases h;simp
    ·cases h
   ·cases h
  simp only[hb];exact h
 ·rename_i b k j sz
  have hb:m' b=m b:=by
   apply hm
   split at h
   ·rename_i n sz' el t' _
    cases hs:beq sz sz' with
    | false=>rw[hs]at h;cases h
    | true=>
      rw[hs]at h;simp only[cond_true]at h
      split at h
      ·cases h;simp
      ·cases h
   ·cases h
  simp only[hb];exact h
 ·exact h
 ·exact h
 ·cases h
theorem Cb{m m':Mem}{t:TypeId}{x v:AV}{r:Eff}(h:AY P m t x v=some r)(hm: ∀s∈r.reads,m' s=m s):AY P m' t x v=some r:=by
 unfold AY at h⊢
 split at h
 ·rename_i b off
  have hb:m' b=m b:=by
   apply hm
   split at h
   ·rename_i l e n _ _
    dsimp only at h;cases hc:(beq (iP v).length n&&Nat.ble (off+n) l.length&&(iP v).all gU)with
    | true=>rw[hc]at h;simp only[cond_true,fu]at h;subst h;simp
    | false=>rw[hc]at h;simp at h
   ·cases h
  simp only[hb];exact h
 ·rename_i b k j sz
  have hb:m' b=m b:=by
   apply hm
   split at h
   ·rename_i n sz' el t' p _ _
    split at h
    ·rename_i c _
     cases hc:(beq sz sz'&&beq c.length p&&Nat.ble (j+p) sz&&(iP v).all gU)with
     | true=>rw[hc]at h;simp only[cond_true,fu]at h;subst h;simp
     | false=>rw[hc]at h;simp at h
    ·cases h
   ·cases h
  simp only[hb];exact h
 ·cases h
theorem Nt{m m':Mem}{t:TypeId}{x v:AV}{r:Eff}(h:D5 P m t x v=some r)(hm: ∀s∈r.reads,m' s=m s):D5 P m' t x v=some r:=by
 unfold D5 at h⊢
 split at h
 ·rename_i b k j sz c n s
  split at h
  ·rename_i n' s' el ty hc
   cases hb:(beq s s'&& !beq b c)with
   | false=>rw[hb]at h;cases h
   | true=>
     rw[hb,cond_true]at h;obtain⟨r0,h0,rfl⟩:=Option.map_eq_some_iff.1 h;have hcm:m' c=m c:=hm c (by simp);rw[hcm,hc];simp only[hb,cond_true];rw[Cb h0 λs hs=> ?_]
     ·rfl
     ·rw[bF,bF]
      split
      ·rfl
      ·exact hm s (by simp[hs])
  ·cases h
 ·exact Cb h hm
theorem Eo{m m':Mem}{t:TypeId}{x k v:AV}{r:Eff}(h:pG P m t x k v=some r)(hm: ∀s∈r.reads,m' s=m s):pG P m' t x k v=some r:=by
 unfold pG at h⊢
 split at h
 ·rename_i b n y
  have hb:m' b=m b:=by
   apply hm
   split at h
   ·rename_i es _
    cases hc:(nV P t&&gU (.c y))with
    | true=>rw[hc]at h;simp only[cond_true,fu]at h;subst h;simp
    | false=>rw[hc]at h;cases h
   ·cases h
  simp only[hb];exact h
 ·cases h
theorem Nu{m m':Mem}{x:AV}{r:Eff}(h:Eb m x=some r)(hm: ∀s∈r.reads,m' s=m s):Eb m' x=some r:=by
 unfold Eb at h⊢
 split at h
 ·rename_i b
  have hb:m' b=m b:=by
   apply hm
   split at h
   ·split at h
    ·cases h;simp
    ·cases h
   ·cases h
  simp only[hb];exact h
 ·cases h
theorem Qp(hΓ: ∀f s,Γ f=some s→su s){slot:Nat}{o:Oper}{tm tm':List AV}{m m':Mem}{r:Eff}(h:Ah P Γ slot o tm m=some r)(ht: ∀x∈o.op.operands,bQ tm' x=bQ tm x)(hm: ∀s∈r.reads,m' s=m s):
  Ah P Γ slot o tm' m'=some r:=by
 unfold Ah at h⊢;cases hop:o.op<;>simp only[hop,Op.operands]at h ht⊢ <;>try (cases h;done)
 case move x=>rw[ht x (by simp)];exact h
 case assign x=>rw[ht x (by simp)];exact h
 case pick c x y=>rw[ht c (by simp),ht x (by simp),ht y (by simp)];exact h
 case alloc t=>exact h
 case box t x=>rw[ht x (by simp)];exact h
 case build t ps=>
  have:(ps.toList.map λ(i,x)=>(i,bQ tm' x))=(ps.toList.map λ(i,x)=>(i,bQ tm x)):=by
   apply List.map_congr_left
   intro p hp;obtain⟨i,x⟩:=p;simp only[ht x (by simp;exact⟨i,by simpa using hp⟩)]
  rw[this];exact h
 case buildSlice t n ps=>
  have:(ps.toList.map λ(i,x)=>(i,bQ tm' x))=(ps.toList.map λ(i,x)=>(i,bQ tm x)):=by
   apply List.map_congr_left
   intro p hp;obtain⟨i,x⟩:=p;simp only[ht x (by simp;exact⟨i,by simpa using hp⟩)]
  rw[this];exact Ca h hm
 case makeMap t x=>
  have hx:x.map (bQ tm')=x.map (bQ tm):=by
   cases x with
   | none=>rfl
   | some y=>simp only[Option.map_some];rw[ht y (by simp)]
  rw[hx];exact h
 case mapUpdate t x k v=>rw[ht x (by simp),ht k (by simp),ht v (by simp)];exact Eo h hm
 case range t x=>rw[ht x (by simp)];exact h
 case entry x=>rw[ht x (by simp)];exact Nu h hm
 case load t x=>rw[ht x (by simp)];exact Qo h hm
 case store t x y=>rw[ht x (by simp),ht y (by simp)];exact Nt h hm
 case nilCheck x=>rw[ht x (by simp)];exact h
 case binOp op t x y yt=>rw[ht x (by simp),ht y (by simp)];exact h
 case unOp op t x=>rw[ht x (by simp)];exact h
 case convert s d x=>rw[ht x (by simp)];exact Nr h hm
 case makeSlice t x y=>rw[ht x (by simp),ht y (by simp)];exact h
 case indexAddr t x y=>rw[ht x (by simp),ht y (by simp)];exact h
 case slice t x lo hi mx=>
  have hlo:lo.map (bQ tm')=lo.map (bQ tm):=by
   cases lo with
   | none=>rfl
   | some y=>simp only[Option.map_some];rw[ht y (by simp)]
  have hhi:hi.map (bQ tm')=hi.map (bQ tm):=by
   cases hi with
   | none=>rfl
   | some y=>simp only[Option.map_some];rw[ht y (by simp)]
  rw[ht x (by simp),hlo,hhi];cases hmx:mx.isNone with
  | false=>rw[hmx]at h;cases h
  | true=>
    rw[hmx]at h;simp only[cond_true]at h⊢;exact Ns h hm
 case makeFunc fn first cap=>
  have:cap.toList.map (bQ tm')=cap.toList.map (bQ tm):=tZ λx hx=>ht x (by simp;exact .inr (by simpa using hx))
  have alu:first.toList.map (bQ tm')=first.toList.map (bQ tm):=tZ λx hx=>ht x (by simp;exact .inl (by simpa using hx))
  rw[this,alu];exact h
 case makeInterface t x=>rw[ht x (by simp)];exact h
 case fieldAddr t x f=>rw[ht x (by simp)];exact h
 case field t x f=>rw[ht x (by simp)];exact h
 case index t x i=>rw[ht x (by simp),ht i (by simp)];exact h
 case lookup t x i ok=>rw[ht x (by simp),ht i (by simp)];exact h
 case extract x i=>rw[ht x (by simp)];exact h
 case call c=>exact Qn hΓ h ht hm
theorem Lx{tm:List AV}{d:Option Tmp}{v:AV}{x:Operand}(h: ∀t,d=some t→x≠ .tmp t):bQ (lF tm d v) x=bQ tm x:=by
 cases d with
 | none=>rfl
 | some t=>
   cases x with
   | tmp u=>
     have hne:t≠u:=λe=>h t rfl (e ▸ rfl)
     simp[bQ,lF,dJ,List.getElem?_set_ne hne]
   | _=>rfl
theorem kE(m:Mem): ∀(l:List (Nat×Option gJ)) (s:Nat),s∉l.map (·.1)→bV m l s=m s:=by
 intro l
 induction l generalizing m with
 | nil=>intro s _;rfl
 | cons p l ih=>
   intro s hs;obtain⟨k,e⟩:=p;simp only[List.map_cons,List.mem_cons,not_or]at hs;rw[bV,ih _ s hs.2,bF,if_neg hs.1]
theorem yj{m m':Mem}: ∀(l:List (Nat×Option gJ)) (s:Nat),(m s=m' s∨s∈l.map (·.1))→bV m l s=bV m' l s:=by
 intro l
 induction l generalizing m m' with
 | nil=>intro s hs;rcases hs with h|h;exact h;simp at h
 | cons p l ih=>
   intro s hs;obtain⟨k,e⟩:=p;refine ih s ?_;rw[bF,bF];by_cases hk:s=k
   ·simp[hk]
   ·simp only[hk,if_false]
    rcases hs with h|h
    ·exact .inl h
    ·simp only[List.map_cons,List.mem_cons,hk,false_or]at h;exact .inr h
theorem KO(m:Mem)(l k:List (Nat×Option gJ))(h: ∀s∈l.map (·.1),s∉k.map (·.1)):bV (bV m l) k=bV (bV m k) l:=by
 funext s
 by_cases hl:s∈l.map (·.1)
 ·have hk:=h s hl
  rw[kE _ k s hk];exact(yj l s (.inr hl))
 ·rw[kE _ l s hl]
  by_cases hk:s∈k.map (·.1)
  ·exact yj k s (.inr hk)
  ·rw[kE _ k s hk,kE _ k s hk,kE _ l s hl]
theorem TQ(tm:List AV){x y:Option Tmp}(v u:AV)(h: ∀d,x=some d→y≠some d):lF (lF tm x v) y u=lF (lF tm y u) x v:=by
 cases x with
 | none=>rfl
 | some d=>
   cases y with
   | none=>rfl
   | some e=>exact(List.set_comm _ _ (λhe=>h d rfl (he ▸ rfl)))
theorem TR(S:St){x y:Option Tmp}{r q:Eff}(h: ∀d,x=some d→y≠some d)(hu: ∀s∈r.upd.map (·.1),s∉q.upd.map (·.1)):
  (S.apply x r).apply y q=(S.apply y q).apply x r:=by
 simp only[St.apply,TQ S.tm _ _ h,KO S.mem _ _ hu]
theorem FK{o:Oper}{tm:List AV}{d:Option Tmp}{v:AV}(h: ∀t,d=some t→t∉o.looksAt all.toArray):nW all (lF tm d v) o=nW all tm o:=by
 cases d with
 | none=>rfl
 | some t=>
   unfold nW;cases hg:o.guard with
   | none=>rfl
   | some gw=>
     obtain⟨g,want⟩:=gw;simp only[];cases ht:(all[g]?).bind (·.dst)with
     | none=>rfl
     | some u=>
       have hne:t≠u:=λe=>h t rfl (by
        subst e;have:(all.toArray[g]?).bind (·.dst)=some t:=by simpa using ht
        simp only[Oper.looksAt,hg,this];simp)
       simp[lF,dJ,List.getElem?_set_ne hne]
theorem uL{l m:List Nat}(h:disjoint l m=true): ∀s∈l,s∉m:=by
 intro s hs hm;unfold disjoint at h;have:=List.all_eq_true.1 h s hs;simp only[Bool.not_eq_true',List.any_eq_false]at this;exact this s hm (by simp)
theorem Ep{i:Nat}{o:Oper}{S S':St}{d:Did}(h:StepA P Γ all base i o S S' d): ∃r:Eff,S'=S.apply o.dst r∧d.writes=r.upd.map (·.1)∧d.idx=i:=by
 rcases h with⟨_,rfl,rfl⟩|⟨_,r,_,_,rfl,rfl⟩
 ·exact⟨_,rfl,rfl,rfl⟩
 ·exact⟨r,rfl,rfl,rfl⟩
theorem FL(hΓ: ∀f s,Γ f=some s→su s){i:Nat}{o:Oper}{S S':St}{d:Did}(h:StepA P Γ all base i o S S' d)(S2:St)(hw:nW all S2.tm o=nW all S.tm o)(ht: ∀x∈o.op.operands,bQ S2.tm x=bQ S.tm x)
  (hm: ∀s∈d.reads,S2.mem s=S.mem s): ∃r:Eff,S'=S.apply o.dst r∧StepA P Γ all base i o S2 (S2.apply o.dst r) d∧d.writes=r.upd.map (·.1):=by
 rcases h with⟨h1,rfl,rfl⟩|⟨h1,r,hv,hc,rfl,rfl⟩
 ·exact⟨_,rfl,.inl ⟨by rw[hw];exact h1,rfl,rfl⟩,rfl⟩
 ·exact⟨r,rfl,.inr ⟨by rw[hw];exact h1,r,Qp hΓ hv ht hm,hc,rfl,rfl⟩,rfl⟩
theorem Aj{o:Oper}{t:Tmp}(h:t∉o.looksAt all.toArray){x:Operand}(hx:x∈o.op.operands):x≠ .tmp t:=by
 rintro rfl;exact h (List.mem_append_left _ (List.mem_filterMap.2 ⟨.tmp t,by simpa using hx,rfl⟩))
theorem TS(hΓ: ∀f s,Γ f=some s→su s){i j:Nat}{oi oj:Oper}{S S1 S2:St}{di dj:Did}(hi:StepA P Γ all base i oi S S1 di)(hj:StepA P Γ all base j oj S1 S2 dj)
  (hap:Oper.apart all.toArray oi oj=true) (h1:disjoint di.writes dj.reads=true) (h2:disjoint di.writes dj.writes=true) (h3:disjoint di.reads dj.writes=true):
  ∃S1',StepA P Γ all base j oj S S1' dj∧StepA P Γ all base i oi S1' S2 di:=by
 obtain⟨a1,a2,a3⟩:=Oper.apart_spec hap;obtain⟨ri,hS1,hwi,_⟩:=Ep hi;obtain⟨rj,hS2,hj',hwj⟩:=FL hΓ hj S (by rw[hS1];exact(FK (all:=all) (λt ht=>a1 t ht)).symm)
  (λx hx=>by rw[hS1];exact(Lx λt ht=>Aj (a1 t ht) hx).symm)
  (λs hs=>by rw[hS1];exact(kE _ _ s (λhin=>uL h1 s (by rw[hwi];exact hin) hs)).symm)
 obtain⟨ri',asj,hi',asl⟩:=FL hΓ hi (S.apply oj.dst rj) (FK (all:=all) (λt ht=>a3 t ht))
  (λx hx=>Lx λt ht=>Aj (a3 t ht) hx)
  (λs hs=>kE _ _ s (λhin=>uL h3 s hs (by rw[hwj];exact hin)))
 refine⟨_,hj',?_⟩;have:S2=(S.apply oj.dst rj).apply oi.dst ri':=by
  rw[hS2,asj];exact TR S (λd hd=>a2 d hd) (λs hs=>λhin=>uL h2 s (by rw[asl];exact hs) (by rw[hwj];exact hin))
 rw[this];exact hi'
def yu(all:List Oper)(a b:Did):Prop:=Ij all a b=true
theorem Ak{a:Did}: ∀{l:List Did},uZ all a l=true→ ∀b∈l,yu all a b
 | [],_,b,hb=>by simp at hb
 | c::l,h,b,hb=>by
   simp only[uZ,bI]at h;rcases List.mem_cons.1 hb with rfl|hb
   ·exact h.1
   ·exact Ak h.2 b hb
theorem FM: ∀{l:List Did},Ec all l=true→l.Pairwise (yu all)
 | [],_=> .nil
 | a::l,h=>by
   simp only[Ec,bI]at h;exact .cons (Ak h.1) (FM h.2)
theorem IJ{arr:Array Oper}{i:Nat}{oa:Oper}: ∀{l:List Oper},WQ arr i oa l=true→ ∀ob∈l,WO arr i oa ob=true
 | [],_,ob,h=>by cases h
 | o::l,h,ob,hm=>by
   simp only[WQ,bI]at h;rcases List.mem_cons.1 hm with rfl|hm
   ·exact h.1
   ·exact IJ h.2 ob hm
theorem IK{arr:Array Oper}: ∀{l:List Oper} {i:Nat},Ik arr i l=true→ ∀k m oa ob,k<m→l[k]? =some oa→l[m]? =some ob→WO arr (i+k) oa ob=true
 | [],i,_,k,m,oa,ob,_,h,_=>by simp at h
 | o::l,i,h,k,m,oa,ob,hkm,hk,hm=>by
   simp only[Ik,bI]at h;cases m with
   | zero=>omega
   | succ m=>
     have hm:l[m]? =some ob:=by simpa using hm
     cases k with
     | zero=>
       have:o=oa:=by simpa using hk
       subst this;exact IJ h.1 ob (List.mem_of_getElem? hm)
     | succ k=>
       have hk:l[k]? =some oa:=by simpa using hk
       have:=IK h.2 k m oa ob (by omega) hk hm;rw[show i+(k+1)=i+1+k by omega];exact this
theorem Bg(l:List Nat):disjoint l []=true:=by
 unfold disjoint;rw[List.all_eq_true];intro x _;rfl
theorem Y5{ops:List Oper}{a b:Did}(hs:Ik ops.toArray 0 ops=true)(hm:alo ops a b=true)(h1:a.idx<b.idx)(h2:b.idx<ops.length):Ij ops a b=true:=by
 obtain⟨ob,hb⟩: ∃ob,ops[b.idx]? =some ob:=⟨_,List.getElem?_eq_getElem h2⟩
 obtain⟨oa,ha⟩: ∃oa,ops[a.idx]? =some oa:=⟨_,List.getElem?_eq_getElem (by omega)⟩
 have hst:=IK hs a.idx b.idx oa ob h1 ha hb;rw[Nat.zero_add]at hst;unfold Ij;rw[ha,hb];simp only[];unfold WO at hst;unfold alo at hm;rw[hb]at hm;simp only[]at hm
 change ((BQ ob a.idx || _) || _)=true
 cases hre:r9 ops 6 b.idx a.idx with
 | true=>rw[Bool.or_true]
 | false=>
 rw[hre]at hm;rw[Bool.or_false]at hm⊢;cases ho:BQ ob a.idx with
 | true=>rfl
 | false=>
   rw[ho]at hst hm;simp only[Bool.false_or]at hst hm⊢;rw[hst];cases hw:(a.writes.isEmpty&&b.writes.isEmpty)with
   | true=>
     simp only[bI,List.isEmpty_iff]at hw;have e: ∀l,disjoint [] l=true:=λ_=>rfl
     simp[hw.1,hw.2,Bg,e]
   | false=>
     rw[hw]at hm;simpa using hm
theorem FN{ops:List Oper}{a:Did}(hs:Ik ops.toArray 0 ops=true): ∀(l:List Did) (i:Nat),Lh i l=true→a.idx<i→i+l.length≤ops.length→afA ops a l=true→uZ ops a l=true
 | [],_,_,_,_,_=>rfl
 | b::l,i,h,hi,hl,hm=>by
   simp only[Lh,bI,Nat.beq_eq]at h;simp only[afA,bI]at hm;simp only[List.length_cons]at hl;simp only[uZ,bI];exact⟨Y5 hs hm.1 (by omega) (by omega),FN hs l (i+1) h.2 (by omega) (by omega) hm.2⟩
theorem LA{ops:List Oper}(hs:Ik ops.toArray 0 ops=true): ∀(l:List Did) (i:Nat),Lh i l=true→i+l.length≤ops.length→afB ops l=true→Ec ops l=true
 | [],_,_,_,_=>rfl
 | a::l,i,h,hl,hm=>by
   simp only[Lh,bI,Nat.beq_eq]at h;simp only[afB,bI]at hm;simp only[List.length_cons]at hl;simp only[Ec,bI];exact⟨FN hs l (i+1) h.2 (by omega) (by omega) hm.1,LA hs l (i+1) h.2 (by omega) hm.2⟩
theorem TT{ops:List Oper}{ds:List Did}(h:indep ops ds=true):BP ops=true∧Ec ops ds.reverse=true:=by
 unfold indep at h;simp only[bI,Nat.ble_eq]at h;obtain⟨⟨⟨_,he⟩,hs⟩,⟨hl,hi⟩,hm⟩:=h;exact⟨he,LA hs _ 0 hi (by simpa using hl) hm⟩
theorem TU(hΓ: ∀f s,Γ f=some s→su s): ∀{pre post:List Nat} {i:Nat} {S S':St} {ds:List Did} {oi:Oper},Runs P Γ all base (pre++i::post) S S' ds→all[i]? =some oi→ds.Pairwise (yu all)→
  (∀j∈pre, ∀e∈oi.after,Region.binds .any e=true→e.on≠j)→(∀j∈pre,r9 all 6 i j=false)→
  ∃S1 d ds',StepA P Γ all base i oi S S1 d∧Runs P Γ all base (pre++post) S1 S' ds'∧ds'.Pairwise (yu all)
 | [],post,i,S,S',ds,oi,h,ho,hp,_,_=>by
   obtain⟨o,S1,d,ds',ho',hs,hr,rfl⟩:=h;rw[ho]at ho';cases ho';exact⟨S1,d,ds',hs,hr,(List.pairwise_cons.1 hp).2⟩
 | j::pre,post,i,S,S',ds,oi,h,ho,hp,hno,hre=>by
   obtain⟨oj,S1,dj,ds',hoj,hsj,hr,rfl⟩:=h;obtain⟨hpj,hp'⟩:=List.pairwise_cons.1 hp
   have hmem: ∀(pre:List Nat) (S1 S':St) (ds:List Did),Runs P Γ all base (pre++i::post) S1 S' ds→ds.Pairwise (yu all)→
     (∀k∈pre, ∀e∈oi.after,Region.binds .any e=true→e.on≠k)→(∀k∈pre,r9 all 6 i k=false)→ ∃S2 d ds',StepA P Γ all base i oi S1 S2 d∧Runs P Γ all base (pre++post) S2 S' ds'∧d∈ds∧(∀x∈ds',x∈ds)∧ds'.Pairwise (yu all):=by
    intro pre
    induction pre with
    | nil=>
      intro S1 S' ds h hp _ _;obtain⟨o,S2,d,ds',ho',hs,hr,rfl⟩:=h;rw[ho]at ho';cases ho';exact⟨S2,d,ds',hs,hr,by simp,λx hx=>by simp[hx],(List.pairwise_cons.1 hp).2⟩
    | cons k pre ih=>
      intro S1 S' ds h hp hno hre;obtain⟨ok,S3,dk,ds',hok,hsk,hr,rfl⟩:=h;obtain⟨hpk,hp'⟩:=List.pairwise_cons.1 hp;obtain⟨S4,d,ds2,hs,hr2,hd,hsub,hp2⟩:=ih S3 S' ds' hr hp' (λx hx=>hno x (by simp[hx])) (λx hx=>hre x (by simp[hx]));have hdi:d.idx=i:=(Ep hs).choose_spec.2.2;have hdk:dk.idx=k:=(Ep hsk).choose_spec.2.2;have Qq:=hpk d hd;unfold yu Ij at Qq;rw[hdk,hdi,hok,ho]at Qq;simp only[hre k (by simp),Bool.or_false]at Qq;simp only[Bool.or_eq_true,bI]at Qq;rcases Qq with asn|⟨⟨⟨hap,h1⟩,h2⟩,h3⟩
      ·exfalso
       obtain⟨e,he,hb⟩:=List.any_eq_true.1 asn;simp only[bI,Nat.beq_eq]at hb;exact hno k (by simp) e (by simpa using he) hb.1 hb.2
      ·obtain⟨S5,aso,asq⟩:=TS hΓ hsk hs hap h1 h2 h3
       exact⟨S5,d,dk::ds2,aso,⟨ok,S4,dk,ds2,hok,asq,hr2,rfl⟩,by simp[hd],λx hx=>by
        rcases List.mem_cons.1 hx with rfl|hx
        ·simp
        ·simp[hsub x hx],List.pairwise_cons.2 ⟨λx hx=>hpk x (hsub x hx),hp2⟩⟩
   obtain⟨S5,d,ds3,h1,h2,_,_,h3⟩:=hmem (j::pre) S S' (dj::ds') ⟨oj,S1,dj,ds',hoj,hsj,hr,rfl⟩ hp hno hre;exact⟨S5,d,ds3,h1,h2,h3⟩
theorem Nv(h:BP all=true){i:Nat}{o:Oper}(ho:all[i]? =some o): ∀e∈o.after,Region.binds .any e=true→e.on<i:=by
 intro e he hb;unfold BP at h;have:=List.all_eq_true.1 h (o,i) (by rw[List.mem_zipIdx_iff_getElem?];simpa using ho);have:=List.all_eq_true.1 this e (by simpa using he);simpa[hb]using this
theorem LB{l:List Nat}(hcl: ∀k o,all[k]? =some o→k∉l→ ∀e∈o.after,Region.binds .any e=true→e.on∉l): ∀(n i:Nat) (oi:Oper),all[i]? =some oi→(∀e∈oi.after,Region.binds .any e=true→e.on∉l)→ ∀j,r9 all n i j=true→j∉l
 | 0,_,_,_,_,_,h=>by cases h
 | n+1,i,oi,ho,hd,j,h=>by
   unfold r9 at h;rw[ho]at h;obtain⟨e,he,hb⟩:=List.any_eq_true.1 h;simp only[bI,Bool.or_eq_true,Nat.beq_eq]at hb;have he':e∈oi.after:=by simpa using he
   have hout:=hd e he' hb.1;rcases hb.2 with rfl|hr
   ·exact hout
   ·cases hx:all[e.on]? with
    | none=>
      cases n with
      | zero=>cases hr
      | succ n=>unfold r9 at hr;rw[hx]at hr;cases hr
    | some ox=>exact LB hcl n e.on ox hx (hcl e.on ox hx hout) j hr
variable{C:Ctx}
theorem TV(hΓ: ∀f s,Γ f=some s→lG C P f s)(hC:C.Ok)(he:BP all=true)(ro:Option Nat){Q:Exit→Act→World→Prop}{S':St}: ∀(fuel:Nat) (l:List Nat) (listed:Array Bool) (S:St) (ds:List Did) (B:dI) (a:Act) (w:World),
  Runs P Γ all base l S S' ds→ds.Pairwise (yu all)→l.Pairwise (· < ·)→l.length≤fuel→listed.size=all.length→(∀i,i<all.length→(listed.getD i true=false↔i∈l))→(∀i∈l,i<all.length)→
  (∀k o,all[k]? =some o→k∉l→ ∀e∈o.after,Region.binds .any e=true→e.on∉l)→Holds C B S a w→TP B base l→(∀i∈l,Between C S (base+i))→(∀a' w' B',Holds C B' S' a' w'→Q .normal a' w')→wpAnyIn (Fence.PN ro) 0 P .any all.toArray Q fuel listed a w:=by
 intro fuel
 induction fuel with
 | zero=>
   intro l listed S ds B a w hr hp hsort hlen hsz Qr hlt hcl H hf hnx hQ;obtain rfl:l=[]:=List.eq_nil_of_length_eq_zero (by omega);obtain⟨rfl,rfl⟩:=hr;refine⟨?_,hQ _ _ B H⟩;rw[List.eq_nil_iff_forall_not_mem];intro i hi;obtain⟨h0,o,ho,_⟩:=mem_ready.1 hi;have hi':i<all.length:=by have:=(Array.getElem?_eq_some_iff.1 ho).1;simpa using this
   exact absurd ((Qr i hi').1 h0) (by simp)
 | succ fuel ih=>
   intro l listed S ds B a w hr hp hsort hlen hsz Qr hlt hcl H hf hnx hQ;constructor
   ·intro hnil
    cases l with
    | nil=>obtain⟨rfl,rfl⟩:=hr;exact hQ _ _ B H
    | cons i l=>
      exfalso
      have hi:i<all.length:=hlt i (by simp);have ho:all[i]? =some all[i]:=List.getElem?_eq_getElem hi;have:i∈Region.ready .any all.toArray listed:=by
       rw[mem_ready];refine⟨(Qr i hi).2 (by simp),all[i],by simpa using hi,λe hee hb=> ?_⟩;have hlt':=Nv he ho e hee hb;have hnot:e.on∉i::l:=by
        intro hm;rcases List.mem_cons.1 hm with h|h
        ·omega
        ·have:=(List.pairwise_cons.1 hsort).1 _ h;omega
       have h1: ¬listed.getD e.on true=false:=λh=>hnot ((Qr e.on (by omega)).1 h)
       have hsz':e.on<listed.size:=by omega
       simp only[nS,Array.getElem?_eq_getElem hsz',Option.getD_some]at h1⊢;simpa using h1
      rw[hnil]at this;simp at this
   ·intro i hi
    obtain⟨h0,oi,ho,akK⟩:=mem_ready.1 hi;have hil:i<all.length:=by have:=(Array.getElem?_eq_some_iff.1 ho).1;simpa using this
    have ho':all[i]? =some oi:=by simpa using ho
    have hmem:i∈l:=(Qr i hil).1 h0;obtain⟨pre,post,rfl⟩:=List.append_of_mem hmem;have hno: ∀j∈pre, ∀e∈oi.after,Region.binds .any e=true→e.on≠j:=by
     intro j hj e hee hb hej;have h1:=akK e hee hb;have hjl:j<all.length:=hlt j (by simp[hj]);have h2:=(Qr j hjl).2 (by simp[hj]);rw[hej]at h1;have hsz':j<listed.size:=by omega
     simp only[nS,Array.getElem?_eq_getElem hsz',Option.getD_some]at h1 h2;rw[h1]at h2;cases h2
    have hdn: ∀e∈oi.after,Region.binds .any e=true→e.on∉pre++i::post:=by
     intro e hee hb hm;have h1:=akK e hee hb;have hjl:e.on<all.length:=hlt e.on hm;have h2:=(Qr e.on hjl).2 hm;have hsz':e.on<listed.size:=by omega
     simp only[nS,Array.getElem?_eq_getElem hsz',Option.getD_some]at h1 h2;rw[h1]at h2;cases h2
    have hre: ∀j∈pre,r9 all 6 i j=false:=by
     intro j hj;cases hb:r9 all 6 i j with
     | false=>rfl
     | true=>exact absurd (show j∈pre++i::post by simp[hj]) (LB hcl 6 i oi ho' hdn j hb)
    obtain⟨S1,d,ds',hs,hr',hp'⟩:=TU (λf s h=>(hΓ f s h).look) hr ho' hp hno hre;refine FJ hΓ hC ho' hs H (hf i (by simp)) (hnx i (by simp)) (λa' w' B' H' hB=> ?_) ro;have hnd:(pre++i::post).Nodup:=hsort.imp (λh=>Nat.ne_of_lt h);have hni:i∉pre++post:=by
     intro hm;rw[List.nodup_append]at hnd;obtain⟨_,h2,h3⟩:=hnd;rcases List.mem_append.1 hm with h|h
     ·exact h3 i h i (by simp) rfl
     ·exact(List.nodup_cons.1 h2).1 h
    refine ih (pre++post) _ S1 ds' B' a' w' hr' hp' ?_ ?_ (by simpa using hsz) ?_ ?_ (λk o hk hkl e hee hb hm=> ?_) H' ?_ ?_ hQ
    rotate_left 4
    ·have hm':e.on∈pre++i::post:=by
      rcases List.mem_append.1 hm with h|h
      ·simp[h]
      ·simp[h]
     by_cases hki:k=i
     ·subst hki
      rw[ho']at hk;cases hk;exact hdn e hee hb hm'
     ·refine hcl k o hk (λhx=>hkl ?_) e hee hb hm'
      rcases List.mem_append.1 hx with h|h
      ·simp[h]
      ·rcases List.mem_cons.1 h with h|h
       ·exact absurd h hki
       ·simp[h]
    rotate_left 2
    ·exact hsort.sublist (List.Sublist.append (List.Sublist.refl pre) (List.sublist_cons_self i post))
    ·simp at hlen⊢;omega
    ·intro k hk
     by_cases hki:i=k
     ·subst hki
      have hsz':i<listed.size:=by omega
      simp only[nS,Array.getElem?_setIfInBounds_self_of_lt hsz',Option.getD_some];constructor
      ·intro h;cases h
      ·intro h;exact absurd h hni
     ·rw[getD_set_ne true hki,Qr k hk]
      simp only[List.mem_append,List.mem_cons];constructor
      ·rintro(h|rfl|h)
       ·exact .inl h
       ·exact absurd rfl hki
       ·exact .inr h
      ·rintro(h|h)
       ·exact .inl h
       ·exact .inr (.inr h)
    ·intro k hk
     exact hlt k (by simp only[List.mem_append,List.mem_cons]at hk⊢;rcases hk with h|h;exact .inl h;exact .inr (.inr h))
    ·intro k hk
     have hne:k≠i:=by rintro rfl;exact hni hk
     rw[hB _ (by omega)];exact hf k (by simp only[List.mem_append,List.mem_cons]at hk⊢;rcases hk with h|h;exact .inl h;exact .inr (.inr h))
    ·intro k hk
     unfold Between;rw[Ql hs];exact hnx k (by simp only[List.mem_append,List.mem_cons]at hk⊢;rcases hk with h|h;exact .inl h;exact .inr (.inr h))
end
end Go.bA
namespace Go.bA
open Go.RowKit
def Tr.leaves{α:Type}(φ:α→Prop):Tr α→Prop
 | .ret a=>φ a
 | .ite _ t e=>t.leaves φ∧e.leaves φ
 | .need _ t=>t.leaves φ
 | .both a b=>a.leaves φ∧b.leaves φ
 | .fail _=>True
theorem Tr.jF{α:Type}{φ ψ:α→Prop}(h: ∀a,φ a→ψ a): ∀{t:Tr α},t.leaves φ→t.leaves ψ
 | .ret a,k=>h a k
 | .ite _ t e,k=>⟨Tr.jF h k.1,Tr.jF h k.2⟩
 | .need _ t,k=>Tr.jF (t:=t) h k
 | .both a b,k=>⟨Tr.jF h k.1,Tr.jF h k.2⟩
 | .fail _,_=>trivial
theorem Tr.Ce{α:Type}{φ:α→Prop}{t:Tr α}(h:t.leaves φ): ∀(l:List Bool),(Tr.needs l t).leaves φ
 | []=>h
 | _::l=>Tr.Ce h l
theorem Tr.sw{α β:Type}{Q:β→Prop}{f:α→Tr β}: ∀{t:Tr α},(t.sat λa=>(f a).sat Q)→(t.bind f).sat Q
 | .ret a,h=>h
 | .ite _ t e,h=>⟨λhc=>Tr.sw (h.1 hc),λhc=>Tr.sw (h.2 hc)⟩
 | .need _ t,h=>⟨h.1,λhp=>Tr.sw (h.2 hp)⟩
 | .both a b,h=>⟨Tr.sw h.1,Tr.sw h.2⟩
 | .fail _,h=>h.elim
theorem Tr.IL{α β:Type}{f:α→Tr β}{t:Tr α}: ∀(l:List Bool),(Tr.needs l t).bind f=Tr.needs l (t.bind f)
 | []=>rfl
 | p::l=>by simp only[Tr.needs,Tr.bind,Tr.IL l]
theorem Nw(tm:List AV)(d:Option Tmp)(v:AV):(lF tm d v).length=tm.length:=by
 cases d<;>simp[lF]
theorem Qs{tm:List AV}{d:Option Tmp}{v:AV}{t:Tmp}(h:d≠some t):(lF tm d v).getD t .any=tm.getD t .any:=by
 cases d with
 | none=>rfl
 | some d=>
   have:d≠t:=λe=>h (by rw[e])
   simp[lF,dJ,List.getElem?_set_ne this]
section
variable{P:Program}{Γ:FuncId→Option Spec}{all:List Oper}{base:Nat}
def Fits(ops:List Oper)(S:St)(ds:List Did)(p:St×List Did):Prop:=
 p.1.nx=S.nx∧p.1.tm.length=S.tm.length∧(∃new,p.2=new++ds∧((∀d∈new,d.writes=[])→p.1.mem=S.mem))∧ ∀t,(∀o∈ops,o.dst≠some t)→p.1.tm.getD t .any=S.tm.getD t .any
theorem Fits.step{o:Oper}{rest:List Oper}{S:St}{ds:List Did}{r:Eff}{d:Did}(hd:d.writes=r.upd.map (·.1)){p:St×List Did}(h:Fits rest (S.apply o.dst r) (d::ds) p):Fits (o::rest) S ds p:=by
 obtain⟨h1,h2,⟨new,h3,h4⟩,h5⟩:=h;refine⟨h1,by rw[h2];exact Nw _ _ _,⟨new++[d],by simp[h3],λhw=> ?_⟩,λt ht=> ?_⟩
 ·rw[h4 (λx hx=>hw x (by simp[hx]))]
  have:r.upd=[]:=by
   have:=hw d (by simp);rw[hd]at this;simpa using this
  simp[St.apply,this,bV]
 ·rw[h5 t (λo' ho'=>ht o' (by simp[ho']))]
  exact Qs (ht o (by simp))
theorem oo: ∀(ops:List Oper) (i:Nat) (S:St) (ds:List Did),(gK P Γ all base ops i S ds).leaves (Fits ops S ds)
 | [],i,S,ds=>⟨rfl,rfl,⟨[],rfl,λ_=>rfl⟩,λ_ _=>rfl⟩
 | o::rest,i,S,ds=>by
   unfold gK
   split
   ·trivial
   ·exact Tr.jF (λp hp=>hp.step (by rfl)) (oo rest (i+1) _ _)
   ·split
    ·trivial
    ·rename_i r hr
     refine Tr.Ce ?_ _;cases qD all i with
     | true=>
       simp only[cond_true]
       split
       ·exact⟨Tr.jF (λp hp=>hp.step (by rfl)) (oo rest (i+1) _ _),Tr.jF (λp hp=>hp.step (by rfl)) (oo rest (i+1) _ _)⟩
       ·trivial
     | false=>exact Tr.jF (λp hp=>hp.step (by rfl)) (oo rest (i+1) _ _)
def WU(P:Program)(Γ:FuncId→Option Spec)(all:List Oper)(base:Nat)(o:Oper)(i:Nat)(S:St)(ds:List Did)(k:St→List Did→Tr (St×List Did)):Tr (St×List Did):=
 match nW all S.tm o with
 | none=> .fail "guard"
 | some false=>k (S.apply o.dst {val:= .c (.v undef)}) ({idx:=i,reads:=[],writes:=[]}::ds)
 | some true=>
   match Ah P Γ (base+i) o S.tm S.mem with
   | none=> .fail o.pos
   | some r=>
     Tr.needs r.conds<|
      bif qD all i then
       match r.val with
       | .c (.v (.bool b))=>
         .ite b (k (S.apply o.dst {r with val:=bJ true}) ({idx:=i,reads:=r.reads,writes:=r.upd.map (·.1)}::ds))
          (k (S.apply o.dst {r with val:=bJ false}) ({idx:=i,reads:=r.reads,writes:=r.upd.map (·.1)}::ds))
       | _=> .fail "source"
      else k (S.apply o.dst r) ({idx:=i,reads:=r.reads,writes:=r.upd.map (·.1)}::ds)
theorem Cg(o:Oper)(rest:List Oper)(i:Nat)(S:St)(ds:List Did):gK P Γ all base (o::rest) i S ds=WU P Γ all base o i S ds λS' ds'=>gK P Γ all base rest (i+1) S' ds':=rfl
theorem TW(o:Oper)(i:Nat)(S:St)(ds:List Did)(k:St→List Did→Tr (St×List Did))(f:St×List Did→Tr (St×List Did)):
  (WU P Γ all base o i S ds k).bind f=WU P Γ all base o i S ds λS' ds'=>(k S' ds').bind f:=by
 unfold WU
 split
 ·rfl
 ·rfl
 ·split
  ·rfl
  ·rw[Tr.IL]
   congr 1
   cases qD all i with
   | true=>
     simp only[cond_true]
     split<;>rfl
   | false=>rfl
theorem yw: ∀(ops rest:List Oper) (i:Nat) (S:St) (ds:List Did),gK P Γ all base (ops++rest) i S ds=(gK P Γ all base ops i S ds).bind λp=>gK P Γ all base rest (i+ops.length) p.1 p.2
 | [],rest,i,S,ds=>by simp[gK,Tr.bind]
 | o::ops,rest,i,S,ds=>by
   rw[List.cons_append,Cg,Cg,TW]
   congr 1
   funext S' ds'
   rw[yw ops rest (i+1) S' ds',List.length_cons,Nat.add_assoc,Nat.add_comm 1]
end
def Less(v u:AV):Prop:=v= .any∨v=u
def vC:List AV→List AV→Prop
 | [],[]=>True
 | v::l,u::m=>Less v u∧vC l m
 | _,_=>False
theorem Less.trans{v u x:AV}(h:Less v u)(k:Less u x):Less v x:=by
 rcases h with h|h
 ·exact .inl h
 ·subst h;exact k
theorem vC.trans: ∀{l m n:List AV},vC l m→vC m n→vC l n
 | [],[],[],_,_=>trivial
 | _::_,_::_,_::_,h,k=>⟨h.1.trans k.1,h.2.trans k.2⟩
 | [],_::_,_,h,_=>h.elim
 | _::_,[],_,h,_=>h.elim
 | [],[],_::_,_,k=>k.elim
 | _::_,_::_,[],_,k=>k.elim
theorem vC.refl: ∀(l:List AV),vC l l
 | []=>trivial
 | _::l=>⟨.inr rfl,vC.refl l⟩
mutual
theorem Er(c:Bool)(x y z:AV)(h:Ed c x y=some z):(c=true→z=x)∧(c=false→z=y):=by
  unfold Ed at h
  split at h
  ·cases h;exact⟨λhc=>by subst hc;rfl,λhc=>by subst hc;rfl⟩
  ·split at h
   ·rename_i hk
    subst hk;cases h;exact⟨λhc=>by subst hc;rfl,λhc=>by subst hc;rfl⟩
   ·cases h
  ·cases h;exact⟨λhc=>by subst hc;rfl,λhc=>by subst hc;rfl⟩
  ·rename_i b o b' o'
   cases hb:(beq b b'&&beq o o')with
   | false=>rw[hb]at h;cases h
   | true=>
     rw[hb]at h;rw[bI]at hb;obtain rfl:b=b':=Nat.eq_of_beq_eq_true hb.1;obtain rfl:o=o':=Nat.eq_of_beq_eq_true hb.2;cases h;exact⟨λ_=>rfl,λ_=>rfl⟩
  ·rename_i l m
   cases hm:wB c l m with
   | none=>rw[hm]at h;cases h
   | some n=>
     rw[hm]at h;cases h;have:=Bh c l m n hm;exact⟨λhc=>by rw[this.1 hc],λhc=>by rw[this.2 hc]⟩
  ·rename_i l m
   cases hm:wB c l m with
   | none=>rw[hm]at h;cases h
   | some n=>
     rw[hm]at h;cases h;have:=Bh c l m n hm;exact⟨λhc=>by rw[this.1 hc],λhc=>by rw[this.2 hc]⟩
  ·cases h
 termination_by SizeOf.sizeOf x
theorem Bh(c:Bool)(l m n:List AV)(h:wB c l m=some n):(c=true→n=l)∧(c=false→n=m):=by
  unfold wB at h
  split at h
  ·cases h;exact⟨λ_=>rfl,λ_=>rfl⟩
  ·rename_i x l y m
   split at h
   ·rename_i z n' hz hn
    cases h;have h1:=Er c x y z hz;have h2:=Bh c l m n' hn;exact⟨λhc=>by rw[h1.1 hc,h2.1 hc],λhc=>by rw[h1.2 hc,h2.2 hc]⟩
   ·cases h
  ·cases h
 termination_by SizeOf.sizeOf l
end
theorem Ny(x y:AV):Less (BR true x y) x:=by
 unfold BR;cases h:Ed true x y with
 | none=>exact .inl rfl
 | some z=>exact .inr ((Er true x y z h).1 rfl)
theorem KP(x y:AV):Less (BR false x y) y:=by
 unfold BR;cases h:Ed false x y with
 | none=>exact .inl rfl
 | some z=>exact .inr ((Er false x y z h).2 rfl)
theorem FP: ∀{l m n:List AV},xV true l m=some n→vC n l
 | [],[],n,h=>by cases h;trivial
 | x::l,y::m,n,h=>by
   unfold xV at h;cases hm:xV true l m with
   | none=>rw[hm]at h;cases h
   | some n'=>rw[hm]at h;cases h;exact⟨Ny x y,FP hm⟩
 | [],_::_,_,h=>by cases h
 | _::_,[],_,h=>by cases h
theorem Ch: ∀{l m n:List AV},xV false l m=some n→vC n m
 | [],[],n,h=>by cases h;trivial
 | x::l,y::m,n,h=>by
   unfold xV at h;cases hm:xV false l m with
   | none=>rw[hm]at h;cases h
   | some n'=>rw[hm]at h;cases h;exact⟨KP x y,Ch hm⟩
 | [],_::_,_,h=>by cases h
 | _::_,[],_,h=>by cases h
theorem wJ{ops:List Oper}{draw:Bool}{KG:List Tmp}{n0:Nat}{φ:St×List Did→Prop}: ∀{T:Tr (St×List Did)} {p:Bool} {vs:List AV},flat ops draw KG n0 T=some (p,vs)→p=true→T.leaves φ→
  T.sat λq=>φ q∧(∀d∈q.2.take (q.2.length-n0),d.writes=[])∧(!draw || indep ops q.2)=true∧vC vs (KG.map λt=>q.1.tm.getD t .any)
 | .ret (S,ds),p,vs,h,hp,hl=>by
   unfold flat at h;cases hb:(((ds.take (ds.length-n0)).all λd=>d.writes.isEmpty)&&(!draw || indep ops ds))with
   | false=>rw[hb]at h;cases h
   | true=>
     rw[hb]at h;simp only[cond_true,fu,Prod.mk.injEq]at h;obtain⟨_,rfl⟩:=h;rw[bI]at hb;refine⟨hl,λd hd=> ?_,hb.2,vC.refl _⟩;have:=List.all_eq_true.1 hb.1 d hd;simpa using this
 | .need c t,p,vs,h,hp,hl=>by
   unfold flat at h
   split at h
   ·rename_i q l hq
    simp only[fu,Prod.mk.injEq]at h;obtain⟨rfl,rfl⟩:=h;rw[bI]at hp;exact⟨hp.1,λ_=>wJ hq hp.2 hl⟩
   ·cases h
 | .ite c a b,p,vs,h,hp,hl=>by
   unfold flat at h
   split at h
   ·rename_i pa la pb lb ha hb
    split at h
    ·rename_i n hn
     simp only[fu,Prod.mk.injEq]at h;obtain⟨rfl,rfl⟩:=h;refine⟨λhc=> ?_,λhc=> ?_⟩
     ·subst hc
      exact Tr.aZ (λq hq=>⟨hq.1,hq.2.1,hq.2.2.1,(FP hn).trans hq.2.2.2⟩) (wJ ha hp hl.1)
     ·subst hc
      exact Tr.aZ (λq hq=>⟨hq.1,hq.2.1,hq.2.2.1,(Ch hn).trans hq.2.2.2⟩) (wJ hb hp hl.2)
    ·cases h
   ·cases h
 | .both _ _,p,vs,h,_,_=>by cases h
 | .fail _,p,vs,h,_,_=>by cases h
theorem Al: ∀(ts:List Tmp) (vs tm:List AV),(Ee tm ts vs).length=tm.length
 | [],vs,tm=>by cases vs<;>rfl
 | t::ts,[],tm=>rfl
 | t::ts,v::vs,tm=>by
   unfold Ee;rw[Al ts vs];simp
theorem FQ{f:Nat→AV}: ∀(ts:List Tmp) (vs tm:List AV),vC vs (ts.map f)→(∀t,t∈ts∨Less (tm.getD t .any) (f t))→ ∀t,Less ((Ee tm ts vs).getD t .any) (f t)
 | [],[],tm,_,h,t=>(h t).resolve_left (by simp)
 | t0::ts,v::vs,tm,hv,h,t=>by
   unfold Ee;refine FQ ts vs _ hv.2 (λu=> ?_) t;by_cases hu:t0=u
   ·subst hu
    by_cases hm:t0∈ts
    ·exact .inl hm
    ·right
     by_cases hl:t0<tm.length
     ·have:(tm.set t0 v).getD t0 .any=v:=by simp[dJ,List.getElem?_set_self hl]
      rw[this];exact hv.1
     ·left
      have hge:(tm.set t0 v).length≤t0:=by rw[List.length_set];exact Nat.le_of_not_lt hl
      simp only[dJ,List.getElem?_eq_none hge,Option.getD_none]
   ·have:(tm.set t0 v).getD u .any=tm.getD u .any:=by simp[dJ,List.getElem?_set_ne hu]
    rw[this];rcases h u with h|h
    ·rcases List.mem_cons.1 h with h|h
     ·exact absurd h.symm hu
     ·exact .inl h
    ·exact .inr h
 | [],_::_,_,hv,_,_=>hv.elim
 | _::_,[],_,hv,_,_=>hv.elim
theorem Holds.less{C:Ctx}{B:dI}{S:St}{a:Act}{w:World}(H:Holds C B S a w){tm:List AV}(hl:tm.length=S.tm.length)(h: ∀t,Less (tm.getD t .any) (S.tm.getD t .any)):Holds C B {S with tm:=tm} a w:=by
 refine{H with size:=by rw[H.size];exact hl.symm,tm:=λt ht=> ?_};rcases h t with h|h
 ·show aV _ _ _ (tm.getD t .any) _
  rw[h];exact .any _
 ·show aV _ _ _ (tm.getD t .any) _
  rw[h];exact H.tm t (by rw[←hl];exact ht)
section
variable{P:Program}{Γ:FuncId→Option Spec}
theorem Qt{ops:List Oper}{draw:Bool}{S:St}{Q:St→Prop}(h:(xW P Γ ops draw S).sat Q):
  (pI P Γ ops draw S).sat λS'=> ∃tm,tm.length=S'.tm.length∧(∀t,Less (tm.getD t .any) (S'.tm.getD t .any))∧Q {S' with tm:=tm}:=by
 unfold xW at h;unfold pI;have h:=Tr.cK h;have e:ops=ops.take (qE ops ops 0)++ops.drop (qE ops ops 0):=(List.take_append_drop _ _).symm;generalize hi:qE ops ops 0=i0 at h e;have hlen:(ops.take i0).length≤i0:=by simp;omega
 refine Tr.sw ?_;have hsplit:gK P Γ ops S.nx ops 0 (blanks S ops.length) []=(gK P Γ ops S.nx (ops.take i0) 0 (blanks S ops.length) []).bind λp=>gK P Γ ops S.nx (ops.drop i0) (0+(ops.take i0).length) p.1 p.2:=by
  rw[←yw (all:=ops), ←e]
 rw[hsplit];refine Tr.sw (Tr.aZ ?_ h);rintro⟨S1,ds1⟩ hq;have hidx:gK P Γ ops S.nx (ops.drop i0) (0+(ops.take i0).length) S1 ds1=gK P Γ ops S.nx (ops.drop i0) i0 S1 ds1:=by
  by_cases hle:i0≤ops.length
  ·have:(ops.take i0).length=i0:=by simp;omega
   rw[this,Nat.zero_add]
  ·have:ops.drop i0=[]:=List.drop_eq_nil_of_le (by omega)
   rw[this];rfl
 simp only[hidx];dsimp only at hq;have same: ∀S':St,Q S'→ ∃tm,tm.length=S'.tm.length∧(∀t,Less (tm.getD t .any) (S'.tm.getD t .any))∧Q {S' with tm:=tm}:=λS' hS=>⟨S'.tm,rfl,λ_=> .inr rfl,hS⟩
 split at hq
 ·rename_i c vs hf
  obtain⟨hc,hQ⟩:=hq;refine Tr.aZ ?_ (wJ hf hc (oo (P:=P) (Γ:=Γ) (all:=ops) (base:=S.nx) (ops.drop i0) i0 S1 ds1));rintro⟨S',ds⟩ ⟨⟨h1,h2,⟨new,h3,h4⟩,h5⟩,hw,hd,hv⟩;simp only at h1 h2 h3 h4 h5 hw hd hv;have hmem:S'.mem=S1.mem:=h4 (λd hdn=>hw d (by rw[h3];simp[hdn]));rw[hd];simp only[cond_true];have hless:=FQ (f:=λt=>S'.tm.getD t .any) _ vs S1.tm hv (λt=>by
   by_cases ht:t∈(ops.drop i0).filterMap (·.dst)
   ·exact .inl ht
   ·refine .inr (.inr (h5 t λo ho hdst=>ht ?_).symm)
    exact List.mem_filterMap.2 ⟨o,ho,hdst⟩)
  refine⟨_,(Al _ _ _).trans h2.symm,hless,?_⟩;have:=hQ hc;obtain⟨tm1,mem1,nx1⟩:=S1;obtain⟨tm2,mem2,nx2⟩:=S';simp only at hmem h1 this⊢;subst hmem;subst h1;exact this
 ·have hq:=Tr.cK hq
  refine Tr.aZ ?_ hq;rintro⟨S',ds⟩ hk;unfold checked at hk;simp only at hk⊢;cases hb:(!draw || indep ops ds)with
  | true=>
    rw[hb]at hk;exact same _ hk
  | false=>
    rw[hb]at hk;exact hk.elim
theorem Qu{N:Nat}{ops:List Oper}{draw:Bool}{S:St}{Q:St→Prop}(h:(BS P Γ N ops draw S).sat Q):
  (pI P Γ ops draw S).sat λS'=> ∃tm,tm.length=S'.tm.length∧(∀t,Less (tm.getD t .any) (S'.tm.getD t .any))∧Q {S' with tm:=tm}:=by
 unfold BS at h;cases hb:(Nat.ble 1000 N&&ops.any (λo=>o.guard.isSome))with
 | true=>rw[hb]at h;exact Qt h
 | false=>
   rw[hb]at h;exact Tr.aZ (λS' hS=>⟨S'.tm,rfl,λ_=> .inr rfl,hS⟩) h
end
end Go.bA
namespace Go.bA
open Go.RowKit
def Ex.aaZ:Ex→Exit
 | .normal=> .normal
 | .exit id=> .exit id
 | .ret=> .ret
theorem oq{F:Fence}{n:Nat}{P:Program}{c:Code}{Q Q':Exit→Act→World→Prop}{a:Act}{w:World}(hq: ∀e a w,Q e a w→Q' e a w)(h:c.wpIn F n P Q a w):c.wpIn F n P Q' a w:=wpIn_mono h hq
theorem pQ{n:Nat}{P:Program}{c:Code}{Q:Exit→Act→World→Prop}{a:Act}{w:World}(h:c.wpIn (Fence.PN none) n P Q a w):c.wp P Q a w:=wpIn_wide.1 h
def Am(C:Ctx)(Q:Ex×St→Prop)(e:Exit)(a:Act)(w:World):Prop:=
 ∃ex S B,e=ex.aaZ∧Holds C B S a w∧Q (ex,S)
section
variable{P:Program}{Γ:FuncId→Option Spec}{L:Nat→Option (St→Tr (Ex×St))}{C:Ctx}
theorem Es{ro:Option Nat}(hm:P.follows .mixedOrders=true)(hΓ: ∀f s,Γ f=some s→lG C P f s)(hC:C.Ok){id:Nat}{ops:Array Oper}{draw:Bool}{S:St}{Q:St→Prop}
  (h:(pI P Γ ops.toList draw S).sat Q) {B:dI} {a:Act} {w:World} (H:Holds C B S a w) {R:Exit→Act→World→Prop}
  (hR: ∀S' a' w' B',Q S'→Holds C B' S' a' w'→R .normal a' w'):(Code.region id ops draw).wpIn (Fence.PN ro) 0 P R a w:=by
 unfold pI at h;have h1:=Tr.cK h;obtain⟨S',ds,WV,hq⟩:=lY (P:=P) (Γ:=Γ) (all:=ops.toList) (base:=S.nx) ops.toList 0 (blanks S ops.toList.length) [] (by simp) h1;simp only[List.append_nil]at hq;have Nz:Holds C B (blanks S ops.toList.length) a w:={H with fresh:=λs hs=>H.fresh s (by simp only[blanks]at hs;omega),sW:=by have:=H.sW;simp only[blanks];omega}
 have hfree:TP B S.nx (List.range' 0 ops.toList.length):=λi _=>H.fresh _ (by omega)
 have hnx: ∀i∈List.range' 0 ops.toList.length,Between C (blanks S ops.toList.length) (S.nx+i):=by
  intro i hi;simp only[List.mem_range'_1]at hi;have:=H.sW;unfold Between;simp only[blanks];omega
 cases draw with
 | false=>
   simp only[Bool.not_false,Bool.true_or,cond_true]at hq;refine wpIn_region ?_;have hl:List.range ops.size=List.range' 0 ops.toList.length:=by simp[List.range_eq_range']
   rw[hl];have:=Bf hΓ hC (S':=S') (Q:=R) (List.range' 0 ops.toList.length) _ ds B a w WV Nz hfree (List.nodup_range') hnx (λa' w' B' H'=>hR S' a' w' B' hq H') ro;simpa using this
 | true=>
   simp only[Bool.not_true,Bool.false_or]at hq;cases hi:indep ops.toList ds.reverse with
   | false=>rw[hi]at hq;exact hq.elim
   | true=>
     rw[hi]at hq;simp only[cond_true]at hq;obtain⟨he,apR⟩:=TT hi;rw[List.reverse_reverse]at apR;refine wpIn_region_any hm ?_;have H2:Holds C B (blanks S ops.toList.length) a {w with drawn:=w.drawn+1}:=Nz.move (w':=w.drew) (Below.refl _ w).drew;have:=TV hΓ hC he ro (Q:=R) (S':=S') ops.size (List.range' 0 ops.toList.length) (Array.replicate ops.size false) _ ds B a _ WV (FM apR)
      (List.pairwise_lt_range') (by simp) (by simp) (λi hi=>by
       have hi':i<ops.size:=by simpa using hi
       simp[hi']) (λi hi=>by simpa[List.mem_range'_1]using hi) (λk o hk hkl=>absurd (show k∈List.range' 0 ops.toList.length by
        have:=(List.getElem?_eq_some_iff.1 hk).1;simpa[List.mem_range'_1]using this) hkl) H2 hfree hnx (λa' w' B' H'=>hR S' a' w' B' hq H')
     simpa using this
theorem LC{α:Type}{Q:α→Prop}: ∀{l:List (Tr α)},(aaN l).sat Q→ ∀t∈l,t.sat Q
 | [],h,t,ht=>by cases ht
 | [t],h,t',ht=>by
   obtain rfl:=List.mem_singleton.1 ht;exact h
 | t::u::l,h,t',ht=>by
   rcases List.mem_cons.1 ht with rfl|ht
   ·exact h.1
   ·exact LC (l:=u::l) h.2 t' ht
theorem TY{o:Oper}{x:Operand}(h:Tv o=some x):o.op= .next x false∧o.guard=none:=by
 unfold Tv at h
 split at h
 ·rename_i y hop hg
  cases h;exact⟨hop,hg⟩
 ·cases h
theorem KQ{ro:Option Nat}(hm:P.follows .mixedOrders=true)(hΓ: ∀f s,Γ f=some s→lG C P f s)(hC:C.Ok){id:Nat}{ops:Array Oper}{draw:Bool}{N:Nat}{S:St}{Q:St→Prop}
  (hrest: ∀{B:dI} {a:Act} {w:World},(BS P Γ N ops.toList draw S).sat Q→Holds C B S a w→ ∀{R:Exit→Act→World→Prop},(∀S' a' w' B',Q S'→Holds C B' S' a' w'→R .normal a' w')→(Code.region id ops draw).wpIn (Fence.PN ro) 0 P R a w)
  (h:(Nb P Γ N ops.toList draw S).sat Q) {B:dI} {a:Act} {w:World} (H:Holds C B S a w) {R:Exit→Act→World→Prop}
  (hR: ∀S' a' w' B',Q S'→Holds C B' S' a' w'→R .normal a' w'):(Code.region id ops draw).wpIn (Fence.PN ro) 0 P R a w:=by
 unfold Nb at h
 split at h
 ·rename_i o rest hops
  split at h
  ·rename_i x hnx
   obtain⟨hop,hg⟩:=TY hnx;cases hd:(draw || qD ops.toList 0)with
   | true=>rw[hd]at h;exact h.elim
   | false=>
     rw[hd]at h;simp only[cond_false]at h;simp only[Bool.or_eq_false_iff]at hd;obtain⟨rfl,_⟩:=hd
     split at h
     ·rename_i rs hrs
      have Nz:Holds C B (blanks S ops.toList.length) a w:={H with fresh:=λs hs=>H.fresh s (by simp only[blanks]at hs;omega),sW:=by have:=H.sW;simp only[blanks];omega}
      have hlen:ops.toList.length=rest.length+1:=by rw[hops];rfl
      have hsz:ops.size=rest.length+1:=by rw[←hlen];simp
      refine wpIn_region ?_;have hl:List.range ops.size=0::List.range' 1 rest.length:=by
       rw[hsz,List.range_eq_range',List.range'_succ]
      rw[hl,wpOpsIn_cons];have ho:ops[0]? =some o:=by
       have:ops.toList[0]? =some o:=by rw[hops];rfl
       simpa using this
      have as4:Between C (blanks S ops.toList.length) (S.nx+0):=by
       have:=H.sW;unfold Between;simp only[blanks];omega
      have hf0:B (S.nx+0)=none:=H.fresh _ (by omega);unfold wpOpIn;rw[ho];simp only[];have hw:Region.wanted o (yielded ops a.tmps)=true:=by
       unfold Region.wanted;rw[hg]
      rw[hw];simp only[if_true];refine Oper.FB ro 0 (λc hc=>by rw[hop]at hc;cases hc) (Y3 (slot:=S.nx+0) Nz hop hrs λr hr=> ?_);intro a' w' B' H' hB;have hs:=LC h _ (List.mem_map.2 ⟨r,hr,rfl⟩);have h1:=Tr.cK hs;obtain⟨S',ds,WV,hq⟩:=lY (P:=P) (Γ:=Γ) (all:=ops.toList) (base:=S.nx) rest 1 _ [] (λj=>by rw[hops,Nat.add_comm 1 j];rfl) h1;have hq:Q S':=hq;have:=Bf hΓ hC (S':=S') (Q:=R) (List.range' 1 rest.length) _ ds B' a' w' WV H' (λi hi=>by
       simp only[List.mem_range'_1]at hi;rw[hB _ (by omega)];exact H.fresh _ (by omega)) List.nodup_range' (λi hi=>by
       simp only[List.mem_range'_1]at hi;have:=H.sW;unfold Between;simp only[St.apply,blanks];omega) (λa2 w2 B2 H2=>hR S' a2 w2 B2 hq H2) ro
      simpa using this
     ·exact h.elim
  ·exact hrest h H hR
 ·exact hrest h H hR
def ou(P:Program)(k:Nat)(id:Nat)(body:Code)(g:St→Tr (Ex×St)):Prop:=
 ∀(ro:Option Nat) (C:Ctx),C.Ok→C.k=k→ ∀(Q:Ex×St→Prop) (S:St) (B:dI) (a:Act) (w:World),(g S).sat Q→Holds C B S a w→(Code.block id body).wpIn (Fence.PN ro) 0 P (Am C Q) a w
def bB(P:Program)(k:Nat)(L:Nat→Option (St→Tr (Ex×St))):Code→Prop
 | .seq a b=>bB P k L a∧bB P k L b
 | .cond _ a b=>bB P k L a∧bB P k L b
 | .block id body=>
   match L id with
   | some g=>ou P k id body g
   | none=>bB P k L body
 | .loop body=>bB P k L body
 | .scope body=>bB P k L body
 | _=>True
theorem aA(k:Nat): ∀(c:Code),bB P k (λ_=>none) c
 | .seq a b=>⟨aA k a,aA k b⟩
 | .cond _ a b=>⟨aA k a,aA k b⟩
 | .block id body=>aA k body
 | .loop body=>aA k body
 | .scope body=>aA k body
 | .skip=>trivial
 | .region .. =>trivial
 | .rangeFunc .. =>trivial
 | .exit _=>trivial
 | .label _=>trivial
 | .goto _=>trivial
 | .ret=>trivial
 | .refuse _=>trivial
theorem Ci{ro:Option Nat}{f:St→Tr (Ex×St)}{c:Code}(hf: ∀(Q:Ex×St→Prop)(S:St)(B:dI)(a:Act)(w:World),(f S).sat Q→Holds C B S a w→c.wpIn (Fence.PN ro) 0 P (Am C Q) a w):
  ∀(n:Nat) (Q:Ex×St→Prop) (S:St) (B:dI) (a:Act) (w:World),(WR f n S).sat Q→Holds C B S a w→Code.roundsIn (Fence.PN ro) 0 P c (Am C Q) n a w
 | 0,Q,S,B,a,w,h,H=>h.elim
 | n+1,Q,S,B,a,w,h,H=>by
   unfold WR at h;refine oq ?_ (hf _ S B a w (Tr.cK h) H);rintro e a' w' ⟨ex,S',B',rfl,H',hq⟩;cases ex with
   | normal=>exact Ci hf n Q S' B' a' w' hq H'
   | exit id=>exact⟨.exit id,S',B',rfl,H',hq⟩
   | ret=>exact⟨.ret,S',B',rfl,H',hq⟩
theorem eU{ro:Option Nat}(hm:P.follows .mixedOrders=true)(hΓ: ∀f s,Γ f=some s→lG C P f s)(hC:C.Ok){N:Nat}: ∀(c:Code),bB P C.k L c→ ∀(Q:Ex×St→Prop) (S:St) (B:dI) (a:Act) (w:World),(exec P Γ L N c S).sat Q→
  Holds C B S a w→c.wpIn (Fence.PN ro) 0 P (Am C Q) a w
 | .skip,_,Q,S,B,a,w,h,H=>wpIn_skip ⟨.normal,S,B,rfl,H,h⟩
 | .region id ops draw,_,Q,S,B,a,w,h,H=>by
   unfold exec at h;refine KQ hm hΓ hC (λhs H R hR=> ?_) (Tr.cK h) H ?_
   ·refine Es hm hΓ hC (Qu hs) H ?_
    rintro S' a' w' B' ⟨tm,hl,ht,hq⟩ H';exact hR _ a' w' B' hq (H'.less hl ht)
   ·intro S' a' w' B' hq H'
    exact⟨.normal,S',B',rfl,H',hq⟩
 | .seq x y,hl,Q,S,B,a,w,h,H=>by
   unfold exec at h;refine wpIn_seq (oq ?_ (eU hm hΓ hC x hl.1 _ S B a w (Tr.cK h) H));rintro e a' w' ⟨ex,S',B',rfl,H',hq⟩;cases ex with
   | normal=>exact eU hm hΓ hC y hl.2 Q S' B' a' w' hq H'
   | exit id=>exact⟨.exit id,S',B',rfl,H',hq⟩
   | ret=>exact⟨.ret,S',B',rfl,H',hq⟩
 | .cond c x y,hl,Q,S,B,a,w,h,H=>by
   unfold exec at h
   split at h
   ·rename_i t ht
    have hr:=bG H c;rw[ht]at hr;have hv:=hr.plain;cases t with
    | true=>exact wpIn_cond_true hv (eU hm hΓ hC x hl.1 Q S B a w (h.1 rfl) H)
    | false=>exact wpIn_cond_false hv (eU hm hΓ hC y hl.2 Q S B a w (h.2 rfl) H)
   ·exact h.elim
 | .block id body,hl,Q,S,B,a,w,h,H=>by
   unfold exec at h;unfold bB at hl;cases hg:L id with
   | some g=>
     rw[hg]at h hl;exact hl ro C hC rfl Q S B a w h H
   | none=>
     rw[hg]at h hl;simp only at h hl;refine wpIn_block (oq ?_ (eU hm hΓ hC body hl _ S B a w (Tr.cK h) H));rintro e a' w' ⟨ex,S',B',rfl,H',hq⟩;cases ex with
     | normal=>exact⟨.normal,S',B',rfl,H',hq⟩
     | ret=>exact⟨.ret,S',B',rfl,H',hq⟩
     | exit j=>
       simp only[Ex.aaZ,Exit.inBlock];by_cases hj:j=id
       ·subst hj
        simp only[Nat.beq_refl,cond_true]at hq;rw[if_pos rfl];exact⟨.normal,S',B',rfl,H',hq⟩
       ·have hb:beq j id=false:=by
         cases hb:beq j id
         ·rfl
         ·exact absurd (Nat.eq_of_beq_eq_true hb) hj
        simp only[hb,cond_false]at hq;rw[if_neg hj];exact⟨.exit j,S',B',rfl,H',hq⟩
 | .loop body,hl,Q,S,B,a,w,h,H=>by
   unfold exec at h;exact wpIn_loop_rounds (Na N) (Ci (λQ S B a w h H=>eU hm hΓ hC body hl Q S B a w h H) (Na N) Q S B a w h H)
 | .scope body,hl,Q,S,B,a,w,h,H=>by
   unfold exec at h;refine Ab (oq ?_ (eU hm hΓ hC body hl Q S B a w h H));rintro e a' w' ⟨ex,S',B',rfl,H',hq⟩;cases ex<;>exact⟨_,S',B',rfl,H',hq⟩
 | .exit id,_,Q,S,B,a,w,h,H=>wpIn_exit ⟨.exit id,S,B,rfl,H,h⟩
 | .ret,_,Q,S,B,a,w,h,H=>wpIn_ret ⟨.ret,S,B,rfl,H,h⟩
 | .rangeFunc ..,_,_,_,_,_,_,h,_=>h.elim
 | .label _,_,_,_,_,_,_,h,_=>h.elim
 | .goto _,_,_,_,_,_,_,h,_=>h.elim
 | .refuse _,_,_,_,_,_,_,h,_=>h.elim
def NA(tmps:Array Value):ResultVar→Sem Value
 | .tmp t=>pure (tmps.getD t undef)
 | .cell a t=>do loadVar t (←asAddr (tmps.getD a undef))
theorem T9(fn:Func)(tmps:Array Value):results fn tmps=(do
 let vs←fn.results.mapM (NA tmps)
 pure (if h:vs.size=1 then vs[0]else .tuple vs)):=rfl
theorem KR{S:St}{B:dI}{a:Act}{w:World}(H:Holds C B S a w){r:ResultVar}{x:AV}(h:nX P S r=some x):
  ∃v,(NA a.tmps r).run P w= .ok v w∧aV (aU C.A0 B S.mem) B w x v:=by
 have key: ∀t:Nat,aV (aU C.A0 B S.mem) B w (S.tm.getD t .any) (a.tmps.getD t undef):=λt=>bG H (.tmp t)
 unfold nX at h;cases r with
 | tmp t=>
   simp only[fu]at h;subst h;exact⟨_,rfl,key t⟩
 | cell c t=>
   simp only at h
   split at h
   ·rename_i e he
    split at h
    ·rename_i hcs
     cases h;obtain⟨_,ad,v,hxe,hrun,hrel⟩:=Lp H (key c) he (by rw[hcs];simp);exact⟨v,by simp only[NA,hxe,asAddr,Sem.run_bind,Sem.run_pure,Result.andThen_ok,hrun],hrel⟩
    ·cases h
   ·cases h
theorem yA{S:St}{B:dI}{a:Act}{w:World}(H:Holds C B S a w): ∀{rs:List ResultVar} {xs:List AV},rs.mapM (nX P S)=some xs→
  ∃vs:List Value,(rs.mapM (NA a.tmps)).run P w= .ok vs w∧dN (aU C.A0 B S.mem) B w xs vs
 | [],xs,h=>by simp at h;subst h;exact⟨[],by simp,.nil⟩
 | r::rs,xs,h=>by
   simp only[List.mapM_cons,Option.bind_eq_bind,Option.pure_def]at h;cases h1:nX P S r with
   | none=>simp[h1]at h
   | some x=>
     cases h2:rs.mapM (nX P S)with
     | none=>simp[h1,h2]at h
     | some ys=>
       simp[h1,h2]at h;subst h;obtain⟨v,hv,hr⟩:=KR H h1;obtain⟨vs,hvs,hrs⟩:=yA H h2;refine⟨v::vs,?_,.cons hr hrs⟩;simp only[List.mapM_cons,Sem.run_bind,hv,Result.andThen_ok,hvs,Sem.run_pure]
theorem oz{fn:Func}{S:St}{B:dI}{a:Act}{w:World}(H:Holds C B S a w){x:AV}(h:nY P S fn.results.toList=some x):
  ∃v,(results fn a.tmps).run P w= .ok v w∧aV (aU C.A0 B S.mem) B w x v:=by
 have hall: ∃xs,fn.results.toList.mapM (nX P S)=some xs∧((fn.results.toList.length=1∧xs=[x])∨(fn.results.toList.length≠1∧x= .fG xs)):=by
  unfold nY at h
  split at h
  ·rename_i r hr
   exact⟨[x],by simp[hr,h],.inl ⟨by simp[hr],rfl⟩⟩
  ·rename_i rs hne
   simp only[Option.map_eq_some_iff]at h;obtain⟨xs,hxs,rfl⟩:=h;refine⟨xs,hxs,.inr ⟨λhl=> ?_,rfl⟩⟩
   match hrs:fn.results.toList,hl with
   | [r],_=>exact hne r hrs
 obtain⟨xs,hxs,hcase⟩:=hall;obtain⟨vs,hvs,o9⟩:=yA H hxs;have hlen:xs.length=fn.results.toList.length:=by
  have: ∀{rs:List ResultVar} {xs:List AV},rs.mapM (nX P S)=some xs→xs.length=rs.length:=by
   intro rs
   induction rs with
   | nil=>intro xs h;simp at h;subst h;rfl
   | cons r rs ih=>
     intro xs h;simp only[List.mapM_cons,Option.bind_eq_bind,Option.pure_def]at h;cases h1:nX P S r with
     | none=>simp[h1]at h
     | some x=>
       cases h2:rs.mapM (nX P S)with
       | none=>simp[h1,h2]at h
       | some ys=>simp[h1,h2]at h;subst h;simp[ih h2]
  exact this hxs
 have hrun:(results fn a.tmps).run P w= .ok (if h:vs.toArray.size=1 then vs.toArray[0]else .tuple vs.toArray) w:=by
  rw[T9,Array.mapM_eq_mapM_toList];simp only[Sem.run_bind,Sem.run_map,hvs,Result.andThen_ok,Sem.run_pure]
 rcases hcase with⟨h1,rfl⟩|⟨h1,rfl⟩
 ·obtain⟨v,cs',rfl,hr,hnil⟩:=o9.head
  obtain rfl:=hnil.nZ;exact⟨v,by rw[hrun];rfl,hr⟩
 ·have hv1:vs.length≠1:=by rw[o9.1,hlen];exact h1
  exact⟨_,by rw[hrun,dif_neg (by simpa using hv1)],aV.uK o9⟩
theorem Ao(hm:P.follows .mixedOrders=true)(hΓ: ∀f s,Γ f=some s→aH P f s){f:FuncId}{fn:Func}{c:Code}(hf:P.funcs[f]? =some fn)(hb:fn.body=some c)(hl:bB P 0 L c){N:Nat}
  {args:List AV} {Q:AV→Prop} (h:(aN P Γ L N fn args).sat λr=>bA.dY r=true∧Q r) {A:Nat→Prop} {w:World} {vs:List Value}
  (hA: ∀b,A b→b<w.heap.size) (hargs:dN A (λ_=>none) w args vs):
  Calls P f vs.toArray w λe w'=> ∃r v,Q r∧bA.dY r=true∧e= .returned v∧aV A (λ_=>none) w' r v∧Below w.heap.size w w':=by
 refine calls_of_wp hf hb ?_;unfold aN at h;rw[hb]at h;simp only at h;have hown: ∀b,aU A (λ_=>none) (start args fn.ntmps).mem b↔A b:=λb=>by
  constructor
  ·intro h
   rcases h with h|⟨s,e,h1,_⟩
   ·exact h
   ·cases h1
  ·exact λh=>Or.inl h
 have Qv: ∀{x:AV} {v:Value},aV A (λ_=>none) w x v→aV (aU A (λ_=>none) (start args fn.ntmps).mem) (λ_=>none) w x v:=
  λh=>h.trans (Trans.refl _ _) (λb _ hb=>(hown b).1 hb) (λ_ _ h=>h)
 have hlen:vs.length=args.length:=hargs.1;have H:Holds ⟨A,λ_=>False,w,0,λ_=>none⟩ (λ_=>none) (start args fn.ntmps) {tmps:=vs.toArray++Array.replicate (fn.ntmps-vs.toArray.size) undef,defers:=[]} w:=by
  refine{defers:=rfl,size:=by simp[start,hlen],tm:=?_,mem:=λs e he=>(by cases he),inj:=λ_ _ _ _ _ h=>(by cases h),kept:=Kept.refl _ _,old:=λs β h=>(by cases h),fresh:=λ_ _=>rfl,base:=λ_ _=>rfl,sW:=Nat.zero_le _};intro t ht;by_cases hlt:t<args.length
  ·have:=Qv (hargs.2 t hlt)
   have hlt':t<vs.length:=by omega
   simpa[start,dJ,nS,List.getElem?_append_left hlt,Array.getElem?_append,hlt,hlt']using this
  ·have ht':t-args.length<fn.ntmps-args.length:=by simp only[start,List.length_append,List.length_replicate]at ht;omega
   have hlt': ¬t<vs.length:=by omega
   have e1:(start args fn.ntmps).tm.getD t .any= .c (.v undef):=by
    simp[start,dJ,List.getElem?_append_right (Nat.le_of_not_lt hlt),List.getElem?_replicate,ht']
   have e2:(vs.toArray++Array.replicate (fn.ntmps-vs.toArray.size) undef).getD t undef=undef:=by
    simp[nS,Array.getElem?_append,hlt',Array.getElem?_replicate,hlen,ht',hlt]
   show aV _ _ _ _ _
   rw[e1];simp only[]at e2⊢;rw[e2];exact aV.lit _
 refine Code.wp_mono ?_ (pQ<| eU hm (y9 hΓ _) (C:=⟨A,λ_=>False,w,0,λ_=>none⟩) ⟨hA,λ_ h=>h.elim,λ_ _ h=>h⟩ c hl _ _ _ _ _ (Tr.cK h) H);rintro e a' w' ⟨ex,S',B',rfl,H',hq⟩
 have key:(match nY P S' fn.results.toList with|some v=>Tr.needs (fM S'.mem v).2 (.ret (fM S'.mem v).1)|none=>Tr.fail "results").sat (λr=>bA.dY r=true∧Q r)→
   a'.defers=[]∧ ∃v,(results fn a'.tmps).run P w'= .ok v w'∧ ∃r v',Q r∧bA.dY r=true∧Ending.returned v= .returned v'∧aV A (λ_=>none) w' r v'∧Below w.heap.size w w':=by
  intro hs;cases hr:nY P S' fn.results.toList with
  | none=>rw[hr]at hs;exact hs.elim
  | some x=>
    rw[hr]at hs;obtain⟨hcs,hn,hQ⟩:=Tr.dR hs;obtain⟨v,hrun,hrel⟩:=oz H' hr;have aa0:=pK H' (A:=A) (λb hb=> .inl hb) x v hrel (λb hb=>by
     rintro⟨s,_,e,_,h2⟩;rcases(H'.old s b h2).1 with h3|h3
     ·exact absurd (hA b hb) (Nat.not_lt.2 h3)
     ·exact h3) hcs
    exact⟨H'.defers,v,hrun,_,v,hQ,hn,rfl,aa0.dY hn _,H'.kept.below⟩
 cases ex with
 | normal=>exact key hq
 | ret=>exact key hq
 | exit id=>exact hq.elim
end
end Go.bA
namespace Go.bA
open Go.RowKit
mutual
def afF(f:Nat→Nat):AV→AV
 | .ptr b off=> .ptr (f b) off
 | .jr b k j sz=> .jr (f b) k j sz
 | .fK b n sz=> .fK (f b) n sz
 | .H9 b k n sz=> .H9 (f b) k n sz
 | .omap b=> .omap (f b)
 | .agg l=> .agg (Cj f l)
 | .fG l=> .fG (Cj f l)
 | .fn g l=> .fn g (Cj f l)
 | x=>x
def Cj(f:Nat→Nat):List AV→List AV
 | []=> []
 | x::l=>afF f x::Cj f l
end
def tC(f:Nat→Nat):gJ→gJ
 | .cells l t=> .cells (Cj f l) t
 | .arr n sz el t=> .arr n sz el t
 | .uG es=> .uG es
 | .KF es seen=> .KF es seen
mutual
def oC:AV→List Nat
 | .ptr b _=> [b]
 | .jr b _ _ _=> [b]
 | .fK b _ _=> [b]
 | .H9 b _ _ _=> [b]
 | .omap b=> [b]
 | .agg l=>mM l
 | .fG l=>mM l
 | .fn _ l=>mM l
 | _=> []
def mM:List AV→List Nat
 | []=> []
 | x::l=>oC x++mM l
end
def NC:gJ→List Nat
 | .cells l _=>mM l
 | .arr _ _ _ _=> []
 | .uG _=> []
 | .KF _ _=> []
def pos:List Nat→Nat→Nat
 | [],_=>0
 | x::l,s=>bif beq x s then 0 else pos l s+1
def vD(ids:List Nat)(s:Nat):Bool:=Nat.blt (pos ids s) ids.length
def nodupB:List Nat→Bool
 | []=>true
 | x::l=> !vD l x&&nodupB l
def yB(acc:List Nat):List Nat→List Nat
 | []=>acc
 | x::l=>yB (bif vD acc x then acc else acc++[x]) l
def wK(m:Mem)(acc:List Nat):List Nat→List Nat
 | []=>acc
 | s::l=>wK m (match m s with|some e=>yB acc (NC e)|none=>acc) l
def reach(m:Mem):Nat→List Nat→List Nat
 | 0,acc=>acc
 | n+1,acc=>reach m n (wK m acc acc)
def rz(m:Mem)(ids:List Nat):Bool:=ids.all λs=>match m s with|some e=>(NC e).all (vD ids)|none=>true
theorem beq_false{a b:Nat}(h:a≠b):beq a b=false:=by
 cases hb:beq a b
 ·rfl
 ·exact absurd (Nat.eq_of_beq_eq_true hb) h
theorem Ck{ids:List Nat}{s:Nat}(h:vD ids s=true):pos ids s<ids.length∧ids.getD (pos ids s) 0=s:=by
 have h':pos ids s<ids.length:=by unfold vD at h;simpa[Nat.blt_eq]using h
 refine⟨h',?_⟩;clear h
 induction ids with
 | nil=>simp at h'
 | cons x l ih=>
   by_cases hx:x=s
   ·subst hx;simp[pos]
   ·have hb:=beq_false hx
    simp only[pos,hb,cond_false,List.length_cons]at h'⊢;simpa using ih (by omega)
theorem Cm{ids:List Nat}{s:Nat}:vD ids s=true↔s∈ids:=by
 constructor
 ·intro h
  obtain⟨h1,h2⟩:=Ck h;rw[←h2,dJ,List.getElem?_eq_getElem h1];exact List.getElem_mem h1
 ·intro h
  unfold vD;rw[Nat.blt_eq]
  induction ids with
  | nil=>simp at h
  | cons x l ih=>
    by_cases hx:x=s
    ·subst hx;simp[pos]
    ·have hb:=beq_false hx
     simp only[pos,hb,cond_false,List.length_cons];have:=ih (by simpa[Ne.symm hx]using h);omega
theorem Cn{ids:List Nat}(h:nodupB ids=true):ids.Nodup:=by
 induction ids with
 | nil=>exact List.nodup_nil
 | cons x l ih=>
   simp only[nodupB,bI,Bool.not_eq_true']at h;refine List.nodup_cons.2 ⟨λhx=> ?_,ih h.2⟩;rw[Cm.2 hx]at h;cases h.1
theorem Co{ids:List Nat}(hn:ids.Nodup){i:Nat}(hi:i<ids.length):pos ids (ids.getD i 0)=i:=by
 have hm:vD ids (ids.getD i 0)=true:=Cm.2 (by rw[dJ,List.getElem?_eq_getElem hi];exact List.getElem_mem hi);obtain⟨h1,h2⟩:=Ck hm;have e1:ids[pos ids (ids.getD i 0)]? =ids[i]? :=by
  rw[dJ,List.getElem?_eq_getElem h1]at h2;rw[List.getElem?_eq_getElem h1,List.getElem?_eq_getElem hi];simp only[Option.getD_some]at h2;rw[h2,dJ,List.getElem?_eq_getElem hi];rfl
 exact(List.getElem?_inj h1 hn).1 e1
theorem Qw(f:Nat→Nat)(l:List AV):(Cj f l).length=l.length:=by
 induction l with
 | nil=>rfl
 | cons x l ih=>simp[Cj,ih]
section
variable{A A':Nat→Prop}{B B2:dI}{w:World}{f:Nat→Nat}
mutual
theorem Qx(hA: ∀b,A' b→A b): ∀(x:AV) (v:Value),aV A B w x v→(∀s∈oC x, ∀β,B s=some β→B2 (f s)=some β)→aV A' B2 w (afF f x) v
 | .c x,v,h,_=>by
   cases h with
   | c _ _ h=>exact .c _ _ (h.trans (Trans.refl _ _) (λb _ h=>hA b h))
 | .ptr b off,v,h,hB=>by
   obtain⟨β,hβ,rfl⟩:=h.lV;exact .ptr _ _ β (hB b (by simp[oC]) β hβ)
 | .jr b k j sz,v,h,hB=>by
   cases h with
   | jr _ _ _ _ β hβ=>exact .jr _ _ _ _ β (hB b (by simp[oC]) β hβ)
 | .H9 b k n sz,v,h,hB=>by
   cases h with
   | H9 _ _ _ _ cap β hβ hn h0 hc=>exact .H9 _ k n sz cap β (hB b (by simp[oC]) β hβ) hn h0 hc
 | .fK b n sz,v,h,hB=>by
   cases h with
   | fK _ _ _ cap β hβ h1 h2 h3=>exact .fK _ _ _ cap β (hB b (by simp[oC]) β hβ) h1 h2 h3
   | tu=>exact .tu _ _
 | .agg l,v,h,hB=>by
   obtain⟨cs,rfl,hr⟩:=h.kD;exact aV.sj (sD hA l cs hr (by simpa[oC]using hB))
 | .fG l,v,h,hB=>by
   obtain⟨cs,rfl,hr⟩:=h.BU;exact aV.uK (sD hA l cs hr (by simpa[oC]using hB))
 | .fn g l,v,h,hB=>by
   obtain⟨cs,rfl,hr⟩:=h.Im;exact aV.akI (sD hA l cs hr (by simpa[oC]using hB))
 | .fB l,v,h,_=>by
   cases h with
   | fB _ b off h1 h2 h3=>exact .fB _ b off (λh=>h1 (hA b h)) h2 λj hj=>⟨(h3 j hj).1,(h3 j hj).2.trans (Trans.refl _ _) (λb _ h=>hA b h)⟩
 | .omap b,v,h,hB=>by
   cases h with
   | omap _ β hβ=>exact .omap _ β (hB b (by simp[oC]) β hβ)
 | .any,v,_,_=> .any v
theorem sD(hA: ∀b,A' b→A b): ∀(l:List AV) (cs:List Value),dN A B w l cs→(∀s∈mM l, ∀β,B s=some β→B2 (f s)=some β)→dN A' B2 w (Cj f l) cs
 | [],cs,h,_=>by obtain rfl:=h.nZ;exact .nil
 | x::l,cs,h,hB=>by
   obtain⟨v,cs',rfl,h1,h2⟩:=h.head;exact .cons (Qx hA x v h1 λs hs=>hB s (by simp[mM,hs])) (sD hA l cs' h2 λs hs=>hB s (by simp[mM,hs]))
end
theorem uf{l:List AV}{cs:Array Value}(hs:cs.size=l.length)(h: ∀j,j<l.length→aV A B w (l.getD j .any) (cs.getD j undef)):dN A B w l cs.toList:=
 ⟨by simpa using hs,λj hj=>by simpa[nS,dJ]using h j hj⟩
theorem kg{l:List AV}{cs:Array Value}(h:dN A B w l cs.toList):cs.size=l.length∧ ∀j,j<l.length→aV A B w (l.getD j .any) (cs.getD j undef):=
 ⟨by simpa using h.1,λj hj=>by simpa[nS,dJ]using h.2 j hj⟩
theorem IQ(hA: ∀b,A' b→A b){e:gJ}{o:Option Obj}(h:fZ A B w e o)(hB: ∀s∈NC e, ∀β,B s=some β→B2 (f s)=some β):fZ A' B2 w (tC f e) o:=by
 cases h with
 | cells l t cs hs h=>
   have:=sD (A':=A') (B2:=B2) (f:=f) hA l cs.toList (uf hs h) (by simpa[NC]using hB);exact .cells _ t cs (kg this).1 (kg this).2
 | arr n sz el t cs hs hl h=>exact .arr n sz el t cs hs hl λk j hk hj=>⟨(h k j hk hj).1,(h k j hk hj).2.trans (Trans.refl _ _) (λb _ h=>hA b h)⟩
 | uG es entries clock hk hv=>exact .uG es entries clock hk λi hi=>(hv i hi).trans (Trans.refl _ _) (λb _ h=>hA b h)
 | KF es seen b h hs=>exact .KF es seen b (h.trans (Trans.refl _ _) (λb _ h=>hA b h)) hs
theorem Bj{e:gJ}(h:e.none0):(tC f e).none0:=by
 cases e with
 | cells l t=>exact h.elim
 | arr n sz el t=>exact h
 | uG es=>exact h.elim
 | KF es seen=>exact h.elim
end
def WW:List Bool→List AV→List AV
 | b::bs,x::l=>(bif b then x else .any)::WW bs l
 | [],l=>l
 | _::_,[]=> []
theorem LG{A:Nat→Prop}{B:dI}{w:World}: ∀(bs:List Bool) (l:List AV) (cs:List Value),dN A B w l cs→dN A B w (WW bs l) cs
 | [],l,cs,h=>h
 | b::bs,[],cs,h=>h
 | b::bs,x::l,cs,h=>by
   obtain⟨v,cs',rfl,h1,h2⟩:=h.head;refine .cons ?_ (LG bs l cs' h2);cases b
   ·exact .any v
   ·exact h1
def fD(l:List (Option gJ)):Mem:=λs=>l.getD s none
def lZ(ids:List Nat)(S:St):St:=
 {tm:=Cj (pos ids) S.tm,mem:=fD (ids.map λs=>(S.mem s).map (tC (pos ids))),nx:=ids.length}
def wL:Nat→Nat→List Nat→Bool
 | _,0,_=>true
 | i,k+1,x::l=>beq x i&&wL (i+1) k l
 | _,_+1,[]=>false
theorem rA: ∀(k i:Nat) (l:List Nat),wL i k l=true→k≤l.length∧ ∀j,j<k→l.getD j 0=i+j
 | 0,i,l,_=>⟨Nat.zero_le _,λj hj=>by omega⟩
 | k+1,i,[],h=>by simp[wL]at h
 | k+1,i,x::l,h=>by
   simp only[wL,bI,Nat.beq_eq]at h;obtain⟨rfl,h⟩:=h;obtain⟨h1,h2⟩:=rA k (x+1) l h;refine⟨by simpa using h1,λj hj=> ?_⟩;cases j with
   | zero=>simp
   | succ j=>
     have:=h2 j (by omega);simp only[List.getD_cons_succ];omega
def wM(k:Nat)(ids:List Nat)(S:St):Bool:=nodupB ids&&rz S.mem ids&&(mM S.tm).all (vD ids)&&wL 0 k ids
def dI.at(B:dI)(ids:List Nat):dI:=λi=>if i<ids.length then B (ids.getD i 0)else none
section
variable{C:Ctx}{B:dI}{S:St}{a:Act}{w:World}
theorem nJ{ids:List Nat}{g:Nat→Option gJ}{s:Nat}{e:gJ}(h:fD (ids.map g) s=some e):s<ids.length∧g (ids.getD s 0)=some e:=by
 unfold fD at h;rw[dJ,List.getElem?_map]at h;by_cases hs:s<ids.length
 ·rw[List.getElem?_eq_getElem hs]at h
  refine⟨hs,?_⟩;rw[dJ,List.getElem?_eq_getElem hs];simpa using h
 ·rw[List.getElem?_eq_none (by omega)]at h
  simp at h
theorem ND{ids:List Nat}{s β:Nat}(h:vD ids s=true)(hB:B s=some β):B.at ids (pos ids s)=some β:=by
 obtain⟨h1,h2⟩:=Ck h;simp only[dI.at,h1,if_true];rw[h2];exact hB
theorem Holds.canon(H:Holds C B S a w){ids:List Nat}(h:wM C.k ids S=true):Holds C (B.at ids) (lZ ids S) a w:=by
 simp only[wM,bI]at h;obtain⟨⟨⟨hn,hcl⟩,htm⟩,hpre⟩:=h;have hnd:=Cn hn;obtain⟨hkl,hpre⟩:=rA C.k 0 ids hpre;have hA: ∀b,aU C.A0 (B.at ids) (lZ ids S).mem b→aU C.A0 B S.mem b:=by
  rintro b (h|⟨s,e,h1,h2⟩)
  ·exact .inl h
  ·obtain⟨hs,hg⟩:=nJ h1
   simp only[Option.map_eq_some_iff]at hg;obtain⟨e',he',_⟩:=hg;simp only[dI.at,hs,if_true]at h2;exact .inr ⟨_,e',he',h2⟩
 have hT:dN (aU C.A0 (B.at ids) (lZ ids S).mem) (B.at ids) w (lZ ids S).tm a.tmps.toList:=
  sD hA S.tm a.tmps.toList (uf H.size H.tm) λs hs β hβ=>ND (List.all_eq_true.1 htm s hs) hβ
 refine{defers:=H.defers,size:=(kg hT).1,tm:=(kg hT).2,mem:=?_,inj:=?_,kept:=H.kept,old:=?_,fresh:=?_,base:=?_,sW:=hkl}
 ·intro s e he
  obtain⟨hs,hg⟩:=nJ he;simp only[Option.map_eq_some_iff]at hg;obtain⟨e',he',rfl⟩:=hg;have hmem:ids.getD s 0∈ids:=by rw[dJ,List.getElem?_eq_getElem hs];exact List.getElem_mem hs
  have hBs:B.at ids s=B (ids.getD s 0):=by simp[dI.at,hs]
  rcases H.mem _ _ he' with⟨β,h1,h2⟩|⟨h1,h2⟩
  ·refine .inl ⟨β,by rw[hBs];exact h1,IQ hA h2 λt ht γ hγ=>ND ?_ hγ⟩
   have:=List.all_eq_true.1 hcl _ hmem;rw[he']at this;exact List.all_eq_true.1 this t ht
  ·exact .inr ⟨by rw[hBs];exact h1,Bj h2⟩
 ·intro s s' e e' β h1 h2 h3 h4
  obtain⟨hs,hg⟩:=nJ h1;obtain⟨hs',hg'⟩:=nJ h2;simp only[Option.map_eq_some_iff]at hg hg';obtain⟨e1,he1,_⟩:=hg;obtain⟨e2,he2,_⟩:=hg';simp only[dI.at,hs,hs',if_true]at h3 h4;have:=H.inj _ _ _ _ β he1 he2 h3 h4;rw[←Co hnd hs, ←Co hnd hs',this]
 ·intro s β h
  unfold dI.at at h;by_cases hs:s<ids.length
  ·simp only[hs,if_true]at h;exact H.old _ _ h
  ·simp[hs]at h
 ·intro s hs
  have: ¬s<ids.length:=Nat.not_lt.2 hs;simp[dI.at,this]
 ·intro s hs
  have h1:s<ids.length:=by omega
  have h2:=hpre s hs;simp only[dI.at,h1,if_true];rw[h2,Nat.zero_add];exact H.base s hs
theorem Holds.mask(H:Holds C B S a w)(bs:List Bool):Holds C B {S with tm:=WW bs S.tm} a w:=by
 have hT:=LG bs S.tm a.tmps.toList (uf H.size H.tm);exact{H with size:=(kg hT).1,tm:=(kg hT).2}
def bL(v v':AV):Prop:= ∀(A:Nat→Prop) (B:dI) (w:World) (u:Value),aV A B w v u→aV A B w v' u
theorem bL.refl(v:AV):bL v v:=λ_ _ _ _ h=>h
theorem bL.of_eq{v v':AV}(h:v=v'):bL v v':=h ▸ bL.refl v
theorem bL.trans{v v' v2:AV}(h:bL v v')(k:bL v' v2):bL v v2:=λA B w u hu=>k A B w u (h A B w u hu)
theorem bL.sl{n sz:Nat}{el iV:Nat→List IV}(h: ∀k,k<n→el k=iV k):bL (.c (.sl n sz el)) (.c (.sl n sz iV)):=by
 intro A B w u hu;cases hu with
 | c _ _ hi=>
   cases hi with
   | nil=>exact .c _ _ (.nil _ _)
   | zero=>exact .c _ _ (.zero _ _ _)
   | sl _ _ _ b off cap h1 h2 h3 h4 h5 h6=>
     exact .c _ _ (.sl n sz iV b off cap h1 h2 h3 (λk hk=>h k hk ▸ h4 k hk) h5 λk j hk hj=>by rw[←h k hk];exact h6 k j hk hj)
theorem bL.nil(sz:Nat)(el:Nat→List IV):bL (.c (.v (.slice none 0 0))) (.c (.sl 0 sz el)):=by
 intro A B w u hu;rw[hu.plain];exact .c _ _ (.nil _ _)
inductive dW:List AV→List AV→Prop
 | nil:dW [] []
 | cons {x y:AV} {l m:List AV}:bL x y→dW l m→dW (x::l) (y::m)
theorem dW.refl: ∀(l:List AV),dW l l
 | []=> .nil
 | x::l=> .cons (bL.refl x) (dW.refl l)
theorem dW.NG{l m:List AV}(h:dW l m){A:Nat→Prop}{B:dI}{w:World}: ∀{cs:List Value},dN A B w l cs→dN A B w m cs:=by
 induction h with
 | nil=>exact λh=>h
 | cons h _ ih=>
   intro cs hr;obtain⟨v,cs',rfl,h1,h2⟩:=hr.head;exact .cons (h _ _ _ _ h1) (ih h2)
theorem bL.agg{l m:List AV}(h:dW l m):bL (.agg l) (.agg m):=λA B w u hu=>by
 obtain⟨cs,rfl,hr⟩:=hu.kD;exact aV.sj (h.NG hr)
theorem bL.fG{l m:List AV}(h:dW l m):bL (.fG l) (.fG m):=λA B w u hu=>by
 obtain⟨cs,rfl,hr⟩:=hu.BU;exact aV.uK (h.NG hr)
theorem dW.len{l m:List AV}(h:dW l m):l.length=m.length:=by
 induction h with
 | nil=>rfl
 | cons _ _ ih=>simp[ih]
theorem dW.getD{l m:List AV}(h:dW l m): ∀i,bL (l.getD i .any) (m.getD i .any):=by
 induction h with
 | nil=>exact λ_=>bL.refl _
 | cons h _ ih=>
   intro i;cases i with
   | zero=>exact h
   | succ i=>exact ih i
inductive pR:Option gJ→Option gJ→Prop
 | refl (e:Option gJ):pR e e
 | arr (n sz:Nat) (el iV:Nat→List IV) (t:TypeId):(∀k,k<n→el k=iV k)→pR (some (.arr n sz el t)) (some (.arr n sz iV t))
 | cells (l m:List AV) (t:TypeId):dW l m→pR (some (.cells l t)) (some (.cells m t))
 | drop (e:Option gJ):pR e none
theorem Holds.eqv(H:Holds C B S a w){m:Mem}(h: ∀s,pR (S.mem s) (m s)):Holds C B {S with mem:=m} a w:=by
 have hl: ∀s e,m s=some e→ ∃e',S.mem s=some e':=by
  intro s e he;have:=h s;rw[he]at this;generalize S.mem s=q at this;cases this with
  | refl=>exact⟨_,rfl⟩
  | arr n sz el iV t _=>exact⟨_,rfl⟩
  | cells l m t _=>exact⟨_,rfl⟩
 have hA: ∀b,aU C.A0 B m b→aU C.A0 B S.mem b:=by
  rintro b (h|⟨s,e,h1,h2⟩)
  ·exact .inl h
  ·obtain⟨e',he'⟩:=hl s e h1
   exact .inr ⟨s,e',he',h2⟩
 refine{defers:=H.defers,size:=H.size,tm:=λt ht=>(H.tm t ht).trans (Trans.refl _ _) (λb _ h=>hA b h) (λ_ _ h=>h),mem:=?_,inj:=?_,kept:=H.kept,old:=H.old,fresh:=H.fresh,base:=H.base,sW:=H.sW}
 ·intro s e he
  have he:m s=some e:=he;obtain⟨e',he'⟩:=hl s e he;have hq:=h s;rw[he,he']at hq;rcases H.mem s e' he' with⟨β,h1,h2⟩|⟨h1,h2⟩
  ·refine .inl ⟨β,h1,?_⟩
   have h3:=h2.trans (A':=aU C.A0 B m) (B':=B) (Trans.refl _ _) (λb _ h=>hA b h) (λ_ _ h=>h);cases hq with
   | refl=>exact h3
   | arr n sz el iV t heq=>
     generalize w.heap[β]? =o at h3;cases h3 with
     | arr _ _ _ _ cs hs hl hh=>
       exact .arr n sz iV t cs hs (λk hk=>heq k hk ▸ hl k hk) λk j hk hj=>by rw[←heq k hk];exact hh k j hk hj
   | cells l l' t hll=>
     generalize w.heap[β]? =o at h3;cases h3 with
     | cells _ _ cs hsz hh=>
       exact .cells l' t cs (by rw[←hll.len];exact hsz) λi hi=>hll.getD i _ _ _ _ (hh i (by rw[hll.len];exact hi))
  ·refine .inr ⟨h1,?_⟩
   cases hq with
   | refl=>exact h2
   | arr n sz el iV t heq=>exact h2
   | cells l l' t hll=>exact h2
 ·intro s s' e e' β h1 h2 h3 h4
  obtain⟨e1,h5⟩:=hl s e h1;obtain⟨e2,h6⟩:=hl s' e' h2;exact H.inj s s' e1 e2 β h5 h6 h3 h4
theorem Holds.more(H:Holds C B S a w)(n:Nat):Holds C B (blanks S n) a w:=
 {H with fresh:=λs hs=>H.fresh s (by simp only[blanks]at hs;omega),sW:=by have:=H.sW;simp only[blanks];omega}
theorem Holds.lift(H:Holds C B S a w){t:Nat}(ht:S.tm.getD t .any= .c (.v (.slice none 0 0)))(htl:t<S.tm.length)(sz:Nat)(el:Nat→List IV)(e:TypeId):
  Holds C B {tm:=S.tm.set t (.fK S.nx 0 sz),mem:=S.mem.set S.nx (some (.arr 0 sz el e)),nx:=S.nx+1} a w:=by
 have hs:B S.nx=none:=H.fresh _ (Nat.le_refl _);have H1:Holds C B {S with mem:=S.mem.set S.nx (some (.arr 0 sz el e)),nx:=S.nx+1} a w:=(H.more 1).Ni (slot:=S.nx) hs rfl;have hv:a.tmps.getD t undef= .slice none 0 0:=by
  have:=H.tm t htl;rw[ht]at this;exact this.plain
 refine{H1 with size:=by simpa using H1.size,tm:=λi hi=> ?_};have hi':i<S.tm.length:=by simpa using hi
 by_cases hit:i=t
 ·subst hit
  rw[hv];simp only[dJ,List.getElem?_set_self hi',Option.getD_some];exact .tu _ _
 ·have:=H1.tm i hi'
  simpa[dJ,List.getElem?_set_ne (Ne.symm hit)]using this
theorem Holds.IW(H:Holds C B S a w){s j:Nat}{l:List AV}{ty:TypeId}(hm:S.mem s=some (.cells l ty))(hj:l.getD j .any= .c (.v (.slice none 0 0)))(hjl:j<l.length)(sz:Nat)(el:Nat→List IV)(e:TypeId):
  Holds C B {tm:=S.tm,mem:=(S.mem.set s (some (.cells (l.set j (.fK S.nx 0 sz)) ty))).set S.nx (some (.arr 0 sz el e)),nx:=S.nx+1} a w:=by
 have hs:B S.nx=none:=H.fresh _ (Nat.le_refl _);obtain⟨β,hβ,hent⟩: ∃β,B s=some β∧fZ (aU C.A0 B S.mem) B w _ w.heap[β]? :=(H.mem s _ hm).resolve_right (λh=>h.2);have hown: ∀b,aU C.A0 B (S.mem.set s (some (.cells (l.set j (.fK S.nx 0 sz)) ty))) b→aU C.A0 B S.mem b:=by
  rintro b (h|⟨q,e',h1,h2⟩)
  ·exact .inl h
  ·rw[bF]at h1
   by_cases hq:q=s
   ·subst hq;exact .inr ⟨q,_,hm,h2⟩
   ·simp only[hq,if_false]at h1;exact .inr ⟨q,e',h1,h2⟩
 have H1:Holds C B {S with mem:=S.mem.set s (some (.cells (l.set j (.fK S.nx 0 sz)) ty))} a w:=by
  refine{defers:=H.defers,size:=H.size,tm:=λt ht=>(H.tm t ht).trans (Trans.refl _ _) (λb _ h=>hown b h) (λ_ _ h=>h),mem:=?_,inj:=?_,kept:=H.kept,old:=H.old,fresh:=H.fresh,base:=H.base,sW:=H.sW}
  ·intro q e' he'
   simp only[bF]at he';by_cases hq:q=s
   ·subst hq
    simp only[if_true,fu]at he';subst he';refine .inl ⟨β,hβ,?_⟩;generalize w.heap[β]? =o at hent;cases hent with
    | cells _ _ cs hsz h=>
      refine .cells _ _ cs (by simpa using hsz) λi hi=> ?_
      have hi':i<l.length:=by simpa using hi
      by_cases hij:i=j
      ·subst hij
       have h0:=h i hi';rw[hj]at h0;rw[h0.plain];simp only[dJ,List.getElem?_set_self hi',Option.getD_some];exact .tu _ _
      ·have h0:=(h i hi').trans (A':=aU C.A0 B (S.mem.set q (some (.cells (l.set j (.fK S.nx 0 sz)) ty)))) (B':=B) (Trans.refl _ _) (λb _ h=>hown b h) (λ_ _ h=>h)
       simpa[dJ,List.getElem?_set_ne (Ne.symm hij)]using h0
   ·simp only[hq,if_false]at he'
    rcases H.mem q e' he' with⟨γ,h1,h2⟩|h
    ·exact .inl ⟨γ,h1,h2.trans (Trans.refl _ _) (λb _ h=>hown b h) (λ_ _ h=>h)⟩
    ·exact .inr h
  ·intro q q' e1 e2 γ m1 m2 h1 h2
   have live: ∀q e,(S.mem.set s (some (.cells (l.set j (.fK S.nx 0 sz)) ty))) q=some e→ ∃e',S.mem q=some e':=by
    intro q e he;rw[bF]at he;by_cases hq:q=s
    ·subst hq;exact⟨_,hm⟩
    ·simp only[hq,if_false]at he;exact⟨e,he⟩
   obtain⟨e3,m3⟩:=live q e1 m1;obtain⟨e4,m4⟩:=live q' e2 m2;exact H.inj q q' e3 e4 γ m3 m4 h1 h2
 exact(H1.more 1).Ni (slot:=S.nx) hs rfl
end
end Go.bA
namespace Go.bA
open Go.RowKit
def Weak(k:Nat)(S S2:St):Prop:= ∀(C:Ctx) (B:dI) (a:Act) (w:World),C.k=k→Holds C B S a w→ ∃B2,Holds C B2 S2 a w
theorem Weak.refl(k:Nat)(S:St):Weak k S S:=λC B a w _ H=>⟨B,H⟩
theorem Weak.trans{k:Nat}{S S2 S3:St}(h:Weak k S S2)(h':Weak k S2 S3):Weak k S S3:=λC B a w hk H=>by
 obtain⟨B2,H2⟩:=h C B a w hk H;exact h' C B2 a w hk H2
theorem Weak.canon{k:Nat}{S:St}(ids:List Nat)(h:wM k ids S=true):Weak k S (lZ ids S):=λC B a w hk H=>⟨_,H.canon (by rw[hk];exact h)⟩
theorem Weak.mask{k:Nat}{S:St}(bs:List Bool):Weak k S {S with tm:=WW bs S.tm}:=λC B a w hk H=>⟨B,H.mask bs⟩
theorem Weak.eqv{k:Nat}{S S2:St}(ht:S.tm=S2.tm)(hn:S.nx=S2.nx)(h: ∀s,pR (S.mem s) (S2.mem s)):Weak k S S2:=λC B a w hk H=>by
 obtain⟨tm,mem,nx⟩:=S2;subst ht;subst hn;exact⟨B,H.eqv h⟩
theorem Weak.lift{k:Nat}{S:St}(t:Nat)(ht:S.tm.getD t .any= .c (.v (.slice none 0 0)))(htl:t<S.tm.length)(sz:Nat)(el:Nat→List IV)(e:TypeId):
 Weak k S {tm:=S.tm.set t (.fK S.nx 0 sz),mem:=S.mem.set S.nx (some (.arr 0 sz el e)),nx:=S.nx+1}:=λC B a w hk H=>⟨B,H.lift ht htl sz el e⟩
theorem Weak.IW{k:Nat}{S:St}(s j:Nat){l:List AV}{ty:TypeId}(hm:S.mem s=some (.cells l ty))(hj:l.getD j .any= .c (.v (.slice none 0 0)))(hjl:j<l.length)(sz:Nat)(el:Nat→List IV)(e:TypeId):
 Weak k S {tm:=S.tm,mem:=(S.mem.set s (some (.cells (l.set j (.fK S.nx 0 sz)) ty))).set S.nx (some (.arr 0 sz el e)),nx:=S.nx+1}:=λC B a w hk H=>⟨B,H.IW hm hj hjl sz el e⟩
structure Norm where
 nt:Nat
 live:List Nat
 lifts:List (Nat×Nat×TypeId):=[]
 cells:List (Nat×Nat×Nat×TypeId):=[]
 fuel:Nat:=3
def oD:List AV→List Nat→List AV→List AV
 | tm,t::l,v::vs=>oD (tm.set t v) l vs
 | tm,_,_=>tm
def Bl(n:Nat)(live:List Nat)(vals:List AV):List AV:=oD (List.replicate n .any) live vals
def oF(tm:List AV)(live:List Nat):List AV:=live.map λt=>tm.getD t .any
theorem FR(f:Nat→AV): ∀(live:List Nat) (tm:List AV),(∀t,tm.getD t .any= .any∨tm.getD t .any=f t)→(oD tm live (live.map f)).length=tm.length∧ ∀t,(oD tm live (live.map f)).getD t .any= .any∨(oD tm live (live.map f)).getD t .any=f t
 | [],tm,h=>⟨rfl,h⟩
 | t::live,tm,h=>by
   simp only[List.map_cons,oD];obtain⟨h1,h2⟩:=FR f live (tm.set t (f t)) (λi=>by
    by_cases hit:t=i
    ·subst hit
     by_cases hl:t<tm.length
     ·right;simp[dJ,List.getElem?_set_self hl]
     ·left;simp[dJ,List.getElem?_eq_none (show(tm.set t (f t)).length≤t by simp;omega)]
    ·have:=h i
     simpa[dJ,List.getElem?_set_ne hit]using this)
   exact⟨by simpa using h1,h2⟩
theorem LH(n:Nat)(live:List Nat)(tm:List AV):(Bl n live (oF tm live)).length=n∧ ∀t,(Bl n live (oF tm live)).getD t .any= .any∨(Bl n live (oF tm live)).getD t .any=tm.getD t .any:=by
 have:=FR (λt=>tm.getD t .any) live (List.replicate n .any) (λt=> .inl (by
  rw[dJ,List.getElem?_replicate]
  split<;>rfl))
 exact⟨by simpa[Bl,oF]using this.1,this.2⟩
theorem Weak.sub{k:Nat}{S:St}{tm:List AV}(hl:tm.length=S.tm.length)(h: ∀t,tm.getD t .any= .any∨tm.getD t .any=S.tm.getD t .any):Weak k S {S with tm:=tm}:=λC B a w hk H=>by
 refine⟨B,{H with size:=by rw[H.size];exact hl.symm,tm:=λt ht=> ?_}⟩;rcases h t with h|h
 ·show aV _ _ _ (tm.getD t .any) _
  rw[h];exact .any _
 ·show aV _ _ _ (tm.getD t .any) _
  rw[h];exact H.tm t (by rw[←hl];exact ht)
theorem Weak.live{k:Nat}{S:St}(live:List Nat):Weak k S {S with tm:=Bl S.tm.length live (oF S.tm live)}:=
 Weak.sub (LH _ _ _).1 (LH _ _ _).2
def Ua(S:St)(p:Nat×Nat×TypeId):St:=
 match S.tm.getD p.1 .any with
 | .c (.v (.slice none 0 0))=>bif Nat.blt p.1 S.tm.length then{tm:=S.tm.set p.1 (.fK S.nx 0 p.2.1),mem:=S.mem.set S.nx (some (.arr 0 p.2.1 (λ_=> []) p.2.2)),nx:=S.nx+1}else S
 | _=>S
def Ub(k:Nat)(S:St)(p:Nat×Nat×Nat×TypeId):St:=
 match S.mem p.1 with
 | some (.cells l ty)=>
   match l.getD p.2.1 .any with
   | .c (.v (.slice none 0 0))=>bif Nat.blt p.2.1 l.length then{tm:=S.tm,mem:=(S.mem.set p.1 (some (.cells (l.set p.2.1 (.fK S.nx 0 p.2.2.1)) ty))).set S.nx (some (.arr 0 p.2.2.1 (λ_=> []) p.2.2.2)),nx:=S.nx+1}else S
   | .fK b n sz=>
     match S.mem b with
     | some e=>bif Nat.blt b k&& !beq p.1 b&&Nat.blt p.1 k then{tm:=S.tm,mem:=((S.mem.set b none).set S.nx (some e)).set p.1 (some (.cells (l.set p.2.1 (.fK S.nx n sz)) ty)),nx:=S.nx+1}else S
     | none=>S
   | _=>S
 | _=>S
theorem Holds.setCell{C:Ctx}{B:dI}{S:St}{a:Act}{w:World}(H:Holds C B S a w){s j:Nat}{l:List AV}{ty:TypeId}{x:AV}(hm:S.mem s=some (.cells l ty))
  (hx: ∀v,aV (aU C.A0 B S.mem) B w (l.getD j .any) v→aV (aU C.A0 B S.mem) B w x v):Holds C B {S with mem:=S.mem.set s (some (.cells (l.set j x) ty))} a w:=by
 obtain⟨β,hβ,hent⟩: ∃β,B s=some β∧fZ (aU C.A0 B S.mem) B w _ w.heap[β]? :=(H.mem s _ hm).resolve_right (λh=>h.2);have live: ∀q e,(S.mem.set s (some (.cells (l.set j x) ty))) q=some e→ ∃e',S.mem q=some e':=by
  intro q e he;rw[bF]at he;by_cases hq:q=s
  ·subst hq;exact⟨_,hm⟩
  ·simp only[hq,if_false]at he;exact⟨e,he⟩
 have hown: ∀b,aU C.A0 B (S.mem.set s (some (.cells (l.set j x) ty))) b→aU C.A0 B S.mem b:=by
  rintro b (h|⟨q,e',h1,h2⟩)
  ·exact .inl h
  ·obtain⟨e,he⟩:=live q e' h1
   exact .inr ⟨q,e,he,h2⟩
 refine{defers:=H.defers,size:=H.size,tm:=λt ht=>(H.tm t ht).trans (Trans.refl _ _) (λb _ h=>hown b h) (λ_ _ h=>h),mem:=?_,inj:=?_,kept:=H.kept,old:=H.old,fresh:=H.fresh,base:=H.base,sW:=H.sW}
 ·intro q e' he'
  simp only[bF]at he';by_cases hq:q=s
  ·subst hq
   simp only[if_true,fu]at he';subst he';refine .inl ⟨β,hβ,?_⟩;generalize w.heap[β]? =o at hent;cases hent with
   | cells _ _ cs hsz h=>
     refine .cells _ _ cs (by simpa using hsz) λi hi=> ?_
     have hi':i<l.length:=by simpa using hi
     by_cases hij:i=j
     ·subst hij
      have h0:=(hx _ (h i hi')).trans (A':=aU C.A0 B (S.mem.set q (some (.cells (l.set i x) ty)))) (B':=B) (Trans.refl _ _) (λb _ h=>hown b h) (λ_ _ h=>h);simpa only[dJ,List.getElem?_set_self hi',Option.getD_some]using h0
     ·have h0:=(h i hi').trans (A':=aU C.A0 B (S.mem.set q (some (.cells (l.set j x) ty)))) (B':=B) (Trans.refl _ _) (λb _ h=>hown b h) (λ_ _ h=>h)
      simpa[dJ,List.getElem?_set_ne (Ne.symm hij)]using h0
  ·simp only[hq,if_false]at he'
   rcases H.mem q e' he' with⟨γ,h1,h2⟩|h
   ·exact .inl ⟨γ,h1,h2.trans (Trans.refl _ _) (λb _ h=>hown b h) (λ_ _ h=>h)⟩
   ·exact .inr h
 ·intro q q' e1 e2 γ m1 m2 h1 h2
  obtain⟨e3,m3⟩:=live q e1 m1;obtain⟨e4,m4⟩:=live q' e2 m2;exact H.inj q q' e3 e4 γ m3 m4 h1 h2
theorem Weak.aa1{k:Nat}{S:St}{s j b n sz:Nat}{l:List AV}{ty:TypeId}{e:gJ}(hm:S.mem s=some (.cells l ty))(hj:l.getD j .any= .fK b n sz)(he:S.mem b=some e)(hsb:s≠b)(hsk:s<k):
  Weak k S {tm:=S.tm,mem:=((S.mem.set b none).set S.nx (some e)).set s (some (.cells (l.set j (.fK S.nx n sz)) ty)),nx:=S.nx+1}:=λC B a w hk H=>by
 have hs:B S.nx=none:=H.fresh _ (Nat.le_refl _);have hsn:s≠S.nx:=by have:=H.sW;omega
 have hbt:Between C {S with nx:=S.nx+1} S.nx:=⟨H.sW,Nat.lt_succ_self _⟩
 have hms:((S.mem.set b none).set S.nx (some e)) s=some (.cells l ty):=by
  rw[bF,if_neg hsn,bF,if_neg hsb];exact hm
 rcases H.mem b e he with⟨β,hβ,_⟩|⟨hb,hn⟩
 ·have H1:=(H.more 1).rename (slot:=S.nx) (b:=b) (e:=e) he hβ hs hbt
  refine⟨_,H1.setCell (x:= .fK S.nx n sz) hms λv hv=> ?_⟩;rw[hj]at hv;cases hv with
  | fK _ _ _ cap γ hγ h1 h2 h3=>
    have:gT B S.nx β b=some β:=by
     simp only[gT]
     split
     ·rfl
     ·exact hβ
    rw[this]at hγ;cases hγ;exact .fK _ _ _ cap β (by simp[gT]) h1 h2 h3
  | tu=>exact .tu _ _
 ·have H1:=((H.more 1).drop b).Ni (slot:=S.nx) hs hn
  refine⟨_,H1.setCell (x:= .fK S.nx n sz) hms λv hv=> ?_⟩;rw[hj]at hv;cases hv with
  | fK _ _ _ cap γ hγ h1 h2 h3=>rw[hb]at hγ;cases hγ
  | tu=>exact .tu _ _
theorem Qy(k:Nat)(S:St)(p:Nat×Nat×TypeId):Weak k S (Ua S p):=by
 unfold Ua
 split
 ·rename_i h
  cases hb:Nat.blt p.1 S.tm.length with
  | true=>exact Weak.lift p.1 h (by simpa[Nat.blt_eq]using hb) _ _ _
  | false=>exact Weak.refl k S
 ·exact Weak.refl k S
theorem Qz(k:Nat)(S:St)(p:Nat×Nat×Nat×TypeId):Weak k S (Ub k S p):=by
 unfold Ub
 split
 ·rename_i l ty hm
  split
  ·rename_i h
   cases hb:Nat.blt p.2.1 l.length with
   | true=>exact Weak.IW p.1 p.2.1 hm h (by simpa[Nat.blt_eq]using hb) _ _ _
   | false=>exact Weak.refl k S
  ·rename_i b n sz h
   split
   ·rename_i e he
    cases hb:(Nat.blt b k&& !beq p.1 b&&Nat.blt p.1 k)with
    | true=>
      simp only[bI,Nat.blt_eq,Bool.not_eq_true']at hb;exact Weak.aa1 hm h he (λhh=>by have:=hb.1.2;rw[hh,Nat.beq_refl]at this;cases this) hb.2
    | false=>exact Weak.refl k S
   ·exact Weak.refl k S
  ·exact Weak.refl k S
 ·exact Weak.refl k S
def liftAll(S:St):List (Nat×Nat×TypeId)→St
 | []=>S
 | p::l=>liftAll (Ua S p) l
def kT(k:Nat)(S:St):List (Nat×Nat×Nat×TypeId)→St
 | []=>S
 | p::l=>kT k (Ub k S p) l
theorem Cq(k:Nat): ∀(l:List (Nat×Nat×TypeId)) (S:St),Weak k S (liftAll S l)
 | [],S=>Weak.refl k S
 | p::l,S=>(Qy k S p).trans (Cq k l _)
theorem yC(k:Nat): ∀(l:List (Nat×Nat×Nat×TypeId)) (S:St),Weak k S (kT k S l)
 | [],S=>Weak.refl k S
 | p::l,S=>(Qz k S p).trans (yC k l _)
def GA(k:Nat)(fuel:Nat)(S:St):List Nat:=reach S.mem fuel (yB (List.range k) (mM S.tm))
def norm(k:Nat)(n:Norm)(S:St):Option (List AV×List (Option gJ)):=
 bif beq S.tm.length n.nt then
  let S1:=kT k (liftAll {S with tm:=Bl n.nt n.live (oF S.tm n.live)} n.lifts) n.cells
  let ids:=GA k n.fuel S1
  bif wM k ids S1&&beq S1.tm.length n.nt then some (oF (Cj (pos ids) S1.tm) n.live,ids.map λs=>(S1.mem s).map (tC (pos ids)))else none
 else none
def eY(n:Norm)(q:List AV×List (Option gJ)):St:={tm:=Bl n.nt n.live q.1,mem:=fD q.2,nx:=q.2.length}
theorem Et{k:Nat}{n:Norm}{S:St}{q:List AV×List (Option gJ)}(h:norm k n S=some q):Weak k S (eY n q):=by
 unfold norm at h;cases hb0:beq S.tm.length n.nt with
 | false=>rw[hb0]at h;cases h
 | true=>
   rw[hb0]at h;have hnt:S.tm.length=n.nt:=by simpa using hb0
   simp only[cond_true]at h;cases hb:(wM k (GA k n.fuel (kT k (liftAll {S with tm:=Bl n.nt n.live (oF S.tm n.live)} n.lifts) n.cells)) (kT k (liftAll {S with tm:=Bl n.nt n.live (oF S.tm n.live)} n.lifts) n.cells)&&beq (kT k (liftAll {S with tm:=Bl n.nt n.live (oF S.tm n.live)} n.lifts) n.cells).tm.length n.nt)with
   | false=>rw[hb]at h;cases h
   | true=>
     rw[hb]at h;simp only[cond_true,fu]at h;subst h;simp only[bI,Nat.beq_eq]at hb;have h0:=Weak.live (k:=k) (S:=S) n.live;rw[hnt]at h0;have h1:=(h0.trans (Cq k n.lifts _)).trans (yC k n.cells _);have h2:=h1.trans (Weak.canon _ hb.1);refine h2.trans ?_;have h3:=Weak.live (k:=k) (S:=lZ (GA k n.fuel (kT k (liftAll {S with tm:=Bl n.nt n.live (oF S.tm n.live)} n.lifts) n.cells)) (kT k (liftAll {S with tm:=Bl n.nt n.live (oF S.tm n.live)} n.lifts) n.cells)) n.live;have hlen:(lZ (GA k n.fuel (kT k (liftAll {S with tm:=Bl n.nt n.live (oF S.tm n.live)} n.lifts) n.cells)) (kT k (liftAll {S with tm:=Bl n.nt n.live (oF S.tm n.live)} n.lifts) n.cells)).tm.length=n.nt:=by
      unfold lZ;rw[Qw];exact hb.2
     rw[hlen]at h3;unfold eY;simpa[lZ]using h3
inductive bX:List (Option gJ)→List (Option gJ)→Prop
 | nil:bX [] []
 | cons {e e':Option gJ} {l l':List (Option gJ)}:pR e e'→bX l l'→bX (e::l) (e'::l')
theorem bX.refl: ∀(l:List (Option gJ)),bX l l
 | []=> .nil
 | e::l=> .cons (.refl e) (bX.refl l)
theorem bX.len{l l':List (Option gJ)}(h:bX l l'):l.length=l'.length∧ ∀s,pR (l.getD s none) (l'.getD s none):=by
 induction h with
 | nil=>exact⟨rfl,λs=> .refl _⟩
 | cons h _ ih=>
   refine⟨by simp[ih.1],λs=> ?_⟩;cases s with
   | zero=>simpa using h
   | succ s=>simpa using ih.2 s
theorem bX.weak{k:Nat}{n:Norm}{vs:List AV}{l l':List (Option gJ)}(h:bX l l'):Weak k (eY n (vs,l)) (eY n (vs,l')):=
 Weak.eqv rfl h.len.1 h.len.2
section
variable{P:Program}{Γ:FuncId→Option Spec}{L:Nat→Option (St→Tr (Ex×St))}{N k id:Nat}{body:Code}
def LJ(P:Program)(Γ:FuncId→Option Spec)(L:Nat→Option (St→Tr (Ex×St)))(N k id:Nat)(body:Code)(Q:Ex×St→Prop):Nat→St→Prop
 | 0,_=>False
 | n+1,S=>(exec P Γ L N body S).sat λp=>
   match p.1 with
   | .normal=> ∃S2,Weak k p.2 S2∧LJ P Γ L N k id body Q n S2
   | .exit j=> ∃S2,Weak k p.2 S2∧Q (bif beq j id then .normal else .exit j,S2)
   | .ret=> ∃S2,Weak k p.2 S2∧Q (.ret,S2)
theorem Ct{ro:Option Nat}(hm:P.follows .mixedOrders=true)(hΓ: ∀f s,Γ f=some s→aH P f s){C:Ctx}(hC:C.Ok)(hk:C.k=k)(hl:bB P k L body){Q:Ex×St→Prop}:
  ∀(n:Nat) (S:St) (B:dI) (a:Act) (w:World),LJ P Γ L N k id body Q n S→Holds C B S a w→Code.roundsIn (Fence.PN ro) 0 P body (Exit.inBlock id (Am C Q)) n a w
 | 0,S,B,a,w,h,H=>h.elim
 | n+1,S,B,a,w,h,H=>by
   unfold LJ at h;refine oq ?_ (eU hm (y9 hΓ _) hC body (by rw[hk];exact hl) _ S B a w h H);rintro e a' w' ⟨ex,S',B',rfl,H',hq⟩;cases ex with
   | normal=>
     obtain⟨S2,hw,hr⟩:=hq;obtain⟨B2,H2⟩:=hw C B' a' w' hk H';exact Ct hm hΓ hC hk hl n S2 B2 a' w' hr H2
   | exit j=>
     obtain⟨S2,hw,hr⟩:=hq;obtain⟨B2,H2⟩:=hw C B' a' w' hk H'
     show Exit.inBlock id (Am C Q) (.exit j) a' w'
     unfold Exit.inBlock;by_cases hj:j=id
     ·subst hj
      simp only[Nat.beq_refl,cond_true]at hr;simp only[if_pos rfl];exact⟨.normal,S2,B2,rfl,H2,hr⟩
     ·rw[beq_false hj]at hr
      simp only[cond_false]at hr;simp only[if_neg hj];exact⟨.exit j,S2,B2,rfl,H2,hr⟩
   | ret=>
     obtain⟨S2,hw,hr⟩:=hq;obtain⟨B2,H2⟩:=hw C B' a' w' hk H';exact⟨.ret,S2,B2,rfl,H2,hr⟩
theorem NH(hm:P.follows .mixedOrders=true)(hΓ: ∀f s,Γ f=some s→aH P f s)(hl:bB P k L body){g:St→Tr (Ex×St)}
  (h: ∀(Q:Ex×St→Prop) (S:St),(g S).sat Q→ ∃n S2,Weak k S S2∧LJ P Γ L N k id body Q n S2):ou P k id (.loop body) g:=by
 intro ro C hC hk Q S B a w hg H;obtain⟨n,S2,hw,hr⟩:=h Q S hg;obtain⟨B2,H2⟩:=hw C B a w hk H;exact wpIn_block (wpIn_loop_rounds n (Ct hm hΓ hC hk hl n S2 B2 a w hr H2))
def bW(d:Nat→Bool):Code→List (Nat×Code)
 | .seq a b=>bW d a++bW d b
 | .cond _ a b=>bW d a++bW d b
 | .block id body=>bif d id then [(id,body)]else bW d body
 | .loop body=>bW d body
 | .scope body=>bW d body
 | _=> []
def aR(id:Nat):Code→Code
 | .seq a b=>match aR id a with | .skip=>aR id b|c=>c
 | .cond _ a b=>match aR id a with | .skip=>aR id b|c=>c
 | .block j body=>bif beq j id then(match body with | .loop b=>b | _=> .skip)else aR id body
 | .loop body=>aR id body
 | .scope body=>aR id body
 | _=> .skip
def codeOf(fn:Func):Code:=fn.body.getD .skip
theorem eP{P:Program}{k:Nat}{L:Nat→Option (St→Tr (Ex×St))}{d:Nat→Bool}(hd: ∀id,d id=(L id).isSome): ∀(c:Code),(∀p∈bW d c, ∀g,L p.1=some g→ou P k p.1 p.2 g)→bB P k L c
 | .seq a b,h=>⟨eP hd a λp hp=>h p (by simp[bW,hp]),eP hd b λp hp=>h p (by simp[bW,hp])⟩
 | .cond _ a b,h=>⟨eP hd a λp hp=>h p (by simp[bW,hp]),eP hd b λp hp=>h p (by simp[bW,hp])⟩
 | .block id body,h=>by
   unfold bB;cases hg:L id with
   | some g=>exact h (id,body) (by simp[bW,hd,hg]) g hg
   | none=>exact eP hd body λp hp=>h p (by simpa[bW,hd,hg]using hp)
 | .loop body,h=>eP hd body h
 | .scope body,h=>eP hd body h
 | .skip,_=>trivial
 | .region ..,_=>trivial
 | .rangeFunc ..,_=>trivial
 | .exit _,_=>trivial
 | .label _,_=>trivial
 | .goto _,_=>trivial
 | .ret,_=>trivial
 | .refuse _,_=>trivial
theorem dW.oD: ∀(live:List Nat) {vs vs' tm tm':List AV},dW vs vs'→tm.length=tm'.length→(∀t,bL (tm.getD t .any) (tm'.getD t .any))→
  (bA.oD tm live vs).length=(bA.oD tm' live vs').length∧ ∀t,bL ((bA.oD tm live vs).getD t .any) ((bA.oD tm' live vs').getD t .any)
 | [],vs,vs',tm,tm',h,hl,ht=>by
   cases h<;>exact⟨hl,ht⟩
 | t0::live,vs,vs',tm,tm',h,hl,ht=>by
   cases h with
   | nil=>exact⟨hl,ht⟩
   | cons h1 h2=>
     rename_i x y l m;unfold bA.oD;refine dW.oD live h2 (by simpa using hl) λt=> ?_
     by_cases hit:t0=t
     ·subst hit
      by_cases hlt:t0<tm.length
      ·have e1:(tm.set t0 x).getD t0 .any=x:=by simp[dJ,List.getElem?_set_self hlt]
       have e2:(tm'.set t0 y).getD t0 .any=y:=by simp[dJ,List.getElem?_set_self (show t0<tm'.length by omega)]
       rw[e1,e2];exact h1
      ·have e1:(tm.set t0 x).getD t0 .any= .any:=by
        have hge:(tm.set t0 x).length≤t0:=by rw[List.length_set];omega
        simp only[dJ,List.getElem?_eq_none hge,Option.getD_none]
       have e2:(tm'.set t0 y).getD t0 .any= .any:=by
        have hge:(tm'.set t0 y).length≤t0:=by rw[List.length_set];omega
        simp only[dJ,List.getElem?_eq_none hge,Option.getD_none]
       rw[e1,e2];exact bL.refl _
     ·have e1:(tm.set t0 x).getD t .any=tm.getD t .any:=by simp[dJ,List.getElem?_set_ne hit]
      have e2:(tm'.set t0 y).getD t .any=tm'.getD t .any:=by simp[dJ,List.getElem?_set_ne hit]
      rw[e1,e2];exact ht t
theorem dW.weak{k:Nat}{n:Norm}{vs vs':List AV}{l:List (Option gJ)}(h:dW vs vs'):Weak k (eY n (vs,l)) (eY n (vs',l)):=λC B a w hk H=>by
 have hs:=dW.oD n.live h (tm:=List.replicate n.nt .any) (tm':=List.replicate n.nt .any) rfl (λ_=>bL.refl _);refine⟨B,{H with size:=by rw[H.size];exact hs.1,tm:=λt ht=> ?_}⟩;exact hs.2 t _ _ _ _ (H.tm t (by have:=hs.1;unfold eY Bl at ht⊢;simp only at ht⊢;omega))
structure bC (X R:Type) where
 nIn:Norm
 qF:Norm
 head:X→List AV×List (Option gJ)
 take:List AV×List (Option gJ)→Option (X×List Bool)
 out:R→Ex×(List AV×List (Option gJ))
 iC:Ex×(List AV×List (Option gJ))→Option (R×List Bool)
 res:X→R
 pre:X→Bool
 split:R→Tr R:= .ret
namespace bC
variable{X R:Type}(l:bC X R)
def g(k:Nat)(S:St):Tr (Ex×St):=
 match norm k l.nIn S with
 | some q=>
   match l.take q with
   | some (x,cs)=>Tr.needs cs (.need (l.pre x) ((l.split (l.res x)).bind λr=> .ret ((l.out r).1,eY l.qF (l.out r).2)))
   | none=> .fail "head"
 | none=> .fail "norm"
def afG(k:Nat)(e:Ex)(S:St):Tr (X ⊕ R):=
 match norm k l.qF S with
 | some q=>
   match l.iC (e,q)with
   | some (r,cs)=>Tr.needs cs (.ret (.inr r))
   | none=> .fail "out"
 | none=> .fail "normOut"
def fin(k id:Nat)(p:Ex×St):Tr (X ⊕ R):=
 match p.1 with
 | .normal=>
   match norm k l.nIn p.2 with
   | some q=>
     match l.take q with
     | some (x,cs)=>Tr.needs cs (.ret (.inl x))
     | none=> .fail "next"
   | none=> .fail "normNext"
 | .exit j=>l.afG k (bif beq j id then .normal else .exit j) p.2
 | .ret=>l.afG k .ret p.2
structure Good:Prop where
 take: ∀q x cs,l.take q=some (x,cs)→(∀p∈cs,p)→q.1=(l.head x).1∧bX q.2 (l.head x).2
 iC: ∀e q r cs,l.iC (e,q)=some (r,cs)→(∀p∈cs,p)→e=(l.out r).1∧q.1=(l.out r).2.1∧bX q.2 (l.out r).2.2
 split: ∀r (Q:R→Prop),(l.split r).sat Q→Q r
structure gH:Prop where
 take: ∀q x cs,l.take q=some (x,cs)→(∀p∈cs,p)→dW q.1 (l.head x).1∧bX q.2 (l.head x).2
 iC: ∀e q r cs,l.iC (e,q)=some (r,cs)→(∀p∈cs,p)→e=(l.out r).1∧dW q.1 (l.out r).2.1∧bX q.2 (l.out r).2.2
 split: ∀r (Q:R→Prop),(l.split r).sat Q→Q r
theorem Good.two{l:bC X R}(h:l.Good):l.gH where
 take:=λq x cs hq hc=>⟨by rw[(h.take q x cs hq hc).1];exact dW.refl _,(h.take q x cs hq hc).2⟩
 iC:=λe q r cs hq hc=>⟨(h.iC e q r cs hq hc).1,by rw[(h.iC e q r cs hq hc).2.1];exact dW.refl _,(h.iC e q r cs hq hc).2.2⟩
 split:=h.split
end bC
def aS{X R:Type}(step:X→Tr (X ⊕ R))(Q:R→Prop):Nat→X→Prop
 | 0,_=>False
 | n+1,x=>(step x).sat fun
   | .inl x'=>aS step Q n x'
   | .inr r=>Q r
theorem bC.LK{X R:Type}{l:bC X R}(hg:l.gH){e:Ex}{S:St}{Q:X ⊕ R→Prop}(h:(l.afG k e S).sat Q):
  ∃r,Q (.inr r)∧e=(l.out r).1∧Weak k S (eY l.qF (l.out r).2):=by
 unfold bC.afG at h
 split at h
 ·rename_i q hq
  split at h
  ·rename_i r cs hr
   obtain⟨hc,h⟩:=Tr.dR h;obtain⟨h1,h2,h3⟩:=hg.iC e q r cs hr hc;refine⟨r,h,h1,(Et hq).trans ?_⟩;exact(bX.weak (k:=k) (n:=l.qF) (vs:=q.1) h3).trans (dW.weak h2)
  ·exact h.elim
 ·exact h.elim
theorem bC.runs{X R:Type}{l:bC X R}(hg:l.gH){step:X→Tr (X ⊕ R)}(hs: ∀x,(exec P Γ L N body (eY l.nIn (l.head x))).bind (l.fin k id)=step x){Q:R→Prop}{Q2:Ex×St→Prop}
  (hQ: ∀r,Q r→Q2 ((l.out r).1,eY l.qF (l.out r).2)): ∀(n:Nat) (x:X),aS step Q n x→LJ P Γ L N k id body Q2 n (eY l.nIn (l.head x))
 | 0,x,h=>h.elim
 | n+1,x,h=>by
   unfold aS at h;rw[←hs x]at h;unfold LJ;refine Tr.aZ ?_ (Tr.cK h);rintro⟨e,S⟩ hq;cases e with
   | normal=>
     simp only[bC.fin]at hq⊢
     split at hq
     ·rename_i q hn
      split at hq
      ·rename_i x' cs ht
       obtain⟨hc,hq⟩:=Tr.dR hq;obtain⟨h1,h2⟩:=hg.take q x' cs ht hc;refine⟨eY l.nIn (l.head x'),(Et hn).trans ?_,bC.runs hg hs hQ n x' hq⟩;exact(bX.weak (k:=k) (n:=l.nIn) (vs:=q.1) h2).trans (dW.weak h1)
      ·exact hq.elim
     ·exact hq.elim
   | exit j=>
     simp only[bC.fin]at hq⊢;obtain⟨r,h1,h2,h3⟩:=bC.LK hg hq;exact⟨_,h3,by rw[h2];exact hQ r h1⟩
   | ret=>
     simp only[bC.fin]at hq⊢;obtain⟨r,h1,h2,h3⟩:=bC.LK hg hq;exact⟨_,h3,by rw[h2];exact hQ r h1⟩
theorem bC.PO{X R:Type}(hm:P.follows .mixedOrders=true)(hΓ: ∀f s,Γ f=some s→aH P f s)(hl:bB P k L body){l:bC X R}(hg:l.gH){step:X→Tr (X ⊕ R)}
  (hs: ∀x,(exec P Γ L N body (eY l.nIn (l.head x))).bind (l.fin k id)=step x) (hr: ∀x,l.pre x=true→ ∃n,aS step (· =l.res x) n x):ou P k id (.loop body) (l.g k):=by
 refine NH (N:=N) hm hΓ hl λQ S h=> ?_
 unfold bC.g at h
 split at h
 ·rename_i q hq
  split at h
  ·rename_i x cs ht
   obtain⟨hc,hp,h⟩:=Tr.dR h;obtain⟨h1,h2⟩:=hg.take q x cs ht hc;obtain⟨n,hn⟩:=hr x hp;refine⟨n,eY l.nIn (l.head x),(Et hq).trans ?_,bC.runs hg hs (λr hr=> ?_) n x hn⟩
   ·exact(bX.weak (k:=k) (n:=l.nIn) (vs:=q.1) h2).trans (dW.weak h1)
   ·subst hr
    exact hg.split _ _ (Tr.cK (h hp))
  ·exact h.elim
 ·exact h.elim
theorem bC.ok{X R:Type}(hm:P.follows .mixedOrders=true)(hΓ: ∀f s,Γ f=some s→aH P f s)(hl:bB P k L body){l:bC X R}(hg:l.Good){step:X→Tr (X ⊕ R)}
  (hs: ∀x,(exec P Γ L N body (eY l.nIn (l.head x))).bind (l.fin k id)=step x) (hr: ∀x,l.pre x=true→ ∃n,aS step (· =l.res x) n x):ou P k id (.loop body) (l.g k):=
 bC.PO hm hΓ hl hg.two hs hr
end
end Go.bA
namespace Go.bA
open Go.RowKit
structure dx where
 val:AV
 outs:List (Option gJ)
 new:Option gJ:=none
 conds:List Bool:=[]
abbrev iD:=List (Option gJ)→List AV→Option dx
def Eu:List Nat→List (Option gJ)→List (Nat×Option gJ)
 | x::ids,e::es=>(x,e)::Eu ids es
 | _,_=> []
def uM(ids:List Nat)(slot i:Nat):Nat:=bif Nat.blt i ids.length then ids.getD i 0 else slot
def kF(m:Mem)(args:List AV):List Nat:=reach m 3 (yB [] (mM args))
def eB(K:iD):Spec:=λslot m args=>
 let ids:=kF m args
 bif nodupB ids&&rz m ids&&(mM args).all (vD ids)&&(ids.all λs=>(m s).isSome)&& !vD ids slot then
  match K (ids.map λs=>(m s).map (tC (pos ids))) (Cj (pos ids) args)with
  | some o=>
    bif beq o.outs.length ids.length then
     some {val:=afF (uM ids slot) o.val,upd:=Eu ids (o.outs.map λe=>e.map (tC (uM ids slot)))++[(slot,o.new.map (tC (uM ids slot)))],conds:=o.conds,reads:=ids}
    else none
  | none=>none
 else none
abbrev Gl:Act:={tmps:= #[],defers:=[]}
abbrev mJ(m:List (Option gJ))(nx:Nat):St:={tm:=[],mem:=fD m,nx:=nx}
structure fF (P:Program) (f:FuncId) (K:iD):Prop where
 sound: ∀ents args o (C:Ctx) (B:dI) (w:World) (vs:List Value),K ents args=some o→C.Ok→C.k=ents.length→Holds C B (mJ ents ents.length) Gl w→
  dN (aU C.A0 B (fD ents)) B w args vs→(∀p∈o.conds,p)→
  gF P f vs.toArray w λe w'=> ∃v B',e= .returned v∧Holds C B' (mJ (o.outs++[o.new]) (ents.length+1)) Gl w'∧aV (aU C.A0 B' (fD (o.outs++[o.new]))) B' w' o.val v
theorem IY: ∀(l acc:List Nat) (x:Nat),x∈acc→x∈yB acc l
 | [],acc,x,h=>h
 | y::l,acc,x,h=>by
   simp only[yB];refine IY l _ x ?_;cases vD acc y
   ·exact List.mem_append_left _ h
   ·exact h
theorem yD(m:Mem): ∀(l acc:List Nat) (x:Nat),x∈acc→x∈wK m acc l
 | [],acc,x,h=>h
 | s::l,acc,x,h=>by
   simp only[wK];refine yD m l _ x ?_;cases m s with
   | none=>exact h
   | some e=>exact IY _ _ x h
theorem LM(m:Mem): ∀(n:Nat) (acc:List Nat) (x:Nat),x∈acc→x∈reach m n acc
 | 0,acc,x,h=>h
 | n+1,acc,x,h=>LM m n _ x (yD m acc acc x h)
theorem Ap{m m':Mem}: ∀(l acc:List Nat),(∀s∈l,m' s=m s)→wK m' acc l=wK m acc l
 | [],acc,h=>rfl
 | s::l,acc,h=>by
   simp only[wK];rw[h s (by simp)];exact Ap l _ λt ht=>h t (by simp[ht])
theorem FT{m m':Mem}: ∀(n:Nat) (acc:List Nat),(∀s∈reach m n acc,m' s=m s)→reach m' n acc=reach m n acc
 | 0,acc,h=>rfl
 | n+1,acc,h=>by
   simp only[reach]at h⊢;rw[Ap acc acc λs hs=>h s (LM m n _ s (yD m acc acc s hs))];exact FT n _ h
theorem l7{ids:List Nat}{i:Nat}(hi:i<ids.length):ids.getD i 0∈ids:=by
 rw[dJ,List.getElem?_eq_getElem hi];exact List.getElem_mem hi
theorem Cu: ∀(ids:List Nat) (es:List (Option gJ)) (m:Mem) (j:Nat),ids.Nodup→es.length=ids.length→
  bV m (Eu ids es) j=if j∈ids then es.getD (pos ids j) none else m j
 | [],es,m,j,_,_=>by simp[Eu,bV]
 | x::ids,[],m,j,_,h=>by simp at h
 | x::ids,e::es,m,j,hn,h=>by
   obtain⟨hx,hn⟩:=List.nodup_cons.1 hn;simp only[Eu,bV];rw[Cu ids es _ j hn (by simpa using h)];by_cases hj:j∈ids
   ·have hne:x≠j:=by rintro rfl;exact hx hj
    simp[hj,pos,beq_false hne]
   ·by_cases hxj:j=x
    ·subst hxj
     simp[hj,pos,bF]
    ·simp[hj,hxj,bF]
theorem Gm(m:Mem): ∀(l k:List (Nat×Option gJ)),bV m (l++k)=bV (bV m l) k:=by
 intro l
 induction l generalizing m with
 | nil=>intro k;rfl
 | cons p l ih=>intro k;obtain⟨s,e⟩:=p;simp only[List.cons_append,bV];exact ih _ k
theorem ug{l:List (Option gJ)}{e:Option gJ}{i:Nat}(hi:i<l.length):fD (l++[e]) i=l.getD i none:=by
 simp[fD,dJ,List.getElem?_append_left hi]
theorem sF{l:List (Option gJ)}{e:Option gJ}:fD (l++[e]) l.length=e:=by
 simp[fD,dJ]
theorem Cw{l:List (Option gJ)}{e:Option gJ}{i:Nat}(hi:l.length<i):fD (l++[e]) i=none:=by
 simp[fD,dJ,List.getElem?_eq_none (show(l++[e]).length≤i by simp;omega)]
theorem Cx(K:iD):su (eB K):=by
 intro slot m m' args r hr hk;unfold eB at hr⊢;simp only[]at hr⊢;have hreads:r.reads=kF m args:=by
  cases hb:(nodupB (kF m args)&&rz m (kF m args)&&(mM args).all (vD (kF m args))&&((kF m args).all λs=>(m s).isSome)&& !vD (kF m args) slot)with
  | false=>rw[hb]at hr;cases hr
  | true=>
    rw[hb]at hr;simp only[cond_true]at hr
    split at hr
    ·rename_i o ho
     cases hl:beq o.outs.length (kF m args).length with
     | false=>rw[hl]at hr;cases hr
     | true=>rw[hl]at hr;simp only[cond_true,fu]at hr;rw[←hr]
    ·cases hr
 rw[hreads]at hk;have TK:kF m' args=kF m args:=FT 3 _ hk;have hmap:((kF m args).map λs=>(m' s).map (tC (pos (kF m args))))=(kF m args).map λs=>(m s).map (tC (pos (kF m args))):=
  List.map_congr_left λs hs=>by rw[hk s hs]
 have hclosed:rz m' (kF m args)=rz m (kF m args):=by
  unfold rz;rw[Bool.eq_iff_iff,List.all_eq_true,List.all_eq_true];constructor
  ·intro h s hs;have:=h s hs;rw[hk s hs]at this;exact this
  ·intro h s hs;have:=h s hs;rw[hk s hs];exact this
 have hsome:((kF m args).all λs=>(m' s).isSome)=(kF m args).all λs=>(m s).isSome:=by
  rw[Bool.eq_iff_iff,List.all_eq_true,List.all_eq_true];constructor
  ·intro h s hs;have:=h s hs;rw[hk s hs]at this;exact this
  ·intro h s hs;have:=h s hs;rw[hk s hs];exact this
 rw[TK,hmap,hclosed,hsome];exact hr
theorem Aq{K:iD}{D:Array Value→World→(Ending→World→Prop)→Prop}(hD: ∀{vs:Array Value}{w:World}{R R':Ending→World→Prop},D vs w R→(∀e w',R e w'→R' e w')→D vs w R')
  {C:Ctx} {I:World→Prop} (h: ∀ents args o (C':Ctx) (B:dI) (w:World) (vs:List Value),K ents args=some o→C'.Ok→C'.k=ents.length→C'.w0=w→(∀b,C.A0 b→C'.A0 b)→I w→Holds C' B (mJ ents ents.length) Gl w→
   dN (aU C'.A0 B (fD ents)) B w args vs→(∀p∈o.conds,p)→
   D vs.toArray w λe w'=> ∃v B',e= .returned v∧Holds C' B' (mJ (o.outs++[o.new]) (ents.length+1)) Gl w'∧aV (aU C'.A0 B' (fD (o.outs++[o.new]))) B' w' o.val v)
  (slot:Nat) (args:List AV) (r:Eff) (B:dI) (S:St) (a:Act) (w:World) (vs:List Value) (hr:eB K slot S.mem args=some r) (hC:C.Ok) (H:Holds C B S a w) (hI:I w) (hs:B slot=none) (hnx:Between C S slot) (hc: ∀p∈r.conds,p)
  (hv:dN (aU C.A0 B S.mem) B w args vs):D vs.toArray w λe w'=> ∃v B',e= .returned v∧Holds C B' {S with mem:=bV S.mem r.upd} a w'∧
   aV (aU C.A0 B' (bV S.mem r.upd)) B' w' r.val v∧ ∀j,j≠slot→B' j=B j:=by
 unfold eB at hr;simp only[]at hr;generalize TK:kF S.mem args=ids at hr;cases hb:(nodupB ids&&rz S.mem ids&&(mM args).all (vD ids)&&(ids.all λs=>(S.mem s).isSome)&& !vD ids slot)with
 | false=>rw[hb]at hr;cases hr
 | true=>
 rw[hb]at hr;simp only[cond_true]at hr;simp only[bI,Bool.not_eq_true']at hb;obtain⟨⟨⟨⟨hnd,hcl⟩,Uc⟩,hlive⟩,WX⟩:=hb;have hnd:=Cn hnd;have WX:slot∉ids:=λh=>by rw[Cm.2 h]at WX;cases WX
 have hlive: ∀s∈ids, ∃e,S.mem s=some e:=λs hs=>Option.isSome_iff_exists.1 (List.all_eq_true.1 hlive s hs)
 split at hr
 case h_2=>cases hr
 rename_i o ho;cases hl:beq o.outs.length ids.length with
 | false=>rw[hl]at hr;cases hr
 | true=>
 rw[hl]at hr;simp only[cond_true,fu]at hr;subst hr;have hlen:o.outs.length=ids.length:=by simpa using hl
 let ents:List (Option gJ):=ids.map λs=>(S.mem s).map (tC (pos ids))
 have hel:ents.length=ids.length:=by simp[ents]
 let X':Nat→Prop:=viewed B S.mem ids
 let A0':Nat→Prop:=λb=>aU C.A0 B S.mem b∧ ¬X' b
 let C':Ctx:=⟨A0',X',w,ids.length,B.at ids⟩
 have aa2: ∀b,X' b→aU C.A0 B S.mem b:=λb ⟨s,_,e,h1,h2⟩=> .inr ⟨s,e,h1,h2⟩
 have hC':C'.Ok:=⟨λb hb=>Tw hC H b hb.1,λb hb=>Tw hC H b (aa2 b hb),λb hb hx=>hb.2 hx⟩
 have hA: ∀b,aU A0' (B.at ids) (fD ents) b→aU C.A0 B S.mem b:=by
  rintro b (h|⟨s,e,h1,h2⟩)
  ·exact h.1
  ·obtain⟨hs,hg⟩:=nJ h1
   simp only[Option.map_eq_some_iff]at hg;obtain⟨e',he',_⟩:=hg;simp only[dI.at,hs,if_true]at h2;exact .inr ⟨_,e',he',h2⟩
 have H0:Holds C' (B.at ids) (mJ ents ents.length) Gl w:=by
  refine{defers:=rfl,size:=rfl,tm:=λt ht=>absurd ht (Nat.not_lt_zero t),mem:=?_,inj:=?_,kept:=Kept.refl _ _,old:=?_,fresh:=?_,base:=λs _=>rfl,sW:=by simp[mJ,hel,C']}
  ·intro s e he
   obtain⟨hs,hg⟩:=nJ he;simp only[Option.map_eq_some_iff]at hg;obtain⟨e',he',rfl⟩:=hg;have hBs:B.at ids s=B (ids.getD s 0):=by simp[dI.at,hs]
   rcases H.mem _ _ he' with⟨β,h1,h2⟩|⟨h1,h2⟩
   ·refine .inl ⟨β,by rw[hBs];exact h1,IQ hA h2 λt ht γ hγ=>ND ?_ hγ⟩
    have:=List.all_eq_true.1 hcl _ (l7 hs);rw[he']at this;exact List.all_eq_true.1 this t ht
   ·exact .inr ⟨by rw[hBs];exact h1,Bj h2⟩
  ·intro s s' e e' β h1 h2 h3 h4
   obtain⟨hs,hg⟩:=nJ h1;obtain⟨hs',hg'⟩:=nJ h2;simp only[Option.map_eq_some_iff]at hg hg';obtain⟨e1,he1,_⟩:=hg;obtain⟨e2,he2,_⟩:=hg';simp only[dI.at,hs,hs',if_true]at h3 h4;have:=H.inj _ _ _ _ β he1 he2 h3 h4;rw[←Co hnd hs, ←Co hnd hs',this]
  ·intro s β h
   unfold dI.at at h;by_cases hs:s<ids.length
   ·simp only[hs,if_true]at h
    obtain⟨e,he⟩:=hlive _ (l7 hs);exact⟨.inr ⟨_,l7 hs,e,he,h⟩,(H.old _ _ h).2⟩
   ·simp[hs]at h
  ·intro s hs
   have: ¬s<ids.length:=by simp only[mJ,hel]at hs;omega
   simp[dI.at,this]
 have hargs:dN (aU C'.A0 (B.at ids) (fD ents)) (B.at ids) w (Cj (pos ids) args) vs:=
  sD hA args vs hv λs hs β hβ=>ND (List.all_eq_true.1 Uc s hs) hβ
 have aa3: ∀b,X' b→C.w0.heap.size≤b∨C.X b:=λb ⟨s,_,e,_,h2⟩=>(H.old s b h2).1
 have apS: ∀b,C.A0 b→ ¬X' b:=λb hb hx=>by
  rcases aa3 b hx with h|h
  ·exact absurd (hC.a0 b hb) (Nat.not_lt.2 h)
  ·exact hC.Il b hb h
 refine hD (h ents _ o C' (B.at ids) w vs ho hC' hel.symm rfl (λb hb=>⟨.inl hb,apS b hb⟩) hI H0 hargs hc) ?_;rintro e w' ⟨v,B',rfl,H',hrel⟩;rw[hel]at H'
 let B2:dI:=λj=>if j=slot then B' ids.length else B j
 let Ar:=o.outs.map λe=>e.map (tC (uM ids slot))
 let mem2:Mem:=bV S.mem (Eu ids Ar++[(slot,o.new.map (tC (uM ids slot)))])
 have hm2: ∀j,mem2 j=if j=slot then o.new.map (tC (uM ids slot))else if j∈ids then Ar.getD (pos ids j) none else S.mem j:=by
  intro j
  show bV _ _ j=_
  rw[Gm];simp only[bV,bF];by_cases hj:j=slot
  ·simp[hj]
  ·simp only[hj,if_false]
   exact Cu ids Ar S.mem j hnd (by simp[Ar,hlen])
 have hbase: ∀i,i<ids.length→B' i=B (ids.getD i 0):=λi hi=>by
  have:=H'.base i hi;simpa[C',dI.at,hi]using this
 have hback: ∀i β,B' i=some β→B2 (uM ids slot i)=some β:=by
  intro i β hi;rcases Nat.lt_trichotomy i ids.length with h|h|h
  ·have hne:ids.getD i 0≠slot:=λhe=>WX (he ▸ l7 h)
   have hbt:Nat.blt i ids.length=true:=by rw[Nat.blt_eq];exact h
   simp only[uM,hbt,cond_true,B2,hne,if_false];rw[←hbase i h];exact hi
  ·subst h
   have hbt:Nat.blt ids.length ids.length=false:=by
    cases hb:Nat.blt ids.length ids.length
    ·rfl
    ·rw[Nat.blt_eq]at hb;omega
   simp only[uM,hbt,cond_false,B2,if_true];exact hi
  ·have:=H'.fresh i (by simp only[mJ];omega)
   rw[this]at hi;cases hi
 have hBB: ∀s β,B s=some β→B2 s=some β:=by
  intro s β h;have:s≠slot:=by rintro rfl;rw[hs]at h;cases h
  simp only[B2,this,if_false];exact h
 have hidx: ∀j,j∈ids→pos ids j<ids.length∧ids.getD (pos ids j) 0=j:=λj hj=>Ck (Cm.2 hj)
 have hcase: ∀j e,mem2 j=some e→(∃i e',(if i=ids.length then j=slot else i<ids.length∧j=ids.getD i 0)∧fD (o.outs++[o.new]) i=some e'∧e=tC (uM ids slot) e'∧B2 j=B' i)∨
   (j≠slot∧j∉ids∧S.mem j=some e∧B2 j=B j):=by
  intro j e he;rw[hm2]at he;by_cases hj:j=slot
  ·simp only[hj,if_true,Option.map_eq_some_iff]at he
   obtain⟨e',he',rfl⟩:=he;exact .inl ⟨ids.length,e',by simp[hj],by rw[←hlen,sF];exact he',rfl,by simp[B2,hj]⟩
  ·simp only[hj,if_false]at he
   by_cases hji:j∈ids
   ·obtain⟨h1,h2⟩:=hidx j hji
    simp only[hji,if_true,Ar]at he;rw[dJ,List.getElem?_map]at he;have h3:pos ids j<o.outs.length:=by omega
    rw[List.getElem?_eq_getElem h3]at he;simp only[Option.map_some,Option.getD_some,Option.map_eq_some_iff]at he;obtain⟨e',he',rfl⟩:=he;refine .inl ⟨pos ids j,e',?_,?_,rfl,?_⟩
    ·rw[if_neg (by omega)];exact⟨h1,h2.symm⟩
    ·rw[ug h3,dJ,List.getElem?_eq_getElem h3];exact he'
    ·simp only[B2,hj,if_false];rw[hbase _ h1,h2]
   ·simp only[hji,if_false]at he
    exact .inr ⟨hj,hji,he,by simp[B2,hj]⟩
 have WY: ∀j e b,S.mem j=some e→B j=some b→j∉ids→ ¬X' b:=λj e b h1 h2 h3 ⟨s,h4,e',h5,h6⟩=>h3 (H.inj j s e e' b h1 h5 h2 h6 ▸ h4)
 have hown1: ∀b,b<w.heap.size→aU C.A0 B2 mem2 b→aU C.A0 B S.mem b:=by
  rintro b hb (h|⟨j,e,h1,h2⟩)
  ·exact .inl h
  ·rcases hcase j e h1 with⟨i,e',_,_,_,h6⟩|⟨_,_,h5,h6⟩
   ·rw[h6]at h2
    rcases(H'.old i b h2).1 with h|h
    ·exact absurd hb (Nat.not_lt.2 h)
    ·exact aa2 b h
   ·rw[h6]at h2;exact .inr ⟨j,e,h5,h2⟩
 have hown2: ∀b,aU C.A0 B2 mem2 b→aU C'.A0 B' (fD (o.outs++[o.new])) b:=by
  rintro b (h|⟨j,e,h1,h2⟩)
  ·exact .inl ⟨.inl h,apS b h⟩
  ·rcases hcase j e h1 with⟨i,e',_,h4,_,h6⟩|⟨_,h4,h5,h6⟩
   ·rw[h6]at h2;exact .inr ⟨i,e',h4,h2⟩
   ·rw[h6]at h2;exact .inl ⟨.inr ⟨j,e,h5,h2⟩,WY j e b h5 h2 h4⟩
 have hk:Kept X' w w':=H'.kept;have ht:Trans (aU C.A0 B S.mem) w w':=⟨hk.size,λb hb hn=>hk.block b hb λhx=>hn (aa2 b hx),λb _ D t fz hD=>hk.rows b D t fz hD⟩
 refine⟨v,B2,rfl,?_,Qx hown2 o.val v hrel λs _ β hβ=>hback s β hβ,λj hj=>by simp[B2,hj]⟩;refine{defers:=H.defers,size:=H.size,tm:=λt h=>(H.tm t h).trans ht hown1 hBB,mem:=?_,inj:=?_,kept:=?_,old:=?_,fresh:=?_,base:=?_,sW:=H.sW}
 ·intro j e he
  have he:mem2 j=some e:=he
  show(∃β,B2 j=some β∧fZ (aU C.A0 B2 mem2) B2 w' e w'.heap[β]?)∨_
  rcases hcase j e he with⟨i,e',_,h4,rfl,h6⟩|⟨h3,h4,h5,h6⟩
  ·rw[h6]
   rcases H'.mem i e' h4 with⟨β,h7,h8⟩|⟨h7,h8⟩
   ·exact .inl ⟨β,h7,IQ hown2 h8 λs _ γ hγ=>hback s γ hγ⟩
   ·exact .inr ⟨h7,Bj h8⟩
  ·rw[h6]
   rcases H.mem j e h5 with⟨β,h7,h8⟩|⟨h7,h8⟩
   ·refine .inl ⟨β,h7,?_⟩
    rw[hk.block β (H.old j β h7).2 (WY j e β h5 h7 h4)];exact h8.trans ht hown1 hBB
   ·exact .inr ⟨h7,h8⟩
 ·intro j j' e e' β m1 m2 h1 h2
  have m1:mem2 j=some e:=m1;have m2:mem2 j'=some e':=m2;rcases hcase j e m1 with⟨i,e1,a1,a2,_,a4⟩|⟨a1,a2,a3,a4⟩<;>rcases hcase j' e' m2 with⟨i',e2,b1,b2,_,b4⟩|⟨b1,b2,b3,b4⟩
  ·rw[a4]at h1
   rw[b4]at h2;obtain rfl:=H'.inj i i' e1 e2 β a2 b2 h1 h2;by_cases hi:i=ids.length
   ·simp only[hi,if_true]at a1 b1;rw[a1,b1]
   ·simp only[hi,if_false]at a1 b1;rw[a1.2,b1.2]
  ·rw[a4]at h1
   rw[b4]at h2
   exfalso
   rcases(H'.old i β h1).1 with h|h
   ·exact absurd (H.old j' β h2).2 (Nat.not_lt.2 h)
   ·exact WY j' e' β b3 h2 b2 h
  ·rw[a4]at h1
   rw[b4]at h2
   exfalso
   rcases(H'.old i' β h2).1 with h|h
   ·exact absurd (H.old j β h1).2 (Nat.not_lt.2 h)
   ·exact WY j e β a3 h1 a2 h
  ·rw[a4]at h1
   rw[b4]at h2;exact H.inj j j' e e' β a3 b3 h1 h2
 ·refine H.kept.trans hk λi hi hx=> ?_
  rcases aa3 i hx with h|h
  ·exact absurd hi (Nat.not_lt.2 h)
  ·exact h
 ·intro s β h
  by_cases hsl:s=slot
  ·simp only[B2,hsl,if_true]at h
   obtain⟨h1,h2⟩:=H'.old _ β h;refine⟨?_,h2⟩;rcases h1 with h1|h1
   ·exact .inl (Nat.le_trans H.kept.size h1)
   ·exact aa3 β h1
  ·simp only[B2,hsl,if_false]at h
   exact⟨(H.old s β h).1,Nat.lt_of_lt_of_le (H.old s β h).2 hk.size⟩
 ·intro s hsn
  have hne:s≠slot:=by rintro rfl;exact absurd hsn (Nat.not_le.2 hnx.2)
  simp only[B2,hne,if_false];exact H.fresh s hsn
 ·intro s hsk
  have hne:s≠slot:=by rintro rfl;exact absurd hsk (Nat.not_lt.2 hnx.1)
  simp only[B2,hne,if_false];exact H.base s hsk
theorem fF.spec{P:Program}{f:FuncId}{K:iD}(h:fF P f K):aH P f (eB K) where
 look:=Cx K
 sound:=λslot args r C B S a w vs hr hC H hs hnx hc hv=>
  Aq (D:=λvs w R=>gF P f vs w R) (λh hr=>h.mono hr) (I:=λ_=>True) (λents args o C' B w vs ho hC' hk _ _ _ H hr hc=>h.sound ents args o C' B w vs ho hC' hk H hr hc)
   slot args r B S a w vs hr hC H trivial hs hnx hc hv
end Go.bA
namespace Go.bA
open Go.RowKit
def pV(ents:List (Option gJ))(args:List AV)(nt:Nat):St:={tm:=args++List.replicate (nt-args.length) (.c (.v undef)),mem:=fD ents,nx:=ents.length}
def NI(S:St)(ids:List Nat):St:={S with mem:=bV S.mem (ids.map λb=>(b,none))}
def FU(k:Nat)(S:St)(v:AV):Option dx:=
 let ids:=reach S.mem 3 (yB (List.range k) (oC v))
 bif nodupB ids&&rz S.mem ids&&(oC v).all (vD ids)&&wL 0 k ids&&Nat.ble ids.length (k+1)then
  some {val:=afF (pos ids) v,outs:=(List.range k).map λi=>(S.mem i).map (tC (pos ids)),new:=(match ids[k]? with|some s=>(S.mem s).map (tC (pos ids))|none=>none)}
 else none
def Cy(P:Program)(fn:Func)(k:Nat)(xS:Bool)(S:St):Tr dx:=
 match nY P S fn.results.toList with
 | none=> .fail "results"
 | some v=>
   bif xS then
    match FU k (NI S (qB v)) (fM S.mem v).1 with
    | some o=>Tr.needs (fM S.mem v).2 (.ret o)
    | none=> .fail "pack"
   else
    match FU k S v with
    | some o=> .ret o
    | none=> .fail "pack"
def jw(P:Program)(Γ:FuncId→Option Spec)(L:Nat→Option (St→Tr (Ex×St)))(N:Nat)(xS:Bool)(fn:Func)(ents:List (Option gJ))(args:List AV):Tr dx:=
 match fn.body with
 | none=> .fail "body"
 | some c=>(exec P Γ L N c (pV ents args fn.ntmps)).bind λ(e,S)=>
   match e with
   | .exit _=> .fail "exit"
   | _=>Cy P fn ents.length xS S
section
variable{P:Program}{Γ:FuncId→Option Spec}{L:Nat→Option (St→Tr (Ex×St))}{C:Ctx}{B:dI}{S:St}{a:Act}{w:World}
theorem freeze(hC:C.Ok)(H:Holds C B S a w){x:AV}{v:Value}(h:aV (aU C.A0 B S.mem) B w x v)(hc: ∀p∈(fM S.mem x).2,p):
  Holds C B (NI S (qB x)) a w∧aV (aU C.A0 B (NI S (qB x)).mem) B w (fM S.mem x).1 v:=by
 refine⟨Holds.drops _ S H,pK H (λb hb=> ?_) x v h (λb hb=> ?_) hc⟩
 ·rcases hb with hb|⟨t,e,h1,h2⟩
  ·exact .inl hb
  ·obtain⟨_,h4⟩:=pO (qB x) S.mem t e h1
   exact .inr ⟨t,e,h4,h2⟩
 ·rintro⟨t,ht,e,h1,h2⟩
  rcases hb with hb|⟨t',e',h3,h4⟩
  ·rcases(H.old t b h2).1 with h3|h3
   ·exact absurd (hC.a0 b hb) (Nat.not_lt.2 h3)
   ·exact hC.Il b hb h3
  ·obtain⟨h5,h6⟩:=pO (qB x) S.mem t' e' h3
   exact h5 (H.inj t' t e' e b h6 h1 h4 h2 ▸ ht)
theorem uh{k:Nat}(hk:C.k=k)(H:Holds C B S a w){x:AV}{v:Value}(h:aV (aU C.A0 B S.mem) B w x v){o:dx}(hp:FU k S x=some o):
  ∃B',Holds C B' (mJ (o.outs++[o.new]) (k+1)) Gl w∧aV (aU C.A0 B' (fD (o.outs++[o.new]))) B' w o.val v∧o.outs.length=k:=by
 unfold FU at hp;simp only[]at hp;generalize TK:reach S.mem 3 (yB (List.range k) (oC x))=ids at hp;cases hb:(nodupB ids&&rz S.mem ids&&(oC x).all (vD ids)&&wL 0 k ids&&Nat.ble ids.length (k+1))with
 | false=>rw[hb]at hp;cases hp
 | true=>
   rw[hb]at hp;simp only[cond_true,fu]at hp;subst hp;simp only[bI,Nat.ble_eq]at hb;obtain⟨⟨⟨⟨hnd,hcl⟩,Uc⟩,hpre⟩,hle⟩:=hb;have hkl:=(rA k 0 ids hpre).1;have hget:=(rA k 0 ids hpre).2;have H1:Holds C B {S with tm:=[x]} {tmps:= #[v],defers:=[]} w:=
    {H with
     defers:=rfl
     size:=rfl
     tm:=λt ht=>by
      have h0:t<1:=ht;obtain rfl:t=0:=by omega
      exact h}
   have hok:wM C.k ids {S with tm:=[x]}=true:=by
    simp only[wM,bI];refine⟨⟨⟨hnd,hcl⟩,?_⟩,by rw[hk];exact hpre⟩
    show(mM [x]).all (vD ids)=true
    simp only[mM,List.append_nil];exact Uc
   have H2:=H1.canon hok;have hmem: ∀s,fD (((List.range k).map λi=>(S.mem i).map (tC (pos ids)))++[match ids[k]? with|some s=>(S.mem s).map (tC (pos ids))|none=>none]) s=(lZ ids {S with tm:=[x]}).mem s:=by
    intro s
    show _=fD (ids.map λs=>(S.mem s).map (tC (pos ids))) s
    have hlen:((List.range k).map λi=>(S.mem i).map (tC (pos ids))).length=k:=by simp
    rcases Nat.lt_trichotomy s k with hs|hs|hs
    ·rw[ug (by rw[hlen];exact hs)]
     have h1:s<ids.length:=by omega
     have h2:=hget s hs;rw[dJ,List.getElem?_eq_getElem h1]at h2;simp only[Option.getD_some,Nat.zero_add]at h2;simp only[fD,dJ,List.getElem?_map,List.getElem?_range hs,List.getElem?_eq_getElem h1,Option.map_some,Option.getD_some,h2]
    ·subst hs
     have:=sF (l:=(List.range s).map λi=>(S.mem i).map (tC (pos ids))) (e:=match ids[s]? with|some s=>(S.mem s).map (tC (pos ids))|none=>none);rw[hlen]at this;rw[this];simp only[fD,dJ,List.getElem?_map];cases ids[s]? <;>rfl
    ·rw[Cw (by rw[hlen];exact hs)]
     simp only[fD,dJ,List.getElem?_map,List.getElem?_eq_none (show ids.length≤s by omega)];rfl
   have hmem':=funext hmem;refine⟨B.at ids,?_,?_,by simp⟩
   ·refine{defers:=rfl,size:=rfl,tm:=λt ht=>absurd ht (Nat.not_lt_zero t),mem:=?_,inj:=?_,kept:=H2.kept,old:=H2.old,fresh:=λs hs=>H2.fresh s (by simp only[lZ,mJ]at hs⊢;omega),base:=H2.base,sW:=by simp only[mJ];omega}
    ·simp only[mJ,hmem'];exact H2.mem
    ·simp only[mJ,hmem'];exact H2.inj
   ·rw[hmem']
    have:=H2.tm 0 (by simp[lZ,Cj]);simpa[lZ,Cj]using this
theorem Au{fn:Func}{k:Nat}{xS:Bool}(hC:C.Ok)(hk:C.k=k)(H:Holds C B S a w){Q:dx→Prop}(h:(Cy P fn k xS S).sat Q):
  ∃v B' o,(results fn a.tmps).run P w= .ok v w∧Q o∧Holds C B' (mJ (o.outs++[o.new]) (k+1)) Gl w∧aV (aU C.A0 B' (fD (o.outs++[o.new]))) B' w o.val v∧o.outs.length=k:=by
 unfold Cy at h
 split at h
 ·exact h.elim
 ·rename_i x hx
  obtain⟨v,hrun,hrel⟩:=oz H hx;cases xS with
  | true=>
    simp only[cond_true]at h
    split at h
    ·rename_i o ho
     obtain⟨hc,h⟩:=Tr.dR h;obtain⟨H2,apT⟩:=freeze hC H hrel hc;obtain⟨B',h1,h2,h3⟩:=uh hk H2 apT ho;exact⟨v,B',o,hrun,h,h1,h2,h3⟩
    ·exact h.elim
  | false=>
    simp only[cond_false]at h
    split at h
    ·rename_i o ho
     obtain⟨B',h1,h2,h3⟩:=uh hk H hrel ho;exact⟨v,B',o,hrun,h,h1,h2,h3⟩
    ·exact h.elim
theorem uN{L:Nat→Nat→Option (St→Tr (Ex×St))}(hm:P.follows .mixedOrders=true)(hΓ: ∀f s,Γ f=some s→aH P f s){f:FuncId}{fn:Func}{c:Code}(hf:P.funcs[f]? =some fn)(hb:fn.body=some c)
  (hcall: ∀args w,(callFunc f args).run P w= .ok (.enter f args) w) {K:iD} {N:Nat} {xS:Bool}
  (hl: ∀ents args o,K ents args=some o→bB P ents.length (L ents.length) c)
  (h: ∀ents args o,K ents args=some o→(∀p∈o.conds,p)→(jw P Γ (L ents.length) N xS fn ents args).sat λo'=>bL o'.val o.val∧bX (o'.outs++[o'.new]) (o.outs++[o.new])):fF P f K where
 sound:=by
  intro ents args o C B w vs ho hC hk H hargs hconds;refine gF.enter hf ⟨hcall _ _,calls_of_wp hf hb ?_⟩;have hs:=h ents args o ho hconds;unfold jw at hs;rw[hb]at hs;simp only at hs;have hlen:vs.length=args.length:=hargs.1;have H1:Holds C B (pV ents args fn.ntmps) {tmps:=vs.toArray++Array.replicate (fn.ntmps-vs.toArray.size) undef,defers:=[]} w:=by
   refine{H with defers:=rfl,size:=by simp[pV,hlen],tm:=?_};intro t ht;by_cases hlt:t<args.length
   ·have:=hargs.2 t hlt
    have hlt':t<vs.length:=by omega
    simpa[pV,dJ,nS,List.getElem?_append_left hlt,Array.getElem?_append,hlt,hlt']using this
   ·have ht':t-args.length<fn.ntmps-args.length:=by simp only[pV,List.length_append,List.length_replicate]at ht;omega
    have hlt': ¬t<vs.length:=by omega
    have e1:(pV ents args fn.ntmps).tm.getD t .any= .c (.v undef):=by
     simp[pV,dJ,List.getElem?_append_right (Nat.le_of_not_lt hlt),List.getElem?_replicate,ht']
    have e2:(vs.toArray++Array.replicate (fn.ntmps-vs.toArray.size) undef).getD t undef=undef:=by
     simp[nS,Array.getElem?_append,hlt',Array.getElem?_replicate,hlen,ht',hlt]
    show aV _ _ _ _ _
    rw[e1];simp only[]at e2⊢;rw[e2];exact aV.lit _
  refine Code.wp_mono ?_ (pQ<| eU hm (y9 hΓ _) hC c (by rw[hk];exact hl ents args o ho) _ _ _ _ _ (Tr.cK hs) H1);rintro e a' w' ⟨ex,S',B',rfl,H',hq⟩
  have key:(Cy P fn ents.length xS S').sat (λo'=>bL o'.val o.val∧bX (o'.outs++[o'.new]) (o.outs++[o.new]))→
    a'.defers=[]∧ ∃v,(results fn a'.tmps).run P w'= .ok v w'∧ ∃v' B',Ending.returned v= .returned v'∧Holds C B' (mJ (o.outs++[o.new]) (ents.length+1)) Gl w'∧aV (aU C.A0 B' (fD (o.outs++[o.new]))) B' w' o.val v':=by
   intro hfin;obtain⟨v,B2,o',hrun,⟨NJ,heqv⟩,H2,hrel,hol⟩:=Au hC hk H' hfin;refine⟨H'.defers,v,hrun,v,B2,rfl,?_⟩;have hm2: ∀s,pR (fD (o'.outs++[o'.new]) s) (fD (o.outs++[o.new]) s):=heqv.len.2;have hA: ∀b,aU C.A0 B2 (fD (o.outs++[o.new])) b→aU C.A0 B2 (fD (o'.outs++[o'.new])) b:=by
    rintro b (h|⟨s,e,h1,h2⟩)
    ·exact .inl h
    ·have:=hm2 s
     rw[h1]at this;generalize hq:fD (o'.outs++[o'.new]) s=q at this;cases this with
     | refl=>exact .inr ⟨s,e,hq,h2⟩
     | arr n sz el iV t _=>exact .inr ⟨s,_,hq,h2⟩
     | cells l m t _=>exact .inr ⟨s,_,hq,h2⟩
   exact⟨H2.eqv hm2,NJ _ _ _ _ (hrel.trans (Trans.refl _ _) (λb _ h=>hA b h) (λ_ _ h=>h))⟩
  cases ex with
  | normal=>exact key hq
  | ret=>exact key hq
  | exit id=>exact hq.elim
theorem lH(hm:P.follows .mixedOrders=true)(hΓ: ∀f s,Γ f=some s→aH P f s){f:FuncId}{fn:Func}{c:Code}(hf:P.funcs[f]? =some fn)(hb:fn.body=some c)
  (hcall: ∀args w,(callFunc f args).run P w= .ok (.enter f args) w) {K:List AV→Option (AV×List Bool)} {N:Nat} (hl:bB P 0 L c)
  (hn: ∀args v cs,K args=some (v,cs)→bA.dY v=true)
  (h: ∀args v cs,K args=some (v,cs)→(∀p∈cs,p)→(aN P Γ L N fn args).sat λr=>bA.dY r=true∧bL r v):aF P f K where
 sound:=λargs v cs hk=>⟨hn args v cs hk,λA w vs hA hc hargs=>by
  refine gF.enter hf ⟨hcall _ _,(Ao hm hΓ hf hb hl (h args v cs hk hc) hA hargs).mono ?_⟩;rintro e w' ⟨r,u,NJ,_,rfl,hrel,hb⟩;exact⟨u,rfl,NJ _ _ _ _ hrel,hb⟩⟩
end
end Go.bA
namespace Go.bA
open Go.RowKit
def Tr.run{α:Type}:Tr α→Option α
 | .ret a=>some a
 | .ite c t e=>bif c then t.run else e.run
 | .need p t=>bif p then t.run else none
 | .both _ _=>none
 | .fail _=>none
theorem Tr.wO{α:Type}: ∀{t:Tr α} {a:α},t.run=some a→t.sat (· =a)
 | .ret a,b,h=>by simpa[Tr.run,Tr.sat]using h
 | .ite c t e,b,h=>by
   cases c with
   | true=>exact⟨λ_=>Tr.wO (by simpa[Tr.run]using h),λh=>by cases h⟩
   | false=>exact⟨λh=>(by cases h),λ_=>Tr.wO (by simpa[Tr.run]using h)⟩
 | .need p t,b,h=>by
   cases p with
   | true=>exact⟨rfl,λ_=>Tr.wO (by simpa[Tr.run]using h)⟩
   | false=>simp[Tr.run]at h
 | .both _ _,b,h=>by simp[Tr.run]at h
 | .fail _,b,h=>by simp[Tr.run]at h
theorem ah{α:Type}{p:Bool}{t:Tr α}{Q:α→Prop}(h:p=true)(k:t.sat Q):(need p t).sat Q:=⟨h,λ_=>k⟩
theorem aj{α:Type}{c:Bool}{t e:Tr α}{Q:α→Prop}(h:c=true→t.sat Q)(k:c=false→e.sat Q):(Tr.ite c t e).sat Q:=⟨h,k⟩
theorem ak{α:Type}{a:α}{Q:α→Prop}(h:Q a):(ret a).sat Q:=h
abbrev dn:Nat→Option (St→Tr (Ex×St)):=λ_=>none
def eG(P:Program)(Γ:FuncId→Option Spec)(N:Nat)(fn:Func)(args:List AV):Option (AV×List Bool):=
 match (aN P Γ dn N fn args).run with
 | some v=>bif dY v then some (v,[])else none
 | none=>none
def WZ(P:Program)(Γ:FuncId→Option Spec)(N:Nat)(fn:Func):iD:=λents args=>(jw P Γ dn N true fn ents args).run
mutual
def apU:AV→Bool
 | .ptr _ _=>false
 | .jr _ _ _ _=>false
 | .H9 _ _ _ _=>false
 | .agg l=>FV l
 | .fG l=>FV l
 | .fn _ l=>FV l
 | _=>true
def FV:List AV→Bool
 | []=>true
 | x::l=>apU x&&FV l
end
def aa4(P:Program)(Γ:FuncId→Option Spec)(N:Nat)(fn:Func):Spec:=λslot m args=>
 bif FV args then au (eG P Γ N fn) slot m args else eB (WZ P Γ N fn) slot m args
def dz(fn:Func):Bool:= !(fn.name== "runtime.NumGoroutine")
def IZ(P:Program)(base:FuncId→Option Spec)(N:Nat):Nat→FuncId→Option Spec
 | 0=>base
 | d+1=>λf=>
   match base f with
   | some s=>some s
   | none=>
     match P.funcs[f]? with
     | some fn=>
       match fn.body with
       | some _=>bif dz fn then some (aa4 P (IZ P base N d) N fn)else none
       | none=>none
     | none=>none
theorem cO{P:Program}{f:FuncId}{fn:Func}{c:Code}(hf:P.funcs[f]? =some fn)(hb:fn.body=some c)(hn:dz fn=true)(args:Array Value)(w:World):(callFunc f args).run P w= .ok (.enter f args) w:=by
 have hn':(fn.name== "runtime.NumGoroutine")=false:=by simpa[dz]using hn
 unfold callFunc;rw[Sem.run_bind,run_program,Result.andThen_ok];simp only[hf,hn',hb,Bool.false_eq_true,if_false,Option.isNone_some];rfl
section
variable{P:Program}{Γ:FuncId→Option Spec}{N:Nat}
theorem jc(hm:P.follows .mixedOrders=true)(hΓ: ∀f s,Γ f=some s→aH P f s){f:FuncId}{fn:Func}{c:Code}(hf:P.funcs[f]? =some fn)(hb:fn.body=some c)(hn:dz fn=true):aF P f (eG P Γ N fn):=by
 have hk: ∀args v cs,eG P Γ N fn args=some (v,cs)→bA.dY v=true∧(aN P Γ dn N fn args).run=some v:=by
  intro args v cs h;unfold eG at h
  split at h
  ·rename_i u hu
   cases hp:bA.dY u with
   | false=>rw[hp]at h;cases h
   | true=>
     rw[hp]at h;simp only[cond_true,fu,Prod.mk.injEq]at h;obtain⟨rfl,_⟩:=h;exact⟨hp,hu⟩
  ·cases h
 refine lH hm hΓ hf hb (cO hf hb hn) (L:=dn) (N:=N) (aA 0 c) (λargs v cs h=>(hk args v cs h).1) λargs v cs h _=> ?_
 refine Tr.aZ ?_ (Tr.wO (hk args v cs h).2);rintro r rfl;exact⟨(hk args r cs h).1,bL.refl r⟩
theorem Ud(hm:P.follows .mixedOrders=true)(hΓ: ∀f s,Γ f=some s→aH P f s){f:FuncId}{fn:Func}{c:Code}(hf:P.funcs[f]? =some fn)(hb:fn.body=some c)(hn:dz fn=true):fF P f (WZ P Γ N fn):=by
 refine uN (L:=λ_=>dn) hm hΓ hf hb (cO hf hb hn) (N:=N) (xS:=true) (λents args o _=>aA ents.length c) λents args o h _=> ?_
 refine Tr.aZ ?_ (Tr.wO h);rintro r rfl;exact⟨bL.refl _,bX.refl _⟩
theorem aH.pick{f:FuncId}{s t:Spec}(p:List AV→Bool)(hs:aH P f s)(ht:aH P f t):aH P f (λslot m args=>bif p args then s slot m args else t slot m args) where
 look:=λslot m m' args r h hk=>by
  cases hp:p args with
  | true=>simp only[hp,cond_true]at h⊢;exact hs.look slot m m' args r h hk
  | false=>simp only[hp,cond_false]at h⊢;exact ht.look slot m m' args r h hk
 sound:=λslot args r C B S a w vs h=>by
  cases hp:p args with
  | true=>simp only[hp,cond_true]at h;exact hs.sound slot args r C B S a w vs h
  | false=>simp only[hp,cond_false]at h;exact ht.sound slot args r C B S a w vs h
theorem QA(hm:P.follows .mixedOrders=true)(hΓ: ∀f s,Γ f=some s→aH P f s){f:FuncId}{fn:Func}{c:Code}(hf:P.funcs[f]? =some fn)(hb:fn.body=some c)(hn:dz fn=true):aH P f (aa4 P Γ N fn):=
 aH.pick FV (jc hm hΓ hf hb hn).spec (Ud hm hΓ hf hb hn).spec
theorem I5(hm:P.follows .mixedOrders=true){base:FuncId→Option Spec}(hΓ: ∀f s,base f=some s→aH P f s): ∀(d:Nat) (f:FuncId) (s:Spec),IZ P base N d f=some s→aH P f s
 | 0,f,s,h=>hΓ f s h
 | d+1,f,s,h=>by
   unfold IZ at h
   split at h
   ·rename_i s' hs'
    cases h;exact hΓ f _ hs'
   ·split at h
    ·rename_i fn hf
     split at h
     ·rename_i c hb
      cases hn:dz fn with
      | false=>rw[hn]at h;cases h
      | true=>
        rw[hn]at h;simp only[cond_true,fu]at h;subst h;exact QA hm (I5 hm hΓ d) hf hb hn
     ·cases h
    ·cases h
end
end Go.bA
namespace Go.bA
open Go.RowKit
structure LP (P:Program) (f:FuncId) (e:Array Value→Sem Value):Prop where
 ex: ∃fn,P.funcs[f]? =some fn∧(fn.name== "runtime.NumGoroutine")=false∧fn.body.isNone=true∧Extern.findNext fn=none∧Extern.find fn=some e
theorem LP.run{P:Program}{f:FuncId}{e:Array Value→Sem Value}(h:LP P f e)(args:Array Value)(w:World){v:Value}{w':World}(hr:(e args).run P w= .ok v w'):(callFunc f args).run P w= .ok (.value v) w':=by
 obtain⟨fn,h1,h2,h3,h4,h5⟩:=h.ex;rw[run_callFunc_extern h1 h2 h3 h4 h5,hr];rfl
def ni:List AV→Option (AV×List Bool)
 | [.c (.v (.string a)),.c (.v (.string b))]=>some (bR .i64 (Lib.compareBytes a.data.toList b.data.toList),[])
 | _=>none
theorem aa5{P:Program}{f:FuncId}(h:LP P f Extern.BytealgCompare.compare):aF P f ni where
 sound:=by
  intro args v cs hk;unfold ni at hk
  split at hk
  ·rename_i a b
   simp only[fu,Prod.mk.injEq]at hk;obtain⟨rfl,rfl⟩:=hk;refine⟨rfl,λA w vs hA _ hargs=> ?_⟩;obtain⟨va,vs,rfl,h1,hargs⟩:=hargs.head;obtain⟨vb,vs,rfl,h2,hargs⟩:=hargs.head;obtain rfl:=hargs.nZ;obtain rfl:=h1.plain;obtain rfl:=h2.plain;exact gF.value h.ex.choose_spec.1 ⟨_,w,h.run _ w (Lib.run_compareString a b w),_,rfl,aV.lit _,Below.refl _ _⟩
  ·cases hk
def GD:List AV→Option (AV×List Bool)
 | [.c (.v (.int _ x)),.c (.v (.int _ y)),.c (.v (.int _ c))]=>
   some (.fG [bR .u64 (((x.toNat+y.toNat+c.toNat)%Extern.MathBitsCarry.m64:Nat):Int),bR .u64 (((x.toNat+y.toNat+c.toNat)/Extern.MathBitsCarry.m64:Nat):Int)],[decide (c.toNat≤1)])
 | _=>none
def Uf(args:Array Value):Sem Value:=do
 let (x,y,c)←Extern.MathBitsCarry.three "Add64" args
 pure (Extern.MathBitsCarry.pair ((x+y+c)%Extern.MathBitsCarry.m64) ((x+y+c)/Extern.MathBitsCarry.m64))
theorem aa6{P:Program}{f:FuncId}(h:LP P f Uf):aF P f GD where
 sound:=by
  intro args v cs hk;unfold GD at hk
  split at hk
  ·rename_i kx x ky y kc c
   simp only[fu,Prod.mk.injEq]at hk;obtain⟨rfl,rfl⟩:=hk;refine⟨rfl,λA w vs hA hc hargs=> ?_⟩;have hc:=dec (hc (decide (c.toNat≤1)) (by simp));obtain⟨va,vs,rfl,h1,hargs⟩:=hargs.head;obtain⟨vb,vs,rfl,h2,hargs⟩:=hargs.head;obtain⟨vc,vs,rfl,h3,hargs⟩:=hargs.head;obtain rfl:=hargs.nZ;obtain rfl:=h1.plain;obtain rfl:=h2.plain;obtain rfl:=h3.plain;have hn: ¬c.toNat>1:=by omega
   refine gF.value h.ex.choose_spec.1 ⟨_,w,h.run _ w (v:=Extern.MathBitsCarry.pair ((x.toNat+y.toNat+c.toNat)%Extern.MathBitsCarry.m64) ((x.toNat+y.toNat+c.toNat)/Extern.MathBitsCarry.m64)) ?_,_,rfl,?_,Below.refl _ _⟩
   ·have h3:(Extern.MathBitsCarry.three "Add64" #[.int kx x,.int ky y,.int kc c]).run P w= .ok (x.toNat,y.toNat,c.toNat) w:=by
     change Sem.run P (if c.toNat>1 then _ else _) w=_
     rw[if_neg hn];rfl
    unfold Uf;rw[Sem.run_bind];refine(congrArg (λr=>Result.andThen r _) h3).trans ?_;rfl
   ·exact aV.uK (cs:=[_,_]) (.cons (aV.lit _) (.cons (aV.lit _) .nil))
  ·cases hk
end Go.bA
namespace Go.bA
theorem Bn(x:Int):byteOf [.v (.int .u8 x)]=UInt8.ofNat x.toNat:=rfl
theorem yE(n:Nat)(el:Nat→List IV):(bytesOf n el).length=n:=by simp[bytesOf]
theorem oG(l:List UInt8):bytesOf l.length (eD l)=l:=by
 apply List.ext_getElem
 ·simp[bytesOf]
 ·intro i h1 h2
  simp only[bytesOf,eD,List.getElem_map,List.getElem_range,Bn,dJ,List.getElem?_eq_getElem h2,Option.getD_some];simp
theorem jV(n:Nat)(l:List UInt8):isBytes n (eD l)=true:=by
 unfold isBytes;rw[List.all_eq_true];intro k _;have:=(l.getD k 0).toNat_lt;simp only[eD,isByte,bI,dS];omega
theorem xE{n:Nat}{el:Nat→List IV}(h:isBytes n el=true): ∀k,k<n→el k=eD (bytesOf n el) k:=by
 intro k hk;obtain⟨b,hb⟩:=FD h k hk;have:(bytesOf n el).getD k 0=b:=by
  simp[bytesOf,dJ,hk,hb,byteOf]
 unfold eD;rw[this,hb]
theorem wrap_u8(x:Int):IntKind.u8.wrap x=x%256:=by
 simp[IntKind.wrap,IntKind.bits,IntKind.signed]
theorem wrap_u64(x:Int):u64.wrap x=x%18446744073709551616:=by
 simp[IntKind.wrap,IntKind.bits,IntKind.signed]
theorem wrap_i64{x:Int}(h: -9223372036854775808≤x∧x≤9223372036854775807):i64.wrap x=x:=IntWalk.i64_in x h
theorem kU {x y:Int} (h:-9223372036854775808≤x∧x≤9223372036854775807:=by omega) (e:x=y:=by omega):i64.wrap x=y:=(wrap_i64 h).trans e
end Go.bA
namespace Go.bA
def aM(l:List UInt8):Nat:=l.foldl (λa c=>a*256+c.toNat) 0
def aD(n:Nat):List UInt8:=if h:n=0 then []else aD (n/256)++[UInt8.ofNat (n%256)]
 termination_by n
 decreasing_by exact Nat.div_lt_self (Nat.pos_of_ne_zero h) (by decide)
def canon(l:List UInt8):Bool:=match l with
 | []=>true
 | c::_=>c !=0
theorem Cz{P:List UInt8→Prop}(h0:P [])(h1: ∀l c,P l→P (l++[c]))(l:List UInt8):P l:=by
 rw[←List.reverse_reverse l]
 induction l.reverse with
 | nil=>exact h0
 | cons c l ih=>rw[List.reverse_cons];exact h1 _ _ ih
theorem gB:aD 0=[]:=by rw[aD];rfl
theorem sG{n:Nat}(h:0<n):aD n=aD (n/256)++[UInt8.ofNat (n%256)]:=by
 rw[aD,dif_neg (by omega)]
theorem QB:aM []=0:=rfl
theorem l8(l:List UInt8)(c:UInt8):aM (l++[c])=aM l*256+c.toNat:=by simp[aM]
theorem Y6{l:List UInt8}{i:Nat}(h:i<l.length):aM (l.take (i+1))=aM (l.take i)*256+(l.getD i 0).toNat:=by
 rw[List.take_succ_eq_append_getElem h,l8];simp[dJ,h]
theorem iM(n:Nat):aM (aD n)=n:=by
 induction n using Nat.strongRecOn with
 | ind n ih=>
   by_cases h:n=0
   ·subst h;rw[gB];rfl
   ·rw[sG (by omega),l8,ih (n/256) (Nat.div_lt_self (by omega) (by decide))]
    have:(UInt8.ofNat (n%256)).toNat=n%256:=by simp[UInt8.toNat_ofNat']
    omega
theorem uj(l:List UInt8):aM l<256^l.length:=by
 induction l using Cz with
 | h0=>simp[aM]
 | h1 l c ih=>
   rw[l8,List.length_append,List.length_singleton,Nat.pow_succ];have:=c.toNat_lt;omega
theorem CB(n:Nat): ∀k,n<256^k→(aD n).length≤k:=by
 induction n using Nat.strongRecOn with
 | ind n ih=>
   intro k hk;by_cases h:n=0
   ·subst h;rw[gB];simp
   ·cases k with
    | zero=>simp at hk;omega
    | succ k=>
      rw[sG (by omega),List.length_append,List.length_singleton];have:=ih (n/256) (Nat.div_lt_self (by omega) (by decide)) k (by rw[Nat.pow_succ]at hk;omega);omega
theorem wP(n:Nat):canon (aD n)=true:=by
 induction n using Nat.strongRecOn with
 | ind n ih=>
   by_cases h:n=0
   ·subst h;rw[gB];rfl
   ·rw[sG (by omega)]
    have ih1:=ih (n/256) (Nat.div_lt_self (by omega) (by decide));cases hm:aD (n/256)with
    | nil=>
      have hz:n/256=0:=by
       have:=iM (n/256);rw[hm]at this;exact this.symm
      simp only[List.nil_append,canon,bne_iff_ne,ne_eq];intro hc;have:=congrArg UInt8.toNat hc;simp[UInt8.toNat_ofNat']at this;omega
    | cons c l=>
      rw[hm]at ih1;exact ih1
theorem um{c:UInt8}{l:List UInt8}(h:c≠0):256^l.length≤aM (c::l):=by
 induction l using Cz with
 | h0=>
   have hc:c.toNat≠0:=λhh=>h (UInt8.toNat_inj.1 (by simpa using hh))
   simp[aM];omega
 | h1 l d ih=>
   rw[←List.cons_append,l8,List.length_append,List.length_singleton,Nat.pow_succ];omega
theorem gX(l:List UInt8)(h:canon l=true):aD (aM l)=l:=by
 induction l using Cz with
 | h0=>rw[QB,gB]
 | h1 l c ih=>
   cases l with
   | nil=>
     have hc:c≠0:=by simpa[canon]using h
     have hn:c.toNat≠0:=λhh=>hc (UInt8.toNat_inj.1 (by simpa using hh))
     have hlt:=c.toNat_lt;have e:aM ([]++[c])=c.toNat:=by simp[aM]
     rw[e,sG (by omega)];have:c.toNat/256=0:=by omega
     rw[this,gB,Nat.mod_eq_of_lt hlt];simp
   | cons d l=>
     have hd:d≠0:=by simpa[canon]using h
     have hp:=um (l:=l) hd;have hp2:0<256^l.length:=Nat.pow_pos (by decide);have hlt:=c.toNat_lt;rw[l8,sG (by omega)];have e1:(aM (d::l)*256+c.toNat)/256=aM (d::l):=by omega
     have e2:(aM (d::l)*256+c.toNat)%256=c.toNat:=by omega
     rw[e1,e2,ih (by simpa[canon]using hd)];simp
theorem I6{a b:Nat}(h:aD a=aD b):a=b:=by
 rw[←iM a,h,iM]
end Go.bA
namespace Go.bA
open Go.Proofs
def nQ(l:List UInt8):AV:= .c (.v (.string ⟨⟨l⟩⟩))
theorem eH{P:Program}: ∀f s,(λ_=>none:FuncId→Option Spec) f=some s→aH P f s:=λ_ _ h=>by cases h
theorem aI:prog.follows .mixedOrders=true:=by kernel_rfl
theorem step_ok{P:Program}{a:FuncId}{A:Spec}{Γ':FuncId→Option Spec}(h:aH P a A)(k: ∀f s,Γ' f=some s→aH P f s): ∀f s,(bif beq f a then some A else Γ' f)=some s→aH P f s:=by
 intro f s hf;cases h1:beq f a with
 | true=>
   obtain rfl:f=a:=Nat.eq_of_beq_eq_true h1;rw[h1]at hf;cases hf;exact h
 | false=>
   rw[h1]at hf;exact k f s hf
theorem bM{P:Program}{f:FuncId}{s:Spec}(h:aH P f s): ∀g t,(bif beq g f then some s else none)=some t→aH P g t:=step_ok h eH
theorem gu{X R:Type}{c:Code}{Γ:FuncId→Option Spec}{N k id:Nat}{L':Nat→Option (St→Tr (Ex×St))}{lp:bC X R}{step:X→Tr (X ⊕ R)}(hΓ: ∀f s,Γ f=some s→aH prog f s)(hl:bB prog k L' (aR id c))(hg:lp.gH)
  (hs: ∀x,(exec prog Γ L' N (aR id c) (eY lp.nIn (lp.head x))).bind (lp.fin k id)=step x)
  (hr: ∀x,lp.pre x=true→ ∃n,aS step (· =lp.res x) n x) (hb:bW (λi=>beq i id) c=[(id,.loop (aR id c))]:=by kernel_rfl):bB prog k (λi=>bif beq i id then some (lp.g k)else none) c:=by
 refine eP (d:=λi=>beq i id) (λi=>by cases beq i id<;>rfl) _ ?_;rw[hb];intro p hp g hg';simp only[List.mem_singleton]at hp;subst hp;have e:beq id id=true:=by simp
 rw[e]at hg';obtain rfl:g=lp.g k:=(Option.some.inj hg').symm;exact bC.PO (N:=N) aI hΓ hl hg hs hr
section
variable{Γ:FuncId→Option Spec}{L:Nat→Option (St→Tr (Ex×St))}{N:Nat}{f:FuncId}{fn:Func}{K:List AV→Option (AV×List Bool)}
theorem poL(hΓ: ∀f s,Γ f=some s→aH prog f s)(hl:bB prog 0 L (codeOf fn))(hn: ∀args v cs,K args=some (v,cs)→bA.dY v=true)
  (h: ∀args v cs,K args=some (v,cs)→(∀p∈cs,p)→(aN prog Γ L N fn args).sat λr=>bA.dY r=true∧bL r v)
  (hf:prog.funcs[f]? =some fn:=by kernel_rfl) (hb:fn.body=some (codeOf fn):=by kernel_rfl) (ho:dz fn=true:=by kernel_rfl):aF prog f K:=
 lH aI hΓ hf hb (cO hf hb ho) hl hn h
theorem vE(hΓ: ∀f s,Γ f=some s→aH prog f s)(hn: ∀args v cs,K args=some (v,cs)→bA.dY v=true)
  (h: ∀args v cs,K args=some (v,cs)→(∀p∈cs,p)→(aN prog Γ dn 1010 fn args).sat λr=>bA.dY r=true∧bL r v)
  (hf:prog.funcs[f]? =some fn:=by kernel_rfl) (hb:fn.body=some (codeOf fn):=by kernel_rfl) (ho:dz fn=true:=by kernel_rfl):aF prog f K:=
 poL hΓ (aA _ _) hn h hf hb ho
end
def Out(o:dx)(p:dx):Prop:=bL p.val o.val∧bX (p.outs++[p.new]) (o.outs++[o.new])
theorem Out.refl(o:dx):Out o o:=⟨bL.refl _,bX.refl _⟩
theorem Out.of_eq{o p:dx}(h:p=o):Out o p:=h ▸ Out.refl _
structure Way (X:Type) where
 res:X→X
 pre:X→Bool
structure CF where
 s:ByteArray
 u:Int
 n:Int
 i:Int
def GH(x:CF):List AV×List (Option gJ):=([.c (.v (.string x.s)),bR .u64 x.u,bR .i64 x.n,bR .i64 x.i],[])
def GI:List AV×List (Option gJ)→Option (CF×List Bool)
 | ([.c (.v (.string s)),.c (.v (.int .u64 u)),.c (.v (.int .i64 n)),.c (.v (.int .i64 i))],[])=>some (⟨s,u,n,i⟩,[])
 | _=>none
def QC(w:Way CF):bC CF CF where
 nIn:={nt:=23,live:=[0,4,10,11]}
 qF:={nt:=23,live:=[0,4,10,11]}
 head:=GH
 take:=GI
 out:=λr=>(.normal,GH r)
 iC:=λq=>match q with|(.normal,q)=>GI q | _=>none
 res:=w.res
 pre:=w.pre
theorem I7(q:List AV×List (Option gJ))(x:CF)(cs:List Bool)(h:GI q=some (x,cs)):dW q.1 (GH x).1∧bX q.2 (GH x).2:=by
 unfold GI at h
 split at h
 ·cases h;exact⟨dW.refl _,bX.refl _⟩
 ·cases h
theorem Ug(w:Way CF):(QC w).gH where
 take:=λq x cs h _=>I7 q x cs h
 iC:=by
  intro e q r cs h hc;cases e with
  | normal=>obtain⟨h1,h2⟩:=I7 q r cs h;exact⟨rfl,h1,h2⟩
  | exit j=>cases h
  | ret=>cases h
 split:=λr Q h=>h
def I8:Way CF:=⟨λx=>⟨x.s,(aM x.s.data.toList:Nat),x.n,x.n⟩,λx=>decide (x.n=(x.s.data.toList.length:Nat))&&decide (x.s.data.toList.length≤8)&&decide (x.i=0)&&decide (x.u=0)⟩
def alv:Nat→Option (St→Tr (Ex×St)):=λid=>bif beq id 0 then some ((QC I8).g 0)else none
end Go.bA
namespace Go.bA
open Go.Proofs
def NK(s:ByteArray)(u:Int)(n:Int)(i:Int):Tr (CF ⊕ CF):=
 let x1:List UInt8:=s.data.toList
 let x2:Int:= ↑x1.length
 .ite (decide (i<n)) (.need true (.need (decide (0≤i∧i<x2)) (.ret (Sum.inl {s:=s,u:=u64.wrap ↑(BitVec.ofInt u64.bits (u64.wrap (u*2^min (Int.toNat 8) u64.bits)) ||| BitVec.ofInt u64.bits (u64.wrap ↑(x1.getD i.toNat 0).toNat)).toNat,n:=n,i:=i64.wrap (i+1)})))) (.ret (Sum.inr {s:=s,u:=u,n:=n,i:=i}))
def alx(s:ByteArray):Tr AV:=
 let x1:List UInt8:=s.data.toList
 let x2:Int:= ↑x1.length
 .ite (decide (x2>8)) (.ret (AV.fG [.c (.v (.int u64 0)),.c (.v (.bool false))])) (.need (decide (x2=x2)&&decide (x1.length≤8)&&decide (0=0)&&decide (0=0)) (.ret (AV.fG [.c (.v (.int u64 ↑(aM x1))),.c (.v (.bool true))])))
def aly(u:Int):Tr AV:=
 let x1:Int:=u.fdiv (2^min (Int.toNat 32) u64.bits)
 let x2:Int:=2^min (Int.toNat 16) u64.bits
 let x3:Int:=x1.fdiv x2
 let x4:Int:=2^min (Int.toNat 8) u64.bits
 let x5:Int:=IntKind.u8.wrap (x3.fdiv x4)
 let x6:List UInt8:=[8,8,8,8,8,8,8,8,8,8,8,8,8,8,8,8,8,8,8,8,8,8,8,8,8,8,8,8,8,8,8,8,8,8,8,8,8,8,8,8,8,8,8,8,8,8,8,8,8,8,8,8,8,8,8,8,8,8,8,8,8,8,8,8]
 let x7:List UInt8:=([0,1,2,2,3,3,3,3,4,4,4,4,4,4,4,4,5,5,5,5,5,5,5,5,5,5,5,5,5,5,5,5,6,6,6,6,6,6,6,6,6,6,6,6,6,6,6,6,6,6,6,6,6,6,6,6,6,6,6,6,6,6,6,6].append [7,7,7,7,7,7,7,7,7,7,7,7,7,7,7,7,7,7,7,7,7,7,7,7,7,7,7,7,7,7,7,7,7,7,7,7,7,7,7,7,7,7,7,7,7,7,7,7,7,7,7,7,7,7,7,7,7,7,7,7,7,7,7,7]).append (x6.append x6)
 let x8:Int:= ↑x7.length
 let x9:Int:=i64.wrap (32+16)
 let x10:Int:=IntKind.u8.wrap x3
 let iW:Int:=IntKind.u8.wrap (x1.fdiv x4)
 let kL:Int:=IntKind.u8.wrap x1
 let jA:Int:=u.fdiv x2
 let kM:Int:=IntKind.u8.wrap (jA.fdiv x4)
 let mO:Int:=i64.wrap (0+16)
 let nu:Int:=IntKind.u8.wrap jA
 let jR:Int:=IntKind.u8.wrap (u.fdiv x4)
 .ite (decide (u≥4294967296)) (.need true (.ite (decide (x1≥65536)) (.need true (.ite (decide (x3≥256)) (.need true (.need (decide (0≤x5∧x5<x8)) (.ret (.c (.v (.int i64 (i64.wrap (i64.wrap (x9+8)+i64.wrap ↑(x7.getD x5.toNat 0).toNat)))))))) (.need (decide (0≤x10∧x10<x8)) (.ret (.c (.v (.int i64 (i64.wrap (x9+i64.wrap ↑(x7.getD x10.toNat 0).toNat))))))))) (.ite (decide (x1≥256)) (.need true (.need (decide (0≤iW∧iW<x8)) (.ret (.c (.v (.int i64 (i64.wrap (i64.wrap (32+8)+i64.wrap ↑(x7.getD iW.toNat 0).toNat)))))))) (.need (decide (0≤kL∧kL<x8)) (.ret (.c (.v (.int i64 (i64.wrap (32+i64.wrap ↑(x7.getD kL.toNat 0).toNat)))))))))) (.ite (decide (u≥65536)) (.need true (.ite (decide (jA≥256)) (.need true (.need (decide (0≤kM∧kM<x8)) (.ret (.c (.v (.int i64 (i64.wrap (i64.wrap (mO+8)+i64.wrap ↑(x7.getD kM.toNat 0).toNat)))))))) (.need (decide (0≤nu∧nu<x8)) (.ret (.c (.v (.int i64 (i64.wrap (mO+i64.wrap ↑(x7.getD nu.toNat 0).toNat))))))))) (.ite (decide (u≥256)) (.need true (.need (decide (0≤jR∧jR<x8)) (.ret (.c (.v (.int i64 (i64.wrap (i64.wrap (0+8)+i64.wrap ↑(x7.getD jR.toNat 0).toNat)))))))) (.need (decide (0≤IntKind.u8.wrap u∧IntKind.u8.wrap u<x8)) (.ret (.c (.v (.int i64 (i64.wrap (0+i64.wrap ↑(x7.getD (IntKind.u8.wrap u).toNat 0).toNat)))))))))
def apV(b:Bool)(s:ByteArray):Tr AV:=
 let x1:List AV:=[.c (.v (.string s))]
 .ite b (.ret (AV.agg (.c (.v (.bool (bif true then !s.data.toList==[]else false)))::x1))) (.ret (AV.agg (.c (.v (.bool false))::x1)))
theorem Uh(w:Way CF)(x:CF):(exec prog (λ_=>none) dn 1010 (aR 0 (codeOf Tryz.f113)) (eY (QC w).nIn ((QC w).head x))).bind ((QC w).fin 0 0)=NK x.s x.u x.n x.i:=by
 obtain⟨s,u,n,i⟩:=x
 kernel_rfl
theorem afH(s:ByteArray):aN prog (λ_=>none) alv 1010 Tryz.f113 [.c (.v (.string s))]=alx s:=by kernel_rfl
theorem afI(u:Int):aN prog (λ_=>none) dn 1010 Tryz.f177 [bR .u64 u]=aly u:=by kernel_rfl
theorem afJ(b:Bool)(s:ByteArray):aN prog (λ_=>none) dn 1010 Tryz.f125 [.c (.v (.bool b)),.c (.v (.string s))]=apV b s:=by kernel_rfl
theorem W9(x:Nat)(hx:x<18446744073709551616):(BitVec.ofInt 64 (x:Int)).toNat=x:=by
 rw[BitVec.toNat_ofInt];omega
theorem afK(u c:Nat)(hu:u<72057594037927936)(hc:c<256):
  u64.wrap ((BitVec.ofInt u64.bits (u64.wrap ((u:Int)*2^min (Int.toNat 8) u64.bits)) ||| BitVec.ofInt u64.bits (u64.wrap (c:Int))).toNat:Nat)=((u*256+c:Nat):Int):=by
 have e1:u64.wrap ((u:Int)*2^min (Int.toNat 8) u64.bits)=((u*256:Nat):Int):=by
  change u64.wrap ((u:Int)*256)=_
  rw[wrap_u64];omega
 have e2:u64.wrap (c:Int)=(c:Int):=by rw[wrap_u64];omega
 rw[e1,e2]
 change u64.wrap ((BitVec.ofInt 64 ((u*256:Nat):Int) ||| BitVec.ofInt 64 (c:Int)).toNat:Nat)=_
 rw[BitVec.toNat_or,W9 _ (by omega),W9 _ (by omega)];have e3:u*256 ||| c=u*256+c:=by
  have:=Nat.two_pow_add_eq_or_of_lt (i:=8) (b:=c) (by omega) u;rw[Nat.mul_comm u];exact this.symm
 rw[e3,wrap_u64];omega
theorem alz(k:Nat)(h:k≤7):256^k≤72057594037927936:=by
 calc 256^k≤256^7:=Nat.pow_le_pow_right (by omega) h
  _=72057594037927936:=by decide
theorem Xa(s:ByteArray)(hl:s.data.toList.length≤8)(Q:CF→Prop)(hq:Q ⟨s,(aM s.data.toList:Nat),(s.data.toList.length:Nat),(s.data.toList.length:Nat)⟩): ∀(k i:Nat),i+k=s.data.toList.length→
  aS (λx:CF=>NK x.s x.u x.n x.i) Q (k+1) ⟨s,(aM (s.data.toList.take i):Nat),(s.data.toList.length:Nat),(i:Nat)⟩
 | 0,i,hi=>by
   obtain rfl:i=s.data.toList.length:=by omega
   rw[List.take_length];exact aj (λh=>absurd (iX h) (Int.lt_irrefl _)) (λ_=>ak hq)
 | k+1,i,hi=>by
   have ih:=Xa s hl Q hq k (i+1) (by omega);have hw:i64.wrap ((i:Int)+1)=((i+1:Nat):Int):=kU;have hm:=uj (s.data.toList.take i);have hlen:(s.data.toList.take i).length=i:=by rw[List.length_take];omega
   rw[hlen]at hm;have hp:=alz i (by omega);have hc:=(s.data.toList.getD i 0).toNat_lt;unfold aS
   change Tr.sat _ (NK s (aM (s.data.toList.take i):Nat) (s.data.toList.length:Nat) (i:Nat))
   refine aj (λ_=>ah rfl (ah (dA) (ak ?_))) (λh=>absurd (show(i:Int)<(s.data.toList.length:Nat)by omega) (of_decide_eq_false h));have hs:=afK (aM (s.data.toList.take i)) (s.data.toList.getD i 0).toNat (by omega) hc;have ht:=Y6 (l:=s.data.toList) (i:=i) (by omega);simp only[Int.toNat_natCast,hw,hs];rw[←ht];exact ih
theorem Ui:bB prog 0 alv (codeOf Tryz.f113):=by
 refine gu (N:=1010) (L':=dn) eH (aA 0 _) (Ug _) (Uh I8) ?_;rintro⟨s,u,n,i⟩ hx;have hx:I8.pre ⟨s,u,n,i⟩=true:=hx;simp only[I8,bI,dS]at hx;obtain⟨⟨⟨rfl,h2⟩,rfl⟩,rfl⟩:=hx;have:=Xa s h2 (· =I8.res ⟨s,0,(s.data.toList.length:Nat),0⟩) rfl s.data.toList.length 0 (by omega);exact⟨_,this⟩
def gI(s:ByteArray):Int:=if s.data.toList.length≤8 then(aM s.data.toList:Nat)else 0
def fH(s:ByteArray):Bool:=decide (s.data.toList.length≤8)
def aa7:List AV→Option (AV×List Bool)
 | [.c (.v (.string s))]=>some (.fG [bR .u64 (gI s),bJ (fH s)],[])
 | _=>none
theorem aa8(s:ByteArray):(alx s).sat λr=>r= .fG [bR .u64 (gI s),bJ (fH s)]:=by
 unfold alx gI fH;refine aj (λh=> ?_) (λh=> ?_)
 ·have h:=iX h
  have h1: ¬s.data.toList.length≤8:=by omega
  rw[if_neg h1,iB h1];exact ak rfl
 ·have h:=of_decide_eq_false h
  have h1:s.data.toList.length≤8:=by omega
  rw[if_pos h1,dK h1];exact ah (by simp[h1]) (ak rfl)
theorem Xb:aF prog 113 aa7:=by
 refine poL (N:=1010) eH Ui (fn:=Tryz.f113) ?_ ?_
 ·intro args v cs h
  unfold aa7 at h
  split at h
  ·cases h;rfl
  ·cases h
 ·intro args v cs h hc
  unfold aa7 at h
  split at h
  ·rename_i s
   cases h;have hs:=aa8 s;rw[←afH]at hs;generalize aN prog (λ_=>none) alv 1010 Tryz.f113 [.c (.v (.string s))]=T at hs⊢;exact Tr.aZ (λr hr=>⟨by subst hr;rfl,bL.of_eq hr⟩) hs
  ·cases h
def NM:List AV→Option (AV×List Bool)
 | [.c (.v (.bool b)),.c (.v (.string s))]=>some (.agg [bJ (b&& !(s.data.toList==[])),.c (.v (.string s))],[])
 | _=>none
theorem zf:aF prog 125 NM:=by
 refine vE eH (fn:=Tryz.f125) ?_ ?_
 ·intro args v cs h
  unfold NM at h
  split at h
  ·cases h;rfl
  ·cases h
 ·intro args v cs h hc
  unfold NM at h
  split at h
  ·rename_i b s
   cases h;have hs:(apV b s).sat λr=>r= .agg [bJ (b&& !(s.data.toList==[])),.c (.v (.string s))]:=by
    refine aj (λh=> ?_) (λh=> ?_)<;>subst h<;>exact ak rfl
   rw[←afJ]at hs;generalize aN prog (λ_=>none) dn 1010 Tryz.f125 [.c (.v (.bool b)),.c (.v (.string s))]=T at hs⊢;exact Tr.aZ (λr hr=>⟨by subst hr;rfl,bL.of_eq hr⟩) hs
  ·cases h
end Go.bA
namespace Go.bA
open Go.Proofs
def bitLen(n:Nat):Nat:=if n=0 then 0 else Nat.log2 n+1
theorem bitLen_le{n k:Nat}:bitLen n≤k↔n<2^k:=by
 unfold bitLen
 split
 ·rename_i h;subst h;simp[Nat.two_pow_pos]
 ·rename_i h
  rw[←Nat.log2_lt h];omega
theorem bitLen_shift{n k:Nat}(h:2^k≤n):bitLen n=bitLen (n/2^k)+k:=by
 have key: ∀m,bitLen n≤m↔bitLen (n/2^k)+k≤m:=by
  intro m;by_cases hm:k≤m
  ·have:bitLen (n/2^k)+k≤m↔bitLen (n/2^k)≤m-k:=by omega
   rw[this,bitLen_le,bitLen_le,Nat.div_lt_iff_lt_mul (Nat.two_pow_pos k), ←Nat.pow_add];rw[show m-k+k=m by omega]
  ·constructor
   ·intro hh
    rw[bitLen_le]at hh;have:2^m≤2^k:=Nat.pow_le_pow_right (by omega) (by omega);omega
   ·intro hh;omega
 exact Nat.le_antisymm ((key _).2 (Nat.le_refl _)) ((key _).1 (Nat.le_refl _))
def len8:List UInt8:=([0,1,2,2,3,3,3,3,4,4,4,4,4,4,4,4,5,5,5,5,5,5,5,5,5,5,5,5,5,5,5,5,6,6,6,6,6,6,6,6,6,6,6,6,6,6,6,6,6,6,6,6,6,
   6,6,6,6,6,6,6,6,6,6,6].append
  [7,7,7,7,7,7,7,7,7,7,7,7,7,7,7,7,7,7,7,7,7,7,7,7,7,7,7,7,7,7,7,7,7,7,7,7,7,7,7,7,7,7,7,7,7,7,7,7,7,7,7,
   7,7,7,7,7,7,7,7,7,7,7,7,7]).append
 (([8,8,8,8,8,8,8,8,8,8,8,8,8,8,8,8,8,8,8,8,8,8,8,8,8,8,8,8,8,8,8,8,8,8,8,8,8,8,8,8,8,8,8,8,8,8,8,8,8,8,8,8,8,
 8,8,8,8,8,8,8,8,8,8,8]:List UInt8).append [8,8,8,8,8,8,8,8,8,8,8,8,8,8,8,8,8,8,8,8,8,8,8,8,8,8,8,8,8,8,8,8,8,8,8,8,8,8,8,8,8,8,8,8,8,8,8,8,8,8,8,8,8,
 8,8,8,8,8,8,8,8,8,8,8])
theorem aa9:((List.range 256).all λc=>beq (len8.getD c 0).toNat (bitLen c))=true:=by kernel_rfl
theorem QD:len8.length=256:=by kernel_rfl
theorem len8_get{c:Nat}(h:c<256):(len8.getD c 0).toNat=bitLen c:=Nat.eq_of_beq_eq_true (List.all_eq_true.1 aa9 c (List.mem_range.2 h))
theorem kN(n k:Nat):((n:Int)).fdiv ((k:Nat):Int)=((n/k:Nat):Int):=by
 rw[Int.fdiv_eq_ediv_of_nonneg _ (by omega)];rfl
theorem abb(n:Nat)(hn:n<18446744073709551616):(aly (n:Int)).sat λr=>r=bR .i64 (bitLen n:Nat):=by
 have q32:((n:Int)).fdiv (2^min (Int.toNat 32) u64.bits)=((n/4294967296:Nat):Int):=kN n 4294967296;have q16: ∀m:Nat,((m:Int)).fdiv (2^min (Int.toNat 16) u64.bits)=((m/65536:Nat):Int):=λm=>kN m 65536
 have q8: ∀m:Nat,((m:Int)).fdiv (2^min (Int.toNat 8) u64.bits)=((m/256:Nat):Int):=λm=>kN m 256
 have leaf: ∀(m:Nat) (k:Int) (b:Nat),m<256→0≤k→k+8<1000→((b:Nat):Int)=k+(bitLen m:Nat)→bitLen m≤8→
   (need (decide (0≤IntKind.u8.wrap (m:Int)∧IntKind.u8.wrap (m:Int)<((len8.length:Nat):Int))) (ret (AV.c (.v (.int i64 (i64.wrap (k+i64.wrap (((len8.getD (IntKind.u8.wrap (m:Int)).toNat 0).toNat:Nat):Int)))))))).sat λr=>r=bR .i64 (b:Nat):=by
  intro m k b hm h0 hk hb hle;have e1:IntKind.u8.wrap (m:Int)=(m:Int):=by rw[wrap_u8];omega
  rw[e1,Int.toNat_natCast,len8_get hm,QD];refine ah (dA) (ak ?_);rw[wrap_i64 (x:=((bitLen m:Nat):Int)) (by omega),wrap_i64 (by omega),hb];rfl
 have b8: ∀m,m<256→bitLen m≤8:=λm hm=>bitLen_le.2 (by simpa using hm)
 have w1:i64.wrap (32+16)=48:=by rfl
 have w2:i64.wrap (48+8)=56:=by rfl
 have w3:i64.wrap (32+8)=40:=by rfl
 have w4:i64.wrap (0+16)=16:=by rfl
 have w5:i64.wrap (16+8)=24:=by rfl
 have w6:i64.wrap (0+8)=8:=by rfl
 unfold aly;simp only[q32,q16,q8,w1,w2,w3,w4,w5,w6];refine aj (λh=>ah rfl ?_) (λh=> ?_)
 ·have h:=iX h
  have s1:=bitLen_shift (n:=n) (k:=32) (by omega);rw[show(2:Nat)^32=4294967296 from rfl]at s1;refine aj (λh=>ah rfl ?_) (λh=> ?_)
  ·have h:=iX h
   have s2:=bitLen_shift (n:=n/4294967296) (k:=16) (by omega);rw[show(2:Nat)^16=65536 from rfl]at s2;refine aj (λh=>ah rfl ?_) (λh=> ?_)
   ·have h:=iX h
    have s3:=bitLen_shift (n:=n/4294967296/65536) (k:=8) (by omega);rw[show(2:Nat)^8=256 from rfl]at s3;exact leaf (n/4294967296/65536/256) 56 (bitLen n) (by omega) (by omega) (by omega) (by omega) (b8 _ (by omega))
   ·have h:=of_decide_eq_false h
    exact leaf (n/4294967296/65536) 48 (bitLen n) (by omega) (by omega) (by omega) (by omega) (b8 _ (by omega))
  ·have h:=of_decide_eq_false h
   refine aj (λh=>ah rfl ?_) (λh=> ?_)
   ·have h:=iX h
    have s3:=bitLen_shift (n:=n/4294967296) (k:=8) (by omega);rw[show(2:Nat)^8=256 from rfl]at s3;exact leaf (n/4294967296/256) 40 (bitLen n) (by omega) (by omega) (by omega) (by omega) (b8 _ (by omega))
   ·have h:=of_decide_eq_false h
    exact leaf (n/4294967296) 32 (bitLen n) (by omega) (by omega) (by omega) (by omega) (b8 _ (by omega))
 ·have h:=of_decide_eq_false h
  refine aj (λh=>ah rfl ?_) (λh=> ?_)
  ·have h:=iX h
   have s2:=bitLen_shift (n:=n) (k:=16) (by omega);rw[show(2:Nat)^16=65536 from rfl]at s2;refine aj (λh=>ah rfl ?_) (λh=> ?_)
   ·have h:=iX h
    have s3:=bitLen_shift (n:=n/65536) (k:=8) (by omega);rw[show(2:Nat)^8=256 from rfl]at s3;exact leaf (n/65536/256) 24 (bitLen n) (by omega) (by omega) (by omega) (by omega) (b8 _ (by omega))
   ·have h:=of_decide_eq_false h
    exact leaf (n/65536) 16 (bitLen n) (by omega) (by omega) (by omega) (by omega) (b8 _ (by omega))
  ·have h:=of_decide_eq_false h
   refine aj (λh=>ah rfl ?_) (λh=> ?_)
   ·have h:=iX h
    have s3:=bitLen_shift (n:=n) (k:=8) (by omega);rw[show(2:Nat)^8=256 from rfl]at s3;exact leaf (n/256) 8 (bitLen n) (by omega) (by omega) (by omega) (by omega) (b8 _ (by omega))
   ·have h:=of_decide_eq_false h
    exact leaf n 0 (bitLen n) (by omega) (by omega) (by omega) (by omega) (b8 _ (by omega))
def iK(n:Int):Bool:=decide (0≤n)&&decide (n<18446744073709551616)
def abd:List AV→Option (AV×List Bool)
 | [.c (.v (.int .u64 n))]=>some (bR .i64 (bitLen n.toNat:Nat),[iK n])
 | _=>none
theorem NN:aF prog 177 abd:=by
 refine vE eH (fn:=Tryz.f177) ?_ ?_
 ·intro args v cs h
  unfold abd at h
  split at h
  ·cases h;rfl
  ·cases h
 ·intro args v cs h hc
  unfold abd at h
  split at h
  ·rename_i n
   cases h;have hr:iK n=true:=hc (iK n) (List.mem_singleton.2 rfl);simp only[iK,bI,dS]at hr;obtain⟨m,rfl⟩: ∃m:Nat,n=m:=⟨n.toNat,by omega⟩
   have hs:=abb m (by omega);rw[←afI]at hs;rw[Int.toNat_natCast];have e:(bR .u64 (m:Int))= .c (.v (.int .u64 (m:Int))):=rfl;rw[e]at hs;generalize aN prog (λ_=>none) dn 1010 Tryz.f177 [.c (.v (.int .u64 (m:Int)))]=T at hs⊢;exact Tr.aZ (λr hr=>⟨by subst hr;rfl,bL.of_eq hr⟩) hs
  ·cases h
end Go.bA
namespace Go.bA
open Go.Proofs
structure Ac where
 u:Int
 n:Int
 n2:Int
 i:Int
 l:List UInt8
def GJ(x:Ac):List AV×List (Option gJ):=([bR .u64 x.u,bR .i64 x.n,.jr 0 0 0 1,bR .i64 x.n2,bR .i64 x.i],[some (.arr 8 1 (eD x.l) 292)])
def GK:List AV×List (Option gJ)→Option (Ac×List Bool)
 | ([.c (.v (.int .u64 u)),.c (.v (.int .i64 n)),.jr 0 0 0 1,.c (.v (.int .i64 n2)),.c (.v (.int .i64 i))],[some (.arr 8 1 el 292)])=>some (⟨u,n,n2,i,bytesOf 8 el⟩,[isBytes 8 el])
 | _=>none
def QE(w:Way Ac):bC Ac Ac where
 nIn:={nt:=30,live:=[0,3,4,12,13]}
 qF:={nt:=30,live:=[0,3,4,12,13]}
 head:=GJ
 take:=GK
 out:=λr=>(.normal,GJ r)
 iC:=λq=>match q with|(.normal,q)=>GK q | _=>none
 res:=w.res
 pre:=w.pre
theorem I9(q:List AV×List (Option gJ))(x:Ac)(cs:List Bool)(h:GK q=some (x,cs))(hc: ∀p∈cs,p):dW q.1 (GJ x).1∧bX q.2 (GJ x).2:=by
 unfold GK at h
 split at h
 ·rename_i u n n2 i el
  simp only[fu,Prod.mk.injEq]at h;obtain⟨rfl,rfl⟩:=h;have h1:isBytes 8 el=true:=hc _ (List.mem_singleton.2 rfl);exact⟨dW.refl _,.cons (.arr _ _ _ _ _ (xE h1)) .nil⟩
 ·cases h
theorem Uj(w:Way Ac):(QE w).gH where
 take:=I9
 iC:=by
  intro e q r cs h hc;cases e with
  | normal=>obtain⟨h1,h2⟩:=I9 q r cs h hc;exact⟨rfl,h1,h2⟩
  | exit j=>cases h
  | ret=>cases h
 split:=λr Q h=>h
def tF(u:Nat):Nat→List UInt8
 | 0=> []
 | k+1=>UInt8.ofNat (u/256^k%256)::tF u k
def Ew:Way Ac:=⟨λx=>⟨x.u,x.n,x.n2,x.n2,tF x.u.toNat x.n.toNat++x.l.drop x.n.toNat⟩,
 λx=>iK x.u&&decide (x.n2=x.n)&&decide (x.i=0)&&decide (0≤x.n)&&decide (x.n≤8)&&decide (x.l.length=8)⟩
def alA:Nat→Option (St→Tr (Ex×St)):=λid=>bif beq id 0 then some ((QE Ew).g 0)else none
def alB:FuncId→Option Spec:=λf=>bif beq f 177 then some (au abd)else none
end Go.bA
namespace Go.bA
open Go.Proofs
def zh(u:Int)(n:Int)(n2:Int)(i:Int)(l:List UInt8):Tr (Ac ⊕ Ac):=
 let x1:Int:=i64.wrap (8*i)
 let x2:Int:=i64.wrap (i64.wrap (n-1)-i)
 let x3:Int:= ↑8
 let x4:Nat:=x2.toNat
 .ite (decide (i<n2)) (.need (decide ¬x1<0) (.need (decide (0≤x2∧x2<x3)) (.need (decide (x4<8)) (.need (isBytes 8 (aT (eD l) x4 0 [IV.v (.int IntKind.u8 (IntKind.u8.wrap (u.fdiv (2^min x1.toNat u64.bits))))].reverse)) (.ret (Sum.inl {u:=u,n:=n,n2:=n2,i:=i64.wrap (i+1),l:=bytesOf 8 (aT (eD l) x4 0 [IV.v (.int IntKind.u8 (IntKind.u8.wrap (u.fdiv (2^min x1.toNat u64.bits))))].reverse)})))))) (.need (isBytes 8 (eD l)) (.ret (Sum.inr {u:=u,n:=n,n2:=n2,i:=i,l:=bytesOf 8 (eD l)})))
def alC(u:Int):Tr AV:=
 let x1:Int:=i64.wrap ((i64.wrap (↑(bitLen u.toNat)+7)).tdiv 8)
 let x2:List UInt8:=bytesOf 8 λx=>List.map IV.v [Value.int IntKind.u8 0]
 let x3:Nat:=x2.length
 let x4:Int:= ↑8
 let x5:Nat:=x1.toNat
 .ite (u==0) (.ret (.c (.v (.string {data:= #[]})))) (.need (iK u) (.need true (.need true (.need (iK u&&decide (x1=x1)&&decide (0=0)&&decide (0≤x1)&&decide (x1≤8)&&decide (x3=8)) (.need (decide (0≤x1∧x1≤x4)) (.need (isBytes x5 (eD (tF u.toNat x5++List.drop x5 x2))) (.ret (.c (.v (.string ⟨⟨bytesOf x5 (eD (tF u.toNat x5++List.drop x5 x2))⟩⟩))))))))))
theorem Uk(w:Way Ac)(x:Ac):(exec prog (λ_=>none) dn 1010 (aR 0 (codeOf Tryz.f126)) (eY (QE w).nIn ((QE w).head x))).bind ((QE w).fin 0 0)=zh x.u x.n x.n2 x.i x.l:=by
 obtain⟨u,n,n2,i,l⟩:=x
 kernel_rfl
theorem afL(u:Int):aN prog alB alA 1010 Tryz.f126 [.c (.v (.int .u64 u))]=alC u:=by kernel_rfl
theorem NP(l:List UInt8)(k:Nat)(b:Nat)(hk:k<l.length)(hb:b<256):bytesOf l.length (aT (eD l) k 0 [IV.v (.int .u8 (b:Int))].reverse)=l.set k (UInt8.ofNat b)∧isBytes l.length (aT (eD l) k 0 [IV.v (.int .u8 (b:Int))].reverse)=true:=by
 have hel: ∀i,aT (eD l) k 0 [IV.v (.int .u8 (b:Int))].reverse i=if i=k then [IV.v (.int .u8 (b:Int))]else eD l i:=by
  intro i;unfold aT
  split
  ·rename_i h;subst h;simp[eD]
  ·rfl
 constructor
 ·apply List.ext_getElem
  ·simp[bytesOf]
  ·intro i h1 h2
   simp only[bytesOf,List.getElem_map,List.getElem_range,hel];by_cases hi:i=k
   ·subst hi
    simp[byteOf]
   ·have hil:i<l.length:=by simpa[bytesOf]using h1
    rw[if_neg hi,List.getElem_set_ne (by omega)];simp[eD,Bn,dJ,hil]
 ·refine List.all_eq_true.2 λi hi=> ?_
  rw[hel]
  split
  ·simp[isByte];omega
  ·have:=jV l.length l
   exact List.all_eq_true.1 this i hi
theorem abe(u i:Nat)(hi:i<8):IntKind.u8.wrap ((u:Int).fdiv (2^min (8*i) u64.bits))=((u/256^i%256:Nat):Int):=by
 have e1:min (8*i) u64.bits=8*i:=by
  change min (8*i) 64=8*i
  omega
 rw[e1];have e2:((2:Int)^(8*i))=((256^i:Nat):Int):=by
  rw[show(256:Nat)=2^8 from rfl, ←Nat.pow_mul];simp
 rw[e2,kN,wrap_u8];simp
theorem set_mid(A B:List UInt8)(x b:UInt8):(A++x::B).set A.length b=A++b::B:=by
 simp[List.set_append]
theorem Um(u n i:Nat)(l:List UInt8)(hn:n≤8)(hi:i<n)(hl:l.length=8){R:Ac ⊕ Ac→Prop}
  (hin:R (.inl ⟨u,n,n,((i+1:Nat):Int),l.set (n-1-i) (UInt8.ofNat (u/256^i%256))⟩)):(zh (u:Nat) (n:Nat) (n:Nat) (i:Nat) l).sat R:=by
 have w1:i64.wrap (8*(i:Int))=((8*i:Nat):Int):=kU;have w2:i64.wrap ((n:Int)-1)=(n:Int)-1:=wrap_i64 (by omega);have w3:i64.wrap ((n:Int)-1-i)=((n-1-i:Nat):Int):=kU;have w4:i64.wrap ((i:Int)+1)=((i+1:Nat):Int):=kU;obtain⟨s1,s2⟩:=NP l (n-1-i) (u/256^i%256) (by omega) (Nat.mod_lt _ (by decide));rw[hl]at s1 s2;unfold zh;simp only[w1,w2,w3,w4,Int.toNat_natCast,abe u i (by omega),s1,s2];exact aj (λ_=>ah (dA) (ah (dA) (ah (dA) (ah rfl (ak hin))))) (λh=>absurd (show(i:Int)<(n:Nat)by omega) (of_decide_eq_false h))
theorem CG(u:Nat): ∀k,(tF u k).length=k
 | 0=>rfl
 | k+1=>by simp[tF,CG u k]
theorem Xc(u n:Nat)(l0:List UInt8)(hn:n≤8)(hl:l0.length=8)(Q:Ac→Prop)(hq:Q ⟨u,n,n,n,tF u n++l0.drop n⟩): ∀(k i:Nat),i+k=n→
  aS (λx:Ac=>zh x.u x.n x.n2 x.i x.l) Q (k+1) ⟨u,n,n,i,l0.take (n-i)++(tF u i++l0.drop n)⟩
 | 0,i,hi=>by
   obtain rfl:i=n:=by omega
   have hlen:(tF u i++l0.drop i).length=8:=by rw[List.length_append,CG,List.length_drop];omega
   unfold aS;rw[Nat.sub_self,List.take_zero,List.nil_append]
   change Tr.sat _ (zh (u:Nat) (i:Nat) (i:Nat) (i:Nat) (tF u i++l0.drop i))
   unfold zh;have e8:bytesOf 8 (eD (tF u i++l0.drop i))=tF u i++l0.drop i:=by rw[←hlen,oG]
   rw[e8];exact aj (λh=>absurd (iX h) (Int.lt_irrefl _)) (λ_=>ah (jV _ _) (ak hq))
 | k+1,i,hi=>by
   have ih:=Xc u n l0 hn hl Q hq k (i+1) (by omega);have ht:l0.take (n-i)=l0.take (n-1-i)++[l0[n-1-i]'(by omega)]:=by
    rw[show n-i=(n-1-i)+1 by omega];exact List.take_succ_eq_append_getElem (by omega)
   refine Um u n i _ hn (by omega) (by simp only[List.length_append,List.length_take,CG,List.length_drop];omega) ?_;rw[ht,List.append_assoc,List.singleton_append];have hA:(l0.take (n-1-i)).length=n-1-i:=by rw[List.length_take];omega
   have hs:=set_mid (l0.take (n-1-i)) (tF u i++l0.drop n) (l0[n-1-i]'(by omega)) (UInt8.ofNat (u/256^i%256));rw[hA]at hs;rw[hs];have e:n-(i+1)=n-1-i:=by omega
   rw[e]at ih;exact ih
theorem Uo:bB prog 0 alA (codeOf Tryz.f126):=by
 refine gu (N:=1010) (L':=dn) eH (aA 0 _) (Uj _) (Uk Ew) ?_;rintro⟨u,n,n2,i,l⟩ hx;have hx:Ew.pre ⟨u,n,n2,i,l⟩=true:=hx;simp only[Ew,iK,bI,dS]at hx;obtain⟨⟨⟨⟨⟨⟨h1,h2⟩,rfl⟩,rfl⟩,h5⟩,h6⟩,h7⟩:=hx;obtain⟨u,rfl⟩: ∃m:Nat,u=m:=⟨u.toNat,by omega⟩
 obtain⟨n,rfl⟩: ∃m:Nat,n2=m:=⟨n2.toNat,by omega⟩
 have:=Xc u n l (by omega) h7 (· =Ew.res ⟨u,n,n,0,l⟩) (by simp[Ew]) n 0 (by omega);have e:l.take (n-0)++(tF u 0++l.drop n)=l:=by simp[tF]
 rw[e]at this;exact⟨_,this⟩
theorem LQ: ∀(k u:Nat),tF u (k+1)=tF (u/256) k++[UInt8.ofNat (u%256)]
 | 0,u=>by simp[tF]
 | k+1,u=>by
   rw[tF,LQ k u,tF];rw[Nat.div_div_eq_div_mul, ←Nat.pow_succ'];rfl
theorem LU: ∀(k u:Nat),u<256^k→(k=0∨256^(k-1)≤u)→tF u k=aD u
 | 0,u,h,_=>by
   have:u=0:=by simpa using h
   subst this;rw[gB];rfl
 | k+1,u,h,h2=>by
   have hu:0<u:=by
    have:=h2.resolve_left (by omega);have hp:0<256^(k+1-1):=Nat.pow_pos (by decide);omega
   rw[LQ,sG hu]
   congr 1
   refine LU k (u/256) ?_ ?_
   ·rw[Nat.pow_succ]at h;omega
   ·by_cases hk:k=0
    ·exact .inl hk
    ·right
     have:=h2.resolve_left (by omega);rw[show k+1-1=(k-1)+1 by omega,Nat.pow_succ]at this;omega
def l9(u:Nat):Nat:=(bitLen u+7)/8
theorem QF{u:Nat}(h:0<u):tF u (l9 u)=aD u:=by
 have h1:u<2^bitLen u:=bitLen_le.1 (Nat.le_refl _);have h2: ¬u<2^(bitLen u-1):=λhh=>by
  have hb:bitLen u≠0:=λhz=>by rw[hz]at h1;simp at h1;omega
  have:=bitLen_le.2 hh;omega
 have hb:0<bitLen u:=by
  rcases Nat.eq_zero_or_pos (bitLen u)with hz|hz
  ·rw[hz]at h1;simp at h1;omega
  ·exact hz
 refine LU _ u ?_ (.inr ?_)
 ·rw[show(256:Nat)=2^8 from rfl, ←Nat.pow_mul]
  have:2^bitLen u≤2^(8*l9 u):=Nat.pow_le_pow_right (by omega) (by unfold l9;omega);omega
 ·rw[show(256:Nat)=2^8 from rfl, ←Nat.pow_mul]
  have:2^(8*(l9 u-1))≤2^(bitLen u-1):=Nat.pow_le_pow_right (by omega) (by unfold l9;omega);omega
def NQ:List AV→Option (AV×List Bool)
 | [.c (.v (.int .u64 n))]=>some (nQ (aD n.toNat),[iK n])
 | _=>none
theorem abf(u:Nat)(hu:u<18446744073709551616):(alC (u:Nat)).sat λr=>r=nQ (aD u):=by
 have hb:bitLen u≤64:=bitLen_le.2 (by simpa using hu);have w1:i64.wrap (((bitLen u:Nat):Int)+7)=((bitLen u+7:Nat):Int):=kU;have w2:i64.wrap ((((bitLen u+7:Nat):Int)).tdiv 8)=((l9 u:Nat):Int):=by
  have:(((bitLen u+7:Nat):Int)).tdiv 8=((l9 u:Nat):Int):=rfl;rw[this,wrap_i64 (by unfold l9;omega)]
 have hk:l9 u≤8:=by unfold l9;omega
 have hU:iK ((u:Nat):Int)=true:=by simp[iK];omega
 unfold alC;simp only[Int.toNat_natCast,w1,w2];refine aj (λh=> ?_) (λh=> ?_)
 ·have h:=eq_of_beq h
  obtain rfl:u=0:=by omega
  rw[gB];exact ak rfl
 ·have hpos:0<u:=by
   rcases Nat.eq_zero_or_pos u with hz|hz
   ·subst hz;cases h
   ·exact hz
  rw[QF hpos];have hlen:(aD u).length=l9 u:=by rw[←QF hpos,CG]
  have e1:bytesOf (l9 u) (eD (aD u++List.drop (l9 u) (bytesOf 8 λ_=>List.map IV.v [Value.int IntKind.u8 0])))=aD u:=by
   apply List.ext_getElem
   ·simp[bytesOf,hlen]
   ·intro i h1 h2
    have hi:i<(aD u).length:=h2;simp[bytesOf,eD,Bn,dJ,List.getElem?_append_left hi];rw[List.getElem?_eq_getElem hi];rfl
  rw[e1];refine ah hU (ah rfl (ah rfl (ah ?_ (ah (dA) (ah (jV _ _) (ak rfl))))));have e8:(bytesOf 8 λ_=>List.map IV.v [Value.int IntKind.u8 0]).length=8:=rfl;simp only[yE,hU,Bool.true_and,bI,dS,true_and,and_true];omega
theorem afM: ∀f s,alB f=some s→aH prog f s:=bM NN.spec
theorem zi:aF prog 126 NQ:=by
 refine poL (N:=1010) afM Uo (fn:=Tryz.f126) ?_ ?_
 ·intro args v cs h
  unfold NQ at h
  split at h
  ·cases h;rfl
  ·cases h
 ·intro args v cs h hc
  unfold NQ at h
  split at h
  ·rename_i n
   cases h;have hr:iK n=true:=hc (iK n) (List.mem_singleton.2 rfl);simp only[iK,bI,dS]at hr;obtain⟨m,rfl⟩: ∃m:Nat,n=m:=⟨n.toNat,by omega⟩
   have hs:=abf m (by omega);rw[←afL]at hs;rw[Int.toNat_natCast];generalize aN prog alB alA 1010 Tryz.f126 [.c (.v (.int .u64 ((m:Nat):Int)))]=T at hs⊢;generalize aD m=l at hs⊢;exact Tr.aZ (λr hr=>⟨by subst hr;rfl,bL.of_eq hr⟩) hs
  ·cases h
end Go.bA
namespace Go.bA
open Go.Proofs
def vF(l:List Int):Nat→List IV:=λk=> [.v (.int .i64 (l.getD k 0))]
def Ur:List IV→Int
 | [.v (.int .i64 n)]=>n
 | _=>0
def abg:List IV→Bool
 | [.v (.int .i64 _)]=>true
 | _=>false
def nA(n:Nat)(el:Nat→List IV):List Int:=(List.range n).map λk=>Ur (el k)
def uO(n:Nat)(el:Nat→List IV):Bool:=(List.range n).all λk=>abg (el k)
theorem Ja(n:Nat)(el:Nat→List IV):(nA n el).length=n:=by simp[nA]
theorem LV{n:Nat}{el:Nat→List IV}(h:uO n el=true): ∀k,k<n→el k=vF (nA n el) k:=by
 intro k hk;have h1:=List.all_eq_true.1 h k (List.mem_range.2 hk);have e:(nA n el).getD k 0=Ur (el k):=by simp[nA,dJ,hk]
 unfold vF;rw[e];unfold abg at h1
 split at h1
 ·rename_i hh;rw[hh];rfl
 ·cases h1
theorem LW(l:List Int)(n:Nat):uO n (vF l)=true:=List.all_eq_true.2 λ_ _=>rfl
theorem LX(l:List Int):nA l.length (vF l)=l:=by
 apply List.ext_getElem
 ·simp[nA]
 ·intro i h1 h2
  simp[nA,vF,Ur,dJ,h2]
def gV:List Int→Int
 | []=>0
 | a::l=>if a=0 then gV l else a
structure Jb where
 l:List Int
 i:Int
structure NR where
 ret:Bool
 v:Int
def NS(x:Jb):List AV×List (Option gJ):=([bR .i64 0,bR .i64 0,.c (.sl x.l.length 1 (vF x.l)),bR .i64 (x.l.length:Nat),bR .i64 x.i],[])
def NT:List AV×List (Option gJ)→Option (Jb×List Bool)
 | ([.c (.v (.int .i64 y)),.c (.v (.int .i64 z)),.c (.sl n 1 el),.c (.v (.int .i64 n')),.c (.v (.int .i64 i))],[])=>some (⟨nA n el,i⟩,[decide (y=0),decide (z=0),decide (n'=(n:Int)),uO n el])
 | _=>none
def Jc:Ex×(List AV×List (Option gJ))→Option (NR×List Bool)
 | (.normal,([.c (.v (.int .i64 v)),.c (.v (.int .i64 z))],[]))=>some (⟨false,v⟩,[decide (z=0)])
 | (.ret,([.c (.v (.int .i64 v)),.c (.v (.int .i64 z))],[]))=>some (⟨true,v⟩,[decide (z=0)])
 | _=>none
structure afN (X R:Type) where
 res:X→R
 pre:X→Bool
def QG(w:afN Jb NR):bC Jb NR where
 nIn:={nt:=18,live:=[2,3,6,7,8]}
 qF:={nt:=18,live:=[2,3]}
 head:=NS
 take:=NT
 out:=λr=>(bif r.ret then .ret else .normal,([bR .i64 r.v,bR .i64 0],[]))
 iC:=Jc
 res:=w.res
 pre:=w.pre
 split:=λr=> .ite r.ret (.ret {r with ret:=true}) (.ret {r with ret:=false})
theorem Us(w:afN Jb NR):(QG w).gH where
 take:=by
  intro q x cs h hc
  change NT q=some (x,cs)at h
  unfold NT at h
  split at h
  ·rename_i y z n el n' i
   simp only[fu,Prod.mk.injEq]at h;obtain⟨rfl,rfl⟩:=h;have hy:y=0:=dec (hc (decide (y=0)) (by simp));have h0:z=0:=dec (hc (decide (z=0)) (by simp));subst hy;have h1:n'=(n:Int):=dec (hc (decide (n'=(n:Int))) (by simp));have h2:uO n el=true:=hc (uO n el) (by simp);subst h0;subst h1;refine⟨?_,bX.refl _⟩
   show dW _ (NS _).1
   simp only[NS,Ja];exact .cons (bL.refl _) (.cons (bL.refl _) (.cons (bL.sl (LV h2)) (.cons (bL.refl _) (.cons (bL.refl _) .nil))))
  ·cases h
 iC:=by
  intro e q r cs h hc
  change Jc (e,q)=some (r,cs)at h
  unfold Jc at h
  split at h
  ·rename_i hq
   cases hq;cases h;obtain rfl:=iX (hc _ (List.mem_singleton.2 rfl));exact⟨rfl,dW.refl _,bX.refl _⟩
  ·rename_i hq
   cases hq;cases h;obtain rfl:=iX (hc _ (List.mem_singleton.2 rfl));exact⟨rfl,dW.refl _,bX.refl _⟩
  ·cases h
 split:=by
  intro r Q h;obtain⟨b,v⟩:=r;cases b with
  | true=>exact h.1 rfl
  | false=>exact h.2 rfl
def Ey:afN Jb NR:=⟨λx=>⟨gV (x.l.drop x.i.toNat) !=0,gV (x.l.drop x.i.toNat)⟩,λx=>decide (0≤x.i)&&decide (x.i≤(x.l.length:Nat))&&decide (x.l.length≤1000)⟩
def afO:Nat→Option (St→Tr (Ex×St)):=λid=>bif beq id 0 then some ((QG Ey).g 0)else none
def gq(a b:Int):Int:=if a<b then -1 else if a>b then 1 else 0
def afP:List AV→Option (AV×List Bool)
 | [.c (.v (.int .i64 _))]=>some (bJ false,[])
 | _=>none
def Y7:List AV→Option (AV×List Bool)
 | [.c (.v (.int .i64 a)),.c (.v (.int .i64 b))]=>some (bR .i64 (gq a b),[])
 | _=>none
def abh:List AV→Option (AV×List Bool)
 | [.c (.sl n 1 el)]=>some (bR .i64 (gV (nA n el)),[uO n el,decide (n≤1000)])
 | _=>none
def alD:FuncId→Option Spec:=λf=>bif beq f 162 then some (au afP)else none
def alE:FuncId→Option Spec:=λf=>bif beq f 113 then some (au aa7)else none
def alF:FuncId→Option Spec:=λf=>bif beq f 306 then some (au ni)else none
def alG:FuncId→Option Spec:=λf=>bif beq f 292 then some (au ni)else none
def alH:FuncId→Option Spec:=λf=>bif beq f 111 then some (au Y7)else bif beq f 262 then some (au ni)else bif beq f 109 then some (au abh)else none
def alI:FuncId→Option Spec:=λf=>bif beq f 125 then some (au NM)else none
def alJ:FuncId→Option Spec:=λf=>bif beq f 125 then some (au NM)else bif beq f 126 then some (au NQ)else none
end Go.bA
namespace Go.bA
open Go.Proofs
def apW(a:Int):Tr AV:=
 .ret (.c (.v (.bool (a !=a))))
def alK(a:Int)(b:Int):Tr AV:=
 .ite false (.ite false (.ret (.c (.v (.int i64 0)))) (.ret (.c (.v (.int i64 (-1)))))) (.ite false (.ret (.c (.v (.int i64 1)))) (.ite (decide (a<b)) (.ret (.c (.v (.int i64 (-1))))) (.ite (decide (a>b)) (.ret (.c (.v (.int i64 1)))) (.ret (.c (.v (.int i64 0)))))))
def GL(l:List Int)(i:Int):Tr (Jb ⊕ NR):=
 let x1:Int:= ↑l.length
 let x2:Int:=l.getD i.toNat 0
 .ite (decide (i<x1)) (.need (decide (0≤i∧i<x1)) (.ite (x2 !=0) (.need true (.ret (Sum.inr {ret:=true,v:=x2}))) (.need true (.need true (.need (decide (x1=x1)) (.need (uO l.length (vF l)) (.ret (Sum.inl {l:=nA l.length (vF l),i:=i64.wrap (i+1)})))))))) (.need true (.ret (Sum.inr {ret:=false,v:=0})))
def alL(l:List Int):Tr AV:=
 let x1:Int:= ↑l.length
 let x2:List Int:=nA l.length (vF l)
 let x3:Nat:=x2.length
 let x4:Int:= ↑x3
 let x5:Int:=gV (List.drop (Int.toNat 0) x2)
 .need true (.need true (.need (decide (x1=x1)) (.need (uO l.length (vF l)) (.need (decide (0≤0)&&decide (0≤x4)&&decide (x3≤1000)) (.ite (x5 !=0) (.ret (.c (.v (.int i64 x5)))) (.ret (.c (.v (.int i64 0)))))))))
def apX(a:ByteArray)(b:ByteArray):Tr AV:=
 .ret (.c (.v (.int i64 (Lib.compareBytes a.data.toList b.data.toList))))
def apY(a:ByteArray)(b:ByteArray):Tr AV:=
 .ret (.c (.v (.int i64 (Lib.compareBytes a.data.toList b.data.toList))))
def alM(a:ByteArray)(b:ByteArray):Tr AV:=
 .need (bif fH a then true else true) (.ret (AV.fG [.c (.v (.int u64 (bif fH a then gI a else gI a))),.c (.v (.int u64 (bif fH a then gI b else gI b))),.c (.v (.bool (bif fH a then bif true then fH b else false else false)))]))
def alN(a:ByteArray)(b:ByteArray):Tr AV:=
 let x1:Nat:=0+1
 let x2:List UInt8:=a.data.toList
 let x3:List UInt8:=b.data.toList
 .need true (.need true (.need true (.ret (.c (.v (.int i64 (gV (nA 2 λk=>List.take x1 (List.drop (k*x1) [IV.v (.int i64 (Lib.compareBytes x2 x3)),IV.v (.int i64 (gq ↑x2.length ↑x3.length))].reverse)))))))))
def alO(p:Bool)(a:ByteArray):Tr AV:=
 .ite (a.data.toList==[]) (.ret (.c (.v (.int i64 0)))) (.ite p (.ret (.c (.v (.int i64 (-1))))) (.ret (.c (.v (.int i64 1)))))
def alP(p:Bool)(a:ByteArray):Tr AV:=
 .ret (AV.agg [.c (.v (.bool (!p&& !a.data.toList==[]))),.c (.v (.string a))])
def alQ(p:Bool)(a:ByteArray):Tr AV:=
 let x1:List UInt8:=a.data.toList
 let x2:Int:= ↑x1.length
 .need (bif x1==[]then bif bif true then p else false then true else bif !x1==[]then decide ((0:Int)≤0∧0<x2)&&true else true else bif false then true else bif !x1==[]then decide ((0:Int)≤0∧0<x2)&&true else true) (.ite (bif x1==[]then bif bif true then p else false then true else bif !x1==[]then bif false then true else bif true then((x1.getD (Int.toNat 0) 0).toNat:Int)==0 else false else bif false then true else false else bif false then true else bif !x1==[]then bif false then true else bif true then((x1.getD (Int.toNat 0) 0).toNat:Int)==0 else false else bif false then true else false) (.ret (.c (.v (.int i64 5)))) (.ret (.c (.v (.int i64 0)))))
def alR(n:Int):Tr AV:=
 let x1:Int:=u64.wrap (0-u64.wrap n)
 let x2:List UInt8:=aD x1.toNat
 let x3:List UInt8:=aD (u64.wrap n).toNat
 .ite (decide (n<0)) (.need (iK x1) (.ret (AV.agg [.c (.v (.bool (decide (n<0)&& !x2==[]))),.c (.v (.string ⟨⟨x2⟩⟩))]))) (.need (iK (u64.wrap n)) (.ret (AV.agg [.c (.v (.bool (decide (n<0)&& !x3==[]))),.c (.v (.string ⟨⟨x3⟩⟩))])))
theorem afQ(a:Int):aN prog (λ_=>none) dn 1010 Tryz.f162 [.c (.v (.int .i64 a))]=apW a:=by kernel_rfl
theorem afR(a b:Int):aN prog alD dn 1010 Tryz.f111 [.c (.v (.int .i64 a)),.c (.v (.int .i64 b))]=alK a b:=by kernel_rfl
theorem Ut(w:afN Jb NR)(x:Jb):(exec prog (λ_=>none) dn 1010 (aR 0 (codeOf Tryz.f109)) (eY (QG w).nIn ((QG w).head x))).bind ((QG w).fin 0 0)=GL x.l x.i:=by
 obtain⟨l,i⟩:=x
 kernel_rfl
theorem afS(l:List Int):aN prog (λ_=>none) afO 1010 Tryz.f109 [.c (.sl l.length 1 (vF l))]=alL l:=by kernel_rfl
theorem afT(a b:ByteArray):aN prog alF dn 1010 Tryz.f292 [.c (.v (.string a)),.c (.v (.string b))]=apX a b:=by kernel_rfl
theorem afU(a b:ByteArray):aN prog alG dn 1010 Tryz.f262 [.c (.v (.string a)),.c (.v (.string b))]=apY a b:=by kernel_rfl
theorem afV(a b:ByteArray):aN prog alE dn 1010 Tryz.f256 [.c (.v (.string a)),.c (.v (.string b))]=alM a b:=by kernel_rfl
theorem afW(a b:ByteArray):aN prog alH dn 1010 Tryz.f226 [.c (.v (.string a)),.c (.v (.string b))]=alN a b:=by kernel_rfl
theorem afX(p:Bool)(a:ByteArray):aN prog (λ_=>none) dn 1010 Tryz.f193 [.agg [.c (.v (.bool p)),.c (.v (.string a))]]=alO p a:=by kernel_rfl
theorem afY(p:Bool)(a:ByteArray):aN prog alI dn 1010 Tryz.f191 [.agg [.c (.v (.bool p)),.c (.v (.string a))]]=alP p a:=by kernel_rfl
theorem afZ(p:Bool)(a:ByteArray):aN prog (λ_=>none) dn 1010 Tryz.f263 [.agg [.c (.v (.bool p)),.c (.v (.string a))]]=alQ p a:=by kernel_rfl
theorem af0(n:Int):aN prog alJ dn 1010 Tryz.f70 [.c (.v (.int .i64 n))]=alR n:=by kernel_rfl
def iv(p:Bool)(s:ByteArray):Int:=bif p then -(aM s.data.toList:Int)else(aM s.data.toList:Int)
def fI(p:Bool)(s:ByteArray):Bool:=canon s.data.toList&&(!p || !(s.data.toList==[]))
def bY(z:Int):AV:= .agg [.c (.v (.bool (decide (z<0)))),nQ (aD z.natAbs)]
theorem jG{l:List UInt8}(h:canon l=true):aM l=0↔l=[]:=by
 constructor
 ·intro h0
  have:=gX l h;rw[h0,gB]at this;exact this.symm
 ·rintro rfl;rfl
theorem alS{p:Bool}{s:ByteArray}(h:fI p s=true):decide (iv p s<0)=p:=by
 simp only[fI,bI,Bool.or_eq_true,Bool.not_eq_true',beq_eq_false_iff_ne]at h;cases p with
 | false=>exact iB (by simp only[iv,cond_false];omega)
 | true=>
   refine dK ?_;have h2:=h.2.resolve_left (by simp);have:aM s.data.toList≠0:=λh0=>h2 ((jG h.1).1 h0)
   simp only[iv,cond_true];omega
theorem abj(p:Bool)(s:ByteArray):(iv p s).natAbs=aM s.data.toList:=by
 cases p<;>simp[iv]
theorem zk{p:Bool}{s:ByteArray}(h:fI p s=true):AV.agg [.c (.v (.bool p)),.c (.v (.string s))]=bY (iv p s):=by
 have hc:canon s.data.toList=true:=by
  simp only[fI,bI]at h;exact h.1
 unfold bY;rw[alS h,abj,gX _ hc];rfl
theorem vG(c:UInt8)(l:List UInt8):aM (c::l)=c.toNat*256^l.length+aM l:=by
 induction l using Cz with
 | h0=>simp[aM]
 | h1 l d ih=>
   rw[←List.cons_append,l8,l8,ih,List.length_append,List.length_singleton,Nat.pow_succ];rw[Nat.add_mul,Nat.mul_assoc];omega
theorem uo(a b:Nat):gq (a:Int) (b:Int)=if a<b then -1 else if b<a then 1 else 0:=by
 unfold gq;by_cases h:a<b
 ·rw[if_pos (by omega),if_pos h]
 ·rw[if_neg (by omega),if_neg h]
  by_cases h2:b<a
  ·rw[if_pos (by omega),if_pos h2]
  ·rw[if_neg (by omega),if_neg h2]
theorem QH: ∀(a b:List UInt8),a.length=b.length→Lib.compareBytes a b=gq (aM a:Int) (aM b:Int)
 | [],[],_=>by simp[Lib.compareBytes,gq]
 | x::a,y::b,h=>by
   have h:a.length=b.length:=by simpa using h
   have ih:=QH a b h;have ha:=uj a;have hb:=uj b;rw[h]at ha;unfold Lib.compareBytes;rw[uo,vG,vG,h];rw[uo]at ih;by_cases h1:x<y
   ·have h1':x.toNat<y.toNat:=h1
    have:(x.toNat+1)*256^b.length≤y.toNat*256^b.length:=Nat.mul_le_mul_right _ h1';rw[Nat.add_mul]at this;rw[if_pos h1,if_pos (by omega)]
   ·rw[if_neg h1]
    by_cases h2:y<x
    ·have h2':y.toNat<x.toNat:=h2
     have:(y.toNat+1)*256^b.length≤x.toNat*256^b.length:=Nat.mul_le_mul_right _ h2';rw[Nat.add_mul]at this;rw[if_pos h2,if_neg (by omega),if_pos (by omega)]
    ·have h1': ¬x.toNat<y.toNat:=h1
     have h2': ¬y.toNat<x.toNat:=h2;have hxy:x.toNat=y.toNat:=by omega
     rw[if_neg h2,ih,hxy];simp only[Nat.add_lt_add_iff_left]
 | [],_::_,h=>by simp at h
 | _::_,[],h=>by simp at h
theorem abk{a b:List UInt8}(hb:canon b=true)(h:a.length<b.length):aM a<aM b:=by
 cases b with
 | nil=>simp at h
 | cons c l=>
   have hc:c≠0:=by simpa[canon]using hb
   have h1:=um (l:=l) hc;have h2:=uj a;have:256^a.length≤256^l.length:=Nat.pow_le_pow_right (by omega) (by simp at h;omega);omega
theorem QI(a b:List UInt8)(ha:canon a=true)(hb:canon b=true):gV [gq (a.length:Int) (b.length:Int),Lib.compareBytes a b]=gq (aM a:Int) (aM b:Int):=by
 rw[uo,uo];rcases Nat.lt_trichotomy a.length b.length with h|h|h
 ·have:=abk hb h
  rw[if_pos h,if_pos this];rfl
 ·rw[if_neg (by omega),if_neg (by omega),QH a b h,uo]
  by_cases h1:aM a<aM b
  ·simp[gV,h1]
  ·by_cases h2:aM b<aM a
   ·simp[gV,h1,h2]
   ·simp[gV,h1,h2]
 ·have:=abk ha h
  rw[if_neg (by omega),if_pos h,if_neg (by omega),if_pos this];rfl
end Go.bA
namespace Go.bA
open Go.RowKit
section
variable{P:Program}{Γ:FuncId→Option Spec}
theorem bX.own{C:Ctx}{B:dI}{l l':List (Option gJ)}(h:bX l l')(b:Nat):aU C.A0 B (fD l') b→aU C.A0 B (fD l) b:=by
 have hm2: ∀s,pR (fD l s) (fD l' s):=h.len.2;rintro(h|⟨s,e,h1,h2⟩)
 ·exact .inl h
 ·have:=hm2 s
  rw[h1]at this;generalize hq:fD l s=q at this;cases this with
  | refl=>exact .inr ⟨s,e,hq,h2⟩
  | arr n sz el iV t _=>exact .inr ⟨s,_,hq,h2⟩
  | cells l m t _=>exact .inr ⟨s,_,hq,h2⟩
theorem xG{L:Nat→Nat→Option (St→Tr (Ex×St))}(hm:P.follows .mixedOrders=true)(hΓ: ∀f s,Γ f=some s→aH P f s){f:FuncId}{fn:Func}{c:Code}(hf:P.funcs[f]? =some fn)(hb:fn.body=some c)
  (hcall: ∀args w,(callFunc f args).run P w= .ok (.enter f args) w) {K:iD} {N:Nat} {xS:Bool}
  (hl: ∀ents args o,K ents args=some o→bB P ents.length (L ents.length) c)
  (h: ∀ents args o,K ents args=some o→(∀p∈o.conds,p)→ ∃akL args',bX ents akL∧dW args args'∧
   (jw P Γ (L ents.length) N xS fn akL args').sat λo'=>bL o'.val o.val∧bX (o'.outs++[o'.new]) (o.outs++[o.new])):fF P f K where
 sound:=by
  intro Xd Jd o C B w vs ho hC hk0 H0 alT hconds;refine gF.enter hf ⟨hcall _ _,calls_of_wp hf hb ?_⟩;obtain⟨ents,args,heq,abl,hs⟩:=h Xd Jd o ho hconds;have hel:Xd.length=ents.length:=heq.len.1;have H:Holds C B (mJ ents ents.length) Gl w:=by
   have:=H0.eqv (m:=fD ents) heq.len.2;rw[hel]at this;exact this
  have hargs:dN (aU C.A0 B (fD ents)) B w args vs:=by
   have h1:=abl.NG alT;exact⟨h1.1,λj hj=>(h1.2 j hj).trans (Trans.refl _ _) (λb _ hb=>heq.own b hb) (λ_ _ h=>h)⟩
  unfold jw at hs;rw[hb]at hs;simp only at hs;have hlen:vs.length=args.length:=hargs.1;have H1:Holds C B (pV ents args fn.ntmps) {tmps:=vs.toArray++Array.replicate (fn.ntmps-vs.toArray.size) undef,defers:=[]} w:=by
   refine{H with defers:=rfl,size:=by simp[pV,hlen],tm:=?_};intro t ht;by_cases hlt:t<args.length
   ·have:=hargs.2 t hlt
    have hlt':t<vs.length:=by omega
    simpa[pV,dJ,nS,List.getElem?_append_left hlt,Array.getElem?_append,hlt,hlt']using this
   ·have ht':t-args.length<fn.ntmps-args.length:=by simp only[pV,List.length_append,List.length_replicate]at ht;omega
    have hlt': ¬t<vs.length:=by omega
    have e1:(pV ents args fn.ntmps).tm.getD t .any= .c (.v undef):=by
     simp[pV,dJ,List.getElem?_append_right (Nat.le_of_not_lt hlt),List.getElem?_replicate,ht']
    have e2:(vs.toArray++Array.replicate (fn.ntmps-vs.toArray.size) undef).getD t undef=undef:=by
     simp[nS,Array.getElem?_append,hlt',Array.getElem?_replicate,hlen,ht',hlt]
    show aV _ _ _ _ _
    rw[e1];simp only[]at e2⊢;rw[e2];exact aV.lit _
  refine Code.wp_mono ?_ (pQ<| eU hm (y9 hΓ _) hC c (by rw[hk0];exact hl Xd Jd o ho) _ _ _ _ _ (Tr.cK hs) H1);rintro e a' w' ⟨ex,S',B',rfl,H',hq⟩
  have key:(Cy P fn ents.length xS S').sat (λo'=>bL o'.val o.val∧bX (o'.outs++[o'.new]) (o.outs++[o.new]))→
    a'.defers=[]∧ ∃v,(results fn a'.tmps).run P w'= .ok v w'∧ ∃v' B',Ending.returned v= .returned v'∧Holds C B' (mJ (o.outs++[o.new]) (Xd.length+1)) Gl w'∧aV (aU C.A0 B' (fD (o.outs++[o.new]))) B' w' o.val v':=by
   intro hfin;obtain⟨v,B2,o',hrun,⟨NJ,heqv⟩,H2,hrel,hol⟩:=Au hC (hk0.trans hel) H' hfin;refine⟨H'.defers,v,hrun,v,B2,rfl,?_⟩;have hm2: ∀s,pR (fD (o'.outs++[o'.new]) s) (fD (o.outs++[o.new]) s):=heqv.len.2;rw[hel];exact⟨H2.eqv hm2,NJ _ _ _ _ (hrel.trans (Trans.refl _ _) (λb _ h=>heqv.own b h) (λ_ _ h=>h))⟩
  cases ex with
  | normal=>exact key hq
  | ret=>exact key hq
  | exit id=>exact hq.elim
theorem mh{L:Nat→Option (St→Tr (Ex×St))}(hm:P.follows .mixedOrders=true)(hΓ: ∀f s,Γ f=some s→aH P f s){f:FuncId}{fn:Func}{c:Code}(hf:P.funcs[f]? =some fn)(hb:fn.body=some c)
  (hcall: ∀args w,(callFunc f args).run P w= .ok (.enter f args) w) {K:List AV→Option (AV×List Bool)} {N:Nat} (hl:bB P 0 L c)
  (hn: ∀args v cs,K args=some (v,cs)→bA.dY v=true)
  (h: ∀args v cs,K args=some (v,cs)→(∀p∈cs,p)→ ∃args',dW args args'∧(aN P Γ L N fn args').sat λr=>bA.dY r=true∧bL r v):aF P f K where
 sound:=λargs v cs hk=>⟨hn args v cs hk,λA w vs hA hc hargs=>by
  obtain⟨args',abl,hs⟩:=h args v cs hk hc;refine gF.enter hf ⟨hcall _ _,(Ao hm hΓ hf hb hl hs hA (abl.NG hargs)).mono ?_⟩;rintro e w' ⟨r,u,NJ,_,rfl,hrel,hb⟩;exact⟨u,rfl,NJ _ _ _ _ hrel,hb⟩⟩
end
end Go.bA
namespace Go.bA
open Go.Proofs
theorem abm(a b:Int):(alK a b).sat λr=>r=bR .i64 (gq a b):=by
 unfold alK gq;refine aj (λh=>Bool.noConfusion h) (λ_=>aj (λh=>Bool.noConfusion h) (λ_=>aj (λh=> ?_) (λh=> ?_)))
 ·rw[if_pos (iX h)];exact ak rfl
 ·rw[if_neg (of_decide_eq_false h)]
  refine aj (λh=> ?_) (λh=> ?_)
  ·rw[if_pos (iX h)];exact ak rfl
  ·rw[if_neg (of_decide_eq_false h)];exact ak rfl
theorem af2:aF prog 162 afP:=by
 refine vE eH (fn:=Tryz.f162) ?_ ?_
 ·intro args v cs h
  unfold afP at h
  split at h
  ·cases h;rfl
  ·cases h
 ·intro args v cs h hc
  unfold afP at h
  split at h
  ·rename_i a
   cases h;have hs:=(show(apW a).sat λr=>r=bJ false from ak (by simp[bJ]))
   rw[←afQ]at hs;generalize aN prog (λ_=>none) dn 1010 Tryz.f162 [.c (.v (.int .i64 a))]=T at hs⊢;exact Tr.aZ (λr hr=>⟨by subst hr;rfl,bL.of_eq hr⟩) hs
  ·cases h
theorem af3: ∀f s,alD f=some s→aH prog f s:=bM af2.spec
theorem NU:aF prog 111 Y7:=by
 refine vE af3 (fn:=Tryz.f111) ?_ ?_
 ·intro args v cs h
  unfold Y7 at h
  split at h
  ·cases h;rfl
  ·cases h
 ·intro args v cs h hc
  unfold Y7 at h
  split at h
  ·rename_i a b
   cases h;have hs:=abm a b;rw[←afR]at hs;generalize aN prog alD dn 1010 Tryz.f111 [.c (.v (.int .i64 a)),.c (.v (.int .i64 b))]=T at hs⊢;exact Tr.aZ (λr hr=>⟨by subst hr;rfl,bL.of_eq hr⟩) hs
  ·cases h
theorem Uu(l:List Int)(i:Nat)(hl:l.length≤1000)(hi:i<l.length){R:Jb ⊕ NR→Prop}(h1:l[i]≠0→R (.inr ⟨true,l[i]⟩))(h2:l[i]=0→R (.inl ⟨l,((i+1:Nat):Int)⟩)):(GL l (i:Nat)).sat R:=by
 have hg:l.getD i 0=l[i]:=by simp[dJ,hi]
 have hw:i64.wrap ((i:Int)+1)=((i+1:Nat):Int):=kU;unfold GL;simp only[Int.toNat_natCast,hg,hw,LX];exact aj (λ_=>ah (dA) (aj (λh=>ah rfl (ak (h1 (by simpa using h)))) (λh=>ah rfl (ah rfl (ah (by simp) (ah (LW l _) (ak (h2 (by simpa using h))))))))) (λh=>absurd (show(i:Int)<(l.length:Nat)by omega) (of_decide_eq_false h))
theorem Xe(l:List Int)(hl:l.length≤1000)(Q:NR→Prop): ∀(k i:Nat),i+k=l.length→Q ⟨gV (l.drop i) !=0,gV (l.drop i)⟩→aS (λx:Jb=>GL x.l x.i) Q (k+1) ⟨l,i⟩
 | 0,i,hi,hq=>by
   obtain rfl:i=l.length:=by omega
   rw[List.drop_length]at hq;exact aj (λh=>absurd (iX h) (Int.lt_irrefl _)) (λ_=>ah rfl (ak hq))
 | k+1,i,hi,hq=>by
   have hlt:i<l.length:=by omega
   have hd:l.drop i=l[i]::l.drop (i+1):=List.drop_eq_getElem_cons hlt;have ih:=Xe l hl Q k (i+1) (by omega);rw[hd]at hq;refine Uu l i hl hlt (λhne=> ?_) (λhe=> ?_)
   ·simp only[gV,if_neg hne]at hq
    have hb:(l[i] !=0)=true:=by simpa using hne
    rw[hb]at hq;exact hq
   ·simp only[gV,if_pos he]at hq
    exact ih hq
theorem Uv:bB prog 0 afO (codeOf Tryz.f109):=by
 refine gu (N:=1010) (L':=dn) eH (aA 0 _) (Us _) (Ut Ey) ?_;rintro⟨l,i⟩ hx;have hx:Ey.pre ⟨l,i⟩=true:=hx;simp only[Ey,bI,dS]at hx;obtain⟨⟨h1,h2⟩,h3⟩:=hx;obtain⟨i,rfl⟩: ∃m:Nat,i=m:=⟨i.toNat,by omega⟩
 exact⟨_,Xe l h3 (· =Ey.res ⟨l,i⟩) (l.length-i) i (by omega) (by simp[Ey])⟩
theorem abn(l:List Int)(hl:l.length≤1000):(alL l).sat λr=>r=bR .i64 (gV l):=by
 unfold alL;simp only[LX];have e:List.drop (Int.toNat 0) l=l:=rfl;rw[e];refine ah rfl (ah rfl (ah (by simp) (ah (LW l _) (ah ?_ (aj (λ_=>ak rfl) (λh=> ?_))))))
 ·simp[hl]
 ·have h0:gV l=0:=by simpa using h
  rw[h0];exact ak rfl
theorem Xf:aF prog 109 abh:=by
 refine mh (L:=afO) aI eH (fn:=Tryz.f109) (c:=codeOf Tryz.f109) (by kernel_rfl) (by kernel_rfl) (cO (fn:=Tryz.f109) (c:=codeOf Tryz.f109) (by kernel_rfl) (by kernel_rfl) (by kernel_rfl)) (N:=1010) Uv ?_ ?_
 ·intro args v cs h
  unfold abh at h
  split at h
  ·cases h;rfl
  ·cases h
 ·intro args v cs h hc
  unfold abh at h
  split at h
  ·rename_i n el
   cases h;have h1:uO n el=true:=hc (uO n el) (by simp);have h2:n≤1000:=dec (hc (decide (n≤1000)) (by simp));have e1:=LV h1;have hlen:=Ja n el;generalize nA n el=l at e1 hlen⊢;subst hlen;refine⟨[.c (.sl l.length 1 (vF l))],.cons (bL.sl e1) .nil,?_⟩;have hs:=abn l h2;rw[←afS]at hs;generalize aN prog (λ_=>none) afO 1010 Tryz.f109 [.c (.sl l.length 1 (vF l))]=T at hs⊢;exact Tr.aZ (λr hr=>⟨by subst hr;rfl,bL.of_eq hr⟩) hs
  ·cases h
theorem Xg:LP prog 306 Extern.BytealgCompare.compare:=⟨Tryz.f306,by kernel_rfl,by kernel_rfl,by kernel_rfl,by kernel_rfl,by kernel_rfl⟩
theorem af4: ∀f s,alF f=some s→aH prog f s:=bM (aa5 Xg).spec
theorem af5:aF prog 292 ni:=by
 refine vE af4 (fn:=Tryz.f292) ?_ ?_
 ·intro args v cs h
  unfold ni at h
  split at h
  ·cases h;rfl
  ·cases h
 ·intro args v cs h hc
  unfold ni at h
  split at h
  ·rename_i a b
   cases h;have hs:=(show(apX a b).sat λr=>r=bR .i64 (Lib.compareBytes a.data.toList b.data.toList)from ak rfl)
   rw[←afT]at hs;generalize aN prog alF dn 1010 Tryz.f292 [.c (.v (.string a)),.c (.v (.string b))]=T at hs⊢;exact Tr.aZ (λr hr=>⟨by subst hr;rfl,bL.of_eq hr⟩) hs
  ·cases h
theorem af6: ∀f s,alG f=some s→aH prog f s:=bM af5.spec
theorem af7:aF prog 262 ni:=by
 refine vE af6 (fn:=Tryz.f262) ?_ ?_
 ·intro args v cs h
  unfold ni at h
  split at h
  ·cases h;rfl
  ·cases h
 ·intro args v cs h hc
  unfold ni at h
  split at h
  ·rename_i a b
   cases h;have hs:=(show(apY a b).sat λr=>r=bR .i64 (Lib.compareBytes a.data.toList b.data.toList)from ak rfl)
   rw[←afU]at hs;generalize aN prog alG dn 1010 Tryz.f262 [.c (.v (.string a)),.c (.v (.string b))]=T at hs⊢;exact Tr.aZ (λr hr=>⟨by subst hr;rfl,bL.of_eq hr⟩) hs
  ·cases h
def QJ:List AV→Option (AV×List Bool)
 | [.c (.v (.string a)),.c (.v (.string b))]=>some (.fG [bR .u64 (gI a),bR .u64 (gI b),bJ (fH a&&fH b)],[])
 | _=>none
theorem af8: ∀f s,alE f=some s→aH prog f s:=bM Xb.spec
theorem abo(a b:ByteArray):(alM a b).sat λr=>r= .fG [bR .u64 (gI a),bR .u64 (gI b),bJ (fH a&&fH b)]:=by
 unfold alM;cases fH a<;>exact ah rfl (ak rfl)
theorem CJ:aF prog 256 QJ:=by
 refine vE af8 (fn:=Tryz.f256) ?_ ?_
 ·intro args v cs h
  unfold QJ at h
  split at h
  ·cases h;rfl
  ·cases h
 ·intro args v cs h hc
  unfold QJ at h
  split at h
  ·rename_i a b
   cases h;have hs:=abo a b;rw[←afV]at hs;generalize aN prog alE dn 1010 Tryz.f256 [.c (.v (.string a)),.c (.v (.string b))]=T at hs⊢;exact Tr.aZ (λr hr=>⟨by subst hr;rfl,bL.of_eq hr⟩) hs
  ·cases h
def Y8:List AV→Option (AV×List Bool)
 | [.c (.v (.string a)),.c (.v (.string b))]=>some (bR .i64 (gq (aM a.data.toList:Int) (aM b.data.toList:Int)),[canon a.data.toList,canon b.data.toList])
 | _=>none
theorem af9: ∀f s,alH f=some s→aH prog f s:=step_ok NU.spec (step_ok af7.spec (bM Xf.spec))
theorem abp(a b:ByteArray)(ha:canon a.data.toList=true)(hb:canon b.data.toList=true):(alN a b).sat λr=>r=bR .i64 (gq (aM a.data.toList:Int) (aM b.data.toList:Int)):=by
 unfold alN;refine ah rfl (ah rfl (ah rfl (ak ?_)));rw[←QI _ _ ha hb];rfl
theorem NV:aF prog 226 Y8:=by
 refine vE af9 (fn:=Tryz.f226) ?_ ?_
 ·intro args v cs h
  unfold Y8 at h
  split at h
  ·cases h;rfl
  ·cases h
 ·intro args v cs h hc
  unfold Y8 at h
  split at h
  ·rename_i a b
   cases h;have ha:canon a.data.toList=true:=hc (canon a.data.toList) (by simp);have hb:canon b.data.toList=true:=hc (canon b.data.toList) (by simp);have hs:=abp a b ha hb;rw[←afW]at hs;generalize aN prog alH dn 1010 Tryz.f226 [.c (.v (.string a)),.c (.v (.string b))]=T at hs⊢;exact Tr.aZ (λr hr=>⟨by subst hr;rfl,bL.of_eq hr⟩) hs
  ·cases h
def Uw:List AV→Option (AV×List Bool)
 | [.agg [.c (.v (.bool p)),.c (.v (.string a))]]=>some (bR .i64 (gq (iv p a) 0),[fI p a])
 | _=>none
theorem abq(p:Bool)(a:ByteArray)(h:fI p a=true):(alO p a).sat λr=>r=bR .i64 (gq (iv p a) 0):=by
 have hc:canon a.data.toList=true:=by simp only[fI,bI]at h;exact h.1
 have hz:=jG hc;unfold alO;refine aj (λh0=> ?_) (λh0=> ?_)
 ·have h0:a.data.toList=[]:=eq_of_beq h0
  have:iv p a=0:=by
   have:=hz.2 h0;cases p<;>simp[iv,this]
  rw[this];exact ak rfl
 ·have h0:a.data.toList≠ []:=by simpa using h0
  have hm:aM a.data.toList≠0:=λhh=>h0 (hz.1 hh)
  refine aj (λhp=> ?_) (λhp=> ?_)
  ·subst hp
   have:gq (iv true a) 0= -1:=by unfold gq;rw[if_pos (by simp only[iv,cond_true];omega)]
   rw[this];exact ak rfl
  ·subst hp
   have:gq (iv false a) 0=1:=by unfold gq;rw[if_neg (by simp only[iv,cond_false];omega),if_pos (by simp only[iv,cond_false];omega)]
   rw[this];exact ak rfl
theorem GN:aF prog 193 Uw:=by
 refine vE eH (fn:=Tryz.f193) ?_ ?_
 ·intro args v cs h
  unfold Uw at h
  split at h
  ·cases h;rfl
  ·cases h
 ·intro args v cs h hc
  unfold Uw at h
  split at h
  ·rename_i p a
   cases h;have h1:fI p a=true:=hc (fI p a) (by simp);have hs:=abq p a h1;rw[←afX]at hs;generalize aN prog (λ_=>none) dn 1010 Tryz.f193 [.agg [.c (.v (.bool p)),.c (.v (.string a))]]=T at hs⊢;exact Tr.aZ (λr hr=>⟨by subst hr;rfl,bL.of_eq hr⟩) hs
  ·cases h
def abr:List AV→Option (AV×List Bool)
 | [.agg [.c (.v (.bool p)),.c (.v (.string a))]]=>some (bY (-(iv p a)),[fI p a])
 | _=>none
theorem aga: ∀f s,alI f=some s→aH prog f s:=bM zf.spec
theorem abt(p:Bool)(a:ByteArray)(h:fI p a=true):(alP p a).sat λr=>r=bY (-(iv p a)):=by
 have hc:canon a.data.toList=true:=by simp only[fI,bI]at h;exact h.1
 have hz:=jG hc;unfold alP;refine ak ?_;have e:(!p&& !(a.data.toList==[]))=decide (-(iv p a)<0):=by
  by_cases h0:a.data.toList=[]
  ·have:=hz.2 h0
   rw[h0];cases p<;>simp[iv,this]
  ·have hm:aM a.data.toList≠0:=λhh=>h0 (hz.1 hh)
   have hb:(a.data.toList==[])=false:=by simpa using h0
   rw[hb];cases p<;>simp[iv]<;>(try omega)
 unfold bY;rw[←e,Int.natAbs_neg,abj,gX _ hc];rfl
theorem Xh:aF prog 191 abr:=by
 refine vE aga (fn:=Tryz.f191) ?_ ?_
 ·intro args v cs h
  unfold abr at h
  split at h
  ·cases h;rfl
  ·cases h
 ·intro args v cs h hc
  unfold abr at h
  split at h
  ·rename_i p a
   cases h;have h1:fI p a=true:=hc (fI p a) (by simp);have hs:=abt p a h1;rw[←afY]at hs;generalize aN prog alI dn 1010 Tryz.f191 [.agg [.c (.v (.bool p)),.c (.v (.string a))]]=T at hs⊢;generalize -(iv p a)=z at hs⊢;exact Tr.aZ (λr hr=>⟨by subst hr;rfl,bL.of_eq hr⟩) hs
  ·cases h
def agb:List AV→Option (AV×List Bool)
 | [.agg [.c (.v (.bool p)),.c (.v (.string a))]]=>some (bR .i64 (if fI p a then 0 else 5),[])
 | _=>none
theorem abu(p:Bool)(a:ByteArray):(alQ p a).sat λr=>r=bR .i64 (if fI p a then 0 else 5):=by
 unfold alQ fI;generalize a.data.toList=l;cases l with
 | nil=>
   cases p
   ·exact ah rfl (aj (λh=>Bool.noConfusion h) (λ_=>ak rfl))
   ·exact ah rfl (aj (λ_=>ak rfl) (λh=>Bool.noConfusion h))
 | cons c l=>
   have hc:(canon (c::l)&&(!p || !((c::l)==[])))=(c !=0):=by simp[canon]
   have hlen:decide ((0:Int)≤0∧(0:Int)<(((c::l).length:Nat):Int))=true:=dK (by simp);have hg:(c::l).getD (Int.toNat 0) 0=c:=rfl;have hnil:((c::l)==([]:List UInt8))=false:=rfl;rw[hc];simp only[hnil,hlen,hg,cond_false,cond_true,Bool.not_false,Bool.and_true];refine ah rfl (aj (λh=> ?_) (λh=> ?_))
   ·have h:((c.toNat:Int)==0)=true:=h
    have:c=0:=UInt8.toNat_inj.1 (by simpa using h);subst this;exact ak rfl
   ·have h:((c.toNat:Int)==0)=false:=h
    have:c≠0:=by rintro rfl;cases h
    have hb:(c !=0)=true:=by simpa using this
    rw[hb];exact ak rfl
theorem agc:aF prog 263 agb:=by
 refine vE eH (fn:=Tryz.f263) ?_ ?_
 ·intro args v cs h
  unfold agb at h
  split at h
  ·cases h;rfl
  ·cases h
 ·intro args v cs h hc
  unfold agb at h
  split at h
  ·rename_i p a
   cases h;have hs:=abu p a;rw[←afZ]at hs;generalize aN prog (λ_=>none) dn 1010 Tryz.f263 [.agg [.c (.v (.bool p)),.c (.v (.string a))]]=T at hs⊢;generalize (if fI p a=true then(0:Int)else 5)=z at hs⊢;exact Tr.aZ (λr hr=>⟨by subst hr;rfl,bL.of_eq hr⟩) hs
  ·cases h
def abv:List AV→Option (AV×List Bool)
 | [.c (.v (.int .i64 n))]=>some (bY n,[decide (-9223372036854775808≤n),decide (n≤9223372036854775807)])
 | _=>none
theorem agd: ∀f s,alJ f=some s→aH prog f s:=step_ok zf.spec (bM zi.spec)
theorem abw(n:Int)(h1: -9223372036854775808≤n)(h2:n≤9223372036854775807):(alR n).sat λr=>r=bY n:=by
 have key: ∀m:Int,m.toNat=n.natAbs→0≤m→m<18446744073709551616→(need (iK m) (ret (AV.agg [AV.c (.v (.bool (decide (n<0)&& !aD m.toNat==[]))),AV.c (.v (.string ⟨⟨aD m.toNat⟩⟩))]))).sat λr=>r=bY n:=by
  intro m hm h0 hlt;refine ah (by simp[iK,h0,hlt]) (ak ?_);rw[hm];unfold bY;by_cases hn:n<0
  ·have hne:aD n.natAbs≠ []:=λhh=>by
    have:=iM n.natAbs;rw[hh]at this;have h3:aM []=0:=rfl;omega
   have hb:(aD n.natAbs==[])=false:=by simpa using hne
   rw[dK hn,hb];rfl
  ·rw[iB hn]
   rfl
 unfold alR;refine aj (λh=> ?_) (λh=> ?_)
 ·have h:=iX h
  have e:u64.wrap (0-u64.wrap n)= -n:=by
   rw[wrap_u64,wrap_u64];omega
  rw[e];exact key (-n) (by omega) (by omega) (by omega)
 ·have h:=of_decide_eq_false h
  have e:u64.wrap n=n:=by rw[wrap_u64];omega
  rw[e];exact key n (by omega) (by omega) (by omega)
theorem Xi:aF prog 70 abv:=by
 refine vE agd (fn:=Tryz.f70) ?_ ?_
 ·intro args v cs h
  unfold abv at h
  split at h
  ·cases h;rfl
  ·cases h
 ·intro args v cs h hc
  unfold abv at h
  split at h
  ·rename_i n
   cases h;have h1: -9223372036854775808≤n:=dec (hc (decide (-9223372036854775808≤n)) (by simp));have h2:n≤9223372036854775807:=dec (hc (decide (n≤9223372036854775807)) (by simp));have hs:=abw n h1 h2;rw[←af0]at hs;generalize aN prog alJ dn 1010 Tryz.f70 [.c (.v (.int .i64 n))]=T at hs⊢;exact Tr.aZ (λr hr=>⟨by subst hr;rfl,bL.of_eq hr⟩) hs
  ·cases h
end Go.bA
namespace Go.bA
open Go.Proofs
def aB(l:List Nat):Nat→List IV:=λk=> [.v (.int .u32 ((l.getD k 0:Nat):Int))]
def u32Of:List IV→Nat
 | [.v (.int .u32 n)]=>n.toNat
 | _=>0
def QK:List IV→Bool
 | [.v (.int .u32 n)]=>decide (0≤n)&&decide (n<4294967296)
 | _=>false
def aL(n:Nat)(el:Nat→List IV):List Nat:=(List.range n).map λk=>u32Of (el k)
def aJ(n:Nat)(el:Nat→List IV):Bool:=(List.range n).all λk=>QK (el k)
def okD(l:List Nat):Bool:=l.all λd=>decide (d<4294967296)
theorem jN(n:Nat)(el:Nat→List IV):(aL n el).length=n:=by simp[aL]
theorem gQ{n:Nat}{el:Nat→List IV}(h:aJ n el=true):(∀k,k<n→el k=aB (aL n el) k)∧okD (aL n el)=true:=by
 have h1:=List.all_eq_true.1 h;have key: ∀k,k<n→el k=[.v (.int .u32 ((u32Of (el k):Nat):Int))]∧u32Of (el k)<4294967296:=λk hk=>by
  have h2:=h1 k (List.mem_range.2 hk);unfold QK at h2
  split at h2
  ·rename_i m hh
   simp only[bI,dS]at h2;rw[hh];simp only[u32Of];exact⟨by rw[Int.toNat_of_nonneg h2.1],by omega⟩
  ·cases h2
 refine⟨λk hk=> ?_,List.all_eq_true.2 λd hd=> ?_⟩
 ·have e:(aL n el).getD k 0=u32Of (el k):=by simp[aL,dJ,hk]
  unfold aB;rw[e];exact(key k hk).1
 ·unfold aL at hd
  obtain⟨k,hk,rfl⟩:=List.mem_map.1 hd;exact dK (key k (List.mem_range.1 hk)).2
theorem aO{l:List Nat}(h:okD l=true)(n:Nat):aJ n (aB l)=true:=by
 refine List.all_eq_true.2 λk _=> ?_
 have:l.getD k 0<4294967296:=by
  by_cases hk:k<l.length
  ·have:=List.all_eq_true.1 h l[k] (List.getElem_mem hk)
   have e:l.getD k 0=l[k]:=by simp[dJ,hk]
   rw[e];simpa using this
  ·have e:l.getD k 0=0:=by simp[dJ,List.getElem?_eq_none (Nat.le_of_not_lt hk)]
   rw[e];decide
 simp only[aB,QK,bI,dS];omega
theorem aW(l:List Nat):aL l.length (aB l)=l:=by
 apply List.ext_getElem
 ·simp[aL]
 ·intro i h1 h2
  simp[aL,aB,u32Of,dJ,h2]
theorem Ux(l:List Nat)(k b:Nat)(hk:k<l.length)(hok:okD l=true)(hb:b<4294967296):
  aL l.length (aT (aB l) k 0 [IV.v (.int .u32 (b:Int))].reverse)=l.set k b∧aJ l.length (aT (aB l) k 0 [IV.v (.int .u32 (b:Int))].reverse)=true:=by
 have hel: ∀i,aT (aB l) k 0 [IV.v (.int .u32 (b:Int))].reverse i=if i=k then [IV.v (.int .u32 (b:Int))]else aB l i:=by
  intro i;unfold aT
  split
  ·rename_i h;subst h;simp[aB]
  ·rfl
 constructor
 ·apply List.ext_getElem
  ·simp[aL]
  ·intro i h1 h2
   simp only[aL,List.getElem_map,List.getElem_range,hel];by_cases hi:i=k
   ·subst hi
    simp[u32Of]
   ·have hil:i<l.length:=by simpa[aL]using h1
    rw[if_neg hi,List.getElem_set_ne (by omega)];simp[aB,u32Of,dJ,hil]
 ·refine List.all_eq_true.2 λi hi=> ?_
  rw[hel]
  split
  ·simp[QK];omega
  ·exact List.all_eq_true.1 (aO hok l.length) i hi
theorem agf{l:List Nat}(h:okD l=true)(k b:Nat)(hb:b<4294967296):okD (l.set k b)=true:=by
 refine List.all_eq_true.2 λd hd=> ?_
 rcases List.mem_or_eq_of_mem_set hd with h1|h1
 ·exact List.all_eq_true.1 h d h1
 ·subst h1;exact dK hb
def bn(v:Nat):Nat→List Nat
 | 0=> []
 | k+1=>v%4294967296::bn (v/4294967296) k
theorem bN: ∀(k v:Nat),(bn v k).length=k
 | 0,v=>rfl
 | k+1,v=>by simp[bn,bN k]
theorem lI: ∀(k v i:Nat),i<k→(bn v k).getD i 0=v/4294967296^i%4294967296
 | k+1,v,0,_=>by simp[bn]
 | k+1,v,i+1,h=>by
   simp only[bn,List.getD_cons_succ];rw[lI k (v/4294967296) i (by omega),Nat.div_div_eq_div_mul, ←Nat.pow_succ']
theorem bZ: ∀(k v:Nat),okD (bn v k)=true
 | 0,v=>rfl
 | k+1,v=>by
   simp only[bn,okD,List.all_cons,bI,dS];exact⟨Nat.mod_lt _ (by decide),bZ k _⟩
theorem sH{l:List Nat}{v:Nat}(h: ∀i,i<l.length→l.getD i 0=v/4294967296^i%4294967296):l=bn v l.length:=by
 apply List.ext_getElem
 ·rw[bN]
 ·intro i h1 h2
  have e1:l.getD i 0=l[i]:=by simp[dJ,h1]
  have e2:(bn v l.length).getD i 0=(bn v l.length)[i]:=by simp[dJ,h2]
  rw[←e1, ←e2,h i h1,lI _ _ _ h1]
structure Ad where
 s:ByteArray
 l:List Nat
 n:Int
 i:Int
def CK(x:Ad):List AV×List (Option gJ):=([.c (.v (.string x.s)),.fK 0 x.l.length 1,bR .i64 x.n,bR .i64 x.i],[some (.arr x.l.length 1 (aB x.l) 335)])
def GQ:List AV×List (Option gJ)→Option (Ad×List Bool)
 | ([.c (.v (.string s)),.fK 0 m 1,.c (.v (.int .i64 n)),.c (.v (.int .i64 i))],[some (.arr m' 1 el 335)])=>some (⟨s,aL m el,n,i⟩,[decide (m=m'),aJ m el])
 | _=>none
def QL(w:Way Ad):bC Ad Ad where
 nIn:={nt:=38,live:=[0,3,12,13]}
 qF:={nt:=38,live:=[0,3,12,13]}
 head:=CK
 take:=GQ
 out:=λr=>(.normal,CK r)
 iC:=λq=>match q with|(.normal,q)=>GQ q | _=>none
 res:=w.res
 pre:=w.pre
theorem Je(q:List AV×List (Option gJ))(x:Ad)(cs:List Bool)(h:GQ q=some (x,cs))(hc: ∀p∈cs,p):dW q.1 (CK x).1∧bX q.2 (CK x).2:=by
 unfold GQ at h
 split at h
 ·rename_i s m n i m' el
  simp only[fu,Prod.mk.injEq]at h;obtain⟨rfl,rfl⟩:=h;have h1:m=m':=dec (hc (decide (m=m')) (by simp));have h2:aJ m el=true:=hc (aJ m el) (by simp);subst h1;simp only[CK,jN];exact⟨dW.refl _,.cons (.arr _ _ _ _ _ (gQ h2).1) .nil⟩
 ·cases h
theorem Uy(w:Way Ad):(QL w).gH where
 take:=Je
 iC:=by
  intro e q r cs h hc;cases e with
  | normal=>obtain⟨h1,h2⟩:=Je q r cs h hc;exact⟨rfl,h1,h2⟩
  | exit j=>cases h
  | ret=>cases h
 split:=λr Q h=>h
def bE(n:Nat):Nat:=(n+3)/4
def Jf:Way Ad:=⟨λx=>⟨x.s,bn (aM x.s.data.toList) x.l.length,x.n,x.n⟩,
 λx=>decide (x.n=(x.s.data.toList.length:Nat))&&decide (x.i=0)&&decide (x.l.length=bE x.s.data.toList.length)&&decide (x.l=List.replicate x.l.length 0)&&decide (x.s.data.toList.length≤1000000000)⟩
def agh:Nat→Option (St→Tr (Ex×St)):=λid=>bif beq id 0 then some ((QL Jf).g 0)else none
end Go.bA
namespace Go.bA
open Go.Proofs
def zm(s:ByteArray)(l:List Nat)(n:Int)(i:Int):Tr (Ad ⊕ Ad):=
 let x1:Int:=i64.wrap (i.tdiv 4)
 let x2:Int:= ↑l.length
 let x3:Nat:=x1.toNat
 let x4:List UInt8:=s.data.toList
 let x5:Int:= ↑x4.length
 let x6:Int:=i64.wrap (i64.wrap (x5-1)-i)
 let x7:Int:=i64.wrap (8*i.tmod 4)
 .ite (decide (i<n)) (.need true (.need (decide (0≤x1∧x1<x2)) (.need (decide (x3<l.length)) (.need (decide (0≤x6∧x6<x5)) (.need true (.need (decide ¬x7<0) (.need (decide (0≤x1∧x1<x2)) (.need (decide (x3<l.length)) (.need (decide (l.length=l.length)) (.need (aJ l.length (aT (aB l) x3 0 [IV.v (.int u32 (u32.wrap ↑(BitVec.ofInt u32.bits ↑(l.getD x3 0) ||| BitVec.ofInt u32.bits (u32.wrap (u32.wrap ↑(x4.getD x6.toNat 0).toNat*2^min x7.toNat u32.bits))).toNat))].reverse)) (.ret (Sum.inl {s:=s,l:=aL l.length (aT (aB l) x3 0 [IV.v (.int u32 (u32.wrap ↑(BitVec.ofInt u32.bits ↑(l.getD x3 0) ||| BitVec.ofInt u32.bits (u32.wrap (u32.wrap ↑(x4.getD x6.toNat 0).toNat*2^min x7.toNat u32.bits))).toNat))].reverse),n:=n,i:=i64.wrap (i+1)})))))))))))) (.need (decide (l.length=l.length)) (.need (aJ l.length (aB l)) (.ret (Sum.inr {s:=s,l:=aL l.length (aB l),n:=n,i:=i}))))
def alU(s:ByteArray):Tr dx:=
 let x1:List UInt8:=s.data.toList
 let x2:Int:= ↑x1.length
 let x3:Int:=i64.wrap ((i64.wrap (x2+3)).tdiv 4)
 let x4:Int:=((4:Nat):Int)*x3
 let x5:Nat:=x3.toNat
 let x6:List Nat:=aL x5 λx=>List.map IV.v [Value.int u32 0]
 let x7:Nat:=x6.length
 let x8:List Nat:=List.replicate x7 0
 let x9:List Nat:=bn (aM x1) x7
 let x10:Nat:=x9.length
 .need true (.need (decide (x3=x3)) (.need (decide (0≤x3)) (.need (decide (x3≤9223372036854775807)) (.need (decide (x4≤140737488355328)) (.need (decide (x5=x5)) (.need (aJ x5 λx=>List.map IV.v [Value.int u32 0]) (.need (decide (x2=x2)&&decide ((0:Int)=0)&&decide (x7=bE x1.length)&&decide (x6=x8)&&decide (x1.length≤1000000000)) (.ret {val:=AV.fK 0 x10 1,outs:=[],new:=some (gJ.arr x10 1 (aB x9) 335)}))))))))
theorem Uz(w:Way Ad)(x:Ad):(exec prog (λ_=>none) dn 1010 (aR 0 (codeOf Tryz.f259)) (eY (QL w).nIn ((QL w).head x))).bind ((QL w).fin 0 0)=zm x.s x.l x.n x.i:=by
 obtain⟨s,l,n,i⟩:=x
 kernel_rfl
theorem agi(s:ByteArray):jw prog (λ_=>none) agh 1010 false Tryz.f259 [] [.c (.v (.string s))]=alU s:=by kernel_rfl
theorem wrap_u32(x:Int):u32.wrap x=x%4294967296:=by
 simp[IntKind.wrap,IntKind.bits,IntKind.signed]
theorem GR(x:Nat)(hx:x<4294967296):(BitVec.ofInt 32 (x:Int)).toNat=x:=by
 rw[BitVec.toNat_ofInt];omega
def CO(l:List UInt8)(i:Nat):Nat:=aM (l.drop (l.length-i))
theorem agj(l:List UInt8)(i:Nat)(h:i≤l.length):CO l i<256^i:=by
 have:=uj (l.drop (l.length-i));rw[List.length_drop,show l.length-(l.length-i)=i by omega]at this;exact this
theorem Y9(l:List UInt8)(i:Nat)(h:i<l.length):CO l (i+1)=CO l i+(l.getD (l.length-1-i) 0).toNat*256^i:=by
 unfold CO;have e:l.drop (l.length-(i+1))=l[l.length-1-i]'(by omega)::l.drop (l.length-i):=by
  have h1:=List.drop_eq_getElem_cons (l:=l) (i:=l.length-1-i) (by omega);rw[show l.length-1-i+1=l.length-i by omega]at h1;rw[show l.length-(i+1)=l.length-1-i by omega];exact h1
 have hg:l.getD (l.length-1-i) 0=l[l.length-1-i]'(by omega):=by simp[dJ,show l.length-1-i<l.length by omega]
 rw[e,vG,hg,List.length_drop,show l.length-(l.length-i)=i by omega,Nat.add_comm]
theorem abx(l:List UInt8):CO l l.length=aM l:=by simp[CO]
theorem LY(i:Nat):256^i=4294967296^(i/4)*256^(i%4):=by
 have:(4294967296:Nat)=256^4:=by decide
 rw[this, ←Nat.pow_mul, ←Nat.pow_add,Nat.div_add_mod]
theorem zn(r:Nat)(h:r<4):256^r≤16777216:=by
 calc 256^r≤256^3:=Nat.pow_le_pow_right (by omega) (by omega)
  _=16777216:=by decide
theorem Xj(v i n:Nat)(hv:v<256^i)(hn:i/4<n):(bn v n).getD (i/4) 0=v/4294967296^(i/4)∧v/4294967296^(i/4)<256^(i%4):=by
 have hp:0<4294967296^(i/4):=Nat.pow_pos (by decide);have h1:v/4294967296^(i/4)<256^(i%4):=by
  rw[Nat.div_lt_iff_lt_mul hp,Nat.mul_comm, ←LY];exact hv
 have h2:=zn (i%4) (Nat.mod_lt _ (by decide));refine⟨?_,h1⟩;rw[lI n v _ hn,Nat.mod_eq_of_lt (by omega)]
theorem aby(v b i n:Nat)(hv:v<256^i)(hb:b<256)(hn:i/4<n):(bn v n).set (i/4) (v/4294967296^(i/4)+b*256^(i%4))=bn (v+b*256^i) n:=by
 obtain⟨_,hlt⟩:=Xj v i n hv hn;have hs:=zn (i%4) (Nat.mod_lt _ (by decide));have hi:=LY i;have hlen:((bn v n).set (i/4) (v/4294967296^(i/4)+b*256^(i%4))).length=n:=by rw[List.length_set,bN]
 have:=sH (l:=(bn v n).set (i/4) (v/4294967296^(i/4)+b*256^(i%4))) (v:=v+b*256^i) λj hj=> ?_
 ·rw[hlen]at this;exact this
 ·rw[hlen]at hj
  have hpj:0<4294967296^j:=Nat.pow_pos (by decide);by_cases hjk:j=i/4
  ·subst hjk
   have e:((bn v n).set (i/4) (v/4294967296^(i/4)+b*256^(i%4))).getD (i/4) 0=v/4294967296^(i/4)+b*256^(i%4):=by
    simp[dJ,List.getElem?_set_self (show i/4<(bn v n).length by rw[bN];exact hn)]
   have hmul:b*256^(i%4)≤255*256^(i%4):=Nat.mul_le_mul_right _ (by omega);have e3:(v+b*256^i)/4294967296^(i/4)=v/4294967296^(i/4)+b*256^(i%4):=by
    rw[hi, ←Nat.mul_assoc,Nat.mul_right_comm,Nat.add_mul_div_right _ _ hpj]
   rw[e,e3];generalize v/4294967296^(i/4)=q at hlt⊢;generalize b*256^(i%4)=z at hmul⊢;generalize 256^(i%4)=D at hlt hmul hs;exact(Nat.mod_eq_of_lt (by omega)).symm
  ·have e:((bn v n).set (i/4) (v/4294967296^(i/4)+b*256^(i%4))).getD j 0=(bn v n).getD j 0:=by
    simp[dJ,List.getElem?_set_ne (Ne.symm hjk)]
   rw[e,lI n v j hj];by_cases hlt2:j<i/4
   ·obtain⟨m,hm⟩: ∃m,i/4=j+(m+1):=⟨i/4-j-1,by omega⟩
    have e2:b*256^i=b*4294967296^m*256^(i%4)*4294967296*4294967296^j:=by
     rw[hi,hm,Nat.pow_add,Nat.pow_succ];generalize 4294967296^j=A;generalize 4294967296^m=C;generalize 256^(i%4)=D;simp only[Nat.mul_assoc,Nat.mul_comm,Nat.mul_left_comm]
    rw[e2,Nat.add_mul_div_right _ _ hpj,Nat.add_mul_mod_self_right]
   ·have hgt:i/4+1≤j:=by omega
    have h1:4294967296^(i/4+1)≤4294967296^j:=Nat.pow_le_pow_right (by decide) hgt;have h2:256^(i+1)≤4294967296^(i/4+1):=by
     have:(4294967296:Nat)=256^4:=by decide
     rw[this, ←Nat.pow_mul];exact Nat.pow_le_pow_right (by decide) (by omega)
    have h3:v+b*256^i<256^(i+1):=by
     have:b*256^i≤255*256^i:=Nat.mul_le_mul_right _ (by omega);rw[Nat.pow_succ];omega
    rw[Nat.div_eq_of_lt (show v+b*256^i<4294967296^j by omega),Nat.div_eq_of_lt (show v<4294967296^j by omega)]
theorem alV(o b r:Nat)(ho:o<256^r)(hb:b<256)(hr:r<4):
  u32.wrap ((BitVec.ofInt u32.bits (o:Int) ||| BitVec.ofInt u32.bits (u32.wrap (u32.wrap (b:Int)*2^min (8*r) u32.bits))).toNat:Nat)=((o+b*256^r:Nat):Int):=by
 have hs:=zn r hr;have hmul:b*256^r≤255*256^r:=Nat.mul_le_mul_right _ (by omega);have e1:min (8*r) u32.bits=8*r:=by
  change min (8*r) 32=8*r
  omega
 have e2:((2:Int)^(8*r))=((256^r:Nat):Int):=by
  rw[show(256:Nat)=2^8 from rfl, ←Nat.pow_mul];simp
 have e3:u32.wrap (b:Int)=(b:Int):=by rw[wrap_u32];omega
 have e4:u32.wrap ((b:Int)*((256^r:Nat):Int))=((b*256^r:Nat):Int):=by
  rw[wrap_u32, ←Int.natCast_mul];omega
 rw[e1,e2,e3,e4]
 change u32.wrap ((BitVec.ofInt 32 (o:Int) ||| BitVec.ofInt 32 ((b*256^r:Nat):Int)).toNat:Nat)=_
 rw[BitVec.toNat_or,GR _ (by omega),GR _ (by omega)];have e5:o ||| b*256^r=o+b*256^r:=by
  have h2:(256:Nat)^r=2^(8*r):=by rw[show(256:Nat)=2^8 from rfl, ←Nat.pow_mul]
  have:=Nat.two_pow_add_eq_or_of_lt (i:=8*r) (b:=o) (by rw[←h2];exact ho) b;rw[Nat.or_comm,h2,Nat.mul_comm b, ←this,Nat.add_comm]
 rw[e5,wrap_u32];omega
theorem UA(s:ByteArray)(n i:Nat)(hn:s.data.toList.length≤1000000000)(hi:i<s.data.toList.length)(hd:n=bE s.data.toList.length){R:Ad ⊕ Ad→Prop}
  (hin:R (.inl ⟨s,bn (CO s.data.toList (i+1)) n,(s.data.toList.length:Nat),((i+1:Nat):Int)⟩)):(zm s (bn (CO s.data.toList i) n) (s.data.toList.length:Nat) (i:Nat)).sat R:=by
 have hk:i/4<n:=by rw[hd];unfold bE;omega
 have hv:=agj s.data.toList i (by omega);obtain⟨o1,o2⟩:=Xj _ i n hv hk;have hb:=(s.data.toList.getD (s.data.toList.length-1-i) 0).toNat_lt;have w1:i64.wrap ((i:Int).tdiv 4)=((i/4:Nat):Int):=by
  have:(i:Int).tdiv 4=((i/4:Nat):Int):=rfl;rw[this,wrap_i64 (by omega)]
 have w2:i64.wrap (((s.data.toList.length:Nat):Int)-1)=((s.data.toList.length:Nat):Int)-1:=wrap_i64 (by omega);have w3:i64.wrap (((s.data.toList.length:Nat):Int)-1-i)=((s.data.toList.length-1-i:Nat):Int):=kU;have w4:i64.wrap (8*(i:Int).tmod 4)=((8*(i%4):Nat):Int):=by
  have:(i:Int).tmod 4=((i%4:Nat):Int):=rfl;rw[this,wrap_i64 (by omega)];omega
 have w5:i64.wrap ((i:Int)+1)=((i+1:Nat):Int):=kU;have hs:=zn (i%4) (Nat.mod_lt _ (by decide));have hmul:(s.data.toList.getD (s.data.toList.length-1-i) 0).toNat*256^(i%4)≤255*256^(i%4):=Nat.mul_le_mul_right _ (by omega);obtain⟨s1,s2⟩:=Ux (bn (CO s.data.toList i) n) (i/4) (CO s.data.toList i/4294967296^(i/4)+(s.data.toList.getD (s.data.toList.length-1-i) 0).toNat*256^(i%4)) (by rw[bN];exact hk) (bZ _ _) (by omega);rw[aby _ _ i n hv hb hk, ←Y9 _ i hi]at s1;unfold zm;simp only[w1,w2,w3,w4,w5,Int.toNat_natCast,o1,alV _ _ _ o2 hb (Nat.mod_lt i (show 0<4 by decide)),s1,s2];rw[bN]at*;exact aj (λ_=>ah rfl (ah (dA) (ah (dA) (ah (dA) (ah rfl (ah (dA) (ah (dA) (ah (dA) (ah (by simp) (ah rfl (ak hin))))))))))) (λh=>absurd (show(i:Int)<(s.data.toList.length:Nat)by omega) (of_decide_eq_false h))
theorem Xk(s:ByteArray)(n:Nat)(hn:s.data.toList.length≤1000000000)(hd:n=bE s.data.toList.length)(Q:Ad→Prop)(hq:Q ⟨s,bn (aM s.data.toList) n,(s.data.toList.length:Nat),(s.data.toList.length:Nat)⟩): ∀(k i:Nat),i+k=s.data.toList.length→
  aS (λx:Ad=>zm x.s x.l x.n x.i) Q (k+1) ⟨s,bn (CO s.data.toList i) n,(s.data.toList.length:Nat),i⟩
 | 0,i,hi=>by
   obtain rfl:i=s.data.toList.length:=by omega
   rw[abx];unfold aS
   change Tr.sat _ (zm s (bn (aM s.data.toList) n) (s.data.toList.length:Nat) (s.data.toList.length:Nat))
   have e:=aW (bn (aM s.data.toList) n);unfold zm;rw[e];exact aj (λh=>absurd (iX h) (Int.lt_irrefl _)) (λ_=>ah (by simp) (ah (aO (bZ _ _) _) (ak hq)))
 | k+1,i,hi=>UA s n i hn (by omega) hd (Xk s n hn hd Q hq k (i+1) (by omega))
end Go.bA
namespace Go.bA
open Go.Proofs
theorem UC:bB prog 0 agh (codeOf Tryz.f259):=by
 refine gu (N:=1010) (L':=dn) eH (aA 0 _) (Uy _) (Uz Jf) ?_;rintro⟨s,l,n,i⟩ hx;have hx:Jf.pre ⟨s,l,n,i⟩=true:=hx;simp only[Jf,bI,dS]at hx;obtain⟨⟨⟨⟨rfl,rfl⟩,h3⟩,h4⟩,h5⟩:=hx;have hz: ∀n,bn 0 n=List.replicate n 0:=by
  intro n
  induction n with
  | zero=>rfl
  | succ n ih=>simp[bn,ih,List.replicate_succ]
 have e:l=bn (CO s.data.toList 0) l.length:=by
  have:CO s.data.toList 0=0:=by
   unfold CO;rw[Nat.sub_zero,List.drop_length];rfl
  rw[this,hz];exact h4
 have:=Xk s l.length h5 h3 (· =Jf.res ⟨s,l,(s.data.toList.length:Nat),0⟩) rfl s.data.toList.length 0 (by omega);rw[←e]at this;exact⟨_,this⟩
def abz(s:ByteArray):dx:={val:= .fK 0 (bE s.data.toList.length) 1,outs:=[],new:=some (.arr (bE s.data.toList.length) 1 (aB (bn (aM s.data.toList) (bE s.data.toList.length))) 335)}
def UD:iD
 | [],[.c (.v (.string s))]=>some {abz s with conds:=[decide (s.data.toList.length≤1000000000)]}
 | _,_=>none
theorem abA(s:ByteArray)(h:s.data.toList.length≤1000000000):(alU s).sat (Out (abz s)):=by
 have w1:i64.wrap (((s.data.toList.length:Nat):Int)+3)=((s.data.toList.length+3:Nat):Int):=kU;have w2:i64.wrap (((s.data.toList.length+3:Nat):Int).tdiv 4)=((bE s.data.toList.length:Nat):Int):=by
  have:((s.data.toList.length+3:Nat):Int).tdiv 4=((bE s.data.toList.length:Nat):Int):=rfl;rw[this,wrap_i64 (by unfold bE;omega)]
 have hn:bE s.data.toList.length≤1000000000:=by unfold bE;omega
 have e0: ∀k,aL k (λ_=>List.map IV.v [Value.int u32 0])=List.replicate k 0:=by
  intro k
  apply List.ext_getElem
  ·simp[aL]
  ·intro i h1 h2
   simp[aL,u32Of]
 unfold alU;simp only[w1,w2,Int.toNat_natCast,e0,List.length_replicate,bN];refine ah rfl (ah (by simp) (ah (dA) (ah (dA) (ah (dA) (ah (by simp) (ah ?_ (ah ?_ (ak (Out.refl _)))))))))
 ·exact List.all_eq_true.2 λ_ _=>rfl
 ·simp;exact h
theorem GU:fF prog 259 UD:=by
 refine xG (L:=λ_=>agh) aI eH (fn:=Tryz.f259) (c:=codeOf Tryz.f259) (by kernel_rfl) (by kernel_rfl) (cO (fn:=Tryz.f259) (c:=codeOf Tryz.f259) (by kernel_rfl) (by kernel_rfl) (by kernel_rfl)) (N:=1010) (xS:=false) ?_ ?_
 ·intro ents args o h
  unfold UD at h
  split at h
  ·exact UC
  ·cases h
 ·intro ents args o h hc
  unfold UD at h
  split at h
  ·rename_i s
   cases h;have h1:s.data.toList.length≤1000000000:=dec (hc (decide (s.data.toList.length≤1000000000)) (by simp));refine⟨[],[.c (.v (.string s))],bX.refl _,dW.refl _,?_⟩;have hs:=abA s h1;rw[←agi]at hs;generalize jw prog (λ_=>none) agh 1010 false Tryz.f259 [] [.c (.v (.string s))]=T at hs⊢;exact hs
  ·cases h
def CP(l:List Nat):List AV×List (Option gJ):=([.c (.sl l.length 1 (aB l))],[])
def GV:List AV×List (Option gJ)→Option (List Nat×List Bool)
 | ([.c (.sl n 1 el)],[])=>some (aL n el,[aJ n el])
 | _=>none
structure QM (X:Type) where
 res:X→X
 pre:X→Bool
def QN(w:QM (List Nat)):bC (List Nat) (List Nat) where
 nIn:={nt:=21,live:=[0]}
 qF:={nt:=21,live:=[0]}
 head:=CP
 take:=GV
 out:=λr=>(.normal,CP r)
 iC:=λq=>match q with|(.normal,q)=>GV q | _=>none
 res:=w.res
 pre:=w.pre
theorem Jg(q:List AV×List (Option gJ))(x:List Nat)(cs:List Bool)(h:GV q=some (x,cs))(hc: ∀p∈cs,p):dW q.1 (CP x).1∧bX q.2 (CP x).2:=by
 unfold GV at h
 split at h
 ·rename_i n el
  simp only[fu,Prod.mk.injEq]at h;obtain⟨rfl,rfl⟩:=h;have h1:aJ n el=true:=hc _ (List.mem_singleton.2 rfl);simp only[CP,jN];exact⟨.cons (bL.sl (gQ h1).1) .nil,bX.refl _⟩
 ·cases h
theorem UE(w:QM (List Nat)):(QN w).gH where
 take:=Jg
 iC:=by
  intro e q r cs h hc;cases e with
  | normal=>obtain⟨h1,h2⟩:=Jg q r cs h hc;exact⟨rfl,h1,h2⟩
  | exit j=>cases h
  | ret=>cases h
 split:=λr Q h=>h
def qG(l:List Nat):List Nat:=(l.reverse.dropWhile (· ==0)).reverse
def UF:QM (List Nat):=⟨qG,λl=>okD l&&decide (l.length≤1000000000)⟩
def agk:Nat→Option (St→Tr (Ex×St)):=λid=>bif beq id 0 then some ((QN UF).g 0)else none
def GX(x:List UInt8×Int):List AV×List (Option gJ):=([nQ x.1,bR .u8 x.2],[])
def GY:List AV×List (Option gJ)→Option ((List UInt8×Int)×List Bool)
 | ([.c (.v (.string s)),.c (.v (.int .u8 c))],[])=>some ((s.data.toList,c),[])
 | _=>none
def QO(w:QM (List UInt8×Int)):bC (List UInt8×Int) (List UInt8×Int) where
 nIn:={nt:=17,live:=[0,1]}
 qF:={nt:=17,live:=[0,1]}
 head:=GX
 take:=GY
 out:=λr=>(.normal,GX r)
 iC:=λq=>match q with|(.normal,q)=>GY q | _=>none
 res:=w.res
 pre:=w.pre
theorem Jh(q:List AV×List (Option gJ))(x:List UInt8×Int)(cs:List Bool)(h:GY q=some (x,cs))(hc: ∀p∈cs,p):dW q.1 (GX x).1∧bX q.2 (GX x).2:=by
 unfold GY at h
 split at h
 ·cases h;exact⟨dW.refl _,bX.refl _⟩
 ·cases h
theorem UG(w:QM (List UInt8×Int)):(QO w).gH where
 take:=Jh
 iC:=by
  intro e q r cs h hc;cases e with
  | normal=>obtain⟨h1,h2⟩:=Jh q r cs h hc;exact⟨rfl,h1,h2⟩
  | exit j=>cases h
  | ret=>cases h
 split:=λr Q h=>h
def UH:QM (List UInt8×Int):=⟨λx=>(x.1.dropWhile (· ==0),x.2),λx=>decide (x.2=0)⟩
def alW:Nat→Option (St→Tr (Ex×St)):=λid=>bif beq id 0 then some ((QO UH).g 0)else none
def agl:List AV→Option (AV×List Bool)
 | [.c (.v (.string s)),.c (.v (.int .u8 c))]=>some (nQ (s.data.toList.dropWhile (· ==0)),[decide (c=0)])
 | _=>none
def alX:FuncId→Option Spec:=λf=>bif beq f 302 then some (au agl)else none
end Go.bA
namespace Go.bA
open Go.Proofs
def GZ(l:List Nat):Tr (List Nat ⊕ List Nat):=
 let x1:Int:= ↑l.length
 let x2:Int:=i64.wrap (x1-1)
 let x3:Nat:=x2.toNat
 .need (bif decide (x1>0)then decide (0≤x2∧x2<x1)&&true else true) (.ite (bif decide (x1>0)then bif true then((l.getD x3 0:Nat):Int)==0 else false else false) (.need (decide (0≤x2∧x2≤x1)) (.need (aJ x3 (aB l)) (.ret (Sum.inl (aL x3 (aB l)))))) (.need (aJ l.length (aB l)) (.ret (Sum.inr (aL l.length (aB l))))))
def alY(l:List Nat):Tr AV:=
 let x1:List Nat:=aL l.length (aB l)
 let x2:Nat:=x1.length
 let x3:List Nat:=qG x1
 .need (aJ l.length (aB l)) (.need (okD x1&&decide (x2≤1000000000)) (.ret (AV.c (IV.sl x3.length 1 (aB x3)))))
def G5(l:List UInt8)(c:Int):Tr (List UInt8×Int ⊕ List UInt8×Int):=
 let x1:Int:= ↑l.length
 .need (bif decide (x1>0)then decide ((0:Int)≤0∧0<x1)&&true else true) (.ite (bif decide (x1>0)then bif true then ↑(l.getD (Int.toNat 0) 0).toNat==c else false else false) (.need (decide ((0:Int)≤1∧1≤x1)) (.ret (Sum.inl (List.drop (Int.toNat 1) l,c)))) (.ret (Sum.inr (l,c))))
def apZ(s:ByteArray)(c:Int):Tr AV:=
 .need (decide (c=0)) (.ret (.c (.v (.string ⟨⟨List.dropWhile (λx=>x==0) s.data.toList⟩⟩))))
def ap0(s:ByteArray):Tr AV:=
 let x1:List UInt8:=s.data.toList
 .need (bif x1==[]then true else true) (.ite (bif x1==[]then true else bif false then true else([0]:List UInt8)==[]) (.ret (.c (.v (.string s)))) (.need true (.ite true (.need true (.need true (.ret (.c (.v (.string ⟨⟨List.dropWhile (λx=>x==0) x1⟩⟩)))))) (.fail "strings.go:1004"))))
theorem UJ(w:QM (List Nat))(x:List Nat):(exec prog (λ_=>none) dn 1010 (aR 0 (codeOf Tryz.f290)) (eY (QN w).nIn ((QN w).head x))).bind ((QN w).fin 0 0)=GZ x:=by kernel_rfl
theorem agm(l:List Nat):aN prog (λ_=>none) agk 1010 Tryz.f290 [.c (.sl l.length 1 (aB l))]=alY l:=by kernel_rfl
theorem UK(w:QM (List UInt8×Int))(x:List UInt8×Int):(exec prog (λ_=>none) dn 1010 (aR 0 (codeOf Tryz.f302)) (eY (QO w).nIn ((QO w).head x))).bind ((QO w).fin 0 0)=G5 x.1 x.2:=by
 obtain⟨l,c⟩:=x
 kernel_rfl
theorem agn(s:ByteArray)(c:Int):aN prog (λ_=>none) alW 1010 Tryz.f302 [.c (.v (.string s)),.c (.v (.int .u8 c))]=apZ s c:=by kernel_rfl
theorem agp(s:ByteArray):aN prog alX dn 1010 Tryz.f291 [.c (.v (.string s)),.c (.v (.string ⟨⟨[0]⟩⟩))]=ap0 s:=by kernel_rfl
theorem CQ{P:List Nat→Prop}(h0:P [])(h1: ∀l c,P l→P (l++[c]))(l:List Nat):P l:=by
 rw[←List.reverse_reverse l]
 induction l.reverse with
 | nil=>exact h0
 | cons c l ih=>rw[List.reverse_cons];exact h1 _ _ ih
theorem wQ(l:List Nat):qG (l++[0])=qG l:=by simp[qG]
theorem wR(l:List Nat)(x:Nat)(h:x≠0):qG (l++[x])=l++[x]:=by simp[qG,h]
theorem Bo{l m:List Nat}:okD (l++m)=(okD l&&okD m):=by simp[okD]
theorem abB(l:List Nat)(h:okD l=true):okD (qG l)=true:=by
 induction l using CQ with
 | h0=>rfl
 | h1 l c ih=>
   by_cases hc:c=0
   ·subst hc
    rw[wQ];rw[Bo,bI]at h;exact ih h.1
   ·rw[wR l c hc];exact h
theorem QS(l m:List Nat):aL l.length (aB (l++m))=l:=by
 apply List.ext_getElem
 ·simp[aL]
 ·intro i h1 h2
  simp[aL,aB,u32Of,dJ,List.getElem?_append_left h2,h2]
theorem agq(l:List Nat)(hok:okD l=true)(hl:l.length≤1000000000)(Q:List Nat→Prop)(hq:Q (qG l)):aS GZ Q (l.length+1) l:=by
 induction l using CQ with
 | h0=>
   unfold aS;exact ah rfl (aj (λh=>Bool.noConfusion h) (λ_=>ah rfl (ak hq)))
 | h1 l c ih=>
   have hlen:(l++[c]).length=l.length+1:=by simp
   have w1:i64.wrap (((l.length+1:Nat):Int)-1)=((l.length:Nat):Int):=kU;have hg:(l++[c]).getD l.length 0=c:=by simp[dJ]
   have hok2:=hok;rw[Bo,bI]at hok2;rw[hlen]at hl⊢;have key: ∀{R:List Nat ⊕ List Nat→Prop},(c=0→R (.inl l))→(c≠0→R (.inr (l++[c])))→(GZ (l++[c])).sat R:=by
    intro R h1 h2;unfold GZ;simp only[hlen,w1,Int.toNat_natCast,hg,QS];have d1:decide (((l.length+1:Nat):Int)>0)=true:=dA;have d2:decide ((0:Int)≤((l.length:Nat):Int)∧((l.length:Nat):Int)<((l.length+1:Nat):Int))=true:=dA;simp only[d1,d2,cond_true,Bool.and_true];refine ah rfl (aj (λh=>ah (dA) (ah (aO hok _) (ak (h1 ?_)))) (λh=>ah (aO hok _) (ak ?_)))
    ·have:=eq_of_beq h;omega
    ·have e:aL (l.length+1) (aB (l++[c]))=l++[c]:=by rw[←hlen,aW]
     rw[e];refine h2 ?_;rintro rfl;cases h
   unfold aS;refine key (λhc=> ?_) (λhc=> ?_)
   ·subst hc
    rw[wQ]at hq;exact ih hok2.1 (by omega) hq
   ·rw[wR l c hc]at hq
    exact hq
theorem UL:bB prog 0 agk (codeOf Tryz.f290):=by
 refine gu (N:=1010) (L':=dn) eH (aA 0 _) (UE _) (UJ UF) ?_;intro l hx;have hx:(okD l&&decide (l.length≤1000000000))=true:=hx;simp only[bI,dS]at hx;exact⟨_,agq l hx.1 hx.2 (· =UF.res l) rfl⟩
def agr:List AV→Option (AV×List Bool)
 | [.c (.sl n 1 el)]=>some (.c (.sl (qG (aL n el)).length 1 (aB (qG (aL n el)))),[aJ n el,decide (n≤1000000000)])
 | _=>none
theorem abC(l:List Nat)(hok:okD l=true)(hl:l.length≤1000000000):(alY l).sat λr=>r= .c (.sl (qG l).length 1 (aB (qG l))):=by
 unfold alY;simp only[aW];exact ah (aO hok _) (ah (by simp[hok,hl]) (ak rfl))
theorem ags:aF prog 290 agr:=by
 refine mh (L:=agk) aI eH (fn:=Tryz.f290) (c:=codeOf Tryz.f290) (by kernel_rfl) (by kernel_rfl) (cO (fn:=Tryz.f290) (c:=codeOf Tryz.f290) (by kernel_rfl) (by kernel_rfl) (by kernel_rfl)) (N:=1010) UL ?_ ?_
 ·intro args v cs h
  unfold agr at h
  split at h
  ·cases h;rfl
  ·cases h
 ·intro args v cs h hc
  unfold agr at h
  split at h
  ·rename_i n el
   cases h;have h1:aJ n el=true:=hc (aJ n el) (by simp);have h2:n≤1000000000:=dec (hc (decide (n≤1000000000)) (by simp));obtain⟨e1,e2⟩:=gQ h1;have hlen:=jN n el;generalize aL n el=l at e1 e2 hlen⊢;subst hlen;refine⟨[.c (.sl l.length 1 (aB l))],.cons (bL.sl e1) .nil,?_⟩;have hs:=abC l e2 h2;rw[←agm]at hs;generalize aN prog (λ_=>none) agk 1010 Tryz.f290 [.c (.sl l.length 1 (aB l))]=T at hs⊢;exact Tr.aZ (λr hr=>⟨by subst hr;rfl,bL.of_eq hr⟩) hs
  ·cases h
theorem Xl(Q:List UInt8×Int→Prop): ∀(l:List UInt8),Q (l.dropWhile (· ==0),0)→aS (λx:List UInt8×Int=>G5 x.1 x.2) Q (l.length+1) (l,0)
 | [],hq=>ah rfl (aj (λh=>Bool.noConfusion h) (λ_=>ak hq))
 | c::l,hq=>by
   have ih:=Xl Q l;have d1:decide ((((c::l).length:Nat):Int)>0)=true:=dK (by simp);have d2:decide ((0:Int)≤0∧(0:Int)<(((c::l).length:Nat):Int))=true:=dK (by simp);have d3:decide ((0:Int)≤1∧(1:Int)≤(((c::l).length:Nat):Int))=true:=dK (by simp;omega);have key: ∀{R:(List UInt8×Int) ⊕ (List UInt8×Int)→Prop},(c=0→R (.inl (l,0)))→(c≠0→R (.inr (c::l,0)))→(G5 (c::l) 0).sat R:=by
    intro R h1 h2;unfold G5;have hg:(c::l).getD (Int.toNat 0) 0=c:=rfl;have hd:List.drop (Int.toNat 1) (c::l)=l:=rfl;simp only[d1,d2,d3,hg,hd,cond_true,Bool.and_true];refine ah rfl (aj (λh=>ah rfl (ak (h1 (UInt8.toNat_inj.1 (by simpa using h))))) (λh=>ak (h2 ?_)));rintro rfl;cases h
   unfold aS;refine key (λhc=> ?_) (λhc=> ?_)
   ·subst hc
    exact ih (by simpa using hq)
   ·have:(c::l).dropWhile (· ==0)=c::l:=by simp[hc]
    rw[this]at hq;exact hq
theorem UM:bB prog 0 alW (codeOf Tryz.f302):=by
 refine gu (N:=1010) (L':=dn) eH (aA 0 _) (UG _) (UK UH) ?_;rintro⟨l,c⟩ hx;have hx:decide (c=0)=true:=hx;obtain rfl:=iX hx;exact⟨_,Xl (· =UH.res (l,0)) l rfl⟩
theorem agt:aF prog 302 agl:=by
 refine poL (N:=1010) eH UM (fn:=Tryz.f302) ?_ ?_
 ·intro args v cs h
  unfold agl at h
  split at h
  ·cases h;rfl
  ·cases h
 ·intro args v cs h hc
  unfold agl at h
  split at h
  ·rename_i s c
   cases h;have h1:c=0:=dec (hc (decide (c=0)) (by simp));have hs:=(show(apZ s c).sat λr=>r=nQ (s.data.toList.dropWhile (· ==0))from ah (dK h1) (ak rfl))
   rw[←agn]at hs;generalize aN prog (λ_=>none) alW 1010 Tryz.f302 [.c (.v (.string s)),.c (.v (.int .u8 c))]=T at hs⊢;exact Tr.aZ (λr hr=>⟨by subst hr;rfl,bL.of_eq hr⟩) hs
  ·cases h
def agu:List AV→Option (AV×List Bool)
 | [.c (.v (.string s)),.c (.v (.string z))]=>some (nQ (s.data.toList.dropWhile (· ==0)),[z.data.toList==[0]])
 | _=>none
theorem agv: ∀f s,alX f=some s→aH prog f s:=bM agt.spec
theorem abD(s:ByteArray):(ap0 s).sat λr=>r=nQ (s.data.toList.dropWhile (· ==0)):=by
 obtain⟨⟨l⟩⟩:=s;cases l with
 | nil=>exact ah rfl (aj (λ_=>ak rfl) (λh=>Bool.noConfusion h))
 | cons c l=>exact ah rfl (aj (λh=>Bool.noConfusion h) (λ_=>ah rfl (aj (λ_=>ah rfl (ah rfl (ak rfl))) (λh=>Bool.noConfusion h))))
theorem agw:aF prog 291 agu:=by
 refine vE agv (fn:=Tryz.f291) ?_ ?_
 ·intro args v cs h
  unfold agu at h
  split at h
  ·cases h;rfl
  ·cases h
 ·intro args v cs h hc
  unfold agu at h
  split at h
  ·rename_i s z
   cases h;have h1:(z.data.toList==[0])=true:=hc (z.data.toList==[0]) (by simp);have hz:z=⟨⟨[0]⟩⟩:=by
    obtain⟨⟨zl⟩⟩:=z;have:zl=[0]:=eq_of_beq h1;rw[this]
   subst hz;have hs:=abD s;rw[←agp]at hs;generalize aN prog alX dn 1010 Tryz.f291 [.c (.v (.string s)),.c (.v (.string ⟨⟨[0]⟩⟩))]=T at hs⊢;exact Tr.aZ (λr hr=>⟨by subst hr;rfl,bL.of_eq hr⟩) hs
  ·cases h
end Go.bA
namespace Go.bA
open Go.Proofs
structure vH where
 x:List Nat
 b:List UInt8
 n:Int
 i:Int
def CR(y:vH):List AV×List (Option gJ):=([.fK 0 y.b.length 1,.c (.sl y.x.length 1 (aB y.x)),bR .i64 y.n,bR .i64 y.i],[some (.arr y.b.length 1 (eD y.b) 5)])
def G6:List AV×List (Option gJ)→Option (vH×List Bool)
 | ([.fK 0 m 1,.c (.sl k 1 xl),.c (.v (.int .i64 n)),.c (.v (.int .i64 i))],[some (.arr m' 1 el 5)])=>some (⟨aL k xl,bytesOf m el,n,i⟩,[decide (m=m'),aJ k xl,isBytes m el])
 | _=>none
def QT(w:Way vH):bC vH vH where
 nIn:={nt:=46,live:=[3,16,17,18]}
 qF:={nt:=46,live:=[3,16,17,18]}
 head:=CR
 take:=G6
 out:=λr=>(.normal,CR r)
 iC:=λq=>match q with|(.normal,q)=>G6 q | _=>none
 res:=w.res
 pre:=w.pre
theorem Ji(q:List AV×List (Option gJ))(x:vH)(cs:List Bool)(h:G6 q=some (x,cs))(hc: ∀p∈cs,p):dW q.1 (CR x).1∧bX q.2 (CR x).2:=by
 unfold G6 at h
 split at h
 ·rename_i m k xl n i m' el
  simp only[fu,Prod.mk.injEq]at h;obtain⟨rfl,rfl⟩:=h;have h1:m=m':=dec (hc (decide (m=m')) (by simp));have h2:aJ k xl=true:=hc (aJ k xl) (by simp);have h3:isBytes m el=true:=hc (isBytes m el) (by simp);subst h1;simp only[CR,jN,yE];exact⟨.cons (bL.refl _) (.cons (bL.sl (gQ h2).1) (dW.refl _)),.cons (.arr _ _ _ _ _ (xE h3)) .nil⟩
 ·cases h
theorem UN(w:Way vH):(QT w).gH where
 take:=Ji
 iC:=by
  intro e q r cs h hc;cases e with
  | normal=>obtain⟨h1,h2⟩:=Ji q r cs h hc;exact⟨rfl,h1,h2⟩
  | exit j=>cases h
  | ret=>cases h
 split:=λr Q h=>h
def be4(d:Nat):List UInt8:=[UInt8.ofNat (d/16777216%256),UInt8.ofNat (d/65536%256),UInt8.ofNat (d/256%256),UInt8.ofNat (d%256)]
def NW:List Nat→List UInt8
 | []=> []
 | d::l=>NW l++be4 d
def Jj:Way vH:=⟨λy=>⟨y.x,NW y.x,y.n,y.n⟩,λy=>decide (y.n=(y.x.length:Nat))&&decide (y.i=0)&&decide (y.b.length=4*y.x.length)&&okD y.x&&decide (y.x.length≤1000000000)⟩
def agx:Nat→Option (St→Tr (Ex×St)):=λid=>bif beq id 0 then some ((QT Jj).g 0)else none
def alZ:FuncId→Option Spec:=λf=>bif beq f 290 then some (au agr)else bif beq f 291 then some (au agu)else none
end Go.bA
