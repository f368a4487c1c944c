/- Helpers for the proof: no statement of its own. -/
import Derived.Test.YtclnfoepcemloaaGreatDoorT00
import Derived.LoopN
import Derived.Scope
import Derived.Laws.Externs
import Derived.Lib.Bytealg
import Derived.Test.YtclnfoepcemloaaGreatDoorProg
set_option linter.unusedVariables false
set_option linter.unusedSimpArgs false
set_option linter.unnecessarySimpa false
set_option linter.deprecated false
set_option maxRecDepth 1000000
namespace Go.bI
open Go.RowKit
namespace Tr
theorem bC{α:Type}{Q Q':α→Prop}(h: ∀a,Q a→Q' a): ∀{t:Tr α},t.sat Q→t.sat Q'
 | .ret a,hs=>h a hs
 | .ite c t e,hs=>⟨λhc=>bC h (hs.1 hc),λhc=>bC h (hs.2 hc)⟩
 | .need p t,hs=>⟨hs.1,λhp=>bC h (hs.2 hp)⟩
 | .both a b,hs=>⟨bC h hs.1,bC h hs.2⟩
 | .fail _,hs=>hs.elim
theorem gP{α β:Type}{Q:β→Prop}{f:α→Tr β}: ∀{t:Tr α},(t.bind f).sat Q→t.sat λa=>(f a).sat Q
 | .ret a,hs=>hs
 | .ite c t e,hs=>⟨λhc=>gP (hs.1 hc),λhc=>gP (hs.2 hc)⟩
 | .need p t,hs=>⟨hs.1,λhp=>gP (hs.2 hp)⟩
 | .both a b,hs=>⟨gP hs.1,gP hs.2⟩
 | .fail _,hs=>hs.elim
theorem mV{α:Type}{Q:α→Prop}: ∀{l:List Bool} {t:Tr α},(needs l t).sat Q→(∀p∈l,p)∧t.sat Q
 | [],t,h=>⟨by simp,h⟩
 | p::l,t,h=>by
   obtain⟨h1,h2⟩:=mV (h.2 h.1);exact⟨by intro q hq;rcases List.mem_cons.1 hq with rfl|hq;exact h.1;exact h1 q hq,h2⟩
end Tr
section
variable{P:Program}{Γ:FuncId→Option Spec}{all:List Oper}{base:Nat}
def StepA(P:Program)(Γ:FuncId→Option Spec)(all:List Oper)(base i:Nat)(o:Oper)(S S':St)(d:Did):Prop:=
 (oW all S.tm o=some false∧S'=S.apply o.dst {val:= .c (.v undef)}∧d=⟨i,[],[]⟩)∨
 (oW all S.tm o=some true∧ ∃r,AY P Γ (base+i) o S.tm S.mem=some r∧(∀p∈r.conds,p)∧S'=S.apply o.dst r∧d=⟨i,r.reads,r.upd.map (·.1)⟩)
def Runs(P:Program)(Γ:FuncId→Option Spec)(all:List Oper)(base:Nat):List Nat→St→St→List Did→Prop
 | [],S,S',ds=>S'=S∧ds=[]
 | i::l,S,S',ds=> ∃o S1 d ds',all[i]? =some o∧StepA P Γ all base i o S S1 d∧Runs P Γ all base l S1 S' ds'∧ds=d::ds'
theorem mW{Q:St×List Did→Prop}: ∀(l:List Oper) (i:Nat) (S:St) (ds:List Did),(∀j,l[j]? =all[i+j]?)→(jc P Γ all base l i S ds).sat Q→
  ∃S' ds',Runs P Γ all base (List.range' i l.length) S S' ds'∧Q (S',ds'.reverse++ds)
 | [],i,S,ds,_,h=>⟨S,[],⟨rfl,rfl⟩,h⟩
 | o::l,i,S,ds,hl,h=>by
   have h0:all[i]? =some o:=by simpa using(hl 0).symm
   have hl': ∀j,l[j]? =all[i+1+j]? :=λj=>by have:=hl (j+1);simpa[Nat.add_assoc,Nat.add_comm 1 j]using this
   unfold jc at h
   split at h
   ·exact h.elim
   ·rename_i hw
    obtain⟨S',ds',hr,hq⟩:=mW l (i+1) _ _ hl' h;exact⟨S',_,⟨o,_,_,ds',h0,.inl ⟨hw,rfl,rfl⟩,hr,rfl⟩,by simpa using hq⟩
   ·rename_i hw
    split at h
    ·exact h.elim
    ·rename_i r hv
     obtain⟨hc,h⟩:=Tr.mV h;cases hsrc:rA all i with
     | false=>
       simp only[hsrc,cond_false]at h;obtain⟨S',ds',hr,hq⟩:=mW l (i+1) _ _ hl' h;exact⟨S',_,⟨o,_,_,ds',h0,.inr ⟨hw,r,hv,hc,rfl,rfl⟩,hr,rfl⟩,by simpa using hq⟩
     | true=>
       simp only[hsrc,cond_true]at h
       split at h
       ·rename_i b hrv
        cases b with
        | true=>
          have h1:=h.1 rfl;have he:({r with val:=bL true}:Eff)=r:=by cases r;simp only at hrv;subst hrv;rfl
          rw[he]at h1;obtain⟨S',ds',hr,hq⟩:=mW l (i+1) _ _ hl' h1;exact⟨S',_,⟨o,_,_,ds',h0,.inr ⟨hw,r,hv,hc,rfl,rfl⟩,hr,rfl⟩,by simpa using hq⟩
        | false=>
          have h1:=h.2 rfl;have he:({r with val:=bL false}:Eff)=r:=by cases r;simp only at hrv;subst hrv;rfl
          rw[he]at h1;obtain⟨S',ds',hr,hq⟩:=mW l (i+1) _ _ hl' h1;exact⟨S',_,⟨o,_,_,ds',h0,.inr ⟨hw,r,hv,hc,rfl,rfl⟩,hr,rfl⟩,by simpa using hq⟩
       ·exact h.elim
variable{C:Ctx}{B:eB}{S S':St}{a:Act}{w:World}
theorem Mg{o:Oper}{b:Bool}(H:Holds C B S a w)(h:oW all S.tm o=some b):Region.wanted o (yielded all.toArray a.tmps)=b:=by
 unfold oW at h;unfold Region.wanted
 split at h
 ·rename_i hg;rw[hg];simp at h;subst h;rfl
 ·rename_i j want hg
  rw[hg];simp only[]
  split at h
  ·rename_i d hd
   split at h
   ·rename_i c hc
    simp only[fK]at h;subst h;have ht:d<S.tm.length:=by
     rcases Nat.lt_or_ge d S.tm.length with ht|ht
     ·exact ht
     ·rw[dR,List.getElem?_eq_none ht]at hc;cases hc
    have hrel:=H.tm d ht;rw[hc]at hrel;have hv:=hrel.plain;have hsz:d<a.tmps.size:=by rw[H.size];exact ht
    have hy:yielded all.toArray a.tmps j=some c:=by
     unfold yielded;have h1:(all.toArray[j]?).bind (·.dst)=some d:=by simpa using hd
     rw[h1];simp only[Option.bind_some];rw[Array.getElem?_eq_getElem hsz];have h2:a.tmps[d]= .bool c:=by simpa[oQ,hsz]using hv
     rw[h2]
    rw[hy];cases c<;>cases want<;>rfl
   ·rename_i vs hc
    simp only[fK]at h;subst h;have ht:d<S.tm.length:=by
     rcases Nat.lt_or_ge d S.tm.length with ht|ht
     ·exact ht
     ·rw[dR,List.getElem?_eq_none ht]at hc;cases hc
    have hrel:=H.tm d ht;rw[hc]at hrel;have hv:=hrel.plain;have hsz:d<a.tmps.size:=by rw[H.size];exact ht
    have hy:yielded all.toArray a.tmps j=none:=by
     unfold yielded;have h1:(all.toArray[j]?).bind (·.dst)=some d:=by simpa using hd
     rw[h1];simp only[Option.bind_some];rw[Array.getElem?_eq_getElem hsz];have h2:a.tmps[d]= .tuple vs:=by simpa[oQ,hsz]using hv
     rw[h2]
    rw[hy];rfl
   ·cases h
  ·cases h
abbrev Ur(B:eB)(base:Nat)(l:List Nat):Prop:= ∀i∈l,B (base+i)=none
theorem Lp{slot:Nat}{o:Oper}{tm:List AV}{m:Mem}{r:Eff}(h:AY P Γ slot o tm m=some r): ∀c,o.op≠ .defer c:=by
 intro c hop;unfold AY at h;simp only[hop]at h;cases h
theorem Ga(hΓ: ∀f s,Γ f=some s→mE C P f s)(hC:C.Ok){i:Nat}{o:Oper}{d:Did}(ho:all[i]? =some o)(h:StepA P Γ all base i o S S' d)
  (H:Holds C B S a w) (hf:B (base+i)=none) (hnx:Between C S (base+i)) {K:Act→World→Prop} {Q:Exit→Act→World→Prop}
  (hK: ∀a' w' B',Holds C B' S' a' w'→(∀j,j≠base+i→B' j=B j)→K a' w') (ro:Option Nat):wpOpIn (Fence.Qi ro) 0 P all.toArray Q i K a w:=by
 unfold wpOpIn;have ho':all.toArray[i]? =some o:=by simpa using ho
 rw[ho'];simp only[];rcases h with⟨hw,rfl,rfl⟩|⟨hw,r,hv,hc,rfl,rfl⟩
 ·rw[Mg H hw]
  simp only[Bool.false_eq_true,if_false];refine⟨λ_ _=>trivial,hK _ _ B ?_ (λ_ _=>rfl)⟩;rw[apply_pure _ _ _ rfl];exact H.put o.dst (aV.lit _)
 ·rw[Mg H hw]
  simp only[if_true];exact Oper.FY ro 0 (Lp hv) (QF hΓ hv hc H hf hnx hC hK)
theorem QG{i:Nat}{o:Oper}{d:Did}(h:StepA P Γ all base i o S S' d):S'.nx=S.nx:=by
 rcases h with⟨_,rfl,_⟩|⟨_,r,_,_,rfl,_⟩<;>rfl
theorem BD(hΓ: ∀f s,Γ f=some s→mE C P f s)(hC:C.Ok){Q:Exit→Act→World→Prop}: ∀(l:List Nat) (S:St) (ds:List Did) (B:eB) (a:Act) (w:World),
  Runs P Γ all base l S S' ds→Holds C B S a w→Ur B base l→l.Nodup→(∀i∈l,Between C S (base+i))→
  (∀a' w' B',Holds C B' S' a' w'→Q .normal a' w')→ ∀(ro:Option Nat),wpOpsIn (Fence.Qi ro) 0 P all.toArray Q l a w
 | [],S,ds,B,a,w,hr,H,_,_,_,hQ,ro=>by
   obtain⟨rfl,rfl⟩:=hr;exact hQ _ _ B H
 | i::l,S,ds,B,a,w,hr,H,hf,hn,hb,hQ,ro=>by
   obtain⟨o,S1,d,ds',ho,hs,hr,rfl⟩:=hr;rw[wpOpsIn_cons];refine Ga hΓ hC ho hs H (hf i (by simp)) (hb i (by simp)) (λa' w' B' H' hB=> ?_) ro;refine BD hΓ hC l S1 ds' B' a' w' hr H' (λj hj=> ?_) (List.nodup_cons.1 hn).2 (λj hj=>by unfold Between;rw[QG hs];exact hb j (by simp[hj])) hQ ro;have hne:j≠i:=by rintro rfl;exact(List.nodup_cons.1 hn).1 hj
   rw[hB _ (by omega)];exact hf j (by simp[hj])
end
end Go.bI
namespace Go.bI
open Go.RowKit
section
variable{P:Program}{Γ:FuncId→Option Spec}{all:List Oper}{base:Nat}
theorem uR{tm tm':List AV}: ∀{l:List Operand},(∀x∈l,cZ tm' x=cZ tm x)→l.map (cZ tm')=l.map (cZ tm)
 | [],_=>rfl
 | x::l,h=>by rw[List.map_cons,List.map_cons,h x (by simp),uR λy hy=>h y (by simp[hy])]
theorem xu{m m':Mem}{x:AV}{n sz:Nat}{el:Nat→List IV}{cs:List Bool}{rs:List Nat}(h:rW m x=some (n,sz,el,cs,rs))(hm: ∀s∈rs,m' s=m s):rW m' x=some (n,sz,el,cs,rs):=by
 unfold rW at h⊢
 split at h
 ·exact h
 ·exact h
 ·exact h
 ·rename_i b n0 sz0
  have hb:m' b=m b:=by
   apply hm
   split at h
   ·rename_i n' sz' jw t _
    cases hb:Nat.beq sz0 sz' with
    | true=>rw[hb]at h;simp only[cond_true,fK,Prod.mk.injEq]at h;obtain⟨_,_,_,_,rfl⟩:=h;simp
    | false=>rw[hb]at h;cases h
   ·cases h
  simp only[hb];exact h
 ·cases h
theorem Og{m m':Mem}{e p:Nat}{x:AV}{n:Nat}{el:Nat→List IV}{cs:List Bool}{rs:List Nat}(h:I4 m e p x=some (n,el,cs,rs))(hm: ∀s∈rs,m' s=m s):I4 m' e p x=some (n,el,cs,rs):=by
 unfold I4 at h⊢
 split at h
 ·exact h
 ·rename_i b n0 sz0
  have hb:m' b=m b:=by
   apply hm
   split at h
   ·rename_i n' sz' jw e' _
    cases hb:(Nat.beq sz0 p&&Nat.beq sz' p&&Nat.beq e e')with
    | true=>rw[hb]at h;simp only[cond_true,fK,Prod.mk.injEq]at h;obtain⟨_,_,_,rfl⟩:=h;simp
    | false=>rw[hb]at h;cases h
   ·cases h
  simp only[hb];exact h
 ·cases h
theorem Oh{m m':Mem}{t u e p Eh:Nat}{y:AV}{n:Nat}{el:Nat→List IV}{cs:List Bool}{rs:List Nat}(h:Ef P m t u e p Eh y=some (n,el,cs,rs))(hm: ∀s∈rs,m' s=m s):Ef P m' t u e p Eh y=some (n,el,cs,rs):=by
 unfold Ef at h⊢;cases htu:Nat.beq t u with
 | false=>rw[htu]at h;exact h
 | true=>
   rw[htu]at h;simp only[cond_true]at h⊢;cases hv:rW m y with
   | none=>rw[hv]at h;cases h
   | some q=>
     obtain⟨k,sz,jw,cs',rs'⟩:=q;rw[hv]at h;have hrs:rs'=rs:=by
      simp only at h;cases hb:(Nat.beq sz p || Nat.beq k 0)with
      | true=>rw[hb]at h;simp only[cond_true,fK,Prod.mk.injEq]at h;exact h.2.2.2
      | false=>rw[hb]at h;cases h
     rw[xu hv (by rw[hrs];exact hm)];exact h
theorem Lr{slot:Nat}{m m':Mem}{ts:List TypeId}{x y:AV}{r:Eff}(h:zL P slot m ts x y=some r)(hm: ∀s∈r.reads,m' s=m s):zL P slot m' ts x y=some r:=by
 unfold zL at h⊢
 split at h
 ·rename_i t u
  split at h
  ·rename_i e ht
   split at h
   ·rename_i p Eh z hp hby hz
    cases hzc:Nat.beq z.cells.size (p+1)with
    | false=>rw[hzc]at h;cases h
    | true=>
      rw[hzc]at h;simp only[cond_true]at h
      split at h
      ·rename_i n el c1 r1 k jw c2 r2 hd hsr
       cases h;have h1:=Og (m':=m') hd (λs hs=>hm s (by simp[hs]));have h2:=Oh (m':=m') hsr (λs hs=>hm s (by simp[hs]));simp only[ht,hp,hby,hz,hzc,cond_true,h1,h2]
      ·cases h
   ·cases h
  ·cases h
 ·cases h
theorem QH{m m':Mem}{ts:List TypeId}{x y:AV}{r:Eff}(h:LY P m ts x y=some r)(hm: ∀s∈r.reads,m' s=m s):LY P m' ts x y=some r:=by
 unfold LY at h⊢
 split at h
 ·rename_i t u b n sz
  split at h
  ·rename_i e ht
   split at h
   ·rename_i p n' sz' el e' k Ho jw cs rs hp hb hv
    cases hall:(Nat.beq sz p&&Nat.beq sz' p&&Nat.beq Ho p&&(rs.all λr=> !Nat.beq r b))with
    | false=>rw[hall]at h;cases h
    | true=>
      rw[hall]at h;simp only[cond_true,fK]at h;subst h;have hb':m' b=m b:=hm b (by simp);have hv':(bif Nat.beq t u then rW m' y else none)=some (k,Ho,jw,cs,rs):=by
       cases htu:Nat.beq t u with
       | false=>rw[htu]at hv;cases hv
       | true=>
         rw[htu]at hv;simp only[cond_true]at hv⊢;exact xu hv λs hs=>hm s (by simp[hs])
      simp only[ht,hp,hb',hb,hv',hall,cond_true]
   ·cases h
  ·cases h
 ·cases h
theorem Oi{m m':Mem}{t:TypeId}{x:AV}{r:Eff}(h:Ei P m t x=some r)(hm: ∀s∈r.reads,m' s=m s):Ei P m' t x=some r:=by
 unfold Ei at h⊢
 split at h
 ·rename_i e b k n sz hu
  have hb:m' b=m b:=by
   apply hm
   split at h
   ·rename_i p z n' sz' el e' h1 h2 h3
    cases hall:(Nat.beq p sz&&(Nat.beq sz' sz&&(Nat.ble k n'&&(Nat.beq z.cells.size sz&&z.cells.toList.all (·.oneCell')))))with
    | false=>rw[hall]at h;cases h
    | true=>rw[hall]at h;simp only[cond_true,fK]at h;rw[←h];simp
   ·cases h
  rw[hb];exact h
 ·cases h
theorem Jk{slot:Nat}{m m':Mem}{b:Builtin}{ts:List TypeId}{xs:List AV}{r:Eff}(h:yN P slot m b ts xs=some r)(hm: ∀s∈r.reads,m' s=m s):yN P slot m' b ts xs=some r:=by
 unfold yN at h⊢
 split at h
 ·exact h
 ·exact Lr h hm
 ·exact QH h hm
 ·exact h
 ·exact h
 ·exact h
 ·exact Oi h hm
 ·cases h
theorem Oj{m m':Mem}{s d:TypeId}{x:AV}{r:Eff}(h:El P m s d x=some r)(hm: ∀s∈r.reads,m' s=m s):El P m' s d x=some r:=by
 unfold El at h⊢
 split at h
 ·rename_i e hs hd
  split at h
  ·rename_i n sz el cs rs he hv
   have hrs:r.reads=rs:=by
    cases hb:(Nat.beq sz 1 || Nat.beq n 0)with
    | true=>rw[hb]at h;simp only[cond_true,fK]at h;rw[←h]
    | false=>rw[hb]at h;cases h
   rw[hrs]at hm;simp only[hs,hd,he,xu hv hm];exact h
  ·cases h
 ·exact h
theorem Ol{m m':Mem}{t:TypeId}{x:AV}{lo hi:Option AV}{r:Eff}(h:Ej P m t x lo hi=some r)(hm: ∀s∈r.reads,m' s=m s):Ej P m' t x lo hi=some r:=by
 unfold Ej at h⊢
 split at h
 ·exact h
 ·exact h
 ·exact h
 ·exact h
 ·rename_i n e b sz hu
  split at h
  ·rename_i _ p n' sz' el t' k h' hp hb
   have hb':m' b=m b:=by
    apply hm
    cases hc:(Nat.beq sz p&&Nat.beq sz' p&&Nat.beq n n'&& !Nat.beq n 0)with
    | true=>rw[hc]at h;simp only[cond_true,fK]at h;rw[←h];simp
    | false=>rw[hc]at h;cases h
   simp only[hp,hb',hb];exact h
  ·cases h
 ·rename_i n e b hu
  split at h
  ·rename_i _ p l t' k h' hp hb
   have hb':m' b=m b:=by
    apply hm
    split at h
    ·rename_i c _
     cases hc:(Nat.beq l.length (n*p)&& !Nat.beq n 0&&l.all jo)with
     | true=>rw[hc]at h;simp only[cond_true,fK]at h;rw[←h];simp
     | false=>rw[hc]at h;cases h
    ·cases h
   simp only[hp,hb',hb];exact h
  ·cases h
 ·cases h
theorem QI(hΓ: ∀f s,Γ f=some s→tJ s){slot:Nat}{tm tm':List AV}{m m':Mem}{c:Call}{r:Eff}(hr:Qm P Γ slot tm m c=some r)(h: ∀x∈c.operands,cZ tm' x=cZ tm x)(hm: ∀s∈r.reads,m' s=m s):
  Qm P Γ slot tm' m' c=some r:=by
 unfold Qm at hr⊢;have hargs:c.args.toList.map (cZ tm')=c.args.toList.map (cZ tm):=uR λx hx=>h x (by simp[Call.operands];exact .inr (by simpa using hx))
 rw[hargs];cases hc:c.callee with
 | builtin b=>rw[hc]at hr;exact Jk hr hm
 | invoke recv name=>
   rw[hc]at hr;have hf:cZ tm' recv=cZ tm recv:=h recv (by simp[Call.operands,hc]);simp only[hf]at hr⊢
   split at hr
   ·rename_i t u _
    split at hr
    ·rename_i g _
     cases hs:Bw Γ g with
     | none=>simp[hs]at hr
     | some s=>simp only[hs,Option.bind_some]at hr⊢;exact hΓ g s (Ew hs).2 slot m m' _ r hr hm
    ·cases hr
   ·cases hr
 | value f=>
   rw[hc]at hr;have hf:cZ tm' f=cZ tm f:=h f (by simp[Call.operands,hc]);simp only[hf]at hr⊢;have key: ∀(g:FuncId) (asL:List AV),((Bw Γ g).bind λs=>s slot m asL)=some r→((Bw Γ g).bind λs=>s slot m' asL)=some r:=by
    intro g asL hg;cases hs:Bw Γ g with
    | none=>simp[hs]at hg
    | some s=>simp only[hs,Option.bind_some]at hg⊢;exact hΓ g s (Ew hs).2 slot m m' asL r hg hm
   have key2: ∀(g:FuncId) (asL:List AV),((Γ g).bind λs=>s slot m asL)=some r→((Γ g).bind λs=>s slot m' asL)=some r:=by
    intro g asL hg;cases hs:Γ g with
    | none=>simp[hs]at hg
    | some s=>simp only[hs,Option.bind_some]at hg⊢;exact hΓ g s hs slot m m' asL r hg hm
   split at hr
   ·rename_i g first cap _
    cases hfc:(first.isEmpty&&cap.isEmpty)with
    | false=>
      simp only[hfc,cond_false]at hr⊢;cases Uo:(zM first.toList&&cap.isEmpty)with
      | false=>simp[Uo]at hr
      | true=>
        simp only[Uo,cond_true]at hr⊢;exact key _ _ hr
    | true=>simp only[hfc,cond_true]at hr⊢;exact key _ _ hr
   ·rename_i l first cap _
    cases hfc:(first.isEmpty&&(cap.isEmpty&&(P.funcs[j5]?).isNone))with
    | false=>simp[hfc]at hr
    | true=>simp only[hfc,cond_true]at hr⊢;exact key2 _ _ hr
   ·exact key _ _ hr
   ·cases hr
theorem QJ{m m':Mem}{t:TypeId}{x:AV}{r:Eff}(h:FV P m t x=some r)(hm: ∀s∈r.reads,m' s=m s):FV P m' t x=some r:=by
 unfold FV at h⊢
 split at h
 ·rename_i b off
  have hb:m' b=m b:=by
   apply hm
   split at h
   ·split at h
    ·cases h;simp
    ·cases h
   ·cases h
  simp only[hb];exact h
 ·rename_i b k j sz
  have hb:m' b=m b:=by
   apply hm
   split at h
   ·rename_i n sz' el t' _
    cases hs:Nat.beq sz sz' with
    | false=>rw[hs]at h;cases h
    | true=>
      rw[hs]at h;simp only[cond_true]at h
      split at h
      ·cases h;simp
      ·cases h
   ·cases h
  simp only[hb];exact h
 ·exact h
 ·exact h
 ·cases h
theorem Om{m m':Mem}{t:TypeId}{x v:AV}{r:Eff}(h:Ee P m t x v=some r)(hm: ∀s∈r.reads,m' s=m s):Ee P m' t x v=some r:=by
 unfold Ee at h⊢
 split at h
 ·rename_i b off
  have hb:m' b=m b:=by
   apply hm
   split at h
   ·rename_i l e n _ _
    dsimp only at h;cases hc:(Nat.beq (jP v).length n&&Nat.ble (off+n) l.length&&(jP v).all jo)with
    | true=>rw[hc]at h;simp only[cond_true,fK]at h;subst h;simp
    | false=>rw[hc]at h;simp at h
   ·cases h
  simp only[hb];exact h
 ·rename_i b k j sz
  have hb:m' b=m b:=by
   apply hm
   split at h
   ·rename_i n sz' el t' p _ _
    split at h
    ·rename_i c _
     cases hc:(Nat.beq sz sz'&&Nat.beq c.length p&&Nat.ble (j+p) sz&&(jP v).all jo)with
     | true=>rw[hc]at h;simp only[cond_true,fK]at h;subst h;simp
     | false=>rw[hc]at h;simp at h
    ·cases h
   ·cases h
  simp only[hb];exact h
 ·cases h
theorem Ez{m m':Mem}{t:TypeId}{x k v:AV}{r:Eff}(h:qF P m t x k v=some r)(hm: ∀s∈r.reads,m' s=m s):qF P m' t x k v=some r:=by
 unfold qF at h⊢
 split at h
 ·rename_i b n y
  have hb:m' b=m b:=by
   apply hm
   split at h
   ·rename_i es _
    cases hc:(oV P t&&jo (.c y))with
    | true=>rw[hc]at h;simp only[cond_true,fK]at h;subst h;simp
    | false=>rw[hc]at h;cases h
   ·cases h
  simp only[hb];exact h
 ·cases h
theorem Oo{m m':Mem}{x:AV}{r:Eff}(h:Em m x=some r)(hm: ∀s∈r.reads,m' s=m s):Em m' x=some r:=by
 unfold Em at h⊢
 split at h
 ·rename_i b
  have hb:m' b=m b:=by
   apply hm
   split at h
   ·split at h
    ·cases h;simp
    ·cases h
   ·cases h
  simp only[hb];exact h
 ·cases h
theorem QK(hΓ: ∀f s,Γ f=some s→tJ s){slot:Nat}{o:Oper}{tm tm':List AV}{m m':Mem}{r:Eff}(h:AY P Γ slot o tm m=some r)(ht: ∀x∈o.op.operands,cZ tm' x=cZ tm x)(hm: ∀s∈r.reads,m' s=m s):
  AY P Γ slot o tm' m'=some r:=by
 unfold AY at h⊢;cases hop:o.op<;>simp only[hop,Op.operands]at h ht⊢ <;>try (cases h;done)
 case move x=>rw[ht x (by simp)];exact h
 case assign x=>rw[ht x (by simp)];exact h
 case pick c x y=>rw[ht c (by simp),ht x (by simp),ht y (by simp)];exact h
 case alloc t=>exact h
 case box t x=>rw[ht x (by simp)];exact h
 case build t ps=>
  have:(ps.toList.map λ(i,x)=>(i,cZ tm' x))=(ps.toList.map λ(i,x)=>(i,cZ tm x)):=by
   apply List.map_congr_left
   intro p hp;obtain⟨i,x⟩:=p;simp only[ht x (by simp;exact⟨i,by simpa using hp⟩)]
  rw[this];exact h
 case buildSlice t n ps=>
  have:(ps.toList.map λ(i,x)=>(i,cZ tm' x))=(ps.toList.map λ(i,x)=>(i,cZ tm x)):=by
   apply List.map_congr_left
   intro p hp;obtain⟨i,x⟩:=p;simp only[ht x (by simp;exact⟨i,by simpa using hp⟩)]
  rw[this];exact CF h hm
 case makeMap t x=>
  have hx:x.map (cZ tm')=x.map (cZ tm):=by
   cases x with
   | none=>rfl
   | some y=>simp only[Option.map_some];rw[ht y (by simp)]
  rw[hx];exact h
 case mapUpdate t x k v=>rw[ht x (by simp),ht k (by simp),ht v (by simp)];exact Ez h hm
 case range t x=>rw[ht x (by simp)];exact h
 case entry x=>rw[ht x (by simp)];exact Oo h hm
 case load t x=>rw[ht x (by simp)];exact QJ h hm
 case store t x y=>rw[ht x (by simp),ht y (by simp)];exact Om h hm
 case nilCheck x=>rw[ht x (by simp)];exact h
 case binOp op t x y yt=>rw[ht x (by simp),ht y (by simp)];exact h
 case unOp op t x=>rw[ht x (by simp)];exact h
 case convert s d x=>rw[ht x (by simp)];exact Oj h hm
 case makeSlice t x y=>rw[ht x (by simp),ht y (by simp)];exact h
 case indexAddr t x y=>rw[ht x (by simp),ht y (by simp)];exact h
 case slice t x lo hi mx=>
  have hlo:lo.map (cZ tm')=lo.map (cZ tm):=by
   cases lo with
   | none=>rfl
   | some y=>simp only[Option.map_some];rw[ht y (by simp)]
  have hhi:hi.map (cZ tm')=hi.map (cZ tm):=by
   cases hi with
   | none=>rfl
   | some y=>simp only[Option.map_some];rw[ht y (by simp)]
  rw[ht x (by simp),hlo,hhi];cases hmx:mx.isNone with
  | false=>rw[hmx]at h;cases h
  | true=>
    rw[hmx]at h;simp only[cond_true]at h⊢;exact Ol h hm
 case makeFunc fn first cap=>
  have:cap.toList.map (cZ tm')=cap.toList.map (cZ tm):=uR λx hx=>ht x (by simp;exact .inr (by simpa using hx))
  have aow:first.toList.map (cZ tm')=first.toList.map (cZ tm):=uR λx hx=>ht x (by simp;exact .inl (by simpa using hx))
  rw[this,aow];exact h
 case makeInterface t x=>rw[ht x (by simp)];exact h
 case fieldAddr t x f=>rw[ht x (by simp)];exact h
 case field t x f=>rw[ht x (by simp)];exact h
 case index t x i=>rw[ht x (by simp),ht i (by simp)];exact h
 case lookup t x i ok=>rw[ht x (by simp),ht i (by simp)];exact h
 case extract x i=>rw[ht x (by simp)];exact h
 case call c=>exact QI hΓ h ht hm
theorem Mh{tm:List AV}{d:Option Tmp}{v:AV}{x:Operand}(h: ∀t,d=some t→x≠ .tmp t):cZ (mD tm d v) x=cZ tm x:=by
 cases d with
 | none=>rfl
 | some t=>
   cases x with
   | tmp u=>
     have hne:t≠u:=λe=>h t rfl (e ▸ rfl)
     simp[cZ,mD,dR,List.getElem?_set_ne hne]
   | _=>rfl
theorem lq(m:Mem): ∀(l:List (Nat×Option jk)) (s:Nat),s∉l.map (·.1)→dA m l s=m s:=by
 intro l
 induction l generalizing m with
 | nil=>intro s _;rfl
 | cons p l ih=>
   intro s hs;obtain⟨k,e⟩:=p;simp only[List.map_cons,List.mem_cons,not_or]at hs;rw[dA,ih _ s hs.2,bR,if_neg hs.1]
theorem yX{m m':Mem}: ∀(l:List (Nat×Option jk)) (s:Nat),(m s=m' s∨s∈l.map (·.1))→dA m l s=dA m' l s:=by
 intro l
 induction l generalizing m m' with
 | nil=>intro s hs;rcases hs with h|h;exact h;simp at h
 | cons p l ih=>
   intro s hs;obtain⟨k,e⟩:=p;refine ih s ?_;rw[bR,bR];by_cases hk:s=k
   ·simp[hk]
   ·simp only[hk,if_false]
    rcases hs with h|h
    ·exact .inl h
    ·simp only[List.map_cons,List.mem_cons,hk,false_or]at h;exact .inr h
theorem Ls(m:Mem)(l k:List (Nat×Option jk))(h: ∀s∈l.map (·.1),s∉k.map (·.1)):dA (dA m l) k=dA (dA m k) l:=by
 funext s
 by_cases hl:s∈l.map (·.1)
 ·have hk:=h s hl
  rw[lq _ k s hk];exact(yX l s (.inr hl))
 ·rw[lq _ l s hl]
  by_cases hk:s∈k.map (·.1)
  ·exact yX k s (.inr hk)
  ·rw[lq _ k s hk,lq _ k s hk,lq _ l s hl]
theorem Us(tm:List AV){x y:Option Tmp}(v u:AV)(h: ∀d,x=some d→y≠some d):mD (mD tm x v) y u=mD (mD tm y u) x v:=by
 cases x with
 | none=>rfl
 | some d=>
   cases y with
   | none=>rfl
   | some e=>exact(List.set_comm _ _ (λhe=>h d rfl (he ▸ rfl)))
theorem Ut(S:St){x y:Option Tmp}{r q:Eff}(h: ∀d,x=some d→y≠some d)(hu: ∀s∈r.upd.map (·.1),s∉q.upd.map (·.1)):
  (S.apply x r).apply y q=(S.apply y q).apply x r:=by
 simp only[St.apply,Us S.tm _ _ h,Ls S.mem _ _ hu]
theorem Gb{o:Oper}{tm:List AV}{d:Option Tmp}{v:AV}(h: ∀t,d=some t→t∉o.looksAt all.toArray):oW all (mD tm d v) o=oW all tm o:=by
 cases d with
 | none=>rfl
 | some t=>
   unfold oW;cases hg:o.guard with
   | none=>rfl
   | some gw=>
     obtain⟨g,want⟩:=gw;simp only[];cases ht:(all[g]?).bind (·.dst)with
     | none=>rfl
     | some u=>
       have hne:t≠u:=λe=>h t rfl (by
        subst e;have:(all.toArray[g]?).bind (·.dst)=some t:=by simpa using ht
        simp only[Oper.looksAt,hg,this];simp)
       simp[mD,dR,List.getElem?_set_ne hne]
theorem vO{l m:List Nat}(h:disjoint l m=true): ∀s∈l,s∉m:=by
 intro s hs hm;unfold disjoint at h;have:=List.all_eq_true.1 h s hs;simp only[Bool.not_eq_true',List.any_eq_false]at this;exact this s hm (by simp)
theorem EA{i:Nat}{o:Oper}{S S':St}{d:Did}(h:StepA P Γ all base i o S S' d): ∃r:Eff,S'=S.apply o.dst r∧d.writes=r.upd.map (·.1)∧d.idx=i:=by
 rcases h with⟨_,rfl,rfl⟩|⟨_,r,_,_,rfl,rfl⟩
 ·exact⟨_,rfl,rfl,rfl⟩
 ·exact⟨r,rfl,rfl,rfl⟩
theorem Gc(hΓ: ∀f s,Γ f=some s→tJ s){i:Nat}{o:Oper}{S S':St}{d:Did}(h:StepA P Γ all base i o S S' d)(S2:St)(hw:oW all S2.tm o=oW all S.tm o)(ht: ∀x∈o.op.operands,cZ S2.tm x=cZ S.tm x)
  (hm: ∀s∈d.reads,S2.mem s=S.mem s): ∃r:Eff,S'=S.apply o.dst r∧StepA P Γ all base i o S2 (S2.apply o.dst r) d∧d.writes=r.upd.map (·.1):=by
 rcases h with⟨h1,rfl,rfl⟩|⟨h1,r,hv,hc,rfl,rfl⟩
 ·exact⟨_,rfl,.inl ⟨by rw[hw];exact h1,rfl,rfl⟩,rfl⟩
 ·exact⟨r,rfl,.inr ⟨by rw[hw];exact h1,r,QK hΓ hv ht hm,hc,rfl,rfl⟩,rfl⟩
theorem A8{o:Oper}{t:Tmp}(h:t∉o.looksAt all.toArray){x:Operand}(hx:x∈o.op.operands):x≠ .tmp t:=by
 rintro rfl;exact h (List.mem_append_left _ (List.mem_filterMap.2 ⟨.tmp t,by simpa using hx,rfl⟩))
theorem Uu(hΓ: ∀f s,Γ f=some s→tJ s){i j:Nat}{oi oj:Oper}{S S1 S2:St}{di dj:Did}(hi:StepA P Γ all base i oi S S1 di)(hj:StepA P Γ all base j oj S1 S2 dj)
  (hap:Oper.apart all.toArray oi oj=true) (h1:disjoint di.writes dj.reads=true) (h2:disjoint di.writes dj.writes=true) (h3:disjoint di.reads dj.writes=true):
  ∃S1',StepA P Γ all base j oj S S1' dj∧StepA P Γ all base i oi S1' S2 di:=by
 obtain⟨a1,a2,a3⟩:=Oper.apart_spec hap;obtain⟨ri,hS1,hwi,_⟩:=EA hi;obtain⟨rj,hS2,hj',hwj⟩:=Gc hΓ hj S (by rw[hS1];exact(Gb (all:=all) (λt ht=>a1 t ht)).symm)
  (λx hx=>by rw[hS1];exact(Mh λt ht=>A8 (a1 t ht) hx).symm)
  (λs hs=>by rw[hS1];exact(lq _ _ s (λhin=>vO h1 s (by rw[hwi];exact hin) hs)).symm)
 obtain⟨ri',avx,hi',avy⟩:=Gc hΓ hi (S.apply oj.dst rj) (Gb (all:=all) (λt ht=>a3 t ht))
  (λx hx=>Mh λt ht=>A8 (a3 t ht) hx)
  (λs hs=>lq _ _ s (λhin=>vO h3 s hs (by rw[hwj];exact hin)))
 refine⟨_,hj',?_⟩;have:S2=(S.apply oj.dst rj).apply oi.dst ri':=by
  rw[hS2,avx];exact Ut S (λd hd=>a2 d hd) (λs hs=>λhin=>vO h2 s (by rw[avy];exact hs) (by rw[hwj];exact hin))
 rw[this];exact hi'
def yY(all:List Oper)(a b:Did):Prop:=I6 all a b=true
theorem A9{a:Did}: ∀{l:List Did},wz all a l=true→ ∀b∈l,yY all a b
 | [],_,b,hb=>by simp at hb
 | c::l,h,b,hb=>by
   simp only[wz,cu]at h;rcases List.mem_cons.1 hb with rfl|hb
   ·exact h.1
   ·exact A9 h.2 b hb
theorem Gd: ∀{l:List Did},En all l=true→l.Pairwise (yY all)
 | [],_=> .nil
 | a::l,h=>by
   simp only[En,cu]at h;exact .cons (A9 h.1) (Gd h.2)
theorem Jl{arr:Array Oper}{i:Nat}{oa:Oper}: ∀{l:List Oper},X9 arr i oa l=true→ ∀ob∈l,X8 arr i oa ob=true
 | [],_,ob,h=>by cases h
 | o::l,h,ob,hm=>by
   simp only[X9,cu]at h;rcases List.mem_cons.1 hm with rfl|hm
   ·exact h.1
   ·exact Jl h.2 ob hm
theorem Jm{arr:Array Oper}: ∀{l:List Oper} {i:Nat},I7 arr i l=true→ ∀k m oa ob,k<m→l[k]? =some oa→l[m]? =some ob→X8 arr (i+k) oa ob=true
 | [],i,_,k,m,oa,ob,_,h,_=>by simp at h
 | o::l,i,h,k,m,oa,ob,hkm,hk,hm=>by
   simp only[I7,cu]at h;cases m with
   | zero=>omega
   | succ m=>
     have hm:l[m]? =some ob:=by simpa using hm
     cases k with
     | zero=>
       have:o=oa:=by simpa using hk
       subst this;exact Jl h.1 ob (List.mem_of_getElem? hm)
     | succ k=>
       have hk:l[k]? =some oa:=by simpa using hk
       have:=Jm h.2 k m oa ob (by omega) hk hm;rw[show i+(k+1)=i+1+k by omega];exact this
theorem BF(l:List Nat):disjoint l []=true:=by
 unfold disjoint;rw[List.all_eq_true];intro x _;rfl
theorem Z8{ops:List Oper}{a b:Did}(hs:I7 ops.toArray 0 ops=true)(hm:aor ops a b=true)(h1:a.idx<b.idx)(h2:b.idx<ops.length):I6 ops a b=true:=by
 obtain⟨ob,hb⟩: ∃ob,ops[b.idx]? =some ob:=⟨_,List.getElem?_eq_getElem h2⟩
 obtain⟨oa,ha⟩: ∃oa,ops[a.idx]? =some oa:=⟨_,List.getElem?_eq_getElem (by omega)⟩
 have hst:=Jm hs a.idx b.idx oa ob h1 ha hb;rw[Nat.zero_add]at hst;unfold I6;rw[ha,hb];simp only[];unfold X8 at hst;unfold aor at hm;rw[hb]at hm;simp only[]at hm
 change ((Cq ob a.idx || _) || _)=true
 cases hre:tF ops 6 b.idx a.idx with
 | true=>rw[Bool.or_true]
 | false=>
 rw[hre]at hm;rw[Bool.or_false]at hm⊢;cases ho:Cq ob a.idx with
 | true=>rfl
 | false=>
   rw[ho]at hst hm;simp only[Bool.false_or]at hst hm⊢;rw[hst];cases hw:(a.writes.isEmpty&&b.writes.isEmpty)with
   | true=>
     simp only[cu,List.isEmpty_iff]at hw;have e: ∀l,disjoint [] l=true:=λ_=>rfl
     simp[hw.1,hw.2,BF,e]
   | false=>
     rw[hw]at hm;simpa using hm
theorem Gf{ops:List Oper}{a:Did}(hs:I7 ops.toArray 0 ops=true): ∀(l:List Did) (i:Nat),LZ i l=true→a.idx<i→i+l.length≤ops.length→ah7 ops a l=true→wz ops a l=true
 | [],_,_,_,_,_=>rfl
 | b::l,i,h,hi,hl,hm=>by
   simp only[LZ,cu,Nat.beq_eq]at h;simp only[ah7,cu]at hm;simp only[List.length_cons]at hl;simp only[wz,cu];exact⟨Z8 hs hm.1 (by omega) (by omega),Gf hs l (i+1) h.2 (by omega) (by omega) hm.2⟩
theorem Mi{ops:List Oper}(hs:I7 ops.toArray 0 ops=true): ∀(l:List Did) (i:Nat),LZ i l=true→i+l.length≤ops.length→ah8 ops l=true→En ops l=true
 | [],_,_,_,_=>rfl
 | a::l,i,h,hl,hm=>by
   simp only[LZ,cu,Nat.beq_eq]at h;simp only[ah8,cu]at hm;simp only[List.length_cons]at hl;simp only[En,cu];exact⟨Gf hs l (i+1) h.2 (by omega) (by omega) hm.1,Mi hs l (i+1) h.2 (by omega) hm.2⟩
theorem Uv{ops:List Oper}{ds:List Did}(h:indep ops ds=true):Co ops=true∧En ops ds.reverse=true:=by
 unfold indep at h;simp only[cu,Nat.ble_eq]at h;obtain⟨⟨⟨_,he⟩,hs⟩,⟨hl,hi⟩,hm⟩:=h;exact⟨he,Mi hs _ 0 hi (by simpa using hl) hm⟩
theorem Uw(hΓ: ∀f s,Γ f=some s→tJ s): ∀{pre post:List Nat} {i:Nat} {S S':St} {ds:List Did} {oi:Oper},Runs P Γ all base (pre++i::post) S S' ds→all[i]? =some oi→ds.Pairwise (yY all)→
  (∀j∈pre, ∀e∈oi.after,Region.binds .any e=true→e.on≠j)→(∀j∈pre,tF all 6 i j=false)→
  ∃S1 d ds',StepA P Γ all base i oi S S1 d∧Runs P Γ all base (pre++post) S1 S' ds'∧ds'.Pairwise (yY all)
 | [],post,i,S,S',ds,oi,h,ho,hp,_,_=>by
   obtain⟨o,S1,d,ds',ho',hs,hr,rfl⟩:=h;rw[ho]at ho';cases ho';exact⟨S1,d,ds',hs,hr,(List.pairwise_cons.1 hp).2⟩
 | j::pre,post,i,S,S',ds,oi,h,ho,hp,hno,hre=>by
   obtain⟨oj,S1,dj,ds',hoj,hsj,hr,rfl⟩:=h;obtain⟨hpj,hp'⟩:=List.pairwise_cons.1 hp
   have hmem: ∀(pre:List Nat) (S1 S':St) (ds:List Did),Runs P Γ all base (pre++i::post) S1 S' ds→ds.Pairwise (yY all)→
     (∀k∈pre, ∀e∈oi.after,Region.binds .any e=true→e.on≠k)→(∀k∈pre,tF all 6 i k=false)→ ∃S2 d ds',StepA P Γ all base i oi S1 S2 d∧Runs P Γ all base (pre++post) S2 S' ds'∧d∈ds∧(∀x∈ds',x∈ds)∧ds'.Pairwise (yY all):=by
    intro pre
    induction pre with
    | nil=>
      intro S1 S' ds h hp _ _;obtain⟨o,S2,d,ds',ho',hs,hr,rfl⟩:=h;rw[ho]at ho';cases ho';exact⟨S2,d,ds',hs,hr,by simp,λx hx=>by simp[hx],(List.pairwise_cons.1 hp).2⟩
    | cons k pre ih=>
      intro S1 S' ds h hp hno hre;obtain⟨ok,S3,dk,ds',hok,hsk,hr,rfl⟩:=h;obtain⟨hpk,hp'⟩:=List.pairwise_cons.1 hp;obtain⟨S4,d,ds2,hs,hr2,hd,hsub,hp2⟩:=ih S3 S' ds' hr hp' (λx hx=>hno x (by simp[hx])) (λx hx=>hre x (by simp[hx]));have hdi:d.idx=i:=(EA hs).choose_spec.2.2;have hdk:dk.idx=k:=(EA hsk).choose_spec.2.2;have QL:=hpk d hd;unfold yY I6 at QL;rw[hdk,hdi,hok,ho]at QL;simp only[hre k (by simp),Bool.or_false]at QL;simp only[Bool.or_eq_true,cu]at QL;rcases QL with avz|⟨⟨⟨hap,h1⟩,h2⟩,h3⟩
      ·exfalso
       obtain⟨e,he,hb⟩:=List.any_eq_true.1 avz;simp only[cu,Nat.beq_eq]at hb;exact hno k (by simp) e (by simpa using he) hb.1 hb.2
      ·obtain⟨S5,avA,avB⟩:=Uu hΓ hsk hs hap h1 h2 h3
       exact⟨S5,d,dk::ds2,avA,⟨ok,S4,dk,ds2,hok,avB,hr2,rfl⟩,by simp[hd],λx hx=>by
        rcases List.mem_cons.1 hx with rfl|hx
        ·simp
        ·simp[hsub x hx],List.pairwise_cons.2 ⟨λx hx=>hpk x (hsub x hx),hp2⟩⟩
   obtain⟨S5,d,ds3,h1,h2,_,_,h3⟩:=hmem (j::pre) S S' (dj::ds') ⟨oj,S1,dj,ds',hoj,hsj,hr,rfl⟩ hp hno hre;exact⟨S5,d,ds3,h1,h2,h3⟩
theorem Oq(h:Co all=true){i:Nat}{o:Oper}(ho:all[i]? =some o): ∀e∈o.after,Region.binds .any e=true→e.on<i:=by
 intro e he hb;unfold Co at h;have:=List.all_eq_true.1 h (o,i) (by rw[List.mem_zipIdx_iff_getElem?];simpa using ho);have:=List.all_eq_true.1 this e (by simpa using he);simpa[hb]using this
theorem Mj{l:List Nat}(hcl: ∀k o,all[k]? =some o→k∉l→ ∀e∈o.after,Region.binds .any e=true→e.on∉l): ∀(n i:Nat) (oi:Oper),all[i]? =some oi→(∀e∈oi.after,Region.binds .any e=true→e.on∉l)→ ∀j,tF all n i j=true→j∉l
 | 0,_,_,_,_,_,h=>by cases h
 | n+1,i,oi,ho,hd,j,h=>by
   unfold tF at h;rw[ho]at h;obtain⟨e,he,hb⟩:=List.any_eq_true.1 h;simp only[cu,Bool.or_eq_true,Nat.beq_eq]at hb;have he':e∈oi.after:=by simpa using he
   have hout:=hd e he' hb.1;rcases hb.2 with rfl|hr
   ·exact hout
   ·cases hx:all[e.on]? with
    | none=>
      cases n with
      | zero=>cases hr
      | succ n=>unfold tF at hr;rw[hx]at hr;cases hr
    | some ox=>exact Mj hcl n e.on ox hx (hcl e.on ox hx hout) j hr
variable{C:Ctx}
theorem Ux(hΓ: ∀f s,Γ f=some s→mE C P f s)(hC:C.Ok)(he:Co all=true)(ro:Option Nat){Q:Exit→Act→World→Prop}{S':St}: ∀(fuel:Nat) (l:List Nat) (listed:Array Bool) (S:St) (ds:List Did) (B:eB) (a:Act) (w:World),
  Runs P Γ all base l S S' ds→ds.Pairwise (yY all)→l.Pairwise (· < ·)→l.length≤fuel→listed.size=all.length→(∀i,i<all.length→(listed.getD i true=false↔i∈l))→(∀i∈l,i<all.length)→
  (∀k o,all[k]? =some o→k∉l→ ∀e∈o.after,Region.binds .any e=true→e.on∉l)→Holds C B S a w→Ur B base l→(∀i∈l,Between C S (base+i))→(∀a' w' B',Holds C B' S' a' w'→Q .normal a' w')→wpAnyIn (Fence.Qi ro) 0 P .any all.toArray Q fuel listed a w:=by
 intro fuel
 induction fuel with
 | zero=>
   intro l listed S ds B a w hr hp hsort hlen hsz QM hlt hcl H hf hnx hQ;obtain rfl:l=[]:=List.eq_nil_of_length_eq_zero (by omega);obtain⟨rfl,rfl⟩:=hr;refine⟨?_,hQ _ _ B H⟩;rw[List.eq_nil_iff_forall_not_mem];intro i hi;obtain⟨h0,o,ho,_⟩:=mem_ready.1 hi;have hi':i<all.length:=by have:=(Array.getElem?_eq_some_iff.1 ho).1;simpa using this
   exact absurd ((QM i hi').1 h0) (by simp)
 | succ fuel ih=>
   intro l listed S ds B a w hr hp hsort hlen hsz QM hlt hcl H hf hnx hQ;constructor
   ·intro hnil
    cases l with
    | nil=>obtain⟨rfl,rfl⟩:=hr;exact hQ _ _ B H
    | cons i l=>
      exfalso
      have hi:i<all.length:=hlt i (by simp);have ho:all[i]? =some all[i]:=List.getElem?_eq_getElem hi;have:i∈Region.ready .any all.toArray listed:=by
       rw[mem_ready];refine⟨(QM i hi).2 (by simp),all[i],by simpa using hi,λe hee hb=> ?_⟩;have hlt':=Oq he ho e hee hb;have hnot:e.on∉i::l:=by
        intro hm;rcases List.mem_cons.1 hm with h|h
        ·omega
        ·have:=(List.pairwise_cons.1 hsort).1 _ h;omega
       have h1: ¬listed.getD e.on true=false:=λh=>hnot ((QM e.on (by omega)).1 h)
       have hsz':e.on<listed.size:=by omega
       simp only[oQ,Array.getElem?_eq_getElem hsz',Option.getD_some]at h1⊢;simpa using h1
      rw[hnil]at this;simp at this
   ·intro i hi
    obtain⟨h0,oi,ho,anN⟩:=mem_ready.1 hi;have hil:i<all.length:=by have:=(Array.getElem?_eq_some_iff.1 ho).1;simpa using this
    have ho':all[i]? =some oi:=by simpa using ho
    have hmem:i∈l:=(QM i hil).1 h0;obtain⟨pre,post,rfl⟩:=List.append_of_mem hmem;have hno: ∀j∈pre, ∀e∈oi.after,Region.binds .any e=true→e.on≠j:=by
     intro j hj e hee hb hej;have h1:=anN e hee hb;have hjl:j<all.length:=hlt j (by simp[hj]);have h2:=(QM j hjl).2 (by simp[hj]);rw[hej]at h1;have hsz':j<listed.size:=by omega
     simp only[oQ,Array.getElem?_eq_getElem hsz',Option.getD_some]at h1 h2;rw[h1]at h2;cases h2
    have hdn: ∀e∈oi.after,Region.binds .any e=true→e.on∉pre++i::post:=by
     intro e hee hb hm;have h1:=anN e hee hb;have hjl:e.on<all.length:=hlt e.on hm;have h2:=(QM e.on hjl).2 hm;have hsz':e.on<listed.size:=by omega
     simp only[oQ,Array.getElem?_eq_getElem hsz',Option.getD_some]at h1 h2;rw[h1]at h2;cases h2
    have hre: ∀j∈pre,tF all 6 i j=false:=by
     intro j hj;cases hb:tF all 6 i j with
     | false=>rfl
     | true=>exact absurd (show j∈pre++i::post by simp[hj]) (Mj hcl 6 i oi ho' hdn j hb)
    obtain⟨S1,d,ds',hs,hr',hp'⟩:=Uw (λf s h=>(hΓ f s h).look) hr ho' hp hno hre;refine Ga hΓ hC ho' hs H (hf i (by simp)) (hnx i (by simp)) (λa' w' B' H' hB=> ?_) ro;have hnd:(pre++i::post).Nodup:=hsort.imp (λh=>Nat.ne_of_lt h);have hni:i∉pre++post:=by
     intro hm;rw[List.nodup_append]at hnd;obtain⟨_,h2,h3⟩:=hnd;rcases List.mem_append.1 hm with h|h
     ·exact h3 i h i (by simp) rfl
     ·exact(List.nodup_cons.1 h2).1 h
    refine ih (pre++post) _ S1 ds' B' a' w' hr' hp' ?_ ?_ (by simpa using hsz) ?_ ?_ (λk o hk hkl e hee hb hm=> ?_) H' ?_ ?_ hQ
    rotate_left 4
    ·have hm':e.on∈pre++i::post:=by
      rcases List.mem_append.1 hm with h|h
      ·simp[h]
      ·simp[h]
     by_cases hki:k=i
     ·subst hki
      rw[ho']at hk;cases hk;exact hdn e hee hb hm'
     ·refine hcl k o hk (λhx=>hkl ?_) e hee hb hm'
      rcases List.mem_append.1 hx with h|h
      ·simp[h]
      ·rcases List.mem_cons.1 h with h|h
       ·exact absurd h hki
       ·simp[h]
    rotate_left 2
    ·exact hsort.sublist (List.Sublist.append (List.Sublist.refl pre) (List.sublist_cons_self i post))
    ·simp at hlen⊢;omega
    ·intro k hk
     by_cases hki:i=k
     ·subst hki
      have hsz':i<listed.size:=by omega
      simp only[oQ,Array.getElem?_setIfInBounds_self_of_lt hsz',Option.getD_some];constructor
      ·intro h;cases h
      ·intro h;exact absurd h hni
     ·rw[getD_set_ne true hki,QM k hk]
      simp only[List.mem_append,List.mem_cons];constructor
      ·rintro(h|rfl|h)
       ·exact .inl h
       ·exact absurd rfl hki
       ·exact .inr h
      ·rintro(h|h)
       ·exact .inl h
       ·exact .inr (.inr h)
    ·intro k hk
     exact hlt k (by simp only[List.mem_append,List.mem_cons]at hk⊢;rcases hk with h|h;exact .inl h;exact .inr (.inr h))
    ·intro k hk
     have hne:k≠i:=by rintro rfl;exact hni hk
     rw[hB _ (by omega)];exact hf k (by simp only[List.mem_append,List.mem_cons]at hk⊢;rcases hk with h|h;exact .inl h;exact .inr (.inr h))
    ·intro k hk
     unfold Between;rw[QG hs];exact hnx k (by simp only[List.mem_append,List.mem_cons]at hk⊢;rcases hk with h|h;exact .inl h;exact .inr (.inr h))
end
end Go.bI
namespace Go.bI
open Go.RowKit
def Tr.leaves{α:Type}(φ:α→Prop):Tr α→Prop
 | .ret a=>φ a
 | .ite _ t e=>t.leaves φ∧e.leaves φ
 | .need _ t=>t.leaves φ
 | .both a b=>a.leaves φ∧b.leaves φ
 | .fail _=>True
theorem Tr.kK{α:Type}{φ ψ:α→Prop}(h: ∀a,φ a→ψ a): ∀{t:Tr α},t.leaves φ→t.leaves ψ
 | .ret a,k=>h a k
 | .ite _ t e,k=>⟨Tr.kK h k.1,Tr.kK h k.2⟩
 | .need _ t,k=>Tr.kK (t:=t) h k
 | .both a b,k=>⟨Tr.kK h k.1,Tr.kK h k.2⟩
 | .fail _,_=>trivial
theorem Tr.CG{α:Type}{φ:α→Prop}{t:Tr α}(h:t.leaves φ): ∀(l:List Bool),(Tr.needs l t).leaves φ
 | []=>h
 | _::l=>Tr.CG h l
theorem Tr.tL{α β:Type}{Q:β→Prop}{f:α→Tr β}: ∀{t:Tr α},(t.sat λa=>(f a).sat Q)→(t.bind f).sat Q
 | .ret a,h=>h
 | .ite _ t e,h=>⟨λhc=>Tr.tL (h.1 hc),λhc=>Tr.tL (h.2 hc)⟩
 | .need _ t,h=>⟨h.1,λhp=>Tr.tL (h.2 hp)⟩
 | .both a b,h=>⟨Tr.tL h.1,Tr.tL h.2⟩
 | .fail _,h=>h.elim
theorem Tr.Jo{α β:Type}{f:α→Tr β}{t:Tr α}: ∀(l:List Bool),(Tr.needs l t).bind f=Tr.needs l (t.bind f)
 | []=>rfl
 | p::l=>by simp only[Tr.needs,Tr.bind,Tr.Jo l]
theorem Ot(tm:List AV)(d:Option Tmp)(v:AV):(mD tm d v).length=tm.length:=by
 cases d<;>simp[mD]
theorem QN{tm:List AV}{d:Option Tmp}{v:AV}{t:Tmp}(h:d≠some t):(mD tm d v).getD t .any=tm.getD t .any:=by
 cases d with
 | none=>rfl
 | some d=>
   have:d≠t:=λe=>h (by rw[e])
   simp[mD,dR,List.getElem?_set_ne this]
section
variable{P:Program}{Γ:FuncId→Option Spec}{all:List Oper}{base:Nat}
def Fits(ops:List Oper)(S:St)(ds:List Did)(p:St×List Did):Prop:=
 p.1.nx=S.nx∧p.1.tm.length=S.tm.length∧(∃new,p.2=new++ds∧((∀d∈new,d.writes=[])→p.1.mem=S.mem))∧ ∀t,(∀o∈ops,o.dst≠some t)→p.1.tm.getD t .any=S.tm.getD t .any
theorem Fits.step{o:Oper}{rest:List Oper}{S:St}{ds:List Did}{r:Eff}{d:Did}(hd:d.writes=r.upd.map (·.1)){p:St×List Did}(h:Fits rest (S.apply o.dst r) (d::ds) p):Fits (o::rest) S ds p:=by
 obtain⟨h1,h2,⟨new,h3,h4⟩,h5⟩:=h;refine⟨h1,by rw[h2];exact Ot _ _ _,⟨new++[d],by simp[h3],λhw=> ?_⟩,λt ht=> ?_⟩
 ·rw[h4 (λx hx=>hw x (by simp[hx]))]
  have:r.upd=[]:=by
   have:=hw d (by simp);rw[hd]at this;simpa using this
  simp[St.apply,this,dA]
 ·rw[h5 t (λo' ho'=>ht o' (by simp[ho']))]
  exact QN (ht o (by simp))
theorem pE: ∀(ops:List Oper) (i:Nat) (S:St) (ds:List Did),(jc P Γ all base ops i S ds).leaves (Fits ops S ds)
 | [],i,S,ds=>⟨rfl,rfl,⟨[],rfl,λ_=>rfl⟩,λ_ _=>rfl⟩
 | o::rest,i,S,ds=>by
   unfold jc
   split
   ·trivial
   ·exact Tr.kK (λp hp=>hp.step (by rfl)) (pE rest (i+1) _ _)
   ·split
    ·trivial
    ·rename_i r hr
     refine Tr.CG ?_ _;cases rA all i with
     | true=>
       simp only[cond_true]
       split
       ·exact⟨Tr.kK (λp hp=>hp.step (by rfl)) (pE rest (i+1) _ _),Tr.kK (λp hp=>hp.step (by rfl)) (pE rest (i+1) _ _)⟩
       ·trivial
     | false=>exact Tr.kK (λp hp=>hp.step (by rfl)) (pE rest (i+1) _ _)
def Yd(P:Program)(Γ:FuncId→Option Spec)(all:List Oper)(base:Nat)(o:Oper)(i:Nat)(S:St)(ds:List Did)(k:St→List Did→Tr (St×List Did)):Tr (St×List Did):=
 match oW all S.tm o with
 | none=> .fail "guard"
 | some false=>k (S.apply o.dst {val:= .c (.v undef)}) ({idx:=i,reads:=[],writes:=[]}::ds)
 | some true=>
   match AY P Γ (base+i) o S.tm S.mem with
   | none=> .fail o.pos
   | some r=>
     Tr.needs r.conds<|
      bif rA all i then
       match r.val with
       | .c (.v (.bool b))=>
         .ite b (k (S.apply o.dst {r with val:=bL true}) ({idx:=i,reads:=r.reads,writes:=r.upd.map (·.1)}::ds))
          (k (S.apply o.dst {r with val:=bL false}) ({idx:=i,reads:=r.reads,writes:=r.upd.map (·.1)}::ds))
       | _=> .fail "source"
      else k (S.apply o.dst r) ({idx:=i,reads:=r.reads,writes:=r.upd.map (·.1)}::ds)
theorem CJ(o:Oper)(rest:List Oper)(i:Nat)(S:St)(ds:List Did):jc P Γ all base (o::rest) i S ds=Yd P Γ all base o i S ds λS' ds'=>jc P Γ all base rest (i+1) S' ds':=rfl
theorem Uy(o:Oper)(i:Nat)(S:St)(ds:List Did)(k:St→List Did→Tr (St×List Did))(f:St×List Did→Tr (St×List Did)):
  (Yd P Γ all base o i S ds k).bind f=Yd P Γ all base o i S ds λS' ds'=>(k S' ds').bind f:=by
 unfold Yd
 split
 ·rfl
 ·rfl
 ·split
  ·rfl
  ·rw[Tr.Jo]
   congr 1
   cases rA all i with
   | true=>
     simp only[cond_true]
     split<;>rfl
   | false=>rfl
theorem yZ: ∀(ops rest:List Oper) (i:Nat) (S:St) (ds:List Did),jc P Γ all base (ops++rest) i S ds=(jc P Γ all base ops i S ds).bind λp=>jc P Γ all base rest (i+ops.length) p.1 p.2
 | [],rest,i,S,ds=>by simp[jc,Tr.bind]
 | o::ops,rest,i,S,ds=>by
   rw[List.cons_append,CJ,CJ,Uy]
   congr 1
   funext S' ds'
   rw[yZ ops rest (i+1) S' ds',List.length_cons,Nat.add_assoc,Nat.add_comm 1]
end
def Less(v u:AV):Prop:=v= .any∨v=u
def wE:List AV→List AV→Prop
 | [],[]=>True
 | v::l,u::m=>Less v u∧wE l m
 | _,_=>False
theorem Less.trans{v u x:AV}(h:Less v u)(k:Less u x):Less v x:=by
 rcases h with h|h
 ·exact .inl h
 ·subst h;exact k
theorem wE.trans: ∀{l m n:List AV},wE l m→wE m n→wE l n
 | [],[],[],_,_=>trivial
 | _::_,_::_,_::_,h,k=>⟨h.1.trans k.1,h.2.trans k.2⟩
 | [],_::_,_,h,_=>h.elim
 | _::_,[],_,h,_=>h.elim
 | [],[],_::_,_,k=>k.elim
 | _::_,_::_,[],_,k=>k.elim
theorem wE.refl: ∀(l:List AV),wE l l
 | []=>trivial
 | _::l=>⟨.inr rfl,wE.refl l⟩
mutual
theorem EB(c:Bool)(x y z:AV)(h:Eo c x y=some z):(c=true→z=x)∧(c=false→z=y):=by
  unfold Eo at h
  split at h
  ·cases h;exact⟨λhc=>by subst hc;rfl,λhc=>by subst hc;rfl⟩
  ·split at h
   ·rename_i hk
    subst hk;cases h;exact⟨λhc=>by subst hc;rfl,λhc=>by subst hc;rfl⟩
   ·cases h
  ·cases h;exact⟨λhc=>by subst hc;rfl,λhc=>by subst hc;rfl⟩
  ·rename_i b o b' o'
   cases hb:(Nat.beq b b'&&Nat.beq o o')with
   | false=>rw[hb]at h;cases h
   | true=>
     rw[hb]at h;rw[cu]at hb;obtain rfl:b=b':=Nat.eq_of_beq_eq_true hb.1;obtain rfl:o=o':=Nat.eq_of_beq_eq_true hb.2;cases h;exact⟨λ_=>rfl,λ_=>rfl⟩
  ·rename_i l m
   cases hm:wW c l m with
   | none=>rw[hm]at h;cases h
   | some n=>
     rw[hm]at h;cases h;have:=BG c l m n hm;exact⟨λhc=>by rw[this.1 hc],λhc=>by rw[this.2 hc]⟩
  ·rename_i l m
   cases hm:wW c l m with
   | none=>rw[hm]at h;cases h
   | some n=>
     rw[hm]at h;cases h;have:=BG c l m n hm;exact⟨λhc=>by rw[this.1 hc],λhc=>by rw[this.2 hc]⟩
  ·cases h
 termination_by SizeOf.sizeOf x
theorem BG(c:Bool)(l m n:List AV)(h:wW c l m=some n):(c=true→n=l)∧(c=false→n=m):=by
  unfold wW at h
  split at h
  ·cases h;exact⟨λ_=>rfl,λ_=>rfl⟩
  ·rename_i x l y m
   split at h
   ·rename_i z n' hz hn
    cases h;have h1:=EB c x y z hz;have h2:=BG c l m n' hn;exact⟨λhc=>by rw[h1.1 hc,h2.1 hc],λhc=>by rw[h1.2 hc,h2.2 hc]⟩
   ·cases h
  ·cases h
 termination_by SizeOf.sizeOf l
end
theorem Ou(x y:AV):Less (Ct true x y) x:=by
 unfold Ct;cases h:Eo true x y with
 | none=>exact .inl rfl
 | some z=>exact .inr ((EB true x y z h).1 rfl)
theorem Lu(x y:AV):Less (Ct false x y) y:=by
 unfold Ct;cases h:Eo false x y with
 | none=>exact .inl rfl
 | some z=>exact .inr ((EB false x y z h).2 rfl)
theorem Gg: ∀{l m n:List AV},yO true l m=some n→wE n l
 | [],[],n,h=>by cases h;trivial
 | x::l,y::m,n,h=>by
   unfold yO at h;cases hm:yO true l m with
   | none=>rw[hm]at h;cases h
   | some n'=>rw[hm]at h;cases h;exact⟨Ou x y,Gg hm⟩
 | [],_::_,_,h=>by cases h
 | _::_,[],_,h=>by cases h
theorem CK: ∀{l m n:List AV},yO false l m=some n→wE n m
 | [],[],n,h=>by cases h;trivial
 | x::l,y::m,n,h=>by
   unfold yO at h;cases hm:yO false l m with
   | none=>rw[hm]at h;cases h
   | some n'=>rw[hm]at h;cases h;exact⟨Lu x y,CK hm⟩
 | [],_::_,_,h=>by cases h
 | _::_,[],_,h=>by cases h
theorem xw{ops:List Oper}{draw:Bool}{Lg:List Tmp}{n0:Nat}{φ:St×List Did→Prop}: ∀{T:Tr (St×List Did)} {p:Bool} {vs:List AV},flat ops draw Lg n0 T=some (p,vs)→p=true→T.leaves φ→
  T.sat λq=>φ q∧(∀d∈q.2.take (q.2.length-n0),d.writes=[])∧(!draw || indep ops q.2)=true∧wE vs (Lg.map λt=>q.1.tm.getD t .any)
 | .ret (S,ds),p,vs,h,hp,hl=>by
   unfold flat at h;cases hb:(((ds.take (ds.length-n0)).all λd=>d.writes.isEmpty)&&(!draw || indep ops ds))with
   | false=>rw[hb]at h;cases h
   | true=>
     rw[hb]at h;simp only[cond_true,fK,Prod.mk.injEq]at h;obtain⟨_,rfl⟩:=h;rw[cu]at hb;refine⟨hl,λd hd=> ?_,hb.2,wE.refl _⟩;have:=List.all_eq_true.1 hb.1 d hd;simpa using this
 | .need c t,p,vs,h,hp,hl=>by
   unfold flat at h
   split at h
   ·rename_i q l hq
    simp only[fK,Prod.mk.injEq]at h;obtain⟨rfl,rfl⟩:=h;rw[cu]at hp;exact⟨hp.1,λ_=>xw hq hp.2 hl⟩
   ·cases h
 | .ite c a b,p,vs,h,hp,hl=>by
   unfold flat at h
   split at h
   ·rename_i pa la pb lb ha hb
    split at h
    ·rename_i n hn
     simp only[fK,Prod.mk.injEq]at h;obtain⟨rfl,rfl⟩:=h;refine⟨λhc=> ?_,λhc=> ?_⟩
     ·subst hc
      exact Tr.bC (λq hq=>⟨hq.1,hq.2.1,hq.2.2.1,(Gg hn).trans hq.2.2.2⟩) (xw ha hp hl.1)
     ·subst hc
      exact Tr.bC (λq hq=>⟨hq.1,hq.2.1,hq.2.2.1,(CK hn).trans hq.2.2.2⟩) (xw hb hp hl.2)
    ·cases h
   ·cases h
 | .both _ _,p,vs,h,_,_=>by cases h
 | .fail _,p,vs,h,_,_=>by cases h
theorem Ba: ∀(ts:List Tmp) (vs tm:List AV),(Ep tm ts vs).length=tm.length
 | [],vs,tm=>by cases vs<;>rfl
 | t::ts,[],tm=>rfl
 | t::ts,v::vs,tm=>by
   unfold Ep;rw[Ba ts vs];simp
theorem Gh{f:Nat→AV}: ∀(ts:List Tmp) (vs tm:List AV),wE vs (ts.map f)→(∀t,t∈ts∨Less (tm.getD t .any) (f t))→ ∀t,Less ((Ep tm ts vs).getD t .any) (f t)
 | [],[],tm,_,h,t=>(h t).resolve_left (by simp)
 | t0::ts,v::vs,tm,hv,h,t=>by
   unfold Ep;refine Gh ts vs _ hv.2 (λu=> ?_) t;by_cases hu:t0=u
   ·subst hu
    by_cases hm:t0∈ts
    ·exact .inl hm
    ·right
     by_cases hl:t0<tm.length
     ·have:(tm.set t0 v).getD t0 .any=v:=by simp[dR,List.getElem?_set_self hl]
      rw[this];exact hv.1
     ·left
      have hge:(tm.set t0 v).length≤t0:=by rw[List.length_set];exact Nat.le_of_not_lt hl
      simp only[dR,List.getElem?_eq_none hge,Option.getD_none]
   ·have:(tm.set t0 v).getD u .any=tm.getD u .any:=by simp[dR,List.getElem?_set_ne hu]
    rw[this];rcases h u with h|h
    ·rcases List.mem_cons.1 h with h|h
     ·exact absurd h.symm hu
     ·exact .inl h
    ·exact .inr h
 | [],_::_,_,hv,_,_=>hv.elim
 | _::_,[],_,hv,_,_=>hv.elim
theorem Holds.less{C:Ctx}{B:eB}{S:St}{a:Act}{w:World}(H:Holds C B S a w){tm:List AV}(hl:tm.length=S.tm.length)(h: ∀t,Less (tm.getD t .any) (S.tm.getD t .any)):Holds C B {S with tm:=tm} a w:=by
 refine{H with size:=by rw[H.size];exact hl.symm,tm:=λt ht=> ?_};rcases h t with h|h
 ·show aV _ _ _ (tm.getD t .any) _
  rw[h];exact .any _
 ·show aV _ _ _ (tm.getD t .any) _
  rw[h];exact H.tm t (by rw[←hl];exact ht)
section
variable{P:Program}{Γ:FuncId→Option Spec}
theorem QO{ops:List Oper}{draw:Bool}{S:St}{Q:St→Prop}(h:(yP P Γ ops draw S).sat Q):
  (qG P Γ ops draw S).sat λS'=> ∃tm,tm.length=S'.tm.length∧(∀t,Less (tm.getD t .any) (S'.tm.getD t .any))∧Q {S' with tm:=tm}:=by
 unfold yP at h;unfold qG;have h:=Tr.gP h;have e:ops=ops.take (rC ops ops 0)++ops.drop (rC ops ops 0):=(List.take_append_drop _ _).symm;generalize hi:rC ops ops 0=i0 at h e;have hlen:(ops.take i0).length≤i0:=by simp;omega
 refine Tr.tL ?_;have hsplit:jc P Γ ops S.nx ops 0 (blanks S ops.length) []=(jc P Γ ops S.nx (ops.take i0) 0 (blanks S ops.length) []).bind λp=>jc P Γ ops S.nx (ops.drop i0) (0+(ops.take i0).length) p.1 p.2:=by
  rw[←yZ (all:=ops), ←e]
 rw[hsplit];refine Tr.tL (Tr.bC ?_ h);rintro⟨S1,ds1⟩ hq;have hidx:jc P Γ ops S.nx (ops.drop i0) (0+(ops.take i0).length) S1 ds1=jc P Γ ops S.nx (ops.drop i0) i0 S1 ds1:=by
  by_cases hle:i0≤ops.length
  ·have:(ops.take i0).length=i0:=by simp;omega
   rw[this,Nat.zero_add]
  ·have:ops.drop i0=[]:=List.drop_eq_nil_of_le (by omega)
   rw[this];rfl
 simp only[hidx];dsimp only at hq;have same: ∀S':St,Q S'→ ∃tm,tm.length=S'.tm.length∧(∀t,Less (tm.getD t .any) (S'.tm.getD t .any))∧Q {S' with tm:=tm}:=λS' hS=>⟨S'.tm,rfl,λ_=> .inr rfl,hS⟩
 split at hq
 ·rename_i c vs hf
  obtain⟨hc,hQ⟩:=hq;refine Tr.bC ?_ (xw hf hc (pE (P:=P) (Γ:=Γ) (all:=ops) (base:=S.nx) (ops.drop i0) i0 S1 ds1));rintro⟨S',ds⟩ ⟨⟨h1,h2,⟨new,h3,h4⟩,h5⟩,hw,hd,hv⟩;simp only at h1 h2 h3 h4 h5 hw hd hv;have hmem:S'.mem=S1.mem:=h4 (λd hdn=>hw d (by rw[h3];simp[hdn]));rw[hd];simp only[cond_true];have hless:=Gh (f:=λt=>S'.tm.getD t .any) _ vs S1.tm hv (λt=>by
   by_cases ht:t∈(ops.drop i0).filterMap (·.dst)
   ·exact .inl ht
   ·refine .inr (.inr (h5 t λo ho hdst=>ht ?_).symm)
    exact List.mem_filterMap.2 ⟨o,ho,hdst⟩)
  refine⟨_,(Ba _ _ _).trans h2.symm,hless,?_⟩;have:=hQ hc;obtain⟨tm1,mem1,nx1⟩:=S1;obtain⟨tm2,mem2,nx2⟩:=S';simp only at hmem h1 this⊢;subst hmem;subst h1;exact this
 ·have hq:=Tr.gP hq
  refine Tr.bC ?_ hq;rintro⟨S',ds⟩ hk;unfold checked at hk;simp only at hk⊢;cases hb:(!draw || indep ops ds)with
  | true=>
    rw[hb]at hk;exact same _ hk
  | false=>
    rw[hb]at hk;exact hk.elim
theorem QS{N:Nat}{ops:List Oper}{draw:Bool}{S:St}{Q:St→Prop}(h:(Cu P Γ N ops draw S).sat Q):
  (qG P Γ ops draw S).sat λS'=> ∃tm,tm.length=S'.tm.length∧(∀t,Less (tm.getD t .any) (S'.tm.getD t .any))∧Q {S' with tm:=tm}:=by
 unfold Cu at h;cases hb:(Nat.ble 1000 N&&ops.any (λo=>o.guard.isSome))with
 | true=>rw[hb]at h;exact QO h
 | false=>
   rw[hb]at h;exact Tr.bC (λS' hS=>⟨S'.tm,rfl,λ_=> .inr rfl,hS⟩) h
end
end Go.bI
namespace Go.bI
open Go.RowKit
def Ex.adh:Ex→Exit
 | .normal=> .normal
 | .exit id=> .exit id
 | .ret=> .ret
theorem pF{F:Fence}{n:Nat}{P:Program}{c:Code}{Q Q':Exit→Act→World→Prop}{a:Act}{w:World}(hq: ∀e a w,Q e a w→Q' e a w)(h:c.wpIn F n P Q a w):c.wpIn F n P Q' a w:=wpIn_mono h hq
theorem qJ{n:Nat}{P:Program}{c:Code}{Q:Exit→Act→World→Prop}{a:Act}{w:World}(h:c.wpIn (Fence.Qi none) n P Q a w):c.wp P Q a w:=wpIn_wide.1 h
def Bb(C:Ctx)(Q:Ex×St→Prop)(e:Exit)(a:Act)(w:World):Prop:=
 ∃ex S B,e=ex.adh∧Holds C B S a w∧Q (ex,S)
section
variable{P:Program}{Γ:FuncId→Option Spec}{L:Nat→Option (St→Tr (Ex×St))}{C:Ctx}
theorem EC{ro:Option Nat}(hm:P.follows .mixedOrders=true)(hΓ: ∀f s,Γ f=some s→mE C P f s)(hC:C.Ok){id:Nat}{ops:Array Oper}{draw:Bool}{S:St}{Q:St→Prop}
  (h:(qG P Γ ops.toList draw S).sat Q) {B:eB} {a:Act} {w:World} (H:Holds C B S a w) {R:Exit→Act→World→Prop}
  (hR: ∀S' a' w' B',Q S'→Holds C B' S' a' w'→R .normal a' w'):(Code.region id ops draw).wpIn (Fence.Qi ro) 0 P R a w:=by
 unfold qG at h;have h1:=Tr.gP h;obtain⟨S',ds,Ye,hq⟩:=mW (P:=P) (Γ:=Γ) (all:=ops.toList) (base:=S.nx) ops.toList 0 (blanks S ops.toList.length) [] (by simp) h1;simp only[List.append_nil]at hq;have Ov:Holds C B (blanks S ops.toList.length) a w:={H with fresh:=λs hs=>H.fresh s (by simp only[blanks]at hs;omega),uF:=by have:=H.uF;simp only[blanks];omega}
 have hfree:Ur B S.nx (List.range' 0 ops.toList.length):=λi _=>H.fresh _ (by omega)
 have hnx: ∀i∈List.range' 0 ops.toList.length,Between C (blanks S ops.toList.length) (S.nx+i):=by
  intro i hi;simp only[List.mem_range'_1]at hi;have:=H.uF;unfold Between;simp only[blanks];omega
 cases draw with
 | false=>
   simp only[Bool.not_false,Bool.true_or,cond_true]at hq;refine wpIn_region ?_;have hl:List.range ops.size=List.range' 0 ops.toList.length:=by simp[List.range_eq_range']
   rw[hl];have:=BD hΓ hC (S':=S') (Q:=R) (List.range' 0 ops.toList.length) _ ds B a w Ye Ov hfree (List.nodup_range') hnx (λa' w' B' H'=>hR S' a' w' B' hq H') ro;simpa using this
 | true=>
   simp only[Bool.not_true,Bool.false_or]at hq;cases hi:indep ops.toList ds.reverse with
   | false=>rw[hi]at hq;exact hq.elim
   | true=>
     rw[hi]at hq;simp only[cond_true]at hq;obtain⟨he,asL⟩:=Uv hi;rw[List.reverse_reverse]at asL;refine wpIn_region_any hm ?_;have H2:Holds C B (blanks S ops.toList.length) a {w with drawn:=w.drawn+1}:=Ov.move (w':=w.drew) (Below.refl _ w).drew;have:=Ux hΓ hC he ro (Q:=R) (S':=S') ops.size (List.range' 0 ops.toList.length) (Array.replicate ops.size false) _ ds B a _ Ye (Gd asL)
      (List.pairwise_lt_range') (by simp) (by simp) (λi hi=>by
       have hi':i<ops.size:=by simpa using hi
       simp[hi']) (λi hi=>by simpa[List.mem_range'_1]using hi) (λk o hk hkl=>absurd (show k∈List.range' 0 ops.toList.length by
        have:=(List.getElem?_eq_some_iff.1 hk).1;simpa[List.mem_range'_1]using this) hkl) H2 hfree hnx (λa' w' B' H'=>hR S' a' w' B' hq H')
     simpa using this
theorem Mk{α:Type}{Q:α→Prop}: ∀{l:List (Tr α)},(ac3 l).sat Q→ ∀t∈l,t.sat Q
 | [],h,t,ht=>by cases ht
 | [t],h,t',ht=>by
   obtain rfl:=List.mem_singleton.1 ht;exact h
 | t::u::l,h,t',ht=>by
   rcases List.mem_cons.1 ht with rfl|ht
   ·exact h.1
   ·exact Mk (l:=u::l) h.2 t' ht
theorem Uz{o:Oper}{x:Operand}(h:TV o=some x):o.op= .next x false∧o.guard=none:=by
 unfold TV at h
 split at h
 ·rename_i y hop hg
  cases h;exact⟨hop,hg⟩
 ·cases h
theorem Lv{ro:Option Nat}(hm:P.follows .mixedOrders=true)(hΓ: ∀f s,Γ f=some s→mE C P f s)(hC:C.Ok){id:Nat}{ops:Array Oper}{draw:Bool}{N:Nat}{S:St}{Q:St→Prop}
  (hrest: ∀{B:eB} {a:Act} {w:World},(Cu P Γ N ops.toList draw S).sat Q→Holds C B S a w→ ∀{R:Exit→Act→World→Prop},(∀S' a' w' B',Q S'→Holds C B' S' a' w'→R .normal a' w')→(Code.region id ops draw).wpIn (Fence.Qi ro) 0 P R a w)
  (h:(NY P Γ N ops.toList draw S).sat Q) {B:eB} {a:Act} {w:World} (H:Holds C B S a w) {R:Exit→Act→World→Prop}
  (hR: ∀S' a' w' B',Q S'→Holds C B' S' a' w'→R .normal a' w'):(Code.region id ops draw).wpIn (Fence.Qi ro) 0 P R a w:=by
 unfold NY at h
 split at h
 ·rename_i o rest hops
  split at h
  ·rename_i x hnx
   obtain⟨hop,hg⟩:=Uz hnx;cases hd:(draw || rA ops.toList 0)with
   | true=>rw[hd]at h;exact h.elim
   | false=>
     rw[hd]at h;simp only[cond_false]at h;simp only[Bool.or_eq_false_iff]at hd;obtain⟨rfl,_⟩:=hd
     split at h
     ·rename_i rs hrs
      have Ov:Holds C B (blanks S ops.toList.length) a w:={H with fresh:=λs hs=>H.fresh s (by simp only[blanks]at hs;omega),uF:=by have:=H.uF;simp only[blanks];omega}
      have hlen:ops.toList.length=rest.length+1:=by rw[hops];rfl
      have hsz:ops.size=rest.length+1:=by rw[←hlen];simp
      refine wpIn_region ?_;have hl:List.range ops.size=0::List.range' 1 rest.length:=by
       rw[hsz,List.range_eq_range',List.range'_succ]
      rw[hl,wpOpsIn_cons];have ho:ops[0]? =some o:=by
       have:ops.toList[0]? =some o:=by rw[hops];rfl
       simpa using this
      have av0:Between C (blanks S ops.toList.length) (S.nx+0):=by
       have:=H.uF;unfold Between;simp only[blanks];omega
      have hf0:B (S.nx+0)=none:=H.fresh _ (by omega);unfold wpOpIn;rw[ho];simp only[];have hw:Region.wanted o (yielded ops a.tmps)=true:=by
       unfold Region.wanted;rw[hg]
      rw[hw];simp only[if_true];refine Oper.FY ro 0 (λc hc=>by rw[hop]at hc;cases hc) (Z6 (slot:=S.nx+0) Ov hop hrs λr hr=> ?_);intro a' w' B' H' hB;have hs:=Mk h _ (List.mem_map.2 ⟨r,hr,rfl⟩);have h1:=Tr.gP hs;obtain⟨S',ds,Ye,hq⟩:=mW (P:=P) (Γ:=Γ) (all:=ops.toList) (base:=S.nx) rest 1 _ [] (λj=>by rw[hops,Nat.add_comm 1 j];rfl) h1;have hq:Q S':=hq;have:=BD hΓ hC (S':=S') (Q:=R) (List.range' 1 rest.length) _ ds B' a' w' Ye H' (λi hi=>by
       simp only[List.mem_range'_1]at hi;rw[hB _ (by omega)];exact H.fresh _ (by omega)) List.nodup_range' (λi hi=>by
       simp only[List.mem_range'_1]at hi;have:=H.uF;unfold Between;simp only[St.apply,blanks];omega) (λa2 w2 B2 H2=>hR S' a2 w2 B2 hq H2) ro
      simpa using this
     ·exact h.elim
  ·exact hrest h H hR
 ·exact hrest h H hR
def pG(P:Program)(k:Nat)(id:Nat)(body:Code)(g:St→Tr (Ex×St)):Prop:=
 ∀(ro:Option Nat) (C:Ctx),C.Ok→C.k=k→ ∀(Q:Ex×St→Prop) (S:St) (B:eB) (a:Act) (w:World),(g S).sat Q→Holds C B S a w→(Code.block id body).wpIn (Fence.Qi ro) 0 P (Bb C Q) a w
def bF(P:Program)(k:Nat)(L:Nat→Option (St→Tr (Ex×St))):Code→Prop
 | .seq a b=>bF P k L a∧bF P k L b
 | .cond _ a b=>bF P k L a∧bF P k L b
 | .block id body=>
   match L id with
   | some g=>pG P k id body g
   | none=>bF P k L body
 | .loop body=>bF P k L body
 | .scope body=>bF P k L body
 | _=>True
theorem ak(k:Nat): ∀(c:Code),bF P k (λ_=>none) c
 | .seq a b=>⟨ak k a,ak k b⟩
 | .cond _ a b=>⟨ak k a,ak k b⟩
 | .block id body=>ak k body
 | .loop body=>ak k body
 | .scope body=>ak k body
 | .skip=>trivial
 | .region .. =>trivial
 | .rangeFunc .. =>trivial
 | .exit _=>trivial
 | .label _=>trivial
 | .goto _=>trivial
 | .ret=>trivial
 | .refuse _=>trivial
theorem CO{ro:Option Nat}{f:St→Tr (Ex×St)}{c:Code}(hf: ∀(Q:Ex×St→Prop)(S:St)(B:eB)(a:Act)(w:World),(f S).sat Q→Holds C B S a w→c.wpIn (Fence.Qi ro) 0 P (Bb C Q) a w):
  ∀(n:Nat) (Q:Ex×St→Prop) (S:St) (B:eB) (a:Act) (w:World),(Ya f n S).sat Q→Holds C B S a w→Code.roundsIn (Fence.Qi ro) 0 P c (Bb C Q) n a w
 | 0,Q,S,B,a,w,h,H=>h.elim
 | n+1,Q,S,B,a,w,h,H=>by
   unfold Ya at h;refine pF ?_ (hf _ S B a w (Tr.gP h) H);rintro e a' w' ⟨ex,S',B',rfl,H',hq⟩;cases ex with
   | normal=>exact CO hf n Q S' B' a' w' hq H'
   | exit id=>exact⟨.exit id,S',B',rfl,H',hq⟩
   | ret=>exact⟨.ret,S',B',rfl,H',hq⟩
theorem gG{ro:Option Nat}(hm:P.follows .mixedOrders=true)(hΓ: ∀f s,Γ f=some s→mE C P f s)(hC:C.Ok){N:Nat}: ∀(c:Code),bF P C.k L c→ ∀(Q:Ex×St→Prop) (S:St) (B:eB) (a:Act) (w:World),(exec P Γ L N c S).sat Q→
  Holds C B S a w→c.wpIn (Fence.Qi ro) 0 P (Bb C Q) a w
 | .skip,_,Q,S,B,a,w,h,H=>wpIn_skip ⟨.normal,S,B,rfl,H,h⟩
 | .region id ops draw,_,Q,S,B,a,w,h,H=>by
   unfold exec at h;refine Lv hm hΓ hC (λhs H R hR=> ?_) (Tr.gP h) H ?_
   ·refine EC hm hΓ hC (QS hs) H ?_
    rintro S' a' w' B' ⟨tm,hl,ht,hq⟩ H';exact hR _ a' w' B' hq (H'.less hl ht)
   ·intro S' a' w' B' hq H'
    exact⟨.normal,S',B',rfl,H',hq⟩
 | .seq x y,hl,Q,S,B,a,w,h,H=>by
   unfold exec at h;refine wpIn_seq (pF ?_ (gG hm hΓ hC x hl.1 _ S B a w (Tr.gP h) H));rintro e a' w' ⟨ex,S',B',rfl,H',hq⟩;cases ex with
   | normal=>exact gG hm hΓ hC y hl.2 Q S' B' a' w' hq H'
   | exit id=>exact⟨.exit id,S',B',rfl,H',hq⟩
   | ret=>exact⟨.ret,S',B',rfl,H',hq⟩
 | .cond c x y,hl,Q,S,B,a,w,h,H=>by
   unfold exec at h
   split at h
   ·rename_i t ht
    have hr:=bP H c;rw[ht]at hr;have hv:=hr.plain;cases t with
    | true=>exact wpIn_cond_true hv (gG hm hΓ hC x hl.1 Q S B a w (h.1 rfl) H)
    | false=>exact wpIn_cond_false hv (gG hm hΓ hC y hl.2 Q S B a w (h.2 rfl) H)
   ·exact h.elim
 | .block id body,hl,Q,S,B,a,w,h,H=>by
   unfold exec at h;unfold bF at hl;cases hg:L id with
   | some g=>
     rw[hg]at h hl;exact hl ro C hC rfl Q S B a w h H
   | none=>
     rw[hg]at h hl;simp only at h hl;refine wpIn_block (pF ?_ (gG hm hΓ hC body hl _ S B a w (Tr.gP h) H));rintro e a' w' ⟨ex,S',B',rfl,H',hq⟩;cases ex with
     | normal=>exact⟨.normal,S',B',rfl,H',hq⟩
     | ret=>exact⟨.ret,S',B',rfl,H',hq⟩
     | exit j=>
       simp only[Ex.adh,Exit.inBlock];by_cases hj:j=id
       ·subst hj
        simp only[Nat.beq_refl,cond_true]at hq;rw[if_pos rfl];exact⟨.normal,S',B',rfl,H',hq⟩
       ·have hb:Nat.beq j id=false:=by
         cases hb:Nat.beq j id
         ·rfl
         ·exact absurd (Nat.eq_of_beq_eq_true hb) hj
        simp only[hb,cond_false]at hq;rw[if_neg hj];exact⟨.exit j,S',B',rfl,H',hq⟩
 | .loop body,hl,Q,S,B,a,w,h,H=>by
   unfold exec at h;exact wpIn_loop_rounds (NW N) (CO (λQ S B a w h H=>gG hm hΓ hC body hl Q S B a w h H) (NW N) Q S B a w h H)
 | .scope body,hl,Q,S,B,a,w,h,H=>by
   unfold exec at h;refine AA (pF ?_ (gG hm hΓ hC body hl Q S B a w h H));rintro e a' w' ⟨ex,S',B',rfl,H',hq⟩;cases ex<;>exact⟨_,S',B',rfl,H',hq⟩
 | .exit id,_,Q,S,B,a,w,h,H=>wpIn_exit ⟨.exit id,S,B,rfl,H,h⟩
 | .ret,_,Q,S,B,a,w,h,H=>wpIn_ret ⟨.ret,S,B,rfl,H,h⟩
 | .rangeFunc ..,_,_,_,_,_,_,h,_=>h.elim
 | .label _,_,_,_,_,_,_,h,_=>h.elim
 | .goto _,_,_,_,_,_,_,h,_=>h.elim
 | .refuse _,_,_,_,_,_,_,h,_=>h.elim
def Ow(tmps:Array Value):ResultVar→Sem Value
 | .tmp t=>pure (tmps.getD t undef)
 | .cell a t=>do loadVar t (←asAddr (tmps.getD a undef))
theorem UA(fn:Func)(tmps:Array Value):results fn tmps=(do
 let vs←fn.results.mapM (Ow tmps)
 pure (if h:vs.size=1 then vs[0]else .tuple vs)):=rfl
theorem Lx{S:St}{B:eB}{a:Act}{w:World}(H:Holds C B S a w){r:ResultVar}{x:AV}(h:oZ P S r=some x):
  ∃v,(Ow a.tmps r).run P w= .ok v w∧aV (aT C.A0 B S.mem) B w x v:=by
 have key: ∀t:Nat,aV (aT C.A0 B S.mem) B w (S.tm.getD t .any) (a.tmps.getD t undef):=λt=>bP H (.tmp t)
 unfold oZ at h;cases r with
 | tmp t=>
   simp only[fK]at h;subst h;exact⟨_,rfl,key t⟩
 | cell c t=>
   simp only at h
   split at h
   ·rename_i e he
    split at h
    ·rename_i hcs
     cases h;obtain⟨_,ad,v,hxe,hrun,hrel⟩:=Md H (key c) he (by rw[hcs];simp);exact⟨v,by simp only[Ow,hxe,asAddr,Sem.run_bind,Sem.run_pure,Result.andThen_ok,hrun],hrel⟩
    ·cases h
   ·cases h
theorem y5{S:St}{B:eB}{a:Act}{w:World}(H:Holds C B S a w): ∀{rs:List ResultVar} {xs:List AV},rs.mapM (oZ P S)=some xs→
  ∃vs:List Value,(rs.mapM (Ow a.tmps)).run P w= .ok vs w∧eF (aT C.A0 B S.mem) B w xs vs
 | [],xs,h=>by simp at h;subst h;exact⟨[],by simp,.nil⟩
 | r::rs,xs,h=>by
   simp only[List.mapM_cons,Option.bind_eq_bind,Option.pure_def]at h;cases h1:oZ P S r with
   | none=>simp[h1]at h
   | some x=>
     cases h2:rs.mapM (oZ P S)with
     | none=>simp[h1,h2]at h
     | some ys=>
       simp[h1,h2]at h;subst h;obtain⟨v,hv,hr⟩:=Lx H h1;obtain⟨vs,hvs,hrs⟩:=y5 H h2;refine⟨v::vs,?_,.cons hr hrs⟩;simp only[List.mapM_cons,Sem.run_bind,hv,Result.andThen_ok,hvs,Sem.run_pure]
theorem pI{fn:Func}{S:St}{B:eB}{a:Act}{w:World}(H:Holds C B S a w){x:AV}(h:o7 P S fn.results.toList=some x):
  ∃v,(results fn a.tmps).run P w= .ok v w∧aV (aT C.A0 B S.mem) B w x v:=by
 have hall: ∃xs,fn.results.toList.mapM (oZ P S)=some xs∧((fn.results.toList.length=1∧xs=[x])∨(fn.results.toList.length≠1∧x= .iC xs)):=by
  unfold o7 at h
  split at h
  ·rename_i r hr
   exact⟨[x],by simp[hr,h],.inl ⟨by simp[hr],rfl⟩⟩
  ·rename_i rs hne
   simp only[Option.map_eq_some_iff]at h;obtain⟨xs,hxs,rfl⟩:=h;refine⟨xs,hxs,.inr ⟨λhl=> ?_,rfl⟩⟩
   match hrs:fn.results.toList,hl with
   | [r],_=>exact hne r hrs
 obtain⟨xs,hxs,hcase⟩:=hall;obtain⟨vs,hvs,qB⟩:=y5 H hxs;have hlen:xs.length=fn.results.toList.length:=by
  have: ∀{rs:List ResultVar} {xs:List AV},rs.mapM (oZ P S)=some xs→xs.length=rs.length:=by
   intro rs
   induction rs with
   | nil=>intro xs h;simp at h;subst h;rfl
   | cons r rs ih=>
     intro xs h;simp only[List.mapM_cons,Option.bind_eq_bind,Option.pure_def]at h;cases h1:oZ P S r with
     | none=>simp[h1]at h
     | some x=>
       cases h2:rs.mapM (oZ P S)with
       | none=>simp[h1,h2]at h
       | some ys=>simp[h1,h2]at h;subst h;simp[ih h2]
  exact this hxs
 have hrun:(results fn a.tmps).run P w= .ok (if h:vs.toArray.size=1 then vs.toArray[0]else .tuple vs.toArray) w:=by
  rw[UA,Array.mapM_eq_mapM_toList];simp only[Sem.run_bind,Sem.run_map,hvs,Result.andThen_ok,Sem.run_pure]
 rcases hcase with⟨h1,rfl⟩|⟨h1,rfl⟩
 ·obtain⟨v,cs',rfl,hr,hnil⟩:=qB.head
  obtain rfl:=hnil.o8;exact⟨v,by rw[hrun];rfl,hr⟩
 ·have hv1:vs.length≠1:=by rw[qB.1,hlen];exact h1
  exact⟨_,by rw[hrun,dif_neg (by simpa using hv1)],aV.vN qB⟩
theorem Bc(hm:P.follows .mixedOrders=true)(hΓ: ∀f s,Γ f=some s→aR P f s){f:FuncId}{fn:Func}{c:Code}(hf:P.funcs[f]? =some fn)(hb:fn.body=some c)(hl:bF P 0 L c){N:Nat}
  {args:List AV} {Q:AV→Prop} (h:(aI P Γ L N fn args).sat λr=>bI.fu r=true∧Q r) {A:Nat→Prop} {w:World} {vs:List Value}
  (hA: ∀b,A b→b<w.heap.size) (hargs:eF A (λ_=>none) w args vs):
  Calls P f vs.toArray w λe w'=> ∃r v,Q r∧bI.fu r=true∧e= .returned v∧aV A (λ_=>none) w' r v∧Below w.heap.size w w':=by
 refine calls_of_wp hf hb ?_;unfold aI at h;rw[hb]at h;simp only at h;have hown: ∀b,aT A (λ_=>none) (start args fn.ntmps).mem b↔A b:=λb=>by
  constructor
  ·intro h
   rcases h with h|⟨s,e,h1,_⟩
   ·exact h
   ·cases h1
  ·exact λh=>Or.inl h
 have QT: ∀{x:AV} {v:Value},aV A (λ_=>none) w x v→aV (aT A (λ_=>none) (start args fn.ntmps).mem) (λ_=>none) w x v:=
  λh=>h.trans (Trans.refl _ _) (λb _ hb=>(hown b).1 hb) (λ_ _ h=>h)
 have hlen:vs.length=args.length:=hargs.1;have H:Holds ⟨A,λ_=>False,w,0,λ_=>none⟩ (λ_=>none) (start args fn.ntmps) {tmps:=vs.toArray++Array.replicate (fn.ntmps-vs.toArray.size) undef,defers:=[]} w:=by
  refine{defers:=rfl,size:=by simp[start,hlen],tm:=?_,mem:=λs e he=>(by cases he),inj:=λ_ _ _ _ _ h=>(by cases h),kept:=Kept.refl _ _,old:=λs β h=>(by cases h),fresh:=λ_ _=>rfl,base:=λ_ _=>rfl,uF:=Nat.zero_le _};intro t ht;by_cases hlt:t<args.length
  ·have:=QT (hargs.2 t hlt)
   have hlt':t<vs.length:=by omega
   simpa[start,dR,oQ,List.getElem?_append_left hlt,Array.getElem?_append,hlt,hlt']using this
  ·have ht':t-args.length<fn.ntmps-args.length:=by simp only[start,List.length_append,List.length_replicate]at ht;omega
   have hlt': ¬t<vs.length:=by omega
   have e1:(start args fn.ntmps).tm.getD t .any= .c (.v undef):=by
    simp[start,dR,List.getElem?_append_right (Nat.le_of_not_lt hlt),List.getElem?_replicate,ht']
   have e2:(vs.toArray++Array.replicate (fn.ntmps-vs.toArray.size) undef).getD t undef=undef:=by
    simp[oQ,Array.getElem?_append,hlt',Array.getElem?_replicate,hlen,ht',hlt]
   show aV _ _ _ _ _
   rw[e1];simp only[]at e2⊢;rw[e2];exact aV.lit _
 refine Code.wp_mono ?_ (qJ<| gG hm (zO hΓ _) (C:=⟨A,λ_=>False,w,0,λ_=>none⟩) ⟨hA,λ_ h=>h.elim,λ_ _ h=>h⟩ c hl _ _ _ _ _ (Tr.gP h) H);rintro e a' w' ⟨ex,S',B',rfl,H',hq⟩
 have key:(match o7 P S' fn.results.toList with|some v=>Tr.needs (iJ S'.mem v).2 (.ret (iJ S'.mem v).1)|none=>Tr.fail "results").sat (λr=>bI.fu r=true∧Q r)→
   a'.defers=[]∧ ∃v,(results fn a'.tmps).run P w'= .ok v w'∧ ∃r v',Q r∧bI.fu r=true∧Ending.returned v= .returned v'∧aV A (λ_=>none) w' r v'∧Below w.heap.size w w':=by
  intro hs;cases hr:o7 P S' fn.results.toList with
  | none=>rw[hr]at hs;exact hs.elim
  | some x=>
    rw[hr]at hs;obtain⟨hcs,hn,hQ⟩:=Tr.mV hs;obtain⟨v,hrun,hrel⟩:=pI H' hr;have adi:=sS H' (A:=A) (λb hb=> .inl hb) x v hrel (λb hb=>by
     rintro⟨s,_,e,_,h2⟩;rcases(H'.old s b h2).1 with h3|h3
     ·exact absurd (hA b hb) (Nat.not_lt.2 h3)
     ·exact h3) hcs
    exact⟨H'.defers,v,hrun,_,v,hQ,hn,rfl,adi.fu hn _,H'.kept.below⟩
 cases ex with
 | normal=>exact key hq
 | ret=>exact key hq
 | exit id=>exact hq.elim
end
end Go.bI
namespace Go.bI
open Go.RowKit
mutual
def aic(f:Nat→Nat):AV→AV
 | .ptr b off=> .ptr (f b) off
 | .kI b k j sz=> .kI (f b) k j sz
 | .iP b n sz=> .iP (f b) n sz
 | .IL b k n sz=> .IL (f b) k n sz
 | .omap b=> .omap (f b)
 | .agg l=> .agg (CP f l)
 | .iC l=> .iC (CP f l)
 | .fn g l=> .fn g (CP f l)
 | x=>x
def CP(f:Nat→Nat):List AV→List AV
 | []=> []
 | x::l=>aic f x::CP f l
end
def uJ(f:Nat→Nat):jk→jk
 | .cells l t=> .cells (CP f l) t
 | .arr n sz el t=> .arr n sz el t
 | .vJ es=> .vJ es
 | .Lf es seen=> .Lf es seen
mutual
def pJ:AV→List Nat
 | .ptr b _=> [b]
 | .kI b _ _ _=> [b]
 | .iP b _ _=> [b]
 | .IL b _ _ _=> [b]
 | .omap b=> [b]
 | .agg l=>nP l
 | .iC l=>nP l
 | .fn _ l=>nP l
 | _=> []
def nP:List AV→List Nat
 | []=> []
 | x::l=>pJ x++nP l
end
def Ox:jk→List Nat
 | .cells l _=>nP l
 | .arr _ _ _ _=> []
 | .vJ _=> []
 | .Lf _ _=> []
def pos:List Nat→Nat→Nat
 | [],_=>0
 | x::l,s=>bif Nat.beq x s then 0 else pos l s+1
def wF(ids:List Nat)(s:Nat):Bool:=Nat.blt (pos ids s) ids.length
def nodupB:List Nat→Bool
 | []=>true
 | x::l=> !wF l x&&nodupB l
def y7(acc:List Nat):List Nat→List Nat
 | []=>acc
 | x::l=>y7 (bif wF acc x then acc else acc++[x]) l
def xA(m:Mem)(acc:List Nat):List Nat→List Nat
 | []=>acc
 | s::l=>xA m (match m s with|some e=>y7 acc (Ox e)|none=>acc) l
def reach(m:Mem):Nat→List Nat→List Nat
 | 0,acc=>acc
 | n+1,acc=>reach m n (xA m acc acc)
def sF(m:Mem)(ids:List Nat):Bool:=ids.all λs=>match m s with|some e=>(Ox e).all (wF ids)|none=>true
theorem beq_false{a b:Nat}(h:a≠b):Nat.beq a b=false:=by
 cases hb:Nat.beq a b
 ·rfl
 ·exact absurd (Nat.eq_of_beq_eq_true hb) h
theorem CQ{ids:List Nat}{s:Nat}(h:wF ids s=true):pos ids s<ids.length∧ids.getD (pos ids s) 0=s:=by
 have h':pos ids s<ids.length:=by unfold wF at h;simpa[Nat.blt_eq]using h
 refine⟨h',?_⟩;clear h
 induction ids with
 | nil=>simp at h'
 | cons x l ih=>
   by_cases hx:x=s
   ·subst hx;simp[pos]
   ·have hb:=beq_false hx
    simp only[pos,hb,cond_false,List.length_cons]at h'⊢;simpa using ih (by omega)
theorem CR{ids:List Nat}{s:Nat}:wF ids s=true↔s∈ids:=by
 constructor
 ·intro h
  obtain⟨h1,h2⟩:=CQ h;rw[←h2,dR,List.getElem?_eq_getElem h1];exact List.getElem_mem h1
 ·intro h
  unfold wF;rw[Nat.blt_eq]
  induction ids with
  | nil=>simp at h
  | cons x l ih=>
    by_cases hx:x=s
    ·subst hx;simp[pos]
    ·have hb:=beq_false hx
     simp only[pos,hb,cond_false,List.length_cons];have:=ih (by simpa[Ne.symm hx]using h);omega
theorem CS{ids:List Nat}(h:nodupB ids=true):ids.Nodup:=by
 induction ids with
 | nil=>exact List.nodup_nil
 | cons x l ih=>
   simp only[nodupB,cu,Bool.not_eq_true']at h;refine List.nodup_cons.2 ⟨λhx=> ?_,ih h.2⟩;rw[CR.2 hx]at h;cases h.1
theorem CW{ids:List Nat}(hn:ids.Nodup){i:Nat}(hi:i<ids.length):pos ids (ids.getD i 0)=i:=by
 have hm:wF ids (ids.getD i 0)=true:=CR.2 (by rw[dR,List.getElem?_eq_getElem hi];exact List.getElem_mem hi);obtain⟨h1,h2⟩:=CQ hm;have e1:ids[pos ids (ids.getD i 0)]? =ids[i]? :=by
  rw[dR,List.getElem?_eq_getElem h1]at h2;rw[List.getElem?_eq_getElem h1,List.getElem?_eq_getElem hi];simp only[Option.getD_some]at h2;rw[h2,dR,List.getElem?_eq_getElem hi];rfl
 exact(List.getElem?_inj h1 hn).1 e1
theorem QW(f:Nat→Nat)(l:List AV):(CP f l).length=l.length:=by
 induction l with
 | nil=>rfl
 | cons x l ih=>simp[CP,ih]
section
variable{A A':Nat→Prop}{B B2:eB}{w:World}{f:Nat→Nat}
mutual
theorem QY(hA: ∀b,A' b→A b): ∀(x:AV) (v:Value),aV A B w x v→(∀s∈pJ x, ∀β,B s=some β→B2 (f s)=some β)→aV A' B2 w (aic f x) v
 | .c x,v,h,_=>by
   cases h with
   | c _ _ h=>exact .c _ _ (h.trans (Trans.refl _ _) (λb _ h=>hA b h))
 | .ptr b off,v,h,hB=>by
   obtain⟨β,hβ,rfl⟩:=h.mQ;exact .ptr _ _ β (hB b (by simp[pJ]) β hβ)
 | .kI b k j sz,v,h,hB=>by
   cases h with
   | kI _ _ _ _ β hβ=>exact .kI _ _ _ _ β (hB b (by simp[pJ]) β hβ)
 | .IL b k n sz,v,h,hB=>by
   cases h with
   | IL _ _ _ _ cap β hβ hn h0 hc=>exact .IL _ k n sz cap β (hB b (by simp[pJ]) β hβ) hn h0 hc
 | .iP b n sz,v,h,hB=>by
   cases h with
   | iP _ _ _ cap β hβ h1 h2 h3=>exact .iP _ _ _ cap β (hB b (by simp[pJ]) β hβ) h1 h2 h3
   | uH=>exact .uH _ _
 | .agg l,v,h,hB=>by
   obtain⟨cs,rfl,hr⟩:=h.kZ;exact aV.tH (tN hA l cs hr (by simpa[pJ]using hB))
 | .iC l,v,h,hB=>by
   obtain⟨cs,rfl,hr⟩:=h.Cy;exact aV.vN (tN hA l cs hr (by simpa[pJ]using hB))
 | .fn g l,v,h,hB=>by
   obtain⟨cs,rfl,hr⟩:=h.I8;exact aV.anL (tN hA l cs hr (by simpa[pJ]using hB))
 | .gq l,v,h,_=>by
   cases h with
   | gq _ b off h1 h2 h3=>exact .gq _ b off (λh=>h1 (hA b h)) h2 λj hj=>⟨(h3 j hj).1,(h3 j hj).2.trans (Trans.refl _ _) (λb _ h=>hA b h)⟩
 | .omap b,v,h,hB=>by
   cases h with
   | omap _ β hβ=>exact .omap _ β (hB b (by simp[pJ]) β hβ)
 | .any,v,_,_=> .any v
theorem tN(hA: ∀b,A' b→A b): ∀(l:List AV) (cs:List Value),eF A B w l cs→(∀s∈nP l, ∀β,B s=some β→B2 (f s)=some β)→eF A' B2 w (CP f l) cs
 | [],cs,h,_=>by obtain rfl:=h.o8;exact .nil
 | x::l,cs,h,hB=>by
   obtain⟨v,cs',rfl,h1,h2⟩:=h.head;exact .cons (QY hA x v h1 λs hs=>hB s (by simp[nP,hs])) (tN hA l cs' h2 λs hs=>hB s (by simp[nP,hs]))
end
theorem uS{l:List AV}{cs:Array Value}(hs:cs.size=l.length)(h: ∀j,j<l.length→aV A B w (l.getD j .any) (cs.getD j undef)):eF A B w l cs.toList:=
 ⟨by simpa using hs,λj hj=>by simpa[oQ,dR]using h j hj⟩
theorem kY{l:List AV}{cs:Array Value}(h:eF A B w l cs.toList):cs.size=l.length∧ ∀j,j<l.length→aV A B w (l.getD j .any) (cs.getD j undef):=
 ⟨by simpa using h.1,λj hj=>by simpa[oQ,dR]using h.2 j hj⟩
theorem Jp(hA: ∀b,A' b→A b){e:jk}{o:Option Obj}(h:iK A B w e o)(hB: ∀s∈Ox e, ∀β,B s=some β→B2 (f s)=some β):iK A' B2 w (uJ f e) o:=by
 cases h with
 | cells l t cs hs h=>
   have:=tN (A':=A') (B2:=B2) (f:=f) hA l cs.toList (uS hs h) (by simpa[Ox]using hB);exact .cells _ t cs (kY this).1 (kY this).2
 | arr n sz el t cs hs hl h=>exact .arr n sz el t cs hs hl λk j hk hj=>⟨(h k j hk hj).1,(h k j hk hj).2.trans (Trans.refl _ _) (λb _ h=>hA b h)⟩
 | vJ es entries clock hk hv=>exact .vJ es entries clock hk λi hi=>(hv i hi).trans (Trans.refl _ _) (λb _ h=>hA b h)
 | Lf es seen b h hs=>exact .Lf es seen b (h.trans (Trans.refl _ _) (λb _ h=>hA b h)) hs
theorem BH{e:jk}(h:e.none0):(uJ f e).none0:=by
 cases e with
 | cells l t=>exact h.elim
 | arr n sz el t=>exact h
 | vJ es=>exact h.elim
 | Lf es seen=>exact h.elim
end
def Yf:List Bool→List AV→List AV
 | b::bs,x::l=>(bif b then x else .any)::Yf bs l
 | [],l=>l
 | _::_,[]=> []
theorem Ml{A:Nat→Prop}{B:eB}{w:World}: ∀(bs:List Bool) (l:List AV) (cs:List Value),eF A B w l cs→eF A B w (Yf bs l) cs
 | [],l,cs,h=>h
 | b::bs,[],cs,h=>h
 | b::bs,x::l,cs,h=>by
   obtain⟨v,cs',rfl,h1,h2⟩:=h.head;refine .cons ?_ (Ml bs l cs' h2);cases b
   ·exact .any v
   ·exact h1
def gQ(l:List (Option jk)):Mem:=λs=>l.getD s none
def mX(ids:List Nat)(S:St):St:=
 {tm:=CP (pos ids) S.tm,mem:=gQ (ids.map λs=>(S.mem s).map (uJ (pos ids))),nx:=ids.length}
def xB:Nat→Nat→List Nat→Bool
 | _,0,_=>true
 | i,k+1,x::l=>Nat.beq x i&&xB (i+1) k l
 | _,_+1,[]=>false
theorem sG: ∀(k i:Nat) (l:List Nat),xB i k l=true→k≤l.length∧ ∀j,j<k→l.getD j 0=i+j
 | 0,i,l,_=>⟨Nat.zero_le _,λj hj=>by omega⟩
 | k+1,i,[],h=>by simp[xB]at h
 | k+1,i,x::l,h=>by
   simp only[xB,cu,Nat.beq_eq]at h;obtain⟨rfl,h⟩:=h;obtain⟨h1,h2⟩:=sG k (x+1) l h;refine⟨by simpa using h1,λj hj=> ?_⟩;cases j with
   | zero=>simp
   | succ j=>
     have:=h2 j (by omega);simp only[List.getD_cons_succ];omega
def xC(k:Nat)(ids:List Nat)(S:St):Bool:=nodupB ids&&sF S.mem ids&&(nP S.tm).all (wF ids)&&xB 0 k ids
def eB.at(B:eB)(ids:List Nat):eB:=λi=>if i<ids.length then B (ids.getD i 0)else none
section
variable{C:Ctx}{B:eB}{S:St}{a:Act}{w:World}
theorem oG{ids:List Nat}{g:Nat→Option jk}{s:Nat}{e:jk}(h:gQ (ids.map g) s=some e):s<ids.length∧g (ids.getD s 0)=some e:=by
 unfold gQ at h;rw[dR,List.getElem?_map]at h;by_cases hs:s<ids.length
 ·rw[List.getElem?_eq_getElem hs]at h
  refine⟨hs,?_⟩;rw[dR,List.getElem?_eq_getElem hs];simpa using h
 ·rw[List.getElem?_eq_none (by omega)]at h
  simp at h
theorem Oy{ids:List Nat}{s β:Nat}(h:wF ids s=true)(hB:B s=some β):B.at ids (pos ids s)=some β:=by
 obtain⟨h1,h2⟩:=CQ h;simp only[eB.at,h1,if_true];rw[h2];exact hB
theorem Holds.canon(H:Holds C B S a w){ids:List Nat}(h:xC C.k ids S=true):Holds C (B.at ids) (mX ids S) a w:=by
 simp only[xC,cu]at h;obtain⟨⟨⟨hn,hcl⟩,htm⟩,hpre⟩:=h;have hnd:=CS hn;obtain⟨hkl,hpre⟩:=sG C.k 0 ids hpre;have hA: ∀b,aT C.A0 (B.at ids) (mX ids S).mem b→aT C.A0 B S.mem b:=by
  rintro b (h|⟨s,e,h1,h2⟩)
  ·exact .inl h
  ·obtain⟨hs,hg⟩:=oG h1
   simp only[Option.map_eq_some_iff]at hg;obtain⟨e',he',_⟩:=hg;simp only[eB.at,hs,if_true]at h2;exact .inr ⟨_,e',he',h2⟩
 have hT:eF (aT C.A0 (B.at ids) (mX ids S).mem) (B.at ids) w (mX ids S).tm a.tmps.toList:=
  tN hA S.tm a.tmps.toList (uS H.size H.tm) λs hs β hβ=>Oy (List.all_eq_true.1 htm s hs) hβ
 refine{defers:=H.defers,size:=(kY hT).1,tm:=(kY hT).2,mem:=?_,inj:=?_,kept:=H.kept,old:=?_,fresh:=?_,base:=?_,uF:=hkl}
 ·intro s e he
  obtain⟨hs,hg⟩:=oG he;simp only[Option.map_eq_some_iff]at hg;obtain⟨e',he',rfl⟩:=hg;have hmem:ids.getD s 0∈ids:=by rw[dR,List.getElem?_eq_getElem hs];exact List.getElem_mem hs
  have hBs:B.at ids s=B (ids.getD s 0):=by simp[eB.at,hs]
  rcases H.mem _ _ he' with⟨β,h1,h2⟩|⟨h1,h2⟩
  ·refine .inl ⟨β,by rw[hBs];exact h1,Jp hA h2 λt ht γ hγ=>Oy ?_ hγ⟩
   have:=List.all_eq_true.1 hcl _ hmem;rw[he']at this;exact List.all_eq_true.1 this t ht
  ·exact .inr ⟨by rw[hBs];exact h1,BH h2⟩
 ·intro s s' e e' β h1 h2 h3 h4
  obtain⟨hs,hg⟩:=oG h1;obtain⟨hs',hg'⟩:=oG h2;simp only[Option.map_eq_some_iff]at hg hg';obtain⟨e1,he1,_⟩:=hg;obtain⟨e2,he2,_⟩:=hg';simp only[eB.at,hs,hs',if_true]at h3 h4;have:=H.inj _ _ _ _ β he1 he2 h3 h4;rw[←CW hnd hs, ←CW hnd hs',this]
 ·intro s β h
  unfold eB.at at h;by_cases hs:s<ids.length
  ·simp only[hs,if_true]at h;exact H.old _ _ h
  ·simp[hs]at h
 ·intro s hs
  have: ¬s<ids.length:=Nat.not_lt.2 hs;simp[eB.at,this]
 ·intro s hs
  have h1:s<ids.length:=by omega
  have h2:=hpre s hs;simp only[eB.at,h1,if_true];rw[h2,Nat.zero_add];exact H.base s hs
theorem Holds.mask(H:Holds C B S a w)(bs:List Bool):Holds C B {S with tm:=Yf bs S.tm} a w:=by
 have hT:=Ml bs S.tm a.tmps.toList (uS H.size H.tm);exact{H with size:=(kY hT).1,tm:=(kY hT).2}
def bM(v v':AV):Prop:= ∀(A:Nat→Prop) (B:eB) (w:World) (u:Value),aV A B w v u→aV A B w v' u
theorem bM.refl(v:AV):bM v v:=λ_ _ _ _ h=>h
theorem bM.of_eq{v v':AV}(h:v=v'):bM v v':=h ▸ bM.refl v
theorem bM.trans{v v' v2:AV}(h:bM v v')(k:bM v' v2):bM v v2:=λA B w u hu=>k A B w u (h A B w u hu)
theorem bM.sl{n sz:Nat}{el jw:Nat→List IV}(h: ∀k,k<n→el k=jw k):bM (.c (.sl n sz el)) (.c (.sl n sz jw)):=by
 intro A B w u hu;cases hu with
 | c _ _ hi=>
   cases hi with
   | nil=>exact .c _ _ (.nil _ _)
   | zero=>exact .c _ _ (.zero _ _ _)
   | sl _ _ _ b off cap h1 h2 h3 h4 h5 h6=>
     exact .c _ _ (.sl n sz jw b off cap h1 h2 h3 (λk hk=>h k hk ▸ h4 k hk) h5 λk j hk hj=>by rw[←h k hk];exact h6 k j hk hj)
theorem bM.nil(sz:Nat)(el:Nat→List IV):bM (.c (.v (.slice none 0 0))) (.c (.sl 0 sz el)):=by
 intro A B w u hu;rw[hu.plain];exact .c _ _ (.nil _ _)
inductive eY:List AV→List AV→Prop
 | nil:eY [] []
 | cons {x y:AV} {l m:List AV}:bM x y→eY l m→eY (x::l) (y::m)
theorem eY.refl: ∀(l:List AV),eY l l
 | []=> .nil
 | x::l=> .cons (bM.refl x) (eY.refl l)
theorem eY.Oz{l m:List AV}(h:eY l m){A:Nat→Prop}{B:eB}{w:World}: ∀{cs:List Value},eF A B w l cs→eF A B w m cs:=by
 induction h with
 | nil=>exact λh=>h
 | cons h _ ih=>
   intro cs hr;obtain⟨v,cs',rfl,h1,h2⟩:=hr.head;exact .cons (h _ _ _ _ h1) (ih h2)
theorem bM.agg{l m:List AV}(h:eY l m):bM (.agg l) (.agg m):=λA B w u hu=>by
 obtain⟨cs,rfl,hr⟩:=hu.kZ;exact aV.tH (h.Oz hr)
theorem bM.iC{l m:List AV}(h:eY l m):bM (.iC l) (.iC m):=λA B w u hu=>by
 obtain⟨cs,rfl,hr⟩:=hu.Cy;exact aV.vN (h.Oz hr)
theorem eY.len{l m:List AV}(h:eY l m):l.length=m.length:=by
 induction h with
 | nil=>rfl
 | cons _ _ ih=>simp[ih]
theorem eY.getD{l m:List AV}(h:eY l m): ∀i,bM (l.getD i .any) (m.getD i .any):=by
 induction h with
 | nil=>exact λ_=>bM.refl _
 | cons h _ ih=>
   intro i;cases i with
   | zero=>exact h
   | succ i=>exact ih i
inductive qK:Option jk→Option jk→Prop
 | refl (e:Option jk):qK e e
 | arr (n sz:Nat) (el jw:Nat→List IV) (t:TypeId):(∀k,k<n→el k=jw k)→qK (some (.arr n sz el t)) (some (.arr n sz jw t))
 | cells (l m:List AV) (t:TypeId):eY l m→qK (some (.cells l t)) (some (.cells m t))
 | drop (e:Option jk):qK e none
theorem Holds.eqv(H:Holds C B S a w){m:Mem}(h: ∀s,qK (S.mem s) (m s)):Holds C B {S with mem:=m} a w:=by
 have hl: ∀s e,m s=some e→ ∃e',S.mem s=some e':=by
  intro s e he;have:=h s;rw[he]at this;generalize S.mem s=q at this;cases this with
  | refl=>exact⟨_,rfl⟩
  | arr n sz el jw t _=>exact⟨_,rfl⟩
  | cells l m t _=>exact⟨_,rfl⟩
 have hA: ∀b,aT C.A0 B m b→aT C.A0 B S.mem b:=by
  rintro b (h|⟨s,e,h1,h2⟩)
  ·exact .inl h
  ·obtain⟨e',he'⟩:=hl s e h1
   exact .inr ⟨s,e',he',h2⟩
 refine{defers:=H.defers,size:=H.size,tm:=λt ht=>(H.tm t ht).trans (Trans.refl _ _) (λb _ h=>hA b h) (λ_ _ h=>h),mem:=?_,inj:=?_,kept:=H.kept,old:=H.old,fresh:=H.fresh,base:=H.base,uF:=H.uF}
 ·intro s e he
  have he:m s=some e:=he;obtain⟨e',he'⟩:=hl s e he;have hq:=h s;rw[he,he']at hq;rcases H.mem s e' he' with⟨β,h1,h2⟩|⟨h1,h2⟩
  ·refine .inl ⟨β,h1,?_⟩
   have h3:=h2.trans (A':=aT C.A0 B m) (B':=B) (Trans.refl _ _) (λb _ h=>hA b h) (λ_ _ h=>h);cases hq with
   | refl=>exact h3
   | arr n sz el jw t heq=>
     generalize w.heap[β]? =o at h3;cases h3 with
     | arr _ _ _ _ cs hs hl hh=>
       exact .arr n sz jw t cs hs (λk hk=>heq k hk ▸ hl k hk) λk j hk hj=>by rw[←heq k hk];exact hh k j hk hj
   | cells l l' t hll=>
     generalize w.heap[β]? =o at h3;cases h3 with
     | cells _ _ cs hsz hh=>
       exact .cells l' t cs (by rw[←hll.len];exact hsz) λi hi=>hll.getD i _ _ _ _ (hh i (by rw[hll.len];exact hi))
  ·refine .inr ⟨h1,?_⟩
   cases hq with
   | refl=>exact h2
   | arr n sz el jw t heq=>exact h2
   | cells l l' t hll=>exact h2
 ·intro s s' e e' β h1 h2 h3 h4
  obtain⟨e1,h5⟩:=hl s e h1;obtain⟨e2,h6⟩:=hl s' e' h2;exact H.inj s s' e1 e2 β h5 h6 h3 h4
theorem Holds.more(H:Holds C B S a w)(n:Nat):Holds C B (blanks S n) a w:=
 {H with fresh:=λs hs=>H.fresh s (by simp only[blanks]at hs;omega),uF:=by have:=H.uF;simp only[blanks];omega}
theorem Holds.lift(H:Holds C B S a w){t:Nat}(ht:S.tm.getD t .any= .c (.v (.slice none 0 0)))(htl:t<S.tm.length)(sz:Nat)(el:Nat→List IV)(e:TypeId):
  Holds C B {tm:=S.tm.set t (.iP S.nx 0 sz),mem:=S.mem.set S.nx (some (.arr 0 sz el e)),nx:=S.nx+1} a w:=by
 have hs:B S.nx=none:=H.fresh _ (Nat.le_refl _);have H1:Holds C B {S with mem:=S.mem.set S.nx (some (.arr 0 sz el e)),nx:=S.nx+1} a w:=(H.more 1).Oa (slot:=S.nx) hs rfl;have hv:a.tmps.getD t undef= .slice none 0 0:=by
  have:=H.tm t htl;rw[ht]at this;exact this.plain
 refine{H1 with size:=by simpa using H1.size,tm:=λi hi=> ?_};have hi':i<S.tm.length:=by simpa using hi
 by_cases hit:i=t
 ·subst hit
  rw[hv];simp only[dR,List.getElem?_set_self hi',Option.getD_some];exact .uH _ _
 ·have:=H1.tm i hi'
  simpa[dR,List.getElem?_set_ne (Ne.symm hit)]using this
theorem Holds.Jq(H:Holds C B S a w){s j:Nat}{l:List AV}{ty:TypeId}(hm:S.mem s=some (.cells l ty))(hj:l.getD j .any= .c (.v (.slice none 0 0)))(hjl:j<l.length)(sz:Nat)(el:Nat→List IV)(e:TypeId):
  Holds C B {tm:=S.tm,mem:=(S.mem.set s (some (.cells (l.set j (.iP S.nx 0 sz)) ty))).set S.nx (some (.arr 0 sz el e)),nx:=S.nx+1} a w:=by
 have hs:B S.nx=none:=H.fresh _ (Nat.le_refl _);obtain⟨β,hβ,hent⟩: ∃β,B s=some β∧iK (aT C.A0 B S.mem) B w _ w.heap[β]? :=(H.mem s _ hm).resolve_right (λh=>h.2);have hown: ∀b,aT C.A0 B (S.mem.set s (some (.cells (l.set j (.iP S.nx 0 sz)) ty))) b→aT C.A0 B S.mem b:=by
  rintro b (h|⟨q,e',h1,h2⟩)
  ·exact .inl h
  ·rw[bR]at h1
   by_cases hq:q=s
   ·subst hq;exact .inr ⟨q,_,hm,h2⟩
   ·simp only[hq,if_false]at h1;exact .inr ⟨q,e',h1,h2⟩
 have H1:Holds C B {S with mem:=S.mem.set s (some (.cells (l.set j (.iP S.nx 0 sz)) ty))} a w:=by
  refine{defers:=H.defers,size:=H.size,tm:=λt ht=>(H.tm t ht).trans (Trans.refl _ _) (λb _ h=>hown b h) (λ_ _ h=>h),mem:=?_,inj:=?_,kept:=H.kept,old:=H.old,fresh:=H.fresh,base:=H.base,uF:=H.uF}
  ·intro q e' he'
   simp only[bR]at he';by_cases hq:q=s
   ·subst hq
    simp only[if_true,fK]at he';subst he';refine .inl ⟨β,hβ,?_⟩;generalize w.heap[β]? =o at hent;cases hent with
    | cells _ _ cs hsz h=>
      refine .cells _ _ cs (by simpa using hsz) λi hi=> ?_
      have hi':i<l.length:=by simpa using hi
      by_cases hij:i=j
      ·subst hij
       have h0:=h i hi';rw[hj]at h0;rw[h0.plain];simp only[dR,List.getElem?_set_self hi',Option.getD_some];exact .uH _ _
      ·have h0:=(h i hi').trans (A':=aT C.A0 B (S.mem.set q (some (.cells (l.set j (.iP S.nx 0 sz)) ty)))) (B':=B) (Trans.refl _ _) (λb _ h=>hown b h) (λ_ _ h=>h)
       simpa[dR,List.getElem?_set_ne (Ne.symm hij)]using h0
   ·simp only[hq,if_false]at he'
    rcases H.mem q e' he' with⟨γ,h1,h2⟩|h
    ·exact .inl ⟨γ,h1,h2.trans (Trans.refl _ _) (λb _ h=>hown b h) (λ_ _ h=>h)⟩
    ·exact .inr h
  ·intro q q' e1 e2 γ m1 m2 h1 h2
   have live: ∀q e,(S.mem.set s (some (.cells (l.set j (.iP S.nx 0 sz)) ty))) q=some e→ ∃e',S.mem q=some e':=by
    intro q e he;rw[bR]at he;by_cases hq:q=s
    ·subst hq;exact⟨_,hm⟩
    ·simp only[hq,if_false]at he;exact⟨e,he⟩
   obtain⟨e3,m3⟩:=live q e1 m1;obtain⟨e4,m4⟩:=live q' e2 m2;exact H.inj q q' e3 e4 γ m3 m4 h1 h2
 exact(H1.more 1).Oa (slot:=S.nx) hs rfl
end
end Go.bI
namespace Go.bI
open Go.RowKit
def Weak(k:Nat)(S S2:St):Prop:= ∀(C:Ctx) (B:eB) (a:Act) (w:World),C.k=k→Holds C B S a w→ ∃B2,Holds C B2 S2 a w
theorem Weak.refl(k:Nat)(S:St):Weak k S S:=λC B a w _ H=>⟨B,H⟩
theorem Weak.trans{k:Nat}{S S2 S3:St}(h:Weak k S S2)(h':Weak k S2 S3):Weak k S S3:=λC B a w hk H=>by
 obtain⟨B2,H2⟩:=h C B a w hk H;exact h' C B2 a w hk H2
theorem Weak.canon{k:Nat}{S:St}(ids:List Nat)(h:xC k ids S=true):Weak k S (mX ids S):=λC B a w hk H=>⟨_,H.canon (by rw[hk];exact h)⟩
theorem Weak.mask{k:Nat}{S:St}(bs:List Bool):Weak k S {S with tm:=Yf bs S.tm}:=λC B a w hk H=>⟨B,H.mask bs⟩
theorem Weak.eqv{k:Nat}{S S2:St}(ht:S.tm=S2.tm)(hn:S.nx=S2.nx)(h: ∀s,qK (S.mem s) (S2.mem s)):Weak k S S2:=λC B a w hk H=>by
 obtain⟨tm,mem,nx⟩:=S2;subst ht;subst hn;exact⟨B,H.eqv h⟩
theorem Weak.lift{k:Nat}{S:St}(t:Nat)(ht:S.tm.getD t .any= .c (.v (.slice none 0 0)))(htl:t<S.tm.length)(sz:Nat)(el:Nat→List IV)(e:TypeId):
 Weak k S {tm:=S.tm.set t (.iP S.nx 0 sz),mem:=S.mem.set S.nx (some (.arr 0 sz el e)),nx:=S.nx+1}:=λC B a w hk H=>⟨B,H.lift ht htl sz el e⟩
theorem Weak.Jq{k:Nat}{S:St}(s j:Nat){l:List AV}{ty:TypeId}(hm:S.mem s=some (.cells l ty))(hj:l.getD j .any= .c (.v (.slice none 0 0)))(hjl:j<l.length)(sz:Nat)(el:Nat→List IV)(e:TypeId):
 Weak k S {tm:=S.tm,mem:=(S.mem.set s (some (.cells (l.set j (.iP S.nx 0 sz)) ty))).set S.nx (some (.arr 0 sz el e)),nx:=S.nx+1}:=λC B a w hk H=>⟨B,H.Jq hm hj hjl sz el e⟩
structure Norm where
 nt:Nat
 live:List Nat
 lifts:List (Nat×Nat×TypeId):=[]
 cells:List (Nat×Nat×Nat×TypeId):=[]
 fuel:Nat:=3
def pK:List AV→List Nat→List AV→List AV
 | tm,t::l,v::vs=>pK (tm.set t v) l vs
 | tm,_,_=>tm
def BI(n:Nat)(live:List Nat)(vals:List AV):List AV:=pK (List.replicate n .any) live vals
def pO(tm:List AV)(live:List Nat):List AV:=live.map λt=>tm.getD t .any
theorem Gi(f:Nat→AV): ∀(live:List Nat) (tm:List AV),(∀t,tm.getD t .any= .any∨tm.getD t .any=f t)→(pK tm live (live.map f)).length=tm.length∧ ∀t,(pK tm live (live.map f)).getD t .any= .any∨(pK tm live (live.map f)).getD t .any=f t
 | [],tm,h=>⟨rfl,h⟩
 | t::live,tm,h=>by
   simp only[List.map_cons,pK];obtain⟨h1,h2⟩:=Gi f live (tm.set t (f t)) (λi=>by
    by_cases hit:t=i
    ·subst hit
     by_cases hl:t<tm.length
     ·right;simp[dR,List.getElem?_set_self hl]
     ·left;simp[dR,List.getElem?_eq_none (show(tm.set t (f t)).length≤t by simp;omega)]
    ·have:=h i
     simpa[dR,List.getElem?_set_ne hit]using this)
   exact⟨by simpa using h1,h2⟩
theorem Mq(n:Nat)(live:List Nat)(tm:List AV):(BI n live (pO tm live)).length=n∧ ∀t,(BI n live (pO tm live)).getD t .any= .any∨(BI n live (pO tm live)).getD t .any=tm.getD t .any:=by
 have:=Gi (λt=>tm.getD t .any) live (List.replicate n .any) (λt=> .inl (by
  rw[dR,List.getElem?_replicate]
  split<;>rfl))
 exact⟨by simpa[BI,pO]using this.1,this.2⟩
theorem Weak.sub{k:Nat}{S:St}{tm:List AV}(hl:tm.length=S.tm.length)(h: ∀t,tm.getD t .any= .any∨tm.getD t .any=S.tm.getD t .any):Weak k S {S with tm:=tm}:=λC B a w hk H=>by
 refine⟨B,{H with size:=by rw[H.size];exact hl.symm,tm:=λt ht=> ?_}⟩;rcases h t with h|h
 ·show aV _ _ _ (tm.getD t .any) _
  rw[h];exact .any _
 ·show aV _ _ _ (tm.getD t .any) _
  rw[h];exact H.tm t (by rw[←hl];exact ht)
theorem Weak.live{k:Nat}{S:St}(live:List Nat):Weak k S {S with tm:=BI S.tm.length live (pO S.tm live)}:=
 Weak.sub (Mq _ _ _).1 (Mq _ _ _).2
def UC(S:St)(p:Nat×Nat×TypeId):St:=
 match S.tm.getD p.1 .any with
 | .c (.v (.slice none 0 0))=>bif Nat.blt p.1 S.tm.length then{tm:=S.tm.set p.1 (.iP S.nx 0 p.2.1),mem:=S.mem.set S.nx (some (.arr 0 p.2.1 (λ_=> []) p.2.2)),nx:=S.nx+1}else S
 | _=>S
def UD(k:Nat)(S:St)(p:Nat×Nat×Nat×TypeId):St:=
 match S.mem p.1 with
 | some (.cells l ty)=>
   match l.getD p.2.1 .any with
   | .c (.v (.slice none 0 0))=>bif Nat.blt p.2.1 l.length then{tm:=S.tm,mem:=(S.mem.set p.1 (some (.cells (l.set p.2.1 (.iP S.nx 0 p.2.2.1)) ty))).set S.nx (some (.arr 0 p.2.2.1 (λ_=> []) p.2.2.2)),nx:=S.nx+1}else S
   | .iP b n sz=>
     match S.mem b with
     | some e=>bif Nat.blt b k&& !Nat.beq p.1 b&&Nat.blt p.1 k then{tm:=S.tm,mem:=((S.mem.set b none).set S.nx (some e)).set p.1 (some (.cells (l.set p.2.1 (.iP S.nx n sz)) ty)),nx:=S.nx+1}else S
     | none=>S
   | _=>S
 | _=>S
theorem Holds.setCell{C:Ctx}{B:eB}{S:St}{a:Act}{w:World}(H:Holds C B S a w){s j:Nat}{l:List AV}{ty:TypeId}{x:AV}(hm:S.mem s=some (.cells l ty))
  (hx: ∀v,aV (aT C.A0 B S.mem) B w (l.getD j .any) v→aV (aT C.A0 B S.mem) B w x v):Holds C B {S with mem:=S.mem.set s (some (.cells (l.set j x) ty))} a w:=by
 obtain⟨β,hβ,hent⟩: ∃β,B s=some β∧iK (aT C.A0 B S.mem) B w _ w.heap[β]? :=(H.mem s _ hm).resolve_right (λh=>h.2);have live: ∀q e,(S.mem.set s (some (.cells (l.set j x) ty))) q=some e→ ∃e',S.mem q=some e':=by
  intro q e he;rw[bR]at he;by_cases hq:q=s
  ·subst hq;exact⟨_,hm⟩
  ·simp only[hq,if_false]at he;exact⟨e,he⟩
 have hown: ∀b,aT C.A0 B (S.mem.set s (some (.cells (l.set j x) ty))) b→aT C.A0 B S.mem b:=by
  rintro b (h|⟨q,e',h1,h2⟩)
  ·exact .inl h
  ·obtain⟨e,he⟩:=live q e' h1
   exact .inr ⟨q,e,he,h2⟩
 refine{defers:=H.defers,size:=H.size,tm:=λt ht=>(H.tm t ht).trans (Trans.refl _ _) (λb _ h=>hown b h) (λ_ _ h=>h),mem:=?_,inj:=?_,kept:=H.kept,old:=H.old,fresh:=H.fresh,base:=H.base,uF:=H.uF}
 ·intro q e' he'
  simp only[bR]at he';by_cases hq:q=s
  ·subst hq
   simp only[if_true,fK]at he';subst he';refine .inl ⟨β,hβ,?_⟩;generalize w.heap[β]? =o at hent;cases hent with
   | cells _ _ cs hsz h=>
     refine .cells _ _ cs (by simpa using hsz) λi hi=> ?_
     have hi':i<l.length:=by simpa using hi
     by_cases hij:i=j
     ·subst hij
      have h0:=(hx _ (h i hi')).trans (A':=aT C.A0 B (S.mem.set q (some (.cells (l.set i x) ty)))) (B':=B) (Trans.refl _ _) (λb _ h=>hown b h) (λ_ _ h=>h);simpa only[dR,List.getElem?_set_self hi',Option.getD_some]using h0
     ·have h0:=(h i hi').trans (A':=aT C.A0 B (S.mem.set q (some (.cells (l.set j x) ty)))) (B':=B) (Trans.refl _ _) (λb _ h=>hown b h) (λ_ _ h=>h)
      simpa[dR,List.getElem?_set_ne (Ne.symm hij)]using h0
  ·simp only[hq,if_false]at he'
   rcases H.mem q e' he' with⟨γ,h1,h2⟩|h
   ·exact .inl ⟨γ,h1,h2.trans (Trans.refl _ _) (λb _ h=>hown b h) (λ_ _ h=>h)⟩
   ·exact .inr h
 ·intro q q' e1 e2 γ m1 m2 h1 h2
  obtain⟨e3,m3⟩:=live q e1 m1;obtain⟨e4,m4⟩:=live q' e2 m2;exact H.inj q q' e3 e4 γ m3 m4 h1 h2
theorem Weak.adj{k:Nat}{S:St}{s j b n sz:Nat}{l:List AV}{ty:TypeId}{e:jk}(hm:S.mem s=some (.cells l ty))(hj:l.getD j .any= .iP b n sz)(he:S.mem b=some e)(hsb:s≠b)(hsk:s<k):
  Weak k S {tm:=S.tm,mem:=((S.mem.set b none).set S.nx (some e)).set s (some (.cells (l.set j (.iP S.nx n sz)) ty)),nx:=S.nx+1}:=λC B a w hk H=>by
 have hs:B S.nx=none:=H.fresh _ (Nat.le_refl _);have hsn:s≠S.nx:=by have:=H.uF;omega
 have hbt:Between C {S with nx:=S.nx+1} S.nx:=⟨H.uF,Nat.lt_succ_self _⟩
 have hms:((S.mem.set b none).set S.nx (some e)) s=some (.cells l ty):=by
  rw[bR,if_neg hsn,bR,if_neg hsb];exact hm
 rcases H.mem b e he with⟨β,hβ,_⟩|⟨hb,hn⟩
 ·have H1:=(H.more 1).rename (slot:=S.nx) (b:=b) (e:=e) he hβ hs hbt
  refine⟨_,H1.setCell (x:= .iP S.nx n sz) hms λv hv=> ?_⟩;rw[hj]at hv;cases hv with
  | iP _ _ _ cap γ hγ h1 h2 h3=>
    have:ji B S.nx β b=some β:=by
     simp only[ji]
     split
     ·rfl
     ·exact hβ
    rw[this]at hγ;cases hγ;exact .iP _ _ _ cap β (by simp[ji]) h1 h2 h3
  | uH=>exact .uH _ _
 ·have H1:=((H.more 1).drop b).Oa (slot:=S.nx) hs hn
  refine⟨_,H1.setCell (x:= .iP S.nx n sz) hms λv hv=> ?_⟩;rw[hj]at hv;cases hv with
  | iP _ _ _ cap γ hγ h1 h2 h3=>rw[hb]at hγ;cases hγ
  | uH=>exact .uH _ _
theorem QZ(k:Nat)(S:St)(p:Nat×Nat×TypeId):Weak k S (UC S p):=by
 unfold UC
 split
 ·rename_i h
  cases hb:Nat.blt p.1 S.tm.length with
  | true=>exact Weak.lift p.1 h (by simpa[Nat.blt_eq]using hb) _ _ _
  | false=>exact Weak.refl k S
 ·exact Weak.refl k S
theorem Q0(k:Nat)(S:St)(p:Nat×Nat×Nat×TypeId):Weak k S (UD k S p):=by
 unfold UD
 split
 ·rename_i l ty hm
  split
  ·rename_i h
   cases hb:Nat.blt p.2.1 l.length with
   | true=>exact Weak.Jq p.1 p.2.1 hm h (by simpa[Nat.blt_eq]using hb) _ _ _
   | false=>exact Weak.refl k S
  ·rename_i b n sz h
   split
   ·rename_i e he
    cases hb:(Nat.blt b k&& !Nat.beq p.1 b&&Nat.blt p.1 k)with
    | true=>
      simp only[cu,Nat.blt_eq,Bool.not_eq_true']at hb;exact Weak.adj hm h he (λhh=>by have:=hb.1.2;rw[hh,Nat.beq_refl]at this;cases this) hb.2
    | false=>exact Weak.refl k S
   ·exact Weak.refl k S
  ·exact Weak.refl k S
 ·exact Weak.refl k S
def liftAll(S:St):List (Nat×Nat×TypeId)→St
 | []=>S
 | p::l=>liftAll (UC S p) l
def lQ(k:Nat)(S:St):List (Nat×Nat×Nat×TypeId)→St
 | []=>S
 | p::l=>lQ k (UD k S p) l
theorem CX(k:Nat): ∀(l:List (Nat×Nat×TypeId)) (S:St),Weak k S (liftAll S l)
 | [],S=>Weak.refl k S
 | p::l,S=>(QZ k S p).trans (CX k l _)
theorem y8(k:Nat): ∀(l:List (Nat×Nat×Nat×TypeId)) (S:St),Weak k S (lQ k S l)
 | [],S=>Weak.refl k S
 | p::l,S=>(Q0 k S p).trans (y8 k l _)
def Hr(k:Nat)(fuel:Nat)(S:St):List Nat:=reach S.mem fuel (y7 (List.range k) (nP S.tm))
def norm(k:Nat)(n:Norm)(S:St):Option (List AV×List (Option jk)):=
 bif Nat.beq S.tm.length n.nt then
  let S1:=lQ k (liftAll {S with tm:=BI n.nt n.live (pO S.tm n.live)} n.lifts) n.cells
  let ids:=Hr k n.fuel S1
  bif xC k ids S1&&Nat.beq S1.tm.length n.nt then some (pO (CP (pos ids) S1.tm) n.live,ids.map λs=>(S1.mem s).map (uJ (pos ids)))else none
 else none
def iQ(n:Norm)(q:List AV×List (Option jk)):St:={tm:=BI n.nt n.live q.1,mem:=gQ q.2,nx:=q.2.length}
theorem ED{k:Nat}{n:Norm}{S:St}{q:List AV×List (Option jk)}(h:norm k n S=some q):Weak k S (iQ n q):=by
 unfold norm at h;cases hb0:Nat.beq S.tm.length n.nt with
 | false=>rw[hb0]at h;cases h
 | true=>
   rw[hb0]at h;have hnt:S.tm.length=n.nt:=by simpa using hb0
   simp only[cond_true]at h;cases hb:(xC k (Hr k n.fuel (lQ k (liftAll {S with tm:=BI n.nt n.live (pO S.tm n.live)} n.lifts) n.cells)) (lQ k (liftAll {S with tm:=BI n.nt n.live (pO S.tm n.live)} n.lifts) n.cells)&&Nat.beq (lQ k (liftAll {S with tm:=BI n.nt n.live (pO S.tm n.live)} n.lifts) n.cells).tm.length n.nt)with
   | false=>rw[hb]at h;cases h
   | true=>
     rw[hb]at h;simp only[cond_true,fK]at h;subst h;simp only[cu,Nat.beq_eq]at hb;have h0:=Weak.live (k:=k) (S:=S) n.live;rw[hnt]at h0;have h1:=(h0.trans (CX k n.lifts _)).trans (y8 k n.cells _);have h2:=h1.trans (Weak.canon _ hb.1);refine h2.trans ?_;have h3:=Weak.live (k:=k) (S:=mX (Hr k n.fuel (lQ k (liftAll {S with tm:=BI n.nt n.live (pO S.tm n.live)} n.lifts) n.cells)) (lQ k (liftAll {S with tm:=BI n.nt n.live (pO S.tm n.live)} n.lifts) n.cells)) n.live;have hlen:(mX (Hr k n.fuel (lQ k (liftAll {S with tm:=BI n.nt n.live (pO S.tm n.live)} n.lifts) n.cells)) (lQ k (liftAll {S with tm:=BI n.nt n.live (pO S.tm n.live)} n.lifts) n.cells)).tm.length=n.nt:=by
      unfold mX;rw[QW];exact hb.2
     rw[hlen]at h3;unfold iQ;simpa[mX]using h3
inductive dz:List (Option jk)→List (Option jk)→Prop
 | nil:dz [] []
 | cons {e e':Option jk} {l l':List (Option jk)}:qK e e'→dz l l'→dz (e::l) (e'::l')
theorem dz.refl: ∀(l:List (Option jk)),dz l l
 | []=> .nil
 | e::l=> .cons (.refl e) (dz.refl l)
theorem dz.len{l l':List (Option jk)}(h:dz l l'):l.length=l'.length∧ ∀s,qK (l.getD s none) (l'.getD s none):=by
 induction h with
 | nil=>exact⟨rfl,λs=> .refl _⟩
 | cons h _ ih=>
   refine⟨by simp[ih.1],λs=> ?_⟩;cases s with
   | zero=>simpa using h
   | succ s=>simpa using ih.2 s
theorem dz.weak{k:Nat}{n:Norm}{vs:List AV}{l l':List (Option jk)}(h:dz l l'):Weak k (iQ n (vs,l)) (iQ n (vs,l')):=
 Weak.eqv rfl h.len.1 h.len.2
section
variable{P:Program}{Γ:FuncId→Option Spec}{L:Nat→Option (St→Tr (Ex×St))}{N k id:Nat}{body:Code}
def Mr(P:Program)(Γ:FuncId→Option Spec)(L:Nat→Option (St→Tr (Ex×St)))(N k id:Nat)(body:Code)(Q:Ex×St→Prop):Nat→St→Prop
 | 0,_=>False
 | n+1,S=>(exec P Γ L N body S).sat λp=>
   match p.1 with
   | .normal=> ∃S2,Weak k p.2 S2∧Mr P Γ L N k id body Q n S2
   | .exit j=> ∃S2,Weak k p.2 S2∧Q (bif Nat.beq j id then .normal else .exit j,S2)
   | .ret=> ∃S2,Weak k p.2 S2∧Q (.ret,S2)
theorem CY{ro:Option Nat}(hm:P.follows .mixedOrders=true)(hΓ: ∀f s,Γ f=some s→aR P f s){C:Ctx}(hC:C.Ok)(hk:C.k=k)(hl:bF P k L body){Q:Ex×St→Prop}:
  ∀(n:Nat) (S:St) (B:eB) (a:Act) (w:World),Mr P Γ L N k id body Q n S→Holds C B S a w→Code.roundsIn (Fence.Qi ro) 0 P body (Exit.inBlock id (Bb C Q)) n a w
 | 0,S,B,a,w,h,H=>h.elim
 | n+1,S,B,a,w,h,H=>by
   unfold Mr at h;refine pF ?_ (gG hm (zO hΓ _) hC body (by rw[hk];exact hl) _ S B a w h H);rintro e a' w' ⟨ex,S',B',rfl,H',hq⟩;cases ex with
   | normal=>
     obtain⟨S2,hw,hr⟩:=hq;obtain⟨B2,H2⟩:=hw C B' a' w' hk H';exact CY hm hΓ hC hk hl n S2 B2 a' w' hr H2
   | exit j=>
     obtain⟨S2,hw,hr⟩:=hq;obtain⟨B2,H2⟩:=hw C B' a' w' hk H'
     show Exit.inBlock id (Bb C Q) (.exit j) a' w'
     unfold Exit.inBlock;by_cases hj:j=id
     ·subst hj
      simp only[Nat.beq_refl,cond_true]at hr;simp only[if_pos rfl];exact⟨.normal,S2,B2,rfl,H2,hr⟩
     ·rw[beq_false hj]at hr
      simp only[cond_false]at hr;simp only[if_neg hj];exact⟨.exit j,S2,B2,rfl,H2,hr⟩
   | ret=>
     obtain⟨S2,hw,hr⟩:=hq;obtain⟨B2,H2⟩:=hw C B' a' w' hk H';exact⟨.ret,S2,B2,rfl,H2,hr⟩
theorem OA(hm:P.follows .mixedOrders=true)(hΓ: ∀f s,Γ f=some s→aR P f s)(hl:bF P k L body){g:St→Tr (Ex×St)}
  (h: ∀(Q:Ex×St→Prop) (S:St),(g S).sat Q→ ∃n S2,Weak k S S2∧Mr P Γ L N k id body Q n S2):pG P k id (.loop body) g:=by
 intro ro C hC hk Q S B a w hg H;obtain⟨n,S2,hw,hr⟩:=h Q S hg;obtain⟨B2,H2⟩:=hw C B a w hk H;exact wpIn_block (wpIn_loop_rounds n (CY hm hΓ hC hk hl n S2 B2 a w hr H2))
def bU(d:Nat→Bool):Code→List (Nat×Code)
 | .seq a b=>bU d a++bU d b
 | .cond _ a b=>bU d a++bU d b
 | .block id body=>bif d id then [(id,body)]else bU d body
 | .loop body=>bU d body
 | .scope body=>bU d body
 | _=> []
def bn(id:Nat):Code→Code
 | .seq a b=>match bn id a with | .skip=>bn id b|c=>c
 | .cond _ a b=>match bn id a with | .skip=>bn id b|c=>c
 | .block j body=>bif Nat.beq j id then(match body with | .loop b=>b | _=> .skip)else bn id body
 | .loop body=>bn id body
 | .scope body=>bn id body
 | _=> .skip
def codeOf(fn:Func):Code:=fn.body.getD .skip
theorem bG{P:Program}{k:Nat}{L:Nat→Option (St→Tr (Ex×St))}{d:Nat→Bool}(hd: ∀id,d id=(L id).isSome): ∀(c:Code),(∀p∈bU d c, ∀g,L p.1=some g→pG P k p.1 p.2 g)→bF P k L c
 | .seq a b,h=>⟨bG hd a λp hp=>h p (by simp[bU,hp]),bG hd b λp hp=>h p (by simp[bU,hp])⟩
 | .cond _ a b,h=>⟨bG hd a λp hp=>h p (by simp[bU,hp]),bG hd b λp hp=>h p (by simp[bU,hp])⟩
 | .block id body,h=>by
   unfold bF;cases hg:L id with
   | some g=>exact h (id,body) (by simp[bU,hd,hg]) g hg
   | none=>exact bG hd body λp hp=>h p (by simpa[bU,hd,hg]using hp)
 | .loop body,h=>bG hd body h
 | .scope body,h=>bG hd body h
 | .skip,_=>trivial
 | .region ..,_=>trivial
 | .rangeFunc ..,_=>trivial
 | .exit _,_=>trivial
 | .label _,_=>trivial
 | .goto _,_=>trivial
 | .ret,_=>trivial
 | .refuse _,_=>trivial
theorem eY.pK: ∀(live:List Nat) {vs vs' tm tm':List AV},eY vs vs'→tm.length=tm'.length→(∀t,bM (tm.getD t .any) (tm'.getD t .any))→
  (bI.pK tm live vs).length=(bI.pK tm' live vs').length∧ ∀t,bM ((bI.pK tm live vs).getD t .any) ((bI.pK tm' live vs').getD t .any)
 | [],vs,vs',tm,tm',h,hl,ht=>by
   cases h<;>exact⟨hl,ht⟩
 | t0::live,vs,vs',tm,tm',h,hl,ht=>by
   cases h with
   | nil=>exact⟨hl,ht⟩
   | cons h1 h2=>
     rename_i x y l m;unfold bI.pK;refine eY.pK live h2 (by simpa using hl) λt=> ?_
     by_cases hit:t0=t
     ·subst hit
      by_cases hlt:t0<tm.length
      ·have e1:(tm.set t0 x).getD t0 .any=x:=by simp[dR,List.getElem?_set_self hlt]
       have e2:(tm'.set t0 y).getD t0 .any=y:=by simp[dR,List.getElem?_set_self (show t0<tm'.length by omega)]
       rw[e1,e2];exact h1
      ·have e1:(tm.set t0 x).getD t0 .any= .any:=by
        have hge:(tm.set t0 x).length≤t0:=by rw[List.length_set];omega
        simp only[dR,List.getElem?_eq_none hge,Option.getD_none]
       have e2:(tm'.set t0 y).getD t0 .any= .any:=by
        have hge:(tm'.set t0 y).length≤t0:=by rw[List.length_set];omega
        simp only[dR,List.getElem?_eq_none hge,Option.getD_none]
       rw[e1,e2];exact bM.refl _
     ·have e1:(tm.set t0 x).getD t .any=tm.getD t .any:=by simp[dR,List.getElem?_set_ne hit]
      have e2:(tm'.set t0 y).getD t .any=tm'.getD t .any:=by simp[dR,List.getElem?_set_ne hit]
      rw[e1,e2];exact ht t
theorem eY.weak{k:Nat}{n:Norm}{vs vs':List AV}{l:List (Option jk)}(h:eY vs vs'):Weak k (iQ n (vs,l)) (iQ n (vs',l)):=λC B a w hk H=>by
 have hs:=eY.pK n.live h (tm:=List.replicate n.nt .any) (tm':=List.replicate n.nt .any) rfl (λ_=>bM.refl _);refine⟨B,{H with size:=by rw[H.size];exact hs.1,tm:=λt ht=> ?_}⟩;exact hs.2 t _ _ _ _ (H.tm t (by have:=hs.1;unfold iQ BI at ht⊢;simp only at ht⊢;omega))
structure aZ (X R:Type) where
 nIn:Norm
 rD:Norm
 head:X→List AV×List (Option jk)
 take:List AV×List (Option jk)→Option (X×List Bool)
 out:R→Ex×(List AV×List (Option jk))
 jC:Ex×(List AV×List (Option jk))→Option (R×List Bool)
 res:X→R
 pre:X→Bool
 split:R→Tr R:= .ret
namespace aZ
variable{X R:Type}(l:aZ X R)
def g(k:Nat)(S:St):Tr (Ex×St):=
 match norm k l.nIn S with
 | some q=>
   match l.take q with
   | some (x,cs)=>Tr.needs cs (.need (l.pre x) ((l.split (l.res x)).bind λr=> .ret ((l.out r).1,iQ l.rD (l.out r).2)))
   | none=> .fail "head"
 | none=> .fail "norm"
def aie(k:Nat)(e:Ex)(S:St):Tr (X ⊕ R):=
 match norm k l.rD S with
 | some q=>
   match l.jC (e,q)with
   | some (r,cs)=>Tr.needs cs (.ret (.inr r))
   | none=> .fail "out"
 | none=> .fail "normOut"
def fin(k id:Nat)(p:Ex×St):Tr (X ⊕ R):=
 match p.1 with
 | .normal=>
   match norm k l.nIn p.2 with
   | some q=>
     match l.take q with
     | some (x,cs)=>Tr.needs cs (.ret (.inl x))
     | none=> .fail "next"
   | none=> .fail "normNext"
 | .exit j=>l.aie k (bif Nat.beq j id then .normal else .exit j) p.2
 | .ret=>l.aie k .ret p.2
structure Good:Prop where
 take: ∀q x cs,l.take q=some (x,cs)→(∀p∈cs,p)→q.1=(l.head x).1∧dz q.2 (l.head x).2
 jC: ∀e q r cs,l.jC (e,q)=some (r,cs)→(∀p∈cs,p)→e=(l.out r).1∧q.1=(l.out r).2.1∧dz q.2 (l.out r).2.2
 split: ∀r (Q:R→Prop),(l.split r).sat Q→Q r
structure gI:Prop where
 take: ∀q x cs,l.take q=some (x,cs)→(∀p∈cs,p)→eY q.1 (l.head x).1∧dz q.2 (l.head x).2
 jC: ∀e q r cs,l.jC (e,q)=some (r,cs)→(∀p∈cs,p)→e=(l.out r).1∧eY q.1 (l.out r).2.1∧dz q.2 (l.out r).2.2
 split: ∀r (Q:R→Prop),(l.split r).sat Q→Q r
theorem Good.two{l:aZ X R}(h:l.Good):l.gI where
 take:=λq x cs hq hc=>⟨by rw[(h.take q x cs hq hc).1];exact eY.refl _,(h.take q x cs hq hc).2⟩
 jC:=λe q r cs hq hc=>⟨(h.jC e q r cs hq hc).1,by rw[(h.jC e q r cs hq hc).2.1];exact eY.refl _,(h.jC e q r cs hq hc).2.2⟩
 split:=h.split
end aZ
def dJ{X R:Type}(step:X→Tr (X ⊕ R))(Q:R→Prop):Nat→X→Prop
 | 0,_=>False
 | n+1,x=>(step x).sat fun
   | .inl x'=>dJ step Q n x'
   | .inr r=>Q r
theorem aZ.Ms{X R:Type}{l:aZ X R}(hg:l.gI){e:Ex}{S:St}{Q:X ⊕ R→Prop}(h:(l.aie k e S).sat Q):
  ∃r,Q (.inr r)∧e=(l.out r).1∧Weak k S (iQ l.rD (l.out r).2):=by
 unfold aZ.aie at h
 split at h
 ·rename_i q hq
  split at h
  ·rename_i r cs hr
   obtain⟨hc,h⟩:=Tr.mV h;obtain⟨h1,h2,h3⟩:=hg.jC e q r cs hr hc;refine⟨r,h,h1,(ED hq).trans ?_⟩;exact(dz.weak (k:=k) (n:=l.rD) (vs:=q.1) h3).trans (eY.weak h2)
  ·exact h.elim
 ·exact h.elim
theorem aZ.runs{X R:Type}{l:aZ X R}(hg:l.gI){step:X→Tr (X ⊕ R)}(hs: ∀x,(exec P Γ L N body (iQ l.nIn (l.head x))).bind (l.fin k id)=step x){Q:R→Prop}{Q2:Ex×St→Prop}
  (hQ: ∀r,Q r→Q2 ((l.out r).1,iQ l.rD (l.out r).2)): ∀(n:Nat) (x:X),dJ step Q n x→Mr P Γ L N k id body Q2 n (iQ l.nIn (l.head x))
 | 0,x,h=>h.elim
 | n+1,x,h=>by
   unfold dJ at h;rw[←hs x]at h;unfold Mr;refine Tr.bC ?_ (Tr.gP h);rintro⟨e,S⟩ hq;cases e with
   | normal=>
     simp only[aZ.fin]at hq⊢
     split at hq
     ·rename_i q hn
      split at hq
      ·rename_i x' cs ht
       obtain⟨hc,hq⟩:=Tr.mV hq;obtain⟨h1,h2⟩:=hg.take q x' cs ht hc;refine⟨iQ l.nIn (l.head x'),(ED hn).trans ?_,aZ.runs hg hs hQ n x' hq⟩;exact(dz.weak (k:=k) (n:=l.nIn) (vs:=q.1) h2).trans (eY.weak h1)
      ·exact hq.elim
     ·exact hq.elim
   | exit j=>
     simp only[aZ.fin]at hq⊢;obtain⟨r,h1,h2,h3⟩:=aZ.Ms hg hq;exact⟨_,h3,by rw[h2];exact hQ r h1⟩
   | ret=>
     simp only[aZ.fin]at hq⊢;obtain⟨r,h1,h2,h3⟩:=aZ.Ms hg hq;exact⟨_,h3,by rw[h2];exact hQ r h1⟩
theorem aZ.sU{X R:Type}(hm:P.follows .mixedOrders=true)(hΓ: ∀f s,Γ f=some s→aR P f s)(hl:bF P k L body){l:aZ X R}(hg:l.gI){step:X→Tr (X ⊕ R)}
  (hs: ∀x,(exec P Γ L N body (iQ l.nIn (l.head x))).bind (l.fin k id)=step x) (hr: ∀x,l.pre x=true→ ∃n,dJ step (· =l.res x) n x):pG P k id (.loop body) (l.g k):=by
 refine OA (N:=N) hm hΓ hl λQ S h=> ?_
 unfold aZ.g at h
 split at h
 ·rename_i q hq
  split at h
  ·rename_i x cs ht
   obtain⟨hc,hp,h⟩:=Tr.mV h;obtain⟨h1,h2⟩:=hg.take q x cs ht hc;obtain⟨n,hn⟩:=hr x hp;refine⟨n,iQ l.nIn (l.head x),(ED hq).trans ?_,aZ.runs hg hs (λr hr=> ?_) n x hn⟩
   ·exact(dz.weak (k:=k) (n:=l.nIn) (vs:=q.1) h2).trans (eY.weak h1)
   ·subst hr
    exact hg.split _ _ (Tr.gP (h hp))
  ·exact h.elim
 ·exact h.elim
theorem aZ.ok{X R:Type}(hm:P.follows .mixedOrders=true)(hΓ: ∀f s,Γ f=some s→aR P f s)(hl:bF P k L body){l:aZ X R}(hg:l.Good){step:X→Tr (X ⊕ R)}
  (hs: ∀x,(exec P Γ L N body (iQ l.nIn (l.head x))).bind (l.fin k id)=step x) (hr: ∀x,l.pre x=true→ ∃n,dJ step (· =l.res x) n x):pG P k id (.loop body) (l.g k):=
 aZ.sU hm hΓ hl hg.two hs hr
end
end Go.bI
namespace Go.bI
open Go.RowKit
structure je where
 val:AV
 outs:List (Option jk)
 new:Option jk:=none
 conds:List Bool:=[]
abbrev rX:=List (Option jk)→List AV→Option je
def EF:List Nat→List (Option jk)→List (Nat×Option jk)
 | x::ids,e::es=>(x,e)::EF ids es
 | _,_=> []
def vP(ids:List Nat)(slot i:Nat):Nat:=bif Nat.blt i ids.length then ids.getD i 0 else slot
def lu(m:Mem)(args:List AV):List Nat:=reach m 3 (y7 [] (nP args))
def j6(K:rX):Spec:=λslot m args=>
 let ids:=lu m args
 bif nodupB ids&&sF m ids&&(nP args).all (wF ids)&&(ids.all λs=>(m s).isSome)&& !wF ids slot then
  match K (ids.map λs=>(m s).map (uJ (pos ids))) (CP (pos ids) args)with
  | some o=>
    bif Nat.beq o.outs.length ids.length then
     some {val:=aic (vP ids slot) o.val,upd:=EF ids (o.outs.map λe=>e.map (uJ (vP ids slot)))++[(slot,o.new.map (uJ (vP ids slot)))],conds:=o.conds,reads:=ids}
    else none
  | none=>none
 else none
abbrev GQ:Act:={tmps:= #[],defers:=[]}
abbrev nI(m:List (Option jk))(nx:Nat):St:={tm:=[],mem:=gQ m,nx:=nx}
structure uT (P:Program) (f:FuncId) (K:rX):Prop where
 sound: ∀ents args o (C:Ctx) (B:eB) (w:World) (vs:List Value),K ents args=some o→C.Ok→C.k=ents.length→Holds C B (nI ents ents.length) GQ w→
  eF (aT C.A0 B (gQ ents)) B w args vs→(∀p∈o.conds,p)→
  iW P f vs.toArray w λe w'=> ∃v B',e= .returned v∧Holds C B' (nI (o.outs++[o.new]) (ents.length+1)) GQ w'∧aV (aT C.A0 B' (gQ (o.outs++[o.new]))) B' w' o.val v
theorem Jr: ∀(l acc:List Nat) (x:Nat),x∈acc→x∈y7 acc l
 | [],acc,x,h=>h
 | y::l,acc,x,h=>by
   simp only[y7];refine Jr l _ x ?_;cases wF acc y
   ·exact List.mem_append_left _ h
   ·exact h
theorem y9(m:Mem): ∀(l acc:List Nat) (x:Nat),x∈acc→x∈xA m acc l
 | [],acc,x,h=>h
 | s::l,acc,x,h=>by
   simp only[xA];refine y9 m l _ x ?_;cases m s with
   | none=>exact h
   | some e=>exact Jr _ _ x h
theorem Mt(m:Mem): ∀(n:Nat) (acc:List Nat) (x:Nat),x∈acc→x∈reach m n acc
 | 0,acc,x,h=>h
 | n+1,acc,x,h=>Mt m n _ x (y9 m acc acc x h)
theorem Bd{m m':Mem}: ∀(l acc:List Nat),(∀s∈l,m' s=m s)→xA m' acc l=xA m acc l
 | [],acc,h=>rfl
 | s::l,acc,h=>by
   simp only[xA];rw[h s (by simp)];exact Bd l _ λt ht=>h t (by simp[ht])
theorem Gj{m m':Mem}: ∀(n:Nat) (acc:List Nat),(∀s∈reach m n acc,m' s=m s)→reach m' n acc=reach m n acc
 | 0,acc,h=>rfl
 | n+1,acc,h=>by
   simp only[reach]at h⊢;rw[Bd acc acc λs hs=>h s (Mt m n _ s (y9 m acc acc s hs))];exact Gj n _ h
theorem mY{ids:List Nat}{i:Nat}(hi:i<ids.length):ids.getD i 0∈ids:=by
 rw[dR,List.getElem?_eq_getElem hi];exact List.getElem_mem hi
theorem CZ: ∀(ids:List Nat) (es:List (Option jk)) (m:Mem) (j:Nat),ids.Nodup→es.length=ids.length→
  dA m (EF ids es) j=if j∈ids then es.getD (pos ids j) none else m j
 | [],es,m,j,_,_=>by simp[EF,dA]
 | x::ids,[],m,j,_,h=>by simp at h
 | x::ids,e::es,m,j,hn,h=>by
   obtain⟨hx,hn⟩:=List.nodup_cons.1 hn;simp only[EF,dA];rw[CZ ids es _ j hn (by simpa using h)];by_cases hj:j∈ids
   ·have hne:x≠j:=by rintro rfl;exact hx hj
    simp[hj,pos,beq_false hne]
   ·by_cases hxj:j=x
    ·subst hxj
     simp[hj,pos,bR]
    ·simp[hj,hxj,bR]
theorem GR(m:Mem): ∀(l k:List (Nat×Option jk)),dA m (l++k)=dA (dA m l) k:=by
 intro l
 induction l generalizing m with
 | nil=>intro k;rfl
 | cons p l ih=>intro k;obtain⟨s,e⟩:=p;simp only[List.cons_append,dA];exact ih _ k
theorem uU{l:List (Option jk)}{e:Option jk}{i:Nat}(hi:i<l.length):gQ (l++[e]) i=l.getD i none:=by
 simp[gQ,dR,List.getElem?_append_left hi]
theorem tO{l:List (Option jk)}{e:Option jk}:gQ (l++[e]) l.length=e:=by
 simp[gQ,dR]
theorem C8{l:List (Option jk)}{e:Option jk}{i:Nat}(hi:l.length<i):gQ (l++[e]) i=none:=by
 simp[gQ,dR,List.getElem?_eq_none (show(l++[e]).length≤i by simp;omega)]
theorem C9(K:rX):tJ (j6 K):=by
 intro slot m m' args r hr hk;unfold j6 at hr⊢;simp only[]at hr⊢;have hreads:r.reads=lu m args:=by
  cases hb:(nodupB (lu m args)&&sF m (lu m args)&&(nP args).all (wF (lu m args))&&((lu m args).all λs=>(m s).isSome)&& !wF (lu m args) slot)with
  | false=>rw[hb]at hr;cases hr
  | true=>
    rw[hb]at hr;simp only[cond_true]at hr
    split at hr
    ·rename_i o ho
     cases hl:Nat.beq o.outs.length (lu m args).length with
     | false=>rw[hl]at hr;cases hr
     | true=>rw[hl]at hr;simp only[cond_true,fK]at hr;rw[←hr]
    ·cases hr
 rw[hreads]at hk;have Uk:lu m' args=lu m args:=Gj 3 _ hk;have hmap:((lu m args).map λs=>(m' s).map (uJ (pos (lu m args))))=(lu m args).map λs=>(m s).map (uJ (pos (lu m args))):=
  List.map_congr_left λs hs=>by rw[hk s hs]
 have hclosed:sF m' (lu m args)=sF m (lu m args):=by
  unfold sF;rw[Bool.eq_iff_iff,List.all_eq_true,List.all_eq_true];constructor
  ·intro h s hs;have:=h s hs;rw[hk s hs]at this;exact this
  ·intro h s hs;have:=h s hs;rw[hk s hs];exact this
 have hsome:((lu m args).all λs=>(m' s).isSome)=(lu m args).all λs=>(m s).isSome:=by
  rw[Bool.eq_iff_iff,List.all_eq_true,List.all_eq_true];constructor
  ·intro h s hs;have:=h s hs;rw[hk s hs]at this;exact this
  ·intro h s hs;have:=h s hs;rw[hk s hs];exact this
 rw[Uk,hmap,hclosed,hsome];exact hr
theorem Bf{K:rX}{D:Array Value→World→(Ending→World→Prop)→Prop}(hD: ∀{vs:Array Value}{w:World}{R R':Ending→World→Prop},D vs w R→(∀e w',R e w'→R' e w')→D vs w R')
  {C:Ctx} {I:World→Prop} (h: ∀ents args o (C':Ctx) (B:eB) (w:World) (vs:List Value),K ents args=some o→C'.Ok→C'.k=ents.length→C'.w0=w→(∀b,C.A0 b→C'.A0 b)→I w→Holds C' B (nI ents ents.length) GQ w→
   eF (aT C'.A0 B (gQ ents)) B w args vs→(∀p∈o.conds,p)→
   D vs.toArray w λe w'=> ∃v B',e= .returned v∧Holds C' B' (nI (o.outs++[o.new]) (ents.length+1)) GQ w'∧aV (aT C'.A0 B' (gQ (o.outs++[o.new]))) B' w' o.val v)
  (slot:Nat) (args:List AV) (r:Eff) (B:eB) (S:St) (a:Act) (w:World) (vs:List Value) (hr:j6 K slot S.mem args=some r) (hC:C.Ok) (H:Holds C B S a w) (hI:I w) (hs:B slot=none) (hnx:Between C S slot) (hc: ∀p∈r.conds,p)
  (hv:eF (aT C.A0 B S.mem) B w args vs):D vs.toArray w λe w'=> ∃v B',e= .returned v∧Holds C B' {S with mem:=dA S.mem r.upd} a w'∧
   aV (aT C.A0 B' (dA S.mem r.upd)) B' w' r.val v∧ ∀j,j≠slot→B' j=B j:=by
 unfold j6 at hr;simp only[]at hr;generalize Uk:lu S.mem args=ids at hr;cases hb:(nodupB ids&&sF S.mem ids&&(nP args).all (wF ids)&&(ids.all λs=>(S.mem s).isSome)&& !wF ids slot)with
 | false=>rw[hb]at hr;cases hr
 | true=>
 rw[hb]at hr;simp only[cond_true]at hr;simp only[cu,Bool.not_eq_true']at hb;obtain⟨⟨⟨⟨hnd,hcl⟩,UE⟩,hlive⟩,Yg⟩:=hb;have hnd:=CS hnd;have Yg:slot∉ids:=λh=>by rw[CR.2 h]at Yg;cases Yg
 have hlive: ∀s∈ids, ∃e,S.mem s=some e:=λs hs=>Option.isSome_iff_exists.1 (List.all_eq_true.1 hlive s hs)
 split at hr
 case h_2=>cases hr
 rename_i o ho;cases hl:Nat.beq o.outs.length ids.length with
 | false=>rw[hl]at hr;cases hr
 | true=>
 rw[hl]at hr;simp only[cond_true,fK]at hr;subst hr;have hlen:o.outs.length=ids.length:=by simpa using hl
 let ents:List (Option jk):=ids.map λs=>(S.mem s).map (uJ (pos ids))
 have hel:ents.length=ids.length:=by simp[ents]
 let X':Nat→Prop:=viewed B S.mem ids
 let A0':Nat→Prop:=λb=>aT C.A0 B S.mem b∧ ¬X' b
 let C':Ctx:=⟨A0',X',w,ids.length,B.at ids⟩
 have adk: ∀b,X' b→aT C.A0 B S.mem b:=λb ⟨s,_,e,h1,h2⟩=> .inr ⟨s,e,h1,h2⟩
 have hC':C'.Ok:=⟨λb hb=>TW hC H b hb.1,λb hb=>TW hC H b (adk b hb),λb hb hx=>hb.2 hx⟩
 have hA: ∀b,aT A0' (B.at ids) (gQ ents) b→aT C.A0 B S.mem b:=by
  rintro b (h|⟨s,e,h1,h2⟩)
  ·exact h.1
  ·obtain⟨hs,hg⟩:=oG h1
   simp only[Option.map_eq_some_iff]at hg;obtain⟨e',he',_⟩:=hg;simp only[eB.at,hs,if_true]at h2;exact .inr ⟨_,e',he',h2⟩
 have H0:Holds C' (B.at ids) (nI ents ents.length) GQ w:=by
  refine{defers:=rfl,size:=rfl,tm:=λt ht=>absurd ht (Nat.not_lt_zero t),mem:=?_,inj:=?_,kept:=Kept.refl _ _,old:=?_,fresh:=?_,base:=λs _=>rfl,uF:=by simp[nI,hel,C']}
  ·intro s e he
   obtain⟨hs,hg⟩:=oG he;simp only[Option.map_eq_some_iff]at hg;obtain⟨e',he',rfl⟩:=hg;have hBs:B.at ids s=B (ids.getD s 0):=by simp[eB.at,hs]
   rcases H.mem _ _ he' with⟨β,h1,h2⟩|⟨h1,h2⟩
   ·refine .inl ⟨β,by rw[hBs];exact h1,Jp hA h2 λt ht γ hγ=>Oy ?_ hγ⟩
    have:=List.all_eq_true.1 hcl _ (mY hs);rw[he']at this;exact List.all_eq_true.1 this t ht
   ·exact .inr ⟨by rw[hBs];exact h1,BH h2⟩
  ·intro s s' e e' β h1 h2 h3 h4
   obtain⟨hs,hg⟩:=oG h1;obtain⟨hs',hg'⟩:=oG h2;simp only[Option.map_eq_some_iff]at hg hg';obtain⟨e1,he1,_⟩:=hg;obtain⟨e2,he2,_⟩:=hg';simp only[eB.at,hs,hs',if_true]at h3 h4;have:=H.inj _ _ _ _ β he1 he2 h3 h4;rw[←CW hnd hs, ←CW hnd hs',this]
  ·intro s β h
   unfold eB.at at h;by_cases hs:s<ids.length
   ·simp only[hs,if_true]at h
    obtain⟨e,he⟩:=hlive _ (mY hs);exact⟨.inr ⟨_,mY hs,e,he,h⟩,(H.old _ _ h).2⟩
   ·simp[hs]at h
  ·intro s hs
   have: ¬s<ids.length:=by simp only[nI,hel]at hs;omega
   simp[eB.at,this]
 have hargs:eF (aT C'.A0 (B.at ids) (gQ ents)) (B.at ids) w (CP (pos ids) args) vs:=
  tN hA args vs hv λs hs β hβ=>Oy (List.all_eq_true.1 UE s hs) hβ
 have adl: ∀b,X' b→C.w0.heap.size≤b∨C.X b:=λb ⟨s,_,e,_,h2⟩=>(H.old s b h2).1
 have asM: ∀b,C.A0 b→ ¬X' b:=λb hb hx=>by
  rcases adl b hx with h|h
  ·exact absurd (hC.a0 b hb) (Nat.not_lt.2 h)
  ·exact hC.Lh b hb h
 refine hD (h ents _ o C' (B.at ids) w vs ho hC' hel.symm rfl (λb hb=>⟨.inl hb,asM b hb⟩) hI H0 hargs hc) ?_;rintro e w' ⟨v,B',rfl,H',hrel⟩;rw[hel]at H'
 let B2:eB:=λj=>if j=slot then B' ids.length else B j
 let Q5:=o.outs.map λe=>e.map (uJ (vP ids slot))
 let mem2:Mem:=dA S.mem (EF ids Q5++[(slot,o.new.map (uJ (vP ids slot)))])
 have hm2: ∀j,mem2 j=if j=slot then o.new.map (uJ (vP ids slot))else if j∈ids then Q5.getD (pos ids j) none else S.mem j:=by
  intro j
  show dA _ _ j=_
  rw[GR];simp only[dA,bR];by_cases hj:j=slot
  ·simp[hj]
  ·simp only[hj,if_false]
   exact CZ ids Q5 S.mem j hnd (by simp[Q5,hlen])
 have hbase: ∀i,i<ids.length→B' i=B (ids.getD i 0):=λi hi=>by
  have:=H'.base i hi;simpa[C',eB.at,hi]using this
 have hback: ∀i β,B' i=some β→B2 (vP ids slot i)=some β:=by
  intro i β hi;rcases Nat.lt_trichotomy i ids.length with h|h|h
  ·have hne:ids.getD i 0≠slot:=λhe=>Yg (he ▸ mY h)
   have hbt:Nat.blt i ids.length=true:=by rw[Nat.blt_eq];exact h
   simp only[vP,hbt,cond_true,B2,hne,if_false];rw[←hbase i h];exact hi
  ·subst h
   have hbt:Nat.blt ids.length ids.length=false:=by
    cases hb:Nat.blt ids.length ids.length
    ·rfl
    ·rw[Nat.blt_eq]at hb;omega
   simp only[vP,hbt,cond_false,B2,if_true];exact hi
  ·have:=H'.fresh i (by simp only[nI];omega)
   rw[this]at hi;cases hi
 have hBB: ∀s β,B s=some β→B2 s=some β:=by
  intro s β h;have:s≠slot:=by rintro rfl;rw[hs]at h;cases h
  simp only[B2,this,if_false];exact h
 have hidx: ∀j,j∈ids→pos ids j<ids.length∧ids.getD (pos ids j) 0=j:=λj hj=>CQ (CR.2 hj)
 have hcase: ∀j e,mem2 j=some e→(∃i e',(if i=ids.length then j=slot else i<ids.length∧j=ids.getD i 0)∧gQ (o.outs++[o.new]) i=some e'∧e=uJ (vP ids slot) e'∧B2 j=B' i)∨
   (j≠slot∧j∉ids∧S.mem j=some e∧B2 j=B j):=by
  intro j e he;rw[hm2]at he;by_cases hj:j=slot
  ·simp only[hj,if_true,Option.map_eq_some_iff]at he
   obtain⟨e',he',rfl⟩:=he;exact .inl ⟨ids.length,e',by simp[hj],by rw[←hlen,tO];exact he',rfl,by simp[B2,hj]⟩
  ·simp only[hj,if_false]at he
   by_cases hji:j∈ids
   ·obtain⟨h1,h2⟩:=hidx j hji
    simp only[hji,if_true,Q5]at he;rw[dR,List.getElem?_map]at he;have h3:pos ids j<o.outs.length:=by omega
    rw[List.getElem?_eq_getElem h3]at he;simp only[Option.map_some,Option.getD_some,Option.map_eq_some_iff]at he;obtain⟨e',he',rfl⟩:=he;refine .inl ⟨pos ids j,e',?_,?_,rfl,?_⟩
    ·rw[if_neg (by omega)];exact⟨h1,h2.symm⟩
    ·rw[uU h3,dR,List.getElem?_eq_getElem h3];exact he'
    ·simp only[B2,hj,if_false];rw[hbase _ h1,h2]
   ·simp only[hji,if_false]at he
    exact .inr ⟨hj,hji,he,by simp[B2,hj]⟩
 have Yh: ∀j e b,S.mem j=some e→B j=some b→j∉ids→ ¬X' b:=λj e b h1 h2 h3 ⟨s,h4,e',h5,h6⟩=>h3 (H.inj j s e e' b h1 h5 h2 h6 ▸ h4)
 have hown1: ∀b,b<w.heap.size→aT C.A0 B2 mem2 b→aT C.A0 B S.mem b:=by
  rintro b hb (h|⟨j,e,h1,h2⟩)
  ·exact .inl h
  ·rcases hcase j e h1 with⟨i,e',_,_,_,h6⟩|⟨_,_,h5,h6⟩
   ·rw[h6]at h2
    rcases(H'.old i b h2).1 with h|h
    ·exact absurd hb (Nat.not_lt.2 h)
    ·exact adk b h
   ·rw[h6]at h2;exact .inr ⟨j,e,h5,h2⟩
 have hown2: ∀b,aT C.A0 B2 mem2 b→aT C'.A0 B' (gQ (o.outs++[o.new])) b:=by
  rintro b (h|⟨j,e,h1,h2⟩)
  ·exact .inl ⟨.inl h,asM b h⟩
  ·rcases hcase j e h1 with⟨i,e',_,h4,_,h6⟩|⟨_,h4,h5,h6⟩
   ·rw[h6]at h2;exact .inr ⟨i,e',h4,h2⟩
   ·rw[h6]at h2;exact .inl ⟨.inr ⟨j,e,h5,h2⟩,Yh j e b h5 h2 h4⟩
 have hk:Kept X' w w':=H'.kept;have ht:Trans (aT C.A0 B S.mem) w w':=⟨hk.size,λb hb hn=>hk.block b hb λhx=>hn (adk b hx),λb _ D t fz hD=>hk.rows b D t fz hD⟩
 refine⟨v,B2,rfl,?_,QY hown2 o.val v hrel λs _ β hβ=>hback s β hβ,λj hj=>by simp[B2,hj]⟩;refine{defers:=H.defers,size:=H.size,tm:=λt h=>(H.tm t h).trans ht hown1 hBB,mem:=?_,inj:=?_,kept:=?_,old:=?_,fresh:=?_,base:=?_,uF:=H.uF}
 ·intro j e he
  have he:mem2 j=some e:=he
  show(∃β,B2 j=some β∧iK (aT C.A0 B2 mem2) B2 w' e w'.heap[β]?)∨_
  rcases hcase j e he with⟨i,e',_,h4,rfl,h6⟩|⟨h3,h4,h5,h6⟩
  ·rw[h6]
   rcases H'.mem i e' h4 with⟨β,h7,h8⟩|⟨h7,h8⟩
   ·exact .inl ⟨β,h7,Jp hown2 h8 λs _ γ hγ=>hback s γ hγ⟩
   ·exact .inr ⟨h7,BH h8⟩
  ·rw[h6]
   rcases H.mem j e h5 with⟨β,h7,h8⟩|⟨h7,h8⟩
   ·refine .inl ⟨β,h7,?_⟩
    rw[hk.block β (H.old j β h7).2 (Yh j e β h5 h7 h4)];exact h8.trans ht hown1 hBB
   ·exact .inr ⟨h7,h8⟩
 ·intro j j' e e' β m1 m2 h1 h2
  have m1:mem2 j=some e:=m1;have m2:mem2 j'=some e':=m2;rcases hcase j e m1 with⟨i,e1,a1,a2,_,a4⟩|⟨a1,a2,a3,a4⟩<;>rcases hcase j' e' m2 with⟨i',e2,b1,b2,_,b4⟩|⟨b1,b2,b3,b4⟩
  ·rw[a4]at h1
   rw[b4]at h2;obtain rfl:=H'.inj i i' e1 e2 β a2 b2 h1 h2;by_cases hi:i=ids.length
   ·simp only[hi,if_true]at a1 b1;rw[a1,b1]
   ·simp only[hi,if_false]at a1 b1;rw[a1.2,b1.2]
  ·rw[a4]at h1
   rw[b4]at h2
   exfalso
   rcases(H'.old i β h1).1 with h|h
   ·exact absurd (H.old j' β h2).2 (Nat.not_lt.2 h)
   ·exact Yh j' e' β b3 h2 b2 h
  ·rw[a4]at h1
   rw[b4]at h2
   exfalso
   rcases(H'.old i' β h2).1 with h|h
   ·exact absurd (H.old j β h1).2 (Nat.not_lt.2 h)
   ·exact Yh j e β a3 h1 a2 h
  ·rw[a4]at h1
   rw[b4]at h2;exact H.inj j j' e e' β a3 b3 h1 h2
 ·refine H.kept.trans hk λi hi hx=> ?_
  rcases adl i hx with h|h
  ·exact absurd hi (Nat.not_lt.2 h)
  ·exact h
 ·intro s β h
  by_cases hsl:s=slot
  ·simp only[B2,hsl,if_true]at h
   obtain⟨h1,h2⟩:=H'.old _ β h;refine⟨?_,h2⟩;rcases h1 with h1|h1
   ·exact .inl (Nat.le_trans H.kept.size h1)
   ·exact adl β h1
  ·simp only[B2,hsl,if_false]at h
   exact⟨(H.old s β h).1,Nat.lt_of_lt_of_le (H.old s β h).2 hk.size⟩
 ·intro s hsn
  have hne:s≠slot:=by rintro rfl;exact absurd hsn (Nat.not_le.2 hnx.2)
  simp only[B2,hne,if_false];exact H.fresh s hsn
 ·intro s hsk
  have hne:s≠slot:=by rintro rfl;exact absurd hsk (Nat.not_lt.2 hnx.1)
  simp only[B2,hne,if_false];exact H.base s hsk
theorem uT.spec{P:Program}{f:FuncId}{K:rX}(h:uT P f K):aR P f (j6 K) where
 look:=C9 K
 sound:=λslot args r C B S a w vs hr hC H hs hnx hc hv=>
  Bf (D:=λvs w R=>iW P f vs w R) (λh hr=>h.mono hr) (I:=λ_=>True) (λents args o C' B w vs ho hC' hk _ _ _ H hr hc=>h.sound ents args o C' B w vs ho hC' hk H hr hc)
   slot args r B S a w vs hr hC H trivial hs hnx hc hv
end Go.bI
namespace Go.bI
open Go.RowKit
def qL(ents:List (Option jk))(args:List AV)(nt:Nat):St:={tm:=args++List.replicate (nt-args.length) (.c (.v undef)),mem:=gQ ents,nx:=ents.length}
def OB(S:St)(ids:List Nat):St:={S with mem:=dA S.mem (ids.map λb=>(b,none))}
def Gl(k:Nat)(S:St)(v:AV):Option je:=
 let ids:=reach S.mem 3 (y7 (List.range k) (pJ v))
 bif nodupB ids&&sF S.mem ids&&(pJ v).all (wF ids)&&xB 0 k ids&&Nat.ble ids.length (k+1)then
  some {val:=aic (pos ids) v,outs:=(List.range k).map λi=>(S.mem i).map (uJ (pos ids)),new:=(match ids[k]? with|some s=>(S.mem s).map (uJ (pos ids))|none=>none)}
 else none
def Da(P:Program)(fn:Func)(k:Nat)(Bg:Bool)(S:St):Tr je:=
 match o7 P S fn.results.toList with
 | none=> .fail "results"
 | some v=>
   bif Bg then
    match Gl k (OB S (rV v)) (iJ S.mem v).1 with
    | some o=>Tr.needs (iJ S.mem v).2 (.ret o)
    | none=> .fail "pack"
   else
    match Gl k S v with
    | some o=> .ret o
    | none=> .fail "pack"
def wG(P:Program)(Γ:FuncId→Option Spec)(L:Nat→Option (St→Tr (Ex×St)))(N:Nat)(Bg:Bool)(fn:Func)(ents:List (Option jk))(args:List AV):Tr je:=
 match fn.body with
 | none=> .fail "body"
 | some c=>(exec P Γ L N c (qL ents args fn.ntmps)).bind λ(e,S)=>
   match e with
   | .exit _=> .fail "exit"
   | _=>Da P fn ents.length Bg S
section
variable{P:Program}{Γ:FuncId→Option Spec}{L:Nat→Option (St→Tr (Ex×St))}{C:Ctx}{B:eB}{S:St}{a:Act}{w:World}
theorem freeze(hC:C.Ok)(H:Holds C B S a w){x:AV}{v:Value}(h:aV (aT C.A0 B S.mem) B w x v)(hc: ∀p∈(iJ S.mem x).2,p):
  Holds C B (OB S (rV x)) a w∧aV (aT C.A0 B (OB S (rV x)).mem) B w (iJ S.mem x).1 v:=by
 refine⟨Holds.drops _ S H,sS H (λb hb=> ?_) x v h (λb hb=> ?_) hc⟩
 ·rcases hb with hb|⟨t,e,h1,h2⟩
  ·exact .inl hb
  ·obtain⟨_,h4⟩:=qI (rV x) S.mem t e h1
   exact .inr ⟨t,e,h4,h2⟩
 ·rintro⟨t,ht,e,h1,h2⟩
  rcases hb with hb|⟨t',e',h3,h4⟩
  ·rcases(H.old t b h2).1 with h3|h3
   ·exact absurd (hC.a0 b hb) (Nat.not_lt.2 h3)
   ·exact hC.Lh b hb h3
  ·obtain⟨h5,h6⟩:=qI (rV x) S.mem t' e' h3
   exact h5 (H.inj t' t e' e b h6 h1 h4 h2 ▸ ht)
theorem uV{k:Nat}(hk:C.k=k)(H:Holds C B S a w){x:AV}{v:Value}(h:aV (aT C.A0 B S.mem) B w x v){o:je}(hp:Gl k S x=some o):
  ∃B',Holds C B' (nI (o.outs++[o.new]) (k+1)) GQ w∧aV (aT C.A0 B' (gQ (o.outs++[o.new]))) B' w o.val v∧o.outs.length=k:=by
 unfold Gl at hp;simp only[]at hp;generalize Uk:reach S.mem 3 (y7 (List.range k) (pJ x))=ids at hp;cases hb:(nodupB ids&&sF S.mem ids&&(pJ x).all (wF ids)&&xB 0 k ids&&Nat.ble ids.length (k+1))with
 | false=>rw[hb]at hp;cases hp
 | true=>
   rw[hb]at hp;simp only[cond_true,fK]at hp;subst hp;simp only[cu,Nat.ble_eq]at hb;obtain⟨⟨⟨⟨hnd,hcl⟩,UE⟩,hpre⟩,hle⟩:=hb;have hkl:=(sG k 0 ids hpre).1;have hget:=(sG k 0 ids hpre).2;have H1:Holds C B {S with tm:=[x]} {tmps:= #[v],defers:=[]} w:=
    {H with
     defers:=rfl
     size:=rfl
     tm:=λt ht=>by
      have h0:t<1:=ht;obtain rfl:t=0:=by omega
      exact h}
   have hok:xC C.k ids {S with tm:=[x]}=true:=by
    simp only[xC,cu];refine⟨⟨⟨hnd,hcl⟩,?_⟩,by rw[hk];exact hpre⟩
    show(nP [x]).all (wF ids)=true
    simp only[nP,List.append_nil];exact UE
   have H2:=H1.canon hok;have hmem: ∀s,gQ (((List.range k).map λi=>(S.mem i).map (uJ (pos ids)))++[match ids[k]? with|some s=>(S.mem s).map (uJ (pos ids))|none=>none]) s=(mX ids {S with tm:=[x]}).mem s:=by
    intro s
    show _=gQ (ids.map λs=>(S.mem s).map (uJ (pos ids))) s
    have hlen:((List.range k).map λi=>(S.mem i).map (uJ (pos ids))).length=k:=by simp
    rcases Nat.lt_trichotomy s k with hs|hs|hs
    ·rw[uU (by rw[hlen];exact hs)]
     have h1:s<ids.length:=by omega
     have h2:=hget s hs;rw[dR,List.getElem?_eq_getElem h1]at h2;simp only[Option.getD_some,Nat.zero_add]at h2;simp only[gQ,dR,List.getElem?_map,List.getElem?_range hs,List.getElem?_eq_getElem h1,Option.map_some,Option.getD_some,h2]
    ·subst hs
     have:=tO (l:=(List.range s).map λi=>(S.mem i).map (uJ (pos ids))) (e:=match ids[s]? with|some s=>(S.mem s).map (uJ (pos ids))|none=>none);rw[hlen]at this;rw[this];simp only[gQ,dR,List.getElem?_map];cases ids[s]? <;>rfl
    ·rw[C8 (by rw[hlen];exact hs)]
     simp only[gQ,dR,List.getElem?_map,List.getElem?_eq_none (show ids.length≤s by omega)];rfl
   have hmem':=funext hmem;refine⟨B.at ids,?_,?_,by simp⟩
   ·refine{defers:=rfl,size:=rfl,tm:=λt ht=>absurd ht (Nat.not_lt_zero t),mem:=?_,inj:=?_,kept:=H2.kept,old:=H2.old,fresh:=λs hs=>H2.fresh s (by simp only[mX,nI]at hs⊢;omega),base:=H2.base,uF:=by simp only[nI];omega}
    ·simp only[nI,hmem'];exact H2.mem
    ·simp only[nI,hmem'];exact H2.inj
   ·rw[hmem']
    have:=H2.tm 0 (by simp[mX,CP]);simpa[mX,CP]using this
theorem Bh{fn:Func}{k:Nat}{Bg:Bool}(hC:C.Ok)(hk:C.k=k)(H:Holds C B S a w){Q:je→Prop}(h:(Da P fn k Bg S).sat Q):
  ∃v B' o,(results fn a.tmps).run P w= .ok v w∧Q o∧Holds C B' (nI (o.outs++[o.new]) (k+1)) GQ w∧aV (aT C.A0 B' (gQ (o.outs++[o.new]))) B' w o.val v∧o.outs.length=k:=by
 unfold Da at h
 split at h
 ·exact h.elim
 ·rename_i x hx
  obtain⟨v,hrun,hrel⟩:=pI H hx;cases Bg with
  | true=>
    simp only[cond_true]at h
    split at h
    ·rename_i o ho
     obtain⟨hc,h⟩:=Tr.mV h;obtain⟨H2,asN⟩:=freeze hC H hrel hc;obtain⟨B',h1,h2,h3⟩:=uV hk H2 asN ho;exact⟨v,B',o,hrun,h,h1,h2,h3⟩
    ·exact h.elim
  | false=>
    simp only[cond_false]at h
    split at h
    ·rename_i o ho
     obtain⟨B',h1,h2,h3⟩:=uV hk H hrel ho;exact⟨v,B',o,hrun,h,h1,h2,h3⟩
    ·exact h.elim
theorem vS{L:Nat→Nat→Option (St→Tr (Ex×St))}(hm:P.follows .mixedOrders=true)(hΓ: ∀f s,Γ f=some s→aR P f s){f:FuncId}{fn:Func}{c:Code}(hf:P.funcs[f]? =some fn)(hb:fn.body=some c)
  (hcall: ∀args w,(callFunc f args).run P w= .ok (.enter f args) w) {K:rX} {N:Nat} {Bg:Bool}
  (hl: ∀ents args o,K ents args=some o→bF P ents.length (L ents.length) c)
  (h: ∀ents args o,K ents args=some o→(∀p∈o.conds,p)→(wG P Γ (L ents.length) N Bg fn ents args).sat λo'=>bM o'.val o.val∧dz (o'.outs++[o'.new]) (o.outs++[o.new])):uT P f K where
 sound:=by
  intro ents args o C B w vs ho hC hk H hargs hconds;refine iW.enter hf ⟨hcall _ _,calls_of_wp hf hb ?_⟩;have hs:=h ents args o ho hconds;unfold wG at hs;rw[hb]at hs;simp only at hs;have hlen:vs.length=args.length:=hargs.1;have H1:Holds C B (qL ents args fn.ntmps) {tmps:=vs.toArray++Array.replicate (fn.ntmps-vs.toArray.size) undef,defers:=[]} w:=by
   refine{H with defers:=rfl,size:=by simp[qL,hlen],tm:=?_};intro t ht;by_cases hlt:t<args.length
   ·have:=hargs.2 t hlt
    have hlt':t<vs.length:=by omega
    simpa[qL,dR,oQ,List.getElem?_append_left hlt,Array.getElem?_append,hlt,hlt']using this
   ·have ht':t-args.length<fn.ntmps-args.length:=by simp only[qL,List.length_append,List.length_replicate]at ht;omega
    have hlt': ¬t<vs.length:=by omega
    have e1:(qL ents args fn.ntmps).tm.getD t .any= .c (.v undef):=by
     simp[qL,dR,List.getElem?_append_right (Nat.le_of_not_lt hlt),List.getElem?_replicate,ht']
    have e2:(vs.toArray++Array.replicate (fn.ntmps-vs.toArray.size) undef).getD t undef=undef:=by
     simp[oQ,Array.getElem?_append,hlt',Array.getElem?_replicate,hlen,ht',hlt]
    show aV _ _ _ _ _
    rw[e1];simp only[]at e2⊢;rw[e2];exact aV.lit _
  refine Code.wp_mono ?_ (qJ<| gG hm (zO hΓ _) hC c (by rw[hk];exact hl ents args o ho) _ _ _ _ _ (Tr.gP hs) H1);rintro e a' w' ⟨ex,S',B',rfl,H',hq⟩
  have key:(Da P fn ents.length Bg S').sat (λo'=>bM o'.val o.val∧dz (o'.outs++[o'.new]) (o.outs++[o.new]))→
    a'.defers=[]∧ ∃v,(results fn a'.tmps).run P w'= .ok v w'∧ ∃v' B',Ending.returned v= .returned v'∧Holds C B' (nI (o.outs++[o.new]) (ents.length+1)) GQ w'∧aV (aT C.A0 B' (gQ (o.outs++[o.new]))) B' w' o.val v':=by
   intro hfin;obtain⟨v,B2,o',hrun,⟨OC,heqv⟩,H2,hrel,hol⟩:=Bh hC hk H' hfin;refine⟨H'.defers,v,hrun,v,B2,rfl,?_⟩;have hm2: ∀s,qK (gQ (o'.outs++[o'.new]) s) (gQ (o.outs++[o.new]) s):=heqv.len.2;have hA: ∀b,aT C.A0 B2 (gQ (o.outs++[o.new])) b→aT C.A0 B2 (gQ (o'.outs++[o'.new])) b:=by
    rintro b (h|⟨s,e,h1,h2⟩)
    ·exact .inl h
    ·have:=hm2 s
     rw[h1]at this;generalize hq:gQ (o'.outs++[o'.new]) s=q at this;cases this with
     | refl=>exact .inr ⟨s,e,hq,h2⟩
     | arr n sz el jw t _=>exact .inr ⟨s,_,hq,h2⟩
     | cells l m t _=>exact .inr ⟨s,_,hq,h2⟩
   exact⟨H2.eqv hm2,OC _ _ _ _ (hrel.trans (Trans.refl _ _) (λb _ h=>hA b h) (λ_ _ h=>h))⟩
  cases ex with
  | normal=>exact key hq
  | ret=>exact key hq
  | exit id=>exact hq.elim
theorem aM(hm:P.follows .mixedOrders=true)(hΓ: ∀f s,Γ f=some s→aR P f s){f:FuncId}{fn:Func}{c:Code}(hf:P.funcs[f]? =some fn)(hb:fn.body=some c)
  (hcall: ∀args w,(callFunc f args).run P w= .ok (.enter f args) w) {K:List AV→Option (AV×List Bool)} {N:Nat} (hl:bF P 0 L c)
  (hn: ∀args v cs,K args=some (v,cs)→bI.fu v=true)
  (h: ∀args v cs,K args=some (v,cs)→(∀p∈cs,p)→(aI P Γ L N fn args).sat λr=>bI.fu r=true∧bM r v):aN P f K where
 sound:=λargs v cs hk=>⟨hn args v cs hk,λA w vs hA hc hargs=>by
  refine iW.enter hf ⟨hcall _ _,(Bc hm hΓ hf hb hl (h args v cs hk hc) hA hargs).mono ?_⟩;rintro e w' ⟨r,u,OC,_,rfl,hrel,hb⟩;exact⟨u,rfl,OC _ _ _ _ hrel,hb⟩⟩
end
end Go.bI
namespace Go.bI
open Go.RowKit
def Tr.run{α:Type}:Tr α→Option α
 | .ret a=>some a
 | .ite c t e=>bif c then t.run else e.run
 | .need p t=>bif p then t.run else none
 | .both _ _=>none
 | .fail _=>none
theorem Tr.xD{α:Type}: ∀{t:Tr α} {a:α},t.run=some a→t.sat (· =a)
 | .ret a,b,h=>by simpa[Tr.run,Tr.sat]using h
 | .ite c t e,b,h=>by
   cases c with
   | true=>exact⟨λ_=>Tr.xD (by simpa[Tr.run]using h),λh=>by cases h⟩
   | false=>exact⟨λh=>(by cases h),λ_=>Tr.xD (by simpa[Tr.run]using h)⟩
 | .need p t,b,h=>by
   cases p with
   | true=>exact⟨rfl,λ_=>Tr.xD (by simpa[Tr.run]using h)⟩
   | false=>simp[Tr.run]at h
 | .both _ _,b,h=>by simp[Tr.run]at h
 | .fail _,b,h=>by simp[Tr.run]at h
theorem ah{α:Type}{p:Bool}{t:Tr α}{Q:α→Prop}(h:p=true)(k:t.sat Q):(Tr.need p t).sat Q:=⟨h,λ_=>k⟩
theorem au{α:Type}{c:Bool}{t e:Tr α}{Q:α→Prop}(h:c=true→t.sat Q)(k:c=false→e.sat Q):(Tr.ite c t e).sat Q:=⟨h,k⟩
theorem av{α:Type}{a:α}{Q:α→Prop}(h:Q a):(Tr.ret a).sat Q:=h
abbrev bX:Nat→Option (St→Tr (Ex×St)):=λ_=>none
def cO(P:Program)(Γ:FuncId→Option Spec)(N:Nat)(fn:Func)(args:List AV):Option (AV×List Bool):=
 match (aI P Γ bX N fn args).run with
 | some v=>bif fu v then some (v,[])else none
 | none=>none
def OD(P:Program)(Γ:FuncId→Option Spec)(N:Nat)(fn:Func):rX:=λents args=>(wG P Γ bX N true fn ents args).run
mutual
def asO:AV→Bool
 | .ptr _ _=>false
 | .kI _ _ _ _=>false
 | .IL _ _ _ _=>false
 | .agg l=>Gm l
 | .iC l=>Gm l
 | .fn _ l=>Gm l
 | _=>true
def Gm:List AV→Bool
 | []=>true
 | x::l=>asO x&&Gm l
end
def adn(P:Program)(Γ:FuncId→Option Spec)(N:Nat)(fn:Func):Spec:=λslot m args=>
 bif Gm args then ay (cO P Γ N fn) slot m args else j6 (OD P Γ N fn) slot m args
def jS(fn:Func):Bool:= !(fn.name== "runtime.NumGoroutine")
def za(P:Program)(base:FuncId→Option Spec)(N:Nat):Nat→FuncId→Option Spec
 | 0=>base
 | d+1=>λf=>
   match base f with
   | some s=>some s
   | none=>
     match P.funcs[f]? with
     | some fn=>
       match fn.body with
       | some _=>bif jS fn then some (adn P (za P base N d) N fn)else none
       | none=>none
     | none=>none
theorem aG{P:Program}{f:FuncId}{fn:Func}{c:Code}(hf:P.funcs[f]? =some fn)(hb:fn.body=some c)(hn:jS fn=true)(args:Array Value)(w:World):(callFunc f args).run P w= .ok (.enter f args) w:=by
 have hn':(fn.name== "runtime.NumGoroutine")=false:=by simpa[jS]using hn
 unfold callFunc;rw[Sem.run_bind,run_program,Result.andThen_ok];simp only[hf,hn',hb,Bool.false_eq_true,if_false,Option.isNone_some];rfl
section
variable{P:Program}{Γ:FuncId→Option Spec}{N:Nat}
theorem jl(hm:P.follows .mixedOrders=true)(hΓ: ∀f s,Γ f=some s→aR P f s){f:FuncId}{fn:Func}{c:Code}(hf:P.funcs[f]? =some fn)(hb:fn.body=some c)(hn:jS fn=true):aN P f (cO P Γ N fn):=by
 have hk: ∀args v cs,cO P Γ N fn args=some (v,cs)→bI.fu v=true∧(aI P Γ bX N fn args).run=some v:=by
  intro args v cs h;unfold cO at h
  split at h
  ·rename_i u hu
   cases hp:bI.fu u with
   | false=>rw[hp]at h;cases h
   | true=>
     rw[hp]at h;simp only[cond_true,fK,Prod.mk.injEq]at h;obtain⟨rfl,_⟩:=h;exact⟨hp,hu⟩
  ·cases h
 refine aM hm hΓ hf hb (aG hf hb hn) (L:=bX) (N:=N) (ak 0 c) (λargs v cs h=>(hk args v cs h).1) λargs v cs h _=> ?_
 refine Tr.bC ?_ (Tr.xD (hk args v cs h).2);rintro r rfl;exact⟨(hk args r cs h).1,bM.refl r⟩
theorem Js(hm:P.follows .mixedOrders=true)(hΓ: ∀f s,Γ f=some s→aR P f s){f:FuncId}{fn:Func}{c:Code}(hf:P.funcs[f]? =some fn)(hb:fn.body=some c)(hn:jS fn=true):uT P f (OD P Γ N fn):=by
 refine vS (L:=λ_=>bX) hm hΓ hf hb (aG hf hb hn) (N:=N) (Bg:=true) (λents args o _=>ak ents.length c) λents args o h _=> ?_
 refine Tr.bC ?_ (Tr.xD h);rintro r rfl;exact⟨bM.refl _,dz.refl _⟩
theorem aR.pick{f:FuncId}{s t:Spec}(p:List AV→Bool)(hs:aR P f s)(ht:aR P f t):aR P f (λslot m args=>bif p args then s slot m args else t slot m args) where
 look:=λslot m m' args r h hk=>by
  cases hp:p args with
  | true=>simp only[hp,cond_true]at h⊢;exact hs.look slot m m' args r h hk
  | false=>simp only[hp,cond_false]at h⊢;exact ht.look slot m m' args r h hk
 sound:=λslot args r C B S a w vs h=>by
  cases hp:p args with
  | true=>simp only[hp,cond_true]at h;exact hs.sound slot args r C B S a w vs h
  | false=>simp only[hp,cond_false]at h;exact ht.sound slot args r C B S a w vs h
theorem Q6(hm:P.follows .mixedOrders=true)(hΓ: ∀f s,Γ f=some s→aR P f s){f:FuncId}{fn:Func}{c:Code}(hf:P.funcs[f]? =some fn)(hb:fn.body=some c)(hn:jS fn=true):aR P f (adn P Γ N fn):=
 aR.pick Gm (jl hm hΓ hf hb hn).spec (Js hm hΓ hf hb hn).spec
theorem zf(hm:P.follows .mixedOrders=true){base:FuncId→Option Spec}(hΓ: ∀f s,base f=some s→aR P f s): ∀(d:Nat) (f:FuncId) (s:Spec),za P base N d f=some s→aR P f s
 | 0,f,s,h=>hΓ f s h
 | d+1,f,s,h=>by
   unfold za at h
   split at h
   ·rename_i s' hs'
    cases h;exact hΓ f _ hs'
   ·split at h
    ·rename_i fn hf
     split at h
     ·rename_i c hb
      cases hn:jS fn with
      | false=>rw[hn]at h;cases h
      | true=>
        rw[hn]at h;simp only[cond_true,fK]at h;subst h;exact Q6 hm (zf hm hΓ d) hf hb hn
     ·cases h
    ·cases h
end
end Go.bI
namespace Go.bI
open Go.RowKit
structure Mv (P:Program) (f:FuncId) (e:Array Value→Sem Value):Prop where
 ex: ∃fn,P.funcs[f]? =some fn∧(fn.name== "runtime.NumGoroutine")=false∧fn.body.isNone=true∧Extern.findNext fn=none∧Extern.find fn=some e
theorem Mv.run{P:Program}{f:FuncId}{e:Array Value→Sem Value}(h:Mv P f e)(args:Array Value)(w:World){v:Value}{w':World}(hr:(e args).run P w= .ok v w'):(callFunc f args).run P w= .ok (.value v) w':=by
 obtain⟨fn,h1,h2,h3,h4,h5⟩:=h.ex;rw[run_callFunc_extern h1 h2 h3 h4 h5,hr];rfl
def oh:List AV→Option (AV×List Bool)
 | [.c (.v (.string a)),.c (.v (.string b))]=>some (dn .i64 (Lib.compareBytes a.data.toList b.data.toList),[])
 | _=>none
theorem ado{P:Program}{f:FuncId}(h:Mv P f Extern.BytealgCompare.compare):aN P f oh where
 sound:=by
  intro args v cs hk;unfold oh at hk
  split at hk
  ·rename_i a b
   simp only[fK,Prod.mk.injEq]at hk;obtain⟨rfl,rfl⟩:=hk;refine⟨rfl,λA w vs hA _ hargs=> ?_⟩;obtain⟨va,vs,rfl,h1,hargs⟩:=hargs.head;obtain⟨vb,vs,rfl,h2,hargs⟩:=hargs.head;obtain rfl:=hargs.o8;obtain rfl:=h1.plain;obtain rfl:=h2.plain;exact iW.value h.ex.choose_spec.1 ⟨_,w,h.run _ w (Lib.run_compareString a b w),_,rfl,aV.lit _,Below.refl _ _⟩
  ·cases hk
def Ht:List AV→Option (AV×List Bool)
 | [.c (.v (.int _ x)),.c (.v (.int _ y)),.c (.v (.int _ c))]=>
   some (.iC [dn .u64 (((x.toNat+y.toNat+c.toNat)%Extern.MathBitsCarry.m64:Nat):Int),dn .u64 (((x.toNat+y.toNat+c.toNat)/Extern.MathBitsCarry.m64:Nat):Int)],[decide (c.toNat≤1)])
 | _=>none
def UF(args:Array Value):Sem Value:=do
 let (x,y,c)←Extern.MathBitsCarry.three "Add64" args
 pure (Extern.MathBitsCarry.pair ((x+y+c)%Extern.MathBitsCarry.m64) ((x+y+c)/Extern.MathBitsCarry.m64))
theorem adp{P:Program}{f:FuncId}(h:Mv P f UF):aN P f Ht where
 sound:=by
  intro args v cs hk;unfold Ht at hk
  split at hk
  ·rename_i kx x ky y kc c
   simp only[fK,Prod.mk.injEq]at hk;obtain⟨rfl,rfl⟩:=hk;refine⟨rfl,λA w vs hA hc hargs=> ?_⟩;have hc:=dec (hc (decide (c.toNat≤1)) (by simp));obtain⟨va,vs,rfl,h1,hargs⟩:=hargs.head;obtain⟨vb,vs,rfl,h2,hargs⟩:=hargs.head;obtain⟨vc,vs,rfl,h3,hargs⟩:=hargs.head;obtain rfl:=hargs.o8;obtain rfl:=h1.plain;obtain rfl:=h2.plain;obtain rfl:=h3.plain;have hn: ¬c.toNat>1:=by omega
   refine iW.value h.ex.choose_spec.1 ⟨_,w,h.run _ w (v:=Extern.MathBitsCarry.pair ((x.toNat+y.toNat+c.toNat)%Extern.MathBitsCarry.m64) ((x.toNat+y.toNat+c.toNat)/Extern.MathBitsCarry.m64)) ?_,_,rfl,?_,Below.refl _ _⟩
   ·have h3:(Extern.MathBitsCarry.three "Add64" #[.int kx x,.int ky y,.int kc c]).run P w= .ok (x.toNat,y.toNat,c.toNat) w:=by
     change Sem.run P (if c.toNat>1 then _ else _) w=_
     rw[if_neg hn];rfl
    unfold UF;rw[Sem.run_bind];refine(congrArg (λr=>Result.andThen r _) h3).trans ?_;rfl
   ·exact aV.vN (cs:=[_,_]) (.cons (aV.lit _) (.cons (aV.lit _) .nil))
  ·cases hk
end Go.bI
namespace Go.bI
theorem BJ(x:Int):byteOf [.v (.int .u8 x)]=UInt8.ofNat x.toNat:=rfl
theorem zh(n:Nat)(el:Nat→List IV):(bytesOf n el).length=n:=by simp[bytesOf]
theorem pQ(l:List UInt8):bytesOf l.length (fP l)=l:=by
 apply List.ext_getElem
 ·simp[bytesOf]
 ·intro i h1 h2
  simp only[bytesOf,fP,List.getElem_map,List.getElem_range,BJ,dR,List.getElem?_eq_getElem h2,Option.getD_some];simp
theorem kW(n:Nat)(l:List UInt8):isBytes n (fP l)=true:=by
 unfold isBytes;rw[List.all_eq_true];intro k _;have:=(l.getD k 0).toNat_lt;simp only[fP,isByte,cu,fT];omega
theorem yu{n:Nat}{el:Nat→List IV}(h:isBytes n el=true): ∀k,k<n→el k=fP (bytesOf n el) k:=by
 intro k hk;obtain⟨b,hb⟩:=F7 h k hk;have:(bytesOf n el).getD k 0=b:=by
  simp[bytesOf,dR,hk,hb,byteOf]
 unfold fP;rw[this,hb]
theorem wrap_u8(x:Int):IntKind.u8.wrap x=x%256:=by
 simp[IntKind.wrap,IntKind.bits,IntKind.signed]
theorem wrap_u64(x:Int):IntKind.u64.wrap x=x%18446744073709551616:=by
 simp[IntKind.wrap,IntKind.bits,IntKind.signed]
theorem wrap_i64{x:Int}(h: -9223372036854775808≤x∧x≤9223372036854775807):IntKind.i64.wrap x=x:=IntWalk.i64_in x h
theorem jR {x y:Int} (h:-9223372036854775808≤x∧x≤9223372036854775807:=by omega) (e:x=y:=by omega):IntKind.i64.wrap x=y:=(wrap_i64 h).trans e
end Go.bI
namespace Go.bI
def aO(l:List UInt8):Nat:=l.foldl (λa c=>a*256+c.toNat) 0
def aA(n:Nat):List UInt8:=if h:n=0 then []else aA (n/256)++[UInt8.ofNat (n%256)]
 termination_by n
 decreasing_by exact Nat.div_lt_self (Nat.pos_of_ne_zero h) (by decide)
def canon(l:List UInt8):Bool:=match l with
 | []=>true
 | c::_=>c !=0
theorem Db{P:List UInt8→Prop}(h0:P [])(h1: ∀l c,P l→P (l++[c]))(l:List UInt8):P l:=by
 rw[←List.reverse_reverse l]
 induction l.reverse with
 | nil=>exact h0
 | cons c l ih=>rw[List.reverse_cons];exact h1 _ _ ih
theorem iD:aA 0=[]:=by rw[aA];rfl
theorem tQ{n:Nat}(h:0<n):aA n=aA (n/256)++[UInt8.ofNat (n%256)]:=by
 rw[aA,dif_neg (by omega)]
theorem Q7:aO []=0:=rfl
theorem mZ(l:List UInt8)(c:UInt8):aO (l++[c])=aO l*256+c.toNat:=by simp[aO]
theorem Z9{l:List UInt8}{i:Nat}(h:i<l.length):aO (l.take (i+1))=aO (l.take i)*256+(l.getD i 0).toNat:=by
 rw[List.take_succ_eq_append_getElem h,mZ];simp[dR,h]
theorem jU(n:Nat):aO (aA n)=n:=by
 induction n using Nat.strongRecOn with
 | ind n ih=>
   by_cases h:n=0
   ·subst h;rw[iD];rfl
   ·rw[tQ (by omega),mZ,ih (n/256) (Nat.div_lt_self (by omega) (by decide))]
    have:(UInt8.ofNat (n%256)).toNat=n%256:=by simp[UInt8.toNat_ofNat']
    omega
theorem uW(l:List UInt8):aO l<256^l.length:=by
 induction l using Db with
 | h0=>simp[aO]
 | h1 l c ih=>
   rw[mZ,List.length_append,List.length_singleton,Nat.pow_succ];have:=c.toNat_lt;omega
theorem Dc(n:Nat): ∀k,n<256^k→(aA n).length≤k:=by
 induction n using Nat.strongRecOn with
 | ind n ih=>
   intro k hk;by_cases h:n=0
   ·subst h;rw[iD];simp
   ·cases k with
    | zero=>simp at hk;omega
    | succ k=>
      rw[tQ (by omega),List.length_append,List.length_singleton];have:=ih (n/256) (Nat.div_lt_self (by omega) (by decide)) k (by rw[Nat.pow_succ]at hk;omega);omega
theorem xE(n:Nat):canon (aA n)=true:=by
 induction n using Nat.strongRecOn with
 | ind n ih=>
   by_cases h:n=0
   ·subst h;rw[iD];rfl
   ·rw[tQ (by omega)]
    have ih1:=ih (n/256) (Nat.div_lt_self (by omega) (by decide));cases hm:aA (n/256)with
    | nil=>
      have hz:n/256=0:=by
       have:=jU (n/256);rw[hm]at this;exact this.symm
      simp only[List.nil_append,canon,bne_iff_ne,ne_eq];intro hc;have:=congrArg UInt8.toNat hc;simp[UInt8.toNat_ofNat']at this;omega
    | cons c l=>
      rw[hm]at ih1;exact ih1
theorem uX{c:UInt8}{l:List UInt8}(h:c≠0):256^l.length≤aO (c::l):=by
 induction l using Db with
 | h0=>
   have hc:c.toNat≠0:=λhh=>h (UInt8.toNat_inj.1 (by simpa using hh))
   simp[aO];omega
 | h1 l d ih=>
   rw[←List.cons_append,mZ,List.length_append,List.length_singleton,Nat.pow_succ];omega
theorem jy(l:List UInt8)(h:canon l=true):aA (aO l)=l:=by
 induction l using Db with
 | h0=>rw[Q7,iD]
 | h1 l c ih=>
   cases l with
   | nil=>
     have hc:c≠0:=by simpa[canon]using h
     have hn:c.toNat≠0:=λhh=>hc (UInt8.toNat_inj.1 (by simpa using hh))
     have hlt:=c.toNat_lt;have e:aO ([]++[c])=c.toNat:=by simp[aO]
     rw[e,tQ (by omega)];have:c.toNat/256=0:=by omega
     rw[this,iD,Nat.mod_eq_of_lt hlt];simp
   | cons d l=>
     have hd:d≠0:=by simpa[canon]using h
     have hp:=uX (l:=l) hd;have hp2:0<256^l.length:=Nat.pow_pos (by decide);have hlt:=c.toNat_lt;rw[mZ,tQ (by omega)];have e1:(aO (d::l)*256+c.toNat)/256=aO (d::l):=by omega
     have e2:(aO (d::l)*256+c.toNat)%256=c.toNat:=by omega
     rw[e1,e2,ih (by simpa[canon]using hd)];simp
theorem Jt{a b:Nat}(h:aA a=aA b):a=b:=by
 rw[←jU a,h,jU]
end Go.bI
namespace Go.bI
open Go.Proofs
def oq(l:List UInt8):AV:= .c (.v (.string ⟨⟨l⟩⟩))
theorem eP{P:Program}: ∀f s,(λ_=>none:FuncId→Option Spec) f=some s→aR P f s:=λ_ _ h=>by cases h
theorem aj:Tryz.prog.follows .mixedOrders=true:=by kernel_rfl
theorem step_ok{P:Program}{a:FuncId}{A:Spec}{Γ':FuncId→Option Spec}(h:aR P a A)(k: ∀f s,Γ' f=some s→aR P f s): ∀f s,(bif Nat.beq f a then some A else Γ' f)=some s→aR P f s:=by
 intro f s hf;cases h1:Nat.beq f a with
 | true=>
   obtain rfl:f=a:=Nat.eq_of_beq_eq_true h1;rw[h1]at hf;cases hf;exact h
 | false=>
   rw[h1]at hf;exact k f s hf
theorem bS{P:Program}{f:FuncId}{s:Spec}(h:aR P f s): ∀g t,(bif Nat.beq g f then some s else none)=some t→aR P g t:=step_ok h eP
def Out(o:je)(p:je):Prop:=bM p.val o.val∧dz (p.outs++[p.new]) (o.outs++[o.new])
theorem Out.refl(o:je):Out o o:=⟨bM.refl _,dz.refl _⟩
theorem Out.of_eq{o p:je}(h:p=o):Out o p:=h ▸ Out.refl _
structure Way (X:Type) where
 res:X→X
 pre:X→Bool
structure Df where
 s:ByteArray
 u:Int
 n:Int
 i:Int
def Hu(x:Df):List AV×List (Option jk):=([.c (.v (.string x.s)),dn .u64 x.u,dn .i64 x.n,dn .i64 x.i],[])
def Hw:List AV×List (Option jk)→Option (Df×List Bool)
 | ([.c (.v (.string s)),.c (.v (.int .u64 u)),.c (.v (.int .i64 n)),.c (.v (.int .i64 i))],[])=>some (⟨s,u,n,i⟩,[])
 | _=>none
def Ju(w:Way Df):aZ Df Df where
 nIn:={nt:=23,live:=[0,4,10,11]}
 rD:={nt:=23,live:=[0,4,10,11]}
 head:=Hu
 take:=Hw
 out:=λr=>(.normal,Hu r)
 jC:=λq=>match q with|(.normal,q)=>Hw q | _=>none
 res:=w.res
 pre:=w.pre
theorem Jv(q:List AV×List (Option jk))(x:Df)(cs:List Bool)(h:Hw q=some (x,cs)):eY q.1 (Hu x).1∧dz q.2 (Hu x).2:=by
 unfold Hw at h
 split at h
 ·cases h;exact⟨eY.refl _,dz.refl _⟩
 ·cases h
theorem UG(w:Way Df):(Ju w).gI where
 take:=λq x cs h _=>Jv q x cs h
 jC:=by
  intro e q r cs h hc;cases e with
  | normal=>obtain⟨h1,h2⟩:=Jv q r cs h;exact⟨rfl,h1,h2⟩
  | exit j=>cases h
  | ret=>cases h
 split:=λr Q h=>h
def BK:Way Df:=⟨λx=>⟨x.s,(aO x.s.data.toList:Nat),x.n,x.n⟩,λx=>decide (x.n=(x.s.data.toList.length:Nat))&&decide (x.s.data.toList.length≤8)&&decide (x.i=0)&&decide (x.u=0)⟩
def aac:Nat→Option (St→Tr (Ex×St)):=λid=>bif Nat.beq id 0 then some ((Ju BK).g 0)else none
end Go.bI
namespace Go.bI
open Go.Proofs
def OE(s:ByteArray)(u:Int)(n:Int)(i:Int):Tr (Df ⊕ Df):=
 let x1:List UInt8:=s.data.toList
 let x2:Int:= ↑x1.length
 .ite (decide (i<n)) (.need true (.need (decide (0≤i∧i<x2)) (.ret (Sum.inl {s:=s,u:=IntKind.u64.wrap ↑(BitVec.ofInt IntKind.u64.bits (IntKind.u64.wrap (u*2^min (Int.toNat 8) IntKind.u64.bits)) ||| BitVec.ofInt IntKind.u64.bits (IntKind.u64.wrap ↑(x1.getD i.toNat 0).toNat)).toNat,n:=n,i:=IntKind.i64.wrap (i+1)})))) (.ret (Sum.inr {s:=s,u:=u,n:=n,i:=i}))
def aox(s:ByteArray):Tr AV:=
 let x1:List UInt8:=s.data.toList
 let x2:Int:= ↑x1.length
 .ite (decide (x2>8)) (.ret (AV.iC [.c (.v (.int IntKind.u64 0)),.c (.v (.bool false))])) (.need (decide (x2=x2)&&decide (x1.length≤8)&&decide (0=0)&&decide (0=0)) (.ret (AV.iC [.c (.v (.int IntKind.u64 ↑(aO x1))),.c (.v (.bool true))])))
def aoy(u:Int):Tr AV:=
 let x1:Int:=u.fdiv (2^min (Int.toNat 32) IntKind.u64.bits)
 let x2:Int:=2^min (Int.toNat 16) IntKind.u64.bits
 let x3:Int:=x1.fdiv x2
 let x4:Int:=2^min (Int.toNat 8) IntKind.u64.bits
 let x5:Int:=IntKind.u8.wrap (x3.fdiv x4)
 let x6:List UInt8:=[8,8,8,8,8,8,8,8,8,8,8,8,8,8,8,8,8,8,8,8,8,8,8,8,8,8,8,8,8,8,8,8,8,8,8,8,8,8,8,8,8,8,8,8,8,8,8,8,8,8,8,8,8,8,8,8,8,8,8,8,8,8,8,8]
 let x7:List UInt8:=([0,1,2,2,3,3,3,3,4,4,4,4,4,4,4,4,5,5,5,5,5,5,5,5,5,5,5,5,5,5,5,5,6,6,6,6,6,6,6,6,6,6,6,6,6,6,6,6,6,6,6,6,6,6,6,6,6,6,6,6,6,6,6,6].append [7,7,7,7,7,7,7,7,7,7,7,7,7,7,7,7,7,7,7,7,7,7,7,7,7,7,7,7,7,7,7,7,7,7,7,7,7,7,7,7,7,7,7,7,7,7,7,7,7,7,7,7,7,7,7,7,7,7,7,7,7,7,7,7]).append (x6.append x6)
 let x8:Int:= ↑x7.length
 let x9:Int:=IntKind.i64.wrap (32+16)
 let x10:Int:=IntKind.u8.wrap x3
 let fI:Int:=IntKind.u8.wrap (x1.fdiv x4)
 let fU:Int:=IntKind.u8.wrap x1
 let iM:Int:=u.fdiv x2
 let iR:Int:=IntKind.u8.wrap (iM.fdiv x4)
 let jH:Int:=IntKind.i64.wrap (0+16)
 let kE:Int:=IntKind.u8.wrap iM
 let jD:Int:=IntKind.u8.wrap (u.fdiv x4)
 .ite (decide (u≥4294967296)) (.need true (.ite (decide (x1≥65536)) (.need true (.ite (decide (x3≥256)) (.need true (.need (decide (0≤x5∧x5<x8)) (.ret (.c (.v (.int IntKind.i64 (IntKind.i64.wrap (IntKind.i64.wrap (x9+8)+IntKind.i64.wrap ↑(x7.getD x5.toNat 0).toNat)))))))) (.need (decide (0≤x10∧x10<x8)) (.ret (.c (.v (.int IntKind.i64 (IntKind.i64.wrap (x9+IntKind.i64.wrap ↑(x7.getD x10.toNat 0).toNat))))))))) (.ite (decide (x1≥256)) (.need true (.need (decide (0≤fI∧fI<x8)) (.ret (.c (.v (.int IntKind.i64 (IntKind.i64.wrap (IntKind.i64.wrap (32+8)+IntKind.i64.wrap ↑(x7.getD fI.toNat 0).toNat)))))))) (.need (decide (0≤fU∧fU<x8)) (.ret (.c (.v (.int IntKind.i64 (IntKind.i64.wrap (32+IntKind.i64.wrap ↑(x7.getD fU.toNat 0).toNat)))))))))) (.ite (decide (u≥65536)) (.need true (.ite (decide (iM≥256)) (.need true (.need (decide (0≤iR∧iR<x8)) (.ret (.c (.v (.int IntKind.i64 (IntKind.i64.wrap (IntKind.i64.wrap (jH+8)+IntKind.i64.wrap ↑(x7.getD iR.toNat 0).toNat)))))))) (.need (decide (0≤kE∧kE<x8)) (.ret (.c (.v (.int IntKind.i64 (IntKind.i64.wrap (jH+IntKind.i64.wrap ↑(x7.getD kE.toNat 0).toNat))))))))) (.ite (decide (u≥256)) (.need true (.need (decide (0≤jD∧jD<x8)) (.ret (.c (.v (.int IntKind.i64 (IntKind.i64.wrap (IntKind.i64.wrap (0+8)+IntKind.i64.wrap ↑(x7.getD jD.toNat 0).toNat)))))))) (.need (decide (0≤IntKind.u8.wrap u∧IntKind.u8.wrap u<x8)) (.ret (.c (.v (.int IntKind.i64 (IntKind.i64.wrap (0+IntKind.i64.wrap ↑(x7.getD (IntKind.u8.wrap u).toNat 0).toNat)))))))))
def asP(b:Bool)(s:ByteArray):Tr AV:=
 let x1:List AV:=[.c (.v (.string s))]
 .ite b (.ret (AV.agg (.c (.v (.bool (bif true then !s.data.toList==[]else false)))::x1))) (.ret (AV.agg (.c (.v (.bool false))::x1)))
theorem UH(w:Way Df)(x:Df):(exec Tryz.prog (λ_=>none) bX 1010 (bn 0 (codeOf Tryz.f113)) (iQ (Ju w).nIn ((Ju w).head x))).bind ((Ju w).fin 0 0)=OE x.s x.u x.n x.i:=by
 obtain⟨s,u,n,i⟩:=x
 kernel_rfl
theorem aif(s:ByteArray):aI Tryz.prog (λ_=>none) aac 1010 Tryz.f113 [.c (.v (.string s))]=aox s:=by kernel_rfl
theorem aii(u:Int):aI Tryz.prog (λ_=>none) bX 1010 Tryz.f177 [dn .u64 u]=aoy u:=by kernel_rfl
theorem aij(b:Bool)(s:ByteArray):aI Tryz.prog (λ_=>none) bX 1010 Tryz.f125 [.c (.v (.bool b)),.c (.v (.string s))]=asP b s:=by kernel_rfl
theorem Yi(x:Nat)(hx:x<18446744073709551616):(BitVec.ofInt 64 (x:Int)).toNat=x:=by
 rw[BitVec.toNat_ofInt];omega
theorem aik(u c:Nat)(hu:u<72057594037927936)(hc:c<256):
  IntKind.u64.wrap ((BitVec.ofInt IntKind.u64.bits (IntKind.u64.wrap ((u:Int)*2^min (Int.toNat 8) IntKind.u64.bits)) ||| BitVec.ofInt IntKind.u64.bits (IntKind.u64.wrap (c:Int))).toNat:Nat)=((u*256+c:Nat):Int):=by
 have e1:IntKind.u64.wrap ((u:Int)*2^min (Int.toNat 8) IntKind.u64.bits)=((u*256:Nat):Int):=by
  change IntKind.u64.wrap ((u:Int)*256)=_
  rw[wrap_u64];omega
 have e2:IntKind.u64.wrap (c:Int)=(c:Int):=by rw[wrap_u64];omega
 rw[e1,e2]
 change IntKind.u64.wrap ((BitVec.ofInt 64 ((u*256:Nat):Int) ||| BitVec.ofInt 64 (c:Int)).toNat:Nat)=_
 rw[BitVec.toNat_or,Yi _ (by omega),Yi _ (by omega)];have e3:u*256 ||| c=u*256+c:=by
  have:=Nat.two_pow_add_eq_or_of_lt (i:=8) (b:=c) (by omega) u;rw[Nat.mul_comm u];exact this.symm
 rw[e3,wrap_u64];omega
theorem aoz(k:Nat)(h:k≤7):256^k≤72057594037927936:=by
 calc 256^k≤256^7:=Nat.pow_le_pow_right (by omega) h
  _=72057594037927936:=by decide
theorem Yj(s:ByteArray)(hl:s.data.toList.length≤8)(Q:Df→Prop)(hq:Q ⟨s,(aO s.data.toList:Nat),(s.data.toList.length:Nat),(s.data.toList.length:Nat)⟩): ∀(k i:Nat),i+k=s.data.toList.length→
  dJ (λx:Df=>OE x.s x.u x.n x.i) Q (k+1) ⟨s,(aO (s.data.toList.take i):Nat),(s.data.toList.length:Nat),(i:Nat)⟩
 | 0,i,hi=>by
   obtain rfl:i=s.data.toList.length:=by omega
   rw[List.take_length];exact au (λh=>absurd (j4 h) (Int.lt_irrefl _)) (λ_=>av hq)
 | k+1,i,hi=>by
   have ih:=Yj s hl Q hq k (i+1) (by omega);have hw:IntKind.i64.wrap ((i:Int)+1)=((i+1:Nat):Int):=jR;have hm:=uW (s.data.toList.take i);have hlen:(s.data.toList.take i).length=i:=by rw[List.length_take];omega
   rw[hlen]at hm;have hp:=aoz i (by omega);have hc:=(s.data.toList.getD i 0).toNat_lt;unfold dJ
   change Tr.sat _ (OE s (aO (s.data.toList.take i):Nat) (s.data.toList.length:Nat) (i:Nat))
   refine au (λ_=>ah rfl (ah (bQ) (av ?_))) (λh=>absurd (show(i:Int)<(s.data.toList.length:Nat)by omega) (of_decide_eq_false h));have hs:=aik (aO (s.data.toList.take i)) (s.data.toList.getD i 0).toNat (by omega) hc;have ht:=Z9 (l:=s.data.toList) (i:=i) (by omega);simp only[Int.toNat_natCast,hw,hs];rw[←ht];exact ih
theorem UJ:bF Tryz.prog 0 aac (codeOf Tryz.f113):=by
 refine bG (d:=λid=>Nat.beq id 0) (λid=>by unfold aac;cases Nat.beq id 0<;>rfl) _ ?_;have hb:bU (λid=>Nat.beq id 0) (codeOf Tryz.f113)=[(0,.loop (bn 0 (codeOf Tryz.f113)))]:=by kernel_rfl
 rw[hb];intro p hp g hg;simp only[List.mem_singleton]at hp;subst hp;have hh:aac 0=some ((Ju BK).g 0):=rfl;rw[hh]at hg;obtain rfl:g=(Ju BK).g 0:=(Option.some.inj hg).symm;refine aZ.sU (N:=1010) aj eP (L:=bX) (ak 0 _) (UG _) (UH BK) ?_;rintro⟨s,u,n,i⟩ hx;have hx:BK.pre ⟨s,u,n,i⟩=true:=hx;simp only[BK,cu,fT]at hx;obtain⟨⟨⟨rfl,h2⟩,rfl⟩,rfl⟩:=hx;have:=Yj s h2 (· =BK.res ⟨s,0,(s.data.toList.length:Nat),0⟩) rfl s.data.toList.length 0 (by omega);exact⟨_,this⟩
def iZ(s:ByteArray):Int:=if s.data.toList.length≤8 then(aO s.data.toList:Nat)else 0
def iq(s:ByteArray):Bool:=decide (s.data.toList.length≤8)
def adq:List AV→Option (AV×List Bool)
 | [.c (.v (.string s))]=>some (.iC [dn .u64 (iZ s),bL (iq s)],[])
 | _=>none
theorem adr(s:ByteArray):(aox s).sat λr=>r= .iC [dn .u64 (iZ s),bL (iq s)]:=by
 unfold aox iZ iq;refine au (λh=> ?_) (λh=> ?_)
 ·have h:=j4 h
  have h1: ¬s.data.toList.length≤8:=by omega
  rw[if_neg h1,jK h1];exact av rfl
 ·have h:=of_decide_eq_false h
  have h1:s.data.toList.length≤8:=by omega
  rw[if_pos h1,fZ h1];exact ah (by simp[h1]) (av rfl)
theorem Yk:aN Tryz.prog 113 adq:=by
 refine aM aj eP (fn:=Tryz.f113) (c:=codeOf Tryz.f113) (by kernel_rfl) (by kernel_rfl) (aG (fn:=Tryz.f113) (c:=codeOf Tryz.f113) (by kernel_rfl) (by kernel_rfl) (by kernel_rfl)) (L:=aac) (N:=1010) UJ ?_ ?_
 ·intro args v cs h
  unfold adq at h
  split at h
  ·cases h;rfl
  ·cases h
 ·intro args v cs h hc
  unfold adq at h
  split at h
  ·rename_i s
   cases h;have hs:=adr s;rw[←aif]at hs;generalize aI Tryz.prog (λ_=>none) aac 1010 Tryz.f113 [.c (.v (.string s))]=T at hs⊢;exact Tr.bC (λr hr=>⟨by subst hr;rfl,bM.of_eq hr⟩) hs
  ·cases h
def OG:List AV→Option (AV×List Bool)
 | [.c (.v (.bool b)),.c (.v (.string s))]=>some (.agg [bL (b&& !(s.data.toList==[])),.c (.v (.string s))],[])
 | _=>none
theorem zQ:aN Tryz.prog 125 OG:=by
 refine aM aj eP (fn:=Tryz.f125) (c:=codeOf Tryz.f125) (by kernel_rfl) (by kernel_rfl) (aG (fn:=Tryz.f125) (c:=codeOf Tryz.f125) (by kernel_rfl) (by kernel_rfl) (by kernel_rfl)) (L:=bX) (N:=1010) (ak _ _) ?_ ?_
 ·intro args v cs h
  unfold OG at h
  split at h
  ·cases h;rfl
  ·cases h
 ·intro args v cs h hc
  unfold OG at h
  split at h
  ·rename_i b s
   cases h;have hs:(asP b s).sat λr=>r= .agg [bL (b&& !(s.data.toList==[])),.c (.v (.string s))]:=by
    refine au (λh=> ?_) (λh=> ?_)<;>subst h<;>exact av rfl
   rw[←aij]at hs;generalize aI Tryz.prog (λ_=>none) bX 1010 Tryz.f125 [.c (.v (.bool b)),.c (.v (.string s))]=T at hs⊢;exact Tr.bC (λr hr=>⟨by subst hr;rfl,bM.of_eq hr⟩) hs
  ·cases h
end Go.bI
namespace Go.bI
open Go.Proofs
def bitLen(n:Nat):Nat:=if n=0 then 0 else Nat.log2 n+1
theorem bitLen_le{n k:Nat}:bitLen n≤k↔n<2^k:=by
 unfold bitLen
 split
 ·rename_i h;subst h;simp[Nat.two_pow_pos]
 ·rename_i h
  rw[←Nat.log2_lt h];omega
theorem bitLen_shift{n k:Nat}(h:2^k≤n):bitLen n=bitLen (n/2^k)+k:=by
 have key: ∀m,bitLen n≤m↔bitLen (n/2^k)+k≤m:=by
  intro m;by_cases hm:k≤m
  ·have:bitLen (n/2^k)+k≤m↔bitLen (n/2^k)≤m-k:=by omega
   rw[this,bitLen_le,bitLen_le,Nat.div_lt_iff_lt_mul (Nat.two_pow_pos k), ←Nat.pow_add];rw[show m-k+k=m by omega]
  ·constructor
   ·intro hh
    rw[bitLen_le]at hh;have:2^m≤2^k:=Nat.pow_le_pow_right (by omega) (by omega);omega
   ·intro hh;omega
 exact Nat.le_antisymm ((key _).2 (Nat.le_refl _)) ((key _).1 (Nat.le_refl _))
def len8:List UInt8:=([0,1,2,2,3,3,3,3,4,4,4,4,4,4,4,4,5,5,5,5,5,5,5,5,5,5,5,5,5,5,5,5,6,6,6,6,6,6,6,6,6,6,6,6,6,6,6,6,6,6,6,6,6,
   6,6,6,6,6,6,6,6,6,6,6].append
  [7,7,7,7,7,7,7,7,7,7,7,7,7,7,7,7,7,7,7,7,7,7,7,7,7,7,7,7,7,7,7,7,7,7,7,7,7,7,7,7,7,7,7,7,7,7,7,7,7,7,7,
   7,7,7,7,7,7,7,7,7,7,7,7,7]).append
 (([8,8,8,8,8,8,8,8,8,8,8,8,8,8,8,8,8,8,8,8,8,8,8,8,8,8,8,8,8,8,8,8,8,8,8,8,8,8,8,8,8,8,8,8,8,8,8,8,8,8,8,8,8,
 8,8,8,8,8,8,8,8,8,8,8]:List UInt8).append [8,8,8,8,8,8,8,8,8,8,8,8,8,8,8,8,8,8,8,8,8,8,8,8,8,8,8,8,8,8,8,8,8,8,8,8,8,8,8,8,8,8,8,8,8,8,8,8,8,8,8,8,8,
 8,8,8,8,8,8,8,8,8,8,8])
theorem ads:((List.range 256).all λc=>Nat.beq (len8.getD c 0).toNat (bitLen c))=true:=by kernel_rfl
theorem Q8:len8.length=256:=by kernel_rfl
theorem len8_get{c:Nat}(h:c<256):(len8.getD c 0).toNat=bitLen c:=Nat.eq_of_beq_eq_true (List.all_eq_true.1 ads c (List.mem_range.2 h))
theorem lH(n k:Nat):((n:Int)).fdiv ((k:Nat):Int)=((n/k:Nat):Int):=by
 rw[Int.fdiv_eq_ediv_of_nonneg _ (by omega)];rfl
theorem adt(n:Nat)(hn:n<18446744073709551616):(aoy (n:Int)).sat λr=>r=dn .i64 (bitLen n:Nat):=by
 have q32:((n:Int)).fdiv (2^min (Int.toNat 32) IntKind.u64.bits)=((n/4294967296:Nat):Int):=lH n 4294967296;have q16: ∀m:Nat,((m:Int)).fdiv (2^min (Int.toNat 16) IntKind.u64.bits)=((m/65536:Nat):Int):=λm=>lH m 65536
 have q8: ∀m:Nat,((m:Int)).fdiv (2^min (Int.toNat 8) IntKind.u64.bits)=((m/256:Nat):Int):=λm=>lH m 256
 have leaf: ∀(m:Nat) (k:Int) (b:Nat),m<256→0≤k→k+8<1000→((b:Nat):Int)=k+(bitLen m:Nat)→bitLen m≤8→
   (Tr.need (decide (0≤IntKind.u8.wrap (m:Int)∧IntKind.u8.wrap (m:Int)<((len8.length:Nat):Int))) (Tr.ret (AV.c (.v (.int IntKind.i64 (IntKind.i64.wrap (k+IntKind.i64.wrap (((len8.getD (IntKind.u8.wrap (m:Int)).toNat 0).toNat:Nat):Int)))))))).sat λr=>r=dn .i64 (b:Nat):=by
  intro m k b hm h0 hk hb hle;have e1:IntKind.u8.wrap (m:Int)=(m:Int):=by rw[wrap_u8];omega
  rw[e1,Int.toNat_natCast,len8_get hm,Q8];refine ah (bQ) (av ?_);rw[wrap_i64 (x:=((bitLen m:Nat):Int)) (by omega),wrap_i64 (by omega),hb];rfl
 have b8: ∀m,m<256→bitLen m≤8:=λm hm=>bitLen_le.2 (by simpa using hm)
 have w1:IntKind.i64.wrap (32+16)=48:=by rfl
 have w2:IntKind.i64.wrap (48+8)=56:=by rfl
 have w3:IntKind.i64.wrap (32+8)=40:=by rfl
 have w4:IntKind.i64.wrap (0+16)=16:=by rfl
 have w5:IntKind.i64.wrap (16+8)=24:=by rfl
 have w6:IntKind.i64.wrap (0+8)=8:=by rfl
 unfold aoy;simp only[q32,q16,q8,w1,w2,w3,w4,w5,w6];refine au (λh=>ah rfl ?_) (λh=> ?_)
 ·have h:=j4 h
  have s1:=bitLen_shift (n:=n) (k:=32) (by omega);rw[show(2:Nat)^32=4294967296 from rfl]at s1;refine au (λh=>ah rfl ?_) (λh=> ?_)
  ·have h:=j4 h
   have s2:=bitLen_shift (n:=n/4294967296) (k:=16) (by omega);rw[show(2:Nat)^16=65536 from rfl]at s2;refine au (λh=>ah rfl ?_) (λh=> ?_)
   ·have h:=j4 h
    have s3:=bitLen_shift (n:=n/4294967296/65536) (k:=8) (by omega);rw[show(2:Nat)^8=256 from rfl]at s3;exact leaf (n/4294967296/65536/256) 56 (bitLen n) (by omega) (by omega) (by omega) (by omega) (b8 _ (by omega))
   ·have h:=of_decide_eq_false h
    exact leaf (n/4294967296/65536) 48 (bitLen n) (by omega) (by omega) (by omega) (by omega) (b8 _ (by omega))
  ·have h:=of_decide_eq_false h
   refine au (λh=>ah rfl ?_) (λh=> ?_)
   ·have h:=j4 h
    have s3:=bitLen_shift (n:=n/4294967296) (k:=8) (by omega);rw[show(2:Nat)^8=256 from rfl]at s3;exact leaf (n/4294967296/256) 40 (bitLen n) (by omega) (by omega) (by omega) (by omega) (b8 _ (by omega))
   ·have h:=of_decide_eq_false h
    exact leaf (n/4294967296) 32 (bitLen n) (by omega) (by omega) (by omega) (by omega) (b8 _ (by omega))
 ·have h:=of_decide_eq_false h
  refine au (λh=>ah rfl ?_) (λh=> ?_)
  ·have h:=j4 h
   have s2:=bitLen_shift (n:=n) (k:=16) (by omega);rw[show(2:Nat)^16=65536 from rfl]at s2;refine au (λh=>ah rfl ?_) (λh=> ?_)
   ·have h:=j4 h
    have s3:=bitLen_shift (n:=n/65536) (k:=8) (by omega);rw[show(2:Nat)^8=256 from rfl]at s3;exact leaf (n/65536/256) 24 (bitLen n) (by omega) (by omega) (by omega) (by omega) (b8 _ (by omega))
   ·have h:=of_decide_eq_false h
    exact leaf (n/65536) 16 (bitLen n) (by omega) (by omega) (by omega) (by omega) (b8 _ (by omega))
  ·have h:=of_decide_eq_false h
   refine au (λh=>ah rfl ?_) (λh=> ?_)
   ·have h:=j4 h
    have s3:=bitLen_shift (n:=n) (k:=8) (by omega);rw[show(2:Nat)^8=256 from rfl]at s3;exact leaf (n/256) 8 (bitLen n) (by omega) (by omega) (by omega) (by omega) (b8 _ (by omega))
   ·have h:=of_decide_eq_false h
    exact leaf n 0 (bitLen n) (by omega) (by omega) (by omega) (by omega) (b8 _ (by omega))
def jV(n:Int):Bool:=decide (0≤n)&&decide (n<18446744073709551616)
def ail:List AV→Option (AV×List Bool)
 | [.c (.v (.int .u64 n))]=>some (dn .i64 (bitLen n.toNat:Nat),[jV n])
 | _=>none
theorem ain:aN Tryz.prog 177 ail:=by
 refine aM aj eP (fn:=Tryz.f177) (c:=codeOf Tryz.f177) (by kernel_rfl) (by kernel_rfl) (aG (fn:=Tryz.f177) (c:=codeOf Tryz.f177) (by kernel_rfl) (by kernel_rfl) (by kernel_rfl)) (L:=bX) (N:=1010) (ak _ _) ?_ ?_
 ·intro args v cs h
  unfold ail at h
  split at h
  ·cases h;rfl
  ·cases h
 ·intro args v cs h hc
  unfold ail at h
  split at h
  ·rename_i n
   cases h;have hr:jV n=true:=hc (jV n) (List.mem_singleton.2 rfl);simp only[jV,cu,fT]at hr;obtain⟨m,rfl⟩: ∃m:Nat,n=m:=⟨n.toNat,by omega⟩
   have hs:=adt m (by omega);rw[←aii]at hs;rw[Int.toNat_natCast];have e:(dn .u64 (m:Int))= .c (.v (.int .u64 (m:Int))):=rfl;rw[e]at hs;generalize aI Tryz.prog (λ_=>none) bX 1010 Tryz.f177 [.c (.v (.int .u64 (m:Int)))]=T at hs⊢;exact Tr.bC (λr hr=>⟨by subst hr;rfl,bM.of_eq hr⟩) hs
  ·cases h
end Go.bI
namespace Go.bI
open Go.Proofs
structure AB where
 u:Int
 n:Int
 n2:Int
 i:Int
 l:List UInt8
def Hy(x:AB):List AV×List (Option jk):=([dn .u64 x.u,dn .i64 x.n,.kI 0 0 0 1,dn .i64 x.n2,dn .i64 x.i],[some (.arr 8 1 (fP x.l) 292)])
def Hz:List AV×List (Option jk)→Option (AB×List Bool)
 | ([.c (.v (.int .u64 u)),.c (.v (.int .i64 n)),.kI 0 0 0 1,.c (.v (.int .i64 n2)),.c (.v (.int .i64 i))],[some (.arr 8 1 el 292)])=>some (⟨u,n,n2,i,bytesOf 8 el⟩,[isBytes 8 el])
 | _=>none
def Jw(w:Way AB):aZ AB AB where
 nIn:={nt:=30,live:=[0,3,4,12,13]}
 rD:={nt:=30,live:=[0,3,4,12,13]}
 head:=Hy
 take:=Hz
 out:=λr=>(.normal,Hy r)
 jC:=λq=>match q with|(.normal,q)=>Hz q | _=>none
 res:=w.res
 pre:=w.pre
theorem Jy(q:List AV×List (Option jk))(x:AB)(cs:List Bool)(h:Hz q=some (x,cs))(hc: ∀p∈cs,p):eY q.1 (Hy x).1∧dz q.2 (Hy x).2:=by
 unfold Hz at h
 split at h
 ·rename_i u n n2 i el
  simp only[fK,Prod.mk.injEq]at h;obtain⟨rfl,rfl⟩:=h;have h1:isBytes 8 el=true:=hc _ (List.mem_singleton.2 rfl);exact⟨eY.refl _,.cons (.arr _ _ _ _ _ (yu h1)) .nil⟩
 ·cases h
theorem UK(w:Way AB):(Jw w).gI where
 take:=Jy
 jC:=by
  intro e q r cs h hc;cases e with
  | normal=>obtain⟨h1,h2⟩:=Jy q r cs h hc;exact⟨rfl,h1,h2⟩
  | exit j=>cases h
  | ret=>cases h
 split:=λr Q h=>h
def uK(u:Nat):Nat→List UInt8
 | 0=> []
 | k+1=>UInt8.ofNat (u/256^k%256)::uK u k
def zi:Way AB:=⟨λx=>⟨x.u,x.n,x.n2,x.n2,uK x.u.toNat x.n.toNat++x.l.drop x.n.toNat⟩,
 λx=>jV x.u&&decide (x.n2=x.n)&&decide (x.i=0)&&decide (0≤x.n)&&decide (x.n≤8)&&decide (x.l.length=8)⟩
def aad:Nat→Option (St→Tr (Ex×St)):=λid=>bif Nat.beq id 0 then some ((Jw zi).g 0)else none
def aoA:FuncId→Option Spec:=λf=>bif Nat.beq f 177 then some (ay ail)else none
end Go.bI
namespace Go.bI
open Go.Proofs
def zR(u:Int)(n:Int)(n2:Int)(i:Int)(l:List UInt8):Tr (AB ⊕ AB):=
 let x1:Int:=IntKind.i64.wrap (8*i)
 let x2:Int:=IntKind.i64.wrap (IntKind.i64.wrap (n-1)-i)
 let x3:Int:= ↑8
 let x4:Nat:=x2.toNat
 .ite (decide (i<n2)) (.need (decide ¬x1<0) (.need (decide (0≤x2∧x2<x3)) (.need (decide (x4<8)) (.need (isBytes 8 (aP (fP l) x4 0 [IV.v (.int IntKind.u8 (IntKind.u8.wrap (u.fdiv (2^min x1.toNat IntKind.u64.bits))))].reverse)) (.ret (Sum.inl {u:=u,n:=n,n2:=n2,i:=IntKind.i64.wrap (i+1),l:=bytesOf 8 (aP (fP l) x4 0 [IV.v (.int IntKind.u8 (IntKind.u8.wrap (u.fdiv (2^min x1.toNat IntKind.u64.bits))))].reverse)})))))) (.need (isBytes 8 (fP l)) (.ret (Sum.inr {u:=u,n:=n,n2:=n2,i:=i,l:=bytesOf 8 (fP l)})))
def aoB(u:Int):Tr AV:=
 let x1:Int:=IntKind.i64.wrap ((IntKind.i64.wrap (↑(bitLen u.toNat)+7)).tdiv 8)
 let x2:List UInt8:=bytesOf 8 λx=>List.map IV.v [Value.int IntKind.u8 0]
 let x3:Nat:=x2.length
 let x4:Int:= ↑8
 let x5:Nat:=x1.toNat
 .ite (u==0) (.ret (.c (.v (.string {data:= #[]})))) (.need (jV u) (.need true (.need true (.need (jV u&&decide (x1=x1)&&decide (0=0)&&decide (0≤x1)&&decide (x1≤8)&&decide (x3=8)) (.need (decide (0≤x1∧x1≤x4)) (.need (isBytes x5 (fP (uK u.toNat x5++List.drop x5 x2))) (.ret (.c (.v (.string ⟨⟨bytesOf x5 (fP (uK u.toNat x5++List.drop x5 x2))⟩⟩))))))))))
theorem UL(w:Way AB)(x:AB):(exec Tryz.prog (λ_=>none) bX 1010 (bn 0 (codeOf Tryz.f126)) (iQ (Jw w).nIn ((Jw w).head x))).bind ((Jw w).fin 0 0)=zR x.u x.n x.n2 x.i x.l:=by
 obtain⟨u,n,n2,i,l⟩:=x
 kernel_rfl
theorem aio(u:Int):aI Tryz.prog aoA aad 1010 Tryz.f126 [.c (.v (.int .u64 u))]=aoB u:=by kernel_rfl
theorem OH(l:List UInt8)(k:Nat)(b:Nat)(hk:k<l.length)(hb:b<256):bytesOf l.length (aP (fP l) k 0 [IV.v (.int .u8 (b:Int))].reverse)=l.set k (UInt8.ofNat b)∧isBytes l.length (aP (fP l) k 0 [IV.v (.int .u8 (b:Int))].reverse)=true:=by
 have hel: ∀i,aP (fP l) k 0 [IV.v (.int .u8 (b:Int))].reverse i=if i=k then [IV.v (.int .u8 (b:Int))]else fP l i:=by
  intro i;unfold aP
  split
  ·rename_i h;subst h;simp[fP]
  ·rfl
 constructor
 ·apply List.ext_getElem
  ·simp[bytesOf]
  ·intro i h1 h2
   simp only[bytesOf,List.getElem_map,List.getElem_range,hel];by_cases hi:i=k
   ·subst hi
    simp[byteOf]
   ·have hil:i<l.length:=by simpa[bytesOf]using h1
    rw[if_neg hi,List.getElem_set_ne (by omega)];simp[fP,BJ,dR,hil]
 ·refine List.all_eq_true.2 λi hi=> ?_
  rw[hel]
  split
  ·simp[isByte];omega
  ·have:=kW l.length l
   exact List.all_eq_true.1 this i hi
theorem adu(u i:Nat)(hi:i<8):IntKind.u8.wrap ((u:Int).fdiv (2^min (8*i) IntKind.u64.bits))=((u/256^i%256:Nat):Int):=by
 have e1:min (8*i) IntKind.u64.bits=8*i:=by
  change min (8*i) 64=8*i
  omega
 rw[e1];have e2:((2:Int)^(8*i))=((256^i:Nat):Int):=by
  rw[show(256:Nat)=2^8 from rfl, ←Nat.pow_mul];simp
 rw[e2,lH,wrap_u8];simp
theorem set_mid(A B:List UInt8)(x b:UInt8):(A++x::B).set A.length b=A++b::B:=by
 simp[List.set_append]
theorem UM(u n i:Nat)(l:List UInt8)(hn:n≤8)(hi:i<n)(hl:l.length=8){R:AB ⊕ AB→Prop}
  (hin:R (.inl ⟨u,n,n,((i+1:Nat):Int),l.set (n-1-i) (UInt8.ofNat (u/256^i%256))⟩)):(zR (u:Nat) (n:Nat) (n:Nat) (i:Nat) l).sat R:=by
 have w1:IntKind.i64.wrap (8*(i:Int))=((8*i:Nat):Int):=jR;have w2:IntKind.i64.wrap ((n:Int)-1)=(n:Int)-1:=wrap_i64 (by omega);have w3:IntKind.i64.wrap ((n:Int)-1-i)=((n-1-i:Nat):Int):=jR;have w4:IntKind.i64.wrap ((i:Int)+1)=((i+1:Nat):Int):=jR;obtain⟨s1,s2⟩:=OH l (n-1-i) (u/256^i%256) (by omega) (Nat.mod_lt _ (by decide));rw[hl]at s1 s2;unfold zR;simp only[w1,w2,w3,w4,Int.toNat_natCast,adu u i (by omega),s1,s2];exact au (λ_=>ah (bQ) (ah (bQ) (ah (bQ) (ah rfl (av hin))))) (λh=>absurd (show(i:Int)<(n:Nat)by omega) (of_decide_eq_false h))
theorem Dh(u:Nat): ∀k,(uK u k).length=k
 | 0=>rfl
 | k+1=>by simp[uK,Dh u k]
theorem Yl(u n:Nat)(l0:List UInt8)(hn:n≤8)(hl:l0.length=8)(Q:AB→Prop)(hq:Q ⟨u,n,n,n,uK u n++l0.drop n⟩): ∀(k i:Nat),i+k=n→
  dJ (λx:AB=>zR x.u x.n x.n2 x.i x.l) Q (k+1) ⟨u,n,n,i,l0.take (n-i)++(uK u i++l0.drop n)⟩
 | 0,i,hi=>by
   obtain rfl:i=n:=by omega
   have hlen:(uK u i++l0.drop i).length=8:=by rw[List.length_append,Dh,List.length_drop];omega
   unfold dJ;rw[Nat.sub_self,List.take_zero,List.nil_append]
   change Tr.sat _ (zR (u:Nat) (i:Nat) (i:Nat) (i:Nat) (uK u i++l0.drop i))
   unfold zR;have e8:bytesOf 8 (fP (uK u i++l0.drop i))=uK u i++l0.drop i:=by rw[←hlen,pQ]
   rw[e8];exact au (λh=>absurd (j4 h) (Int.lt_irrefl _)) (λ_=>ah (kW _ _) (av hq))
 | k+1,i,hi=>by
   have ih:=Yl u n l0 hn hl Q hq k (i+1) (by omega);have ht:l0.take (n-i)=l0.take (n-1-i)++[l0[n-1-i]'(by omega)]:=by
    rw[show n-i=(n-1-i)+1 by omega];exact List.take_succ_eq_append_getElem (by omega)
   refine UM u n i _ hn (by omega) (by simp only[List.length_append,List.length_take,Dh,List.length_drop];omega) ?_;rw[ht,List.append_assoc,List.singleton_append];have hA:(l0.take (n-1-i)).length=n-1-i:=by rw[List.length_take];omega
   have hs:=set_mid (l0.take (n-1-i)) (uK u i++l0.drop n) (l0[n-1-i]'(by omega)) (UInt8.ofNat (u/256^i%256));rw[hA]at hs;rw[hs];have e:n-(i+1)=n-1-i:=by omega
   rw[e]at ih;exact ih
theorem UN:bF Tryz.prog 0 aad (codeOf Tryz.f126):=by
 refine bG (d:=λid=>Nat.beq id 0) (λid=>by unfold aad;cases Nat.beq id 0<;>rfl) _ ?_;have hb:bU (λid=>Nat.beq id 0) (codeOf Tryz.f126)=[(0,.loop (bn 0 (codeOf Tryz.f126)))]:=by kernel_rfl
 rw[hb];intro p hp g hg;simp only[List.mem_singleton]at hp;subst hp;have hh:aad 0=some ((Jw zi).g 0):=rfl;rw[hh]at hg;obtain rfl:g=(Jw zi).g 0:=(Option.some.inj hg).symm;refine aZ.sU (N:=1010) aj eP (L:=bX) (ak 0 _) (UK _) (UL zi) ?_;rintro⟨u,n,n2,i,l⟩ hx;have hx:zi.pre ⟨u,n,n2,i,l⟩=true:=hx;simp only[zi,jV,cu,fT]at hx;obtain⟨⟨⟨⟨⟨⟨h1,h2⟩,rfl⟩,rfl⟩,h5⟩,h6⟩,h7⟩:=hx;obtain⟨u,rfl⟩: ∃m:Nat,u=m:=⟨u.toNat,by omega⟩
 obtain⟨n,rfl⟩: ∃m:Nat,n2=m:=⟨n2.toNat,by omega⟩
 have:=Yl u n l (by omega) h7 (· =zi.res ⟨u,n,n,0,l⟩) (by simp[zi]) n 0 (by omega);have e:l.take (n-0)++(uK u 0++l.drop n)=l:=by simp[uK]
 rw[e]at this;exact⟨_,this⟩
theorem Mw: ∀(k u:Nat),uK u (k+1)=uK (u/256) k++[UInt8.ofNat (u%256)]
 | 0,u=>by simp[uK]
 | k+1,u=>by
   rw[uK,Mw k u,uK];rw[Nat.div_div_eq_div_mul, ←Nat.pow_succ'];rfl
theorem Mx: ∀(k u:Nat),u<256^k→(k=0∨256^(k-1)≤u)→uK u k=aA u
 | 0,u,h,_=>by
   have:u=0:=by simpa using h
   subst this;rw[iD];rfl
 | k+1,u,h,h2=>by
   have hu:0<u:=by
    have:=h2.resolve_left (by omega);have hp:0<256^(k+1-1):=Nat.pow_pos (by decide);omega
   rw[Mw,tQ hu]
   congr 1
   refine Mx k (u/256) ?_ ?_
   ·rw[Nat.pow_succ]at h;omega
   ·by_cases hk:k=0
    ·exact .inl hk
    ·right
     have:=h2.resolve_left (by omega);rw[show k+1-1=(k-1)+1 by omega,Nat.pow_succ]at this;omega
def ni(u:Nat):Nat:=(bitLen u+7)/8
theorem Q9{u:Nat}(h:0<u):uK u (ni u)=aA u:=by
 have h1:u<2^bitLen u:=bitLen_le.1 (Nat.le_refl _);have h2: ¬u<2^(bitLen u-1):=λhh=>by
  have hb:bitLen u≠0:=λhz=>by rw[hz]at h1;simp at h1;omega
  have:=bitLen_le.2 hh;omega
 have hb:0<bitLen u:=by
  rcases Nat.eq_zero_or_pos (bitLen u)with hz|hz
  ·rw[hz]at h1;simp at h1;omega
  ·exact hz
 refine Mx _ u ?_ (.inr ?_)
 ·rw[show(256:Nat)=2^8 from rfl, ←Nat.pow_mul]
  have:2^bitLen u≤2^(8*ni u):=Nat.pow_le_pow_right (by omega) (by unfold ni;omega);omega
 ·rw[show(256:Nat)=2^8 from rfl, ←Nat.pow_mul]
  have:2^(8*(ni u-1))≤2^(bitLen u-1):=Nat.pow_le_pow_right (by omega) (by unfold ni;omega);omega
def OI:List AV→Option (AV×List Bool)
 | [.c (.v (.int .u64 n))]=>some (oq (aA n.toNat),[jV n])
 | _=>none
theorem adv(u:Nat)(hu:u<18446744073709551616):(aoB (u:Nat)).sat λr=>r=oq (aA u):=by
 have hb:bitLen u≤64:=bitLen_le.2 (by simpa using hu);have w1:IntKind.i64.wrap (((bitLen u:Nat):Int)+7)=((bitLen u+7:Nat):Int):=jR;have w2:IntKind.i64.wrap ((((bitLen u+7:Nat):Int)).tdiv 8)=((ni u:Nat):Int):=by
  have:(((bitLen u+7:Nat):Int)).tdiv 8=((ni u:Nat):Int):=rfl;rw[this,wrap_i64 (by unfold ni;omega)]
 have hk:ni u≤8:=by unfold ni;omega
 have hU:jV ((u:Nat):Int)=true:=by simp[jV];omega
 unfold aoB;simp only[Int.toNat_natCast,w1,w2];refine au (λh=> ?_) (λh=> ?_)
 ·have h:=eq_of_beq h
  obtain rfl:u=0:=by omega
  rw[iD];exact av rfl
 ·have hpos:0<u:=by
   rcases Nat.eq_zero_or_pos u with hz|hz
   ·subst hz;cases h
   ·exact hz
  rw[Q9 hpos];have hlen:(aA u).length=ni u:=by rw[←Q9 hpos,Dh]
  have e1:bytesOf (ni u) (fP (aA u++List.drop (ni u) (bytesOf 8 λ_=>List.map IV.v [Value.int IntKind.u8 0])))=aA u:=by
   apply List.ext_getElem
   ·simp[bytesOf,hlen]
   ·intro i h1 h2
    have hi:i<(aA u).length:=h2;simp[bytesOf,fP,BJ,dR,List.getElem?_append_left hi];rw[List.getElem?_eq_getElem hi];rfl
  rw[e1];refine ah hU (ah rfl (ah rfl (ah ?_ (ah (bQ) (ah (kW _ _) (av rfl))))));have e8:(bytesOf 8 λ_=>List.map IV.v [Value.int IntKind.u8 0]).length=8:=rfl;simp only[zh,hU,Bool.true_and,cu,fT,true_and,and_true];omega
theorem aip: ∀f s,aoA f=some s→aR Tryz.prog f s:=bS ain.spec
theorem zS:aN Tryz.prog 126 OI:=by
 refine aM aj aip (fn:=Tryz.f126) (c:=codeOf Tryz.f126) (by kernel_rfl) (by kernel_rfl) (aG (fn:=Tryz.f126) (c:=codeOf Tryz.f126) (by kernel_rfl) (by kernel_rfl) (by kernel_rfl)) (L:=aad) (N:=1010) UN ?_ ?_
 ·intro args v cs h
  unfold OI at h
  split at h
  ·cases h;rfl
  ·cases h
 ·intro args v cs h hc
  unfold OI at h
  split at h
  ·rename_i n
   cases h;have hr:jV n=true:=hc (jV n) (List.mem_singleton.2 rfl);simp only[jV,cu,fT]at hr;obtain⟨m,rfl⟩: ∃m:Nat,n=m:=⟨n.toNat,by omega⟩
   have hs:=adv m (by omega);rw[←aio]at hs;rw[Int.toNat_natCast];generalize aI Tryz.prog aoA aad 1010 Tryz.f126 [.c (.v (.int .u64 ((m:Nat):Int)))]=T at hs⊢;generalize aA m=l at hs⊢;exact Tr.bC (λr hr=>⟨by subst hr;rfl,bM.of_eq hr⟩) hs
  ·cases h
end Go.bI
namespace Go.bI
open Go.Proofs
def wH(l:List Int):Nat→List IV:=λk=> [.v (.int .i64 (l.getD k 0))]
def UO:List IV→Int
 | [.v (.int .i64 n)]=>n
 | _=>0
def adw:List IV→Bool
 | [.v (.int .i64 _)]=>true
 | _=>false
def nQ(n:Nat)(el:Nat→List IV):List Int:=(List.range n).map λk=>UO (el k)
def vT(n:Nat)(el:Nat→List IV):Bool:=(List.range n).all λk=>adw (el k)
theorem Jz(n:Nat)(el:Nat→List IV):(nQ n el).length=n:=by simp[nQ]
theorem MB{n:Nat}{el:Nat→List IV}(h:vT n el=true): ∀k,k<n→el k=wH (nQ n el) k:=by
 intro k hk;have h1:=List.all_eq_true.1 h k (List.mem_range.2 hk);have e:(nQ n el).getD k 0=UO (el k):=by simp[nQ,dR,hk]
 unfold wH;rw[e];unfold adw at h1
 split at h1
 ·rename_i hh;rw[hh];rfl
 ·cases h1
theorem MC(l:List Int)(n:Nat):vT n (wH l)=true:=List.all_eq_true.2 λ_ _=>rfl
theorem ME(l:List Int):nQ l.length (wH l)=l:=by
 apply List.ext_getElem
 ·simp[nQ]
 ·intro i h1 h2
  simp[nQ,wH,UO,dR,h2]
def iX:List Int→Int
 | []=>0
 | a::l=>if a=0 then iX l else a
structure JA where
 l:List Int
 i:Int
structure OJ where
 ret:Bool
 v:Int
def OL(x:JA):List AV×List (Option jk):=([dn .i64 0,dn .i64 0,.c (.sl x.l.length 1 (wH x.l)),dn .i64 (x.l.length:Nat),dn .i64 x.i],[])
def OM:List AV×List (Option jk)→Option (JA×List Bool)
 | ([.c (.v (.int .i64 y)),.c (.v (.int .i64 z)),.c (.sl n 1 el),.c (.v (.int .i64 n')),.c (.v (.int .i64 i))],[])=>some (⟨nQ n el,i⟩,[decide (y=0),decide (z=0),decide (n'=(n:Int)),vT n el])
 | _=>none
def JB:Ex×(List AV×List (Option jk))→Option (OJ×List Bool)
 | (.normal,([.c (.v (.int .i64 v)),.c (.v (.int .i64 z))],[]))=>some (⟨false,v⟩,[decide (z=0)])
 | (.ret,([.c (.v (.int .i64 v)),.c (.v (.int .i64 z))],[]))=>some (⟨true,v⟩,[decide (z=0)])
 | _=>none
structure aiq (X R:Type) where
 res:X→R
 pre:X→Bool
def JC(w:aiq JA OJ):aZ JA OJ where
 nIn:={nt:=18,live:=[2,3,6,7,8]}
 rD:={nt:=18,live:=[2,3]}
 head:=OL
 take:=OM
 out:=λr=>(bif r.ret then .ret else .normal,([dn .i64 r.v,dn .i64 0],[]))
 jC:=JB
 res:=w.res
 pre:=w.pre
 split:=λr=> .ite r.ret (.ret {r with ret:=true}) (.ret {r with ret:=false})
theorem UQ(w:aiq JA OJ):(JC w).gI where
 take:=by
  intro q x cs h hc
  change OM q=some (x,cs)at h
  unfold OM at h
  split at h
  ·rename_i y z n el n' i
   simp only[fK,Prod.mk.injEq]at h;obtain⟨rfl,rfl⟩:=h;have hy:y=0:=dec (hc (decide (y=0)) (by simp));have h0:z=0:=dec (hc (decide (z=0)) (by simp));subst hy;have h1:n'=(n:Int):=dec (hc (decide (n'=(n:Int))) (by simp));have h2:vT n el=true:=hc (vT n el) (by simp);subst h0;subst h1;refine⟨?_,dz.refl _⟩
   show eY _ (OL _).1
   simp only[OL,Jz];exact .cons (bM.refl _) (.cons (bM.refl _) (.cons (bM.sl (MB h2)) (.cons (bM.refl _) (.cons (bM.refl _) .nil))))
  ·cases h
 jC:=by
  intro e q r cs h hc
  change JB (e,q)=some (r,cs)at h
  unfold JB at h
  split at h
  ·rename_i hq
   cases hq;cases h;obtain rfl:=j4 (hc _ (List.mem_singleton.2 rfl));exact⟨rfl,eY.refl _,dz.refl _⟩
  ·rename_i hq
   cases hq;cases h;obtain rfl:=j4 (hc _ (List.mem_singleton.2 rfl));exact⟨rfl,eY.refl _,dz.refl _⟩
  ·cases h
 split:=by
  intro r Q h;obtain⟨b,v⟩:=r;cases b with
  | true=>exact h.1 rfl
  | false=>exact h.2 rfl
def zk:aiq JA OJ:=⟨λx=>⟨iX (x.l.drop x.i.toNat) !=0,iX (x.l.drop x.i.toNat)⟩,λx=>decide (0≤x.i)&&decide (x.i≤(x.l.length:Nat))&&decide (x.l.length≤1000)⟩
def aae:Nat→Option (St→Tr (Ex×St)):=λid=>bif Nat.beq id 0 then some ((JC zk).g 0)else none
def gW(a b:Int):Int:=if a<b then -1 else if a>b then 1 else 0
def air:List AV→Option (AV×List Bool)
 | [.c (.v (.int .i64 _))]=>some (bL false,[])
 | _=>none
def UR:List AV→Option (AV×List Bool)
 | [.c (.v (.int .i64 a)),.c (.v (.int .i64 b))]=>some (dn .i64 (gW a b),[])
 | _=>none
def aaf:List AV→Option (AV×List Bool)
 | [.c (.sl n 1 el)]=>some (dn .i64 (iX (nQ n el)),[vT n el,decide (n≤1000)])
 | _=>none
def aoC:FuncId→Option Spec:=λf=>bif Nat.beq f 162 then some (ay air)else none
def aoD:FuncId→Option Spec:=λf=>bif Nat.beq f 113 then some (ay adq)else none
def aoE:FuncId→Option Spec:=λf=>bif Nat.beq f 306 then some (ay oh)else none
def aoF:FuncId→Option Spec:=λf=>bif Nat.beq f 292 then some (ay oh)else none
def aoG:FuncId→Option Spec:=λf=>bif Nat.beq f 111 then some (ay UR)else bif Nat.beq f 262 then some (ay oh)else bif Nat.beq f 109 then some (ay aaf)else none
def aoH:FuncId→Option Spec:=λf=>bif Nat.beq f 125 then some (ay OG)else none
def aoI:FuncId→Option Spec:=λf=>bif Nat.beq f 125 then some (ay OG)else bif Nat.beq f 126 then some (ay OI)else none
end Go.bI
namespace Go.bI
open Go.Proofs
def asQ(a:Int):Tr AV:=
 .ret (.c (.v (.bool (a !=a))))
def aoJ(a:Int)(b:Int):Tr AV:=
 .ite false (.ite false (.ret (.c (.v (.int IntKind.i64 0)))) (.ret (.c (.v (.int IntKind.i64 (-1)))))) (.ite false (.ret (.c (.v (.int IntKind.i64 1)))) (.ite (decide (a<b)) (.ret (.c (.v (.int IntKind.i64 (-1))))) (.ite (decide (a>b)) (.ret (.c (.v (.int IntKind.i64 1)))) (.ret (.c (.v (.int IntKind.i64 0)))))))
def HV(l:List Int)(i:Int):Tr (JA ⊕ OJ):=
 let x1:Int:= ↑l.length
 let x2:Int:=l.getD i.toNat 0
 .ite (decide (i<x1)) (.need (decide (0≤i∧i<x1)) (.ite (x2 !=0) (.need true (.ret (Sum.inr {ret:=true,v:=x2}))) (.need true (.need true (.need (decide (x1=x1)) (.need (vT l.length (wH l)) (.ret (Sum.inl {l:=nQ l.length (wH l),i:=IntKind.i64.wrap (i+1)})))))))) (.need true (.ret (Sum.inr {ret:=false,v:=0})))
def aoK(l:List Int):Tr AV:=
 let x1:Int:= ↑l.length
 let x2:List Int:=nQ l.length (wH l)
 let x3:Nat:=x2.length
 let x4:Int:= ↑x3
 let x5:Int:=iX (List.drop (Int.toNat 0) x2)
 .need true (.need true (.need (decide (x1=x1)) (.need (vT l.length (wH l)) (.need (decide (0≤0)&&decide (0≤x4)&&decide (x3≤1000)) (.ite (x5 !=0) (.ret (.c (.v (.int IntKind.i64 x5)))) (.ret (.c (.v (.int IntKind.i64 0)))))))))
def asR(a:ByteArray)(b:ByteArray):Tr AV:=
 .ret (.c (.v (.int IntKind.i64 (Lib.compareBytes a.data.toList b.data.toList))))
def asS(a:ByteArray)(b:ByteArray):Tr AV:=
 .ret (.c (.v (.int IntKind.i64 (Lib.compareBytes a.data.toList b.data.toList))))
def aoL(a:ByteArray)(b:ByteArray):Tr AV:=
 .need (bif iq a then true else true) (.ret (AV.iC [.c (.v (.int IntKind.u64 (bif iq a then iZ a else iZ a))),.c (.v (.int IntKind.u64 (bif iq a then iZ b else iZ b))),.c (.v (.bool (bif iq a then bif true then iq b else false else false)))]))
def aoM(a:ByteArray)(b:ByteArray):Tr AV:=
 let x1:Nat:=0+1
 let x2:List UInt8:=a.data.toList
 let x3:List UInt8:=b.data.toList
 .need true (.need true (.need true (.ret (.c (.v (.int IntKind.i64 (iX (nQ 2 λk=>List.take x1 (List.drop (k*x1) [IV.v (.int IntKind.i64 (Lib.compareBytes x2 x3)),IV.v (.int IntKind.i64 (gW ↑x2.length ↑x3.length))].reverse)))))))))
def aoN(p:Bool)(a:ByteArray):Tr AV:=
 .ite (a.data.toList==[]) (.ret (.c (.v (.int IntKind.i64 0)))) (.ite p (.ret (.c (.v (.int IntKind.i64 (-1))))) (.ret (.c (.v (.int IntKind.i64 1)))))
def aoO(p:Bool)(a:ByteArray):Tr AV:=
 .ret (AV.agg [.c (.v (.bool (!p&& !a.data.toList==[]))),.c (.v (.string a))])
def aoP(n:Int):Tr AV:=
 let x1:Int:=IntKind.u64.wrap (0-IntKind.u64.wrap n)
 let x2:List UInt8:=aA x1.toNat
 let x3:List UInt8:=aA (IntKind.u64.wrap n).toNat
 .ite (decide (n<0)) (.need (jV x1) (.ret (AV.agg [.c (.v (.bool (decide (n<0)&& !x2==[]))),.c (.v (.string ⟨⟨x2⟩⟩))]))) (.need (jV (IntKind.u64.wrap n)) (.ret (AV.agg [.c (.v (.bool (decide (n<0)&& !x3==[]))),.c (.v (.string ⟨⟨x3⟩⟩))])))
theorem ais(a:Int):aI Tryz.prog (λ_=>none) bX 1010 Tryz.f162 [.c (.v (.int .i64 a))]=asQ a:=by kernel_rfl
theorem ait(a b:Int):aI Tryz.prog aoC bX 1010 Tryz.f111 [.c (.v (.int .i64 a)),.c (.v (.int .i64 b))]=aoJ a b:=by kernel_rfl
theorem UU(w:aiq JA OJ)(x:JA):(exec Tryz.prog (λ_=>none) bX 1010 (bn 0 (codeOf Tryz.f109)) (iQ (JC w).nIn ((JC w).head x))).bind ((JC w).fin 0 0)=HV x.l x.i:=by
 obtain⟨l,i⟩:=x
 kernel_rfl
theorem aiu(l:List Int):aI Tryz.prog (λ_=>none) aae 1010 Tryz.f109 [.c (.sl l.length 1 (wH l))]=aoK l:=by kernel_rfl
theorem aiv(a b:ByteArray):aI Tryz.prog aoE bX 1010 Tryz.f292 [.c (.v (.string a)),.c (.v (.string b))]=asR a b:=by kernel_rfl
theorem aiw(a b:ByteArray):aI Tryz.prog aoF bX 1010 Tryz.f262 [.c (.v (.string a)),.c (.v (.string b))]=asS a b:=by kernel_rfl
theorem aix(a b:ByteArray):aI Tryz.prog aoD bX 1010 Tryz.f256 [.c (.v (.string a)),.c (.v (.string b))]=aoL a b:=by kernel_rfl
theorem aiy(a b:ByteArray):aI Tryz.prog aoG bX 1010 Tryz.f226 [.c (.v (.string a)),.c (.v (.string b))]=aoM a b:=by kernel_rfl
theorem aiz(p:Bool)(a:ByteArray):aI Tryz.prog (λ_=>none) bX 1010 Tryz.f193 [.agg [.c (.v (.bool p)),.c (.v (.string a))]]=aoN p a:=by kernel_rfl
theorem aiA(p:Bool)(a:ByteArray):aI Tryz.prog aoH bX 1010 Tryz.f191 [.agg [.c (.v (.bool p)),.c (.v (.string a))]]=aoO p a:=by kernel_rfl
theorem aiB(n:Int):aI Tryz.prog aoI bX 1010 Tryz.f70 [.c (.v (.int .i64 n))]=aoP n:=by kernel_rfl
def iv(p:Bool)(s:ByteArray):Int:=bif p then -(aO s.data.toList:Int)else(aO s.data.toList:Int)
def iL(p:Bool)(s:ByteArray):Bool:=canon s.data.toList&&(!p || !(s.data.toList==[]))
def dD(z:Int):AV:= .agg [.c (.v (.bool (decide (z<0)))),oq (aA z.natAbs)]
theorem kL{l:List UInt8}(h:canon l=true):aO l=0↔l=[]:=by
 constructor
 ·intro h0
  have:=jy l h;rw[h0,iD]at this;exact this.symm
 ·rintro rfl;rfl
theorem aoQ{p:Bool}{s:ByteArray}(h:iL p s=true):decide (iv p s<0)=p:=by
 simp only[iL,cu,Bool.or_eq_true,Bool.not_eq_true',beq_eq_false_iff_ne]at h;cases p with
 | false=>exact jK (by simp only[iv,cond_false];omega)
 | true=>
   refine fZ ?_;have h2:=h.2.resolve_left (by simp);have:aO s.data.toList≠0:=λh0=>h2 ((kL h.1).1 h0)
   simp only[iv,cond_true];omega
theorem adx(p:Bool)(s:ByteArray):(iv p s).natAbs=aO s.data.toList:=by
 cases p<;>simp[iv]
theorem zT{p:Bool}{s:ByteArray}(h:iL p s=true):AV.agg [.c (.v (.bool p)),.c (.v (.string s))]=dD (iv p s):=by
 have hc:canon s.data.toList=true:=by
  simp only[iL,cu]at h;exact h.1
 unfold dD;rw[aoQ h,adx,jy _ hc];rfl
theorem wI(c:UInt8)(l:List UInt8):aO (c::l)=c.toNat*256^l.length+aO l:=by
 induction l using Db with
 | h0=>simp[aO]
 | h1 l d ih=>
   rw[←List.cons_append,mZ,mZ,ih,List.length_append,List.length_singleton,Nat.pow_succ];rw[Nat.add_mul,Nat.mul_assoc];omega
theorem uY(a b:Nat):gW (a:Int) (b:Int)=if a<b then -1 else if b<a then 1 else 0:=by
 unfold gW;by_cases h:a<b
 ·rw[if_pos (by omega),if_pos h]
 ·rw[if_neg (by omega),if_neg h]
  by_cases h2:b<a
  ·rw[if_pos (by omega),if_pos h2]
  ·rw[if_neg (by omega),if_neg h2]
theorem Ra: ∀(a b:List UInt8),a.length=b.length→Lib.compareBytes a b=gW (aO a:Int) (aO b:Int)
 | [],[],_=>by simp[Lib.compareBytes,gW]
 | x::a,y::b,h=>by
   have h:a.length=b.length:=by simpa using h
   have ih:=Ra a b h;have ha:=uW a;have hb:=uW b;rw[h]at ha;unfold Lib.compareBytes;rw[uY,wI,wI,h];rw[uY]at ih;by_cases h1:x<y
   ·have h1':x.toNat<y.toNat:=h1
    have:(x.toNat+1)*256^b.length≤y.toNat*256^b.length:=Nat.mul_le_mul_right _ h1';rw[Nat.add_mul]at this;rw[if_pos h1,if_pos (by omega)]
   ·rw[if_neg h1]
    by_cases h2:y<x
    ·have h2':y.toNat<x.toNat:=h2
     have:(y.toNat+1)*256^b.length≤x.toNat*256^b.length:=Nat.mul_le_mul_right _ h2';rw[Nat.add_mul]at this;rw[if_pos h2,if_neg (by omega),if_pos (by omega)]
    ·have h1': ¬x.toNat<y.toNat:=h1
     have h2': ¬y.toNat<x.toNat:=h2;have hxy:x.toNat=y.toNat:=by omega
     rw[if_neg h2,ih,hxy];simp only[Nat.add_lt_add_iff_left]
 | [],_::_,h=>by simp at h
 | _::_,[],h=>by simp at h
theorem ady{a b:List UInt8}(hb:canon b=true)(h:a.length<b.length):aO a<aO b:=by
 cases b with
 | nil=>simp at h
 | cons c l=>
   have hc:c≠0:=by simpa[canon]using hb
   have h1:=uX (l:=l) hc;have h2:=uW a;have:256^a.length≤256^l.length:=Nat.pow_le_pow_right (by omega) (by simp at h;omega);omega
theorem Rb(a b:List UInt8)(ha:canon a=true)(hb:canon b=true):iX [gW (a.length:Int) (b.length:Int),Lib.compareBytes a b]=gW (aO a:Int) (aO b:Int):=by
 rw[uY,uY];rcases Nat.lt_trichotomy a.length b.length with h|h|h
 ·have:=ady hb h
  rw[if_pos h,if_pos this];rfl
 ·rw[if_neg (by omega),if_neg (by omega),Ra a b h,uY]
  by_cases h1:aO a<aO b
  ·simp[iX,h1]
  ·by_cases h2:aO b<aO a
   ·simp[iX,h1,h2]
   ·simp[iX,h1,h2]
 ·have:=ady ha h
  rw[if_neg (by omega),if_pos h,if_neg (by omega),if_pos this];rfl
end Go.bI
namespace Go.bI
open Go.RowKit
section
variable{P:Program}{Γ:FuncId→Option Spec}
theorem dz.own{C:Ctx}{B:eB}{l l':List (Option jk)}(h:dz l l')(b:Nat):aT C.A0 B (gQ l') b→aT C.A0 B (gQ l) b:=by
 have hm2: ∀s,qK (gQ l s) (gQ l' s):=h.len.2;rintro(h|⟨s,e,h1,h2⟩)
 ·exact .inl h
 ·have:=hm2 s
  rw[h1]at this;generalize hq:gQ l s=q at this;cases this with
  | refl=>exact .inr ⟨s,e,hq,h2⟩
  | arr n sz el jw t _=>exact .inr ⟨s,_,hq,h2⟩
  | cells l m t _=>exact .inr ⟨s,_,hq,h2⟩
theorem yw{L:Nat→Nat→Option (St→Tr (Ex×St))}(hm:P.follows .mixedOrders=true)(hΓ: ∀f s,Γ f=some s→aR P f s){f:FuncId}{fn:Func}{c:Code}(hf:P.funcs[f]? =some fn)(hb:fn.body=some c)
  (hcall: ∀args w,(callFunc f args).run P w= .ok (.enter f args) w) {K:rX} {N:Nat} {Bg:Bool}
  (hl: ∀ents args o,K ents args=some o→bF P ents.length (L ents.length) c)
  (h: ∀ents args o,K ents args=some o→(∀p∈o.conds,p)→ ∃anO args',dz ents anO∧eY args args'∧
   (wG P Γ (L ents.length) N Bg fn anO args').sat λo'=>bM o'.val o.val∧dz (o'.outs++[o'.new]) (o.outs++[o.new])):uT P f K where
 sound:=by
  intro Ym JD o C B w vs ho hC hk0 H0 aoR hconds;refine iW.enter hf ⟨hcall _ _,calls_of_wp hf hb ?_⟩;obtain⟨ents,args,heq,adz,hs⟩:=h Ym JD o ho hconds;have hel:Ym.length=ents.length:=heq.len.1;have H:Holds C B (nI ents ents.length) GQ w:=by
   have:=H0.eqv (m:=gQ ents) heq.len.2;rw[hel]at this;exact this
  have hargs:eF (aT C.A0 B (gQ ents)) B w args vs:=by
   have h1:=adz.Oz aoR;exact⟨h1.1,λj hj=>(h1.2 j hj).trans (Trans.refl _ _) (λb _ hb=>heq.own b hb) (λ_ _ h=>h)⟩
  unfold wG at hs;rw[hb]at hs;simp only at hs;have hlen:vs.length=args.length:=hargs.1;have H1:Holds C B (qL ents args fn.ntmps) {tmps:=vs.toArray++Array.replicate (fn.ntmps-vs.toArray.size) undef,defers:=[]} w:=by
   refine{H with defers:=rfl,size:=by simp[qL,hlen],tm:=?_};intro t ht;by_cases hlt:t<args.length
   ·have:=hargs.2 t hlt
    have hlt':t<vs.length:=by omega
    simpa[qL,dR,oQ,List.getElem?_append_left hlt,Array.getElem?_append,hlt,hlt']using this
   ·have ht':t-args.length<fn.ntmps-args.length:=by simp only[qL,List.length_append,List.length_replicate]at ht;omega
    have hlt': ¬t<vs.length:=by omega
    have e1:(qL ents args fn.ntmps).tm.getD t .any= .c (.v undef):=by
     simp[qL,dR,List.getElem?_append_right (Nat.le_of_not_lt hlt),List.getElem?_replicate,ht']
    have e2:(vs.toArray++Array.replicate (fn.ntmps-vs.toArray.size) undef).getD t undef=undef:=by
     simp[oQ,Array.getElem?_append,hlt',Array.getElem?_replicate,hlen,ht',hlt]
    show aV _ _ _ _ _
    rw[e1];simp only[]at e2⊢;rw[e2];exact aV.lit _
  refine Code.wp_mono ?_ (qJ<| gG hm (zO hΓ _) hC c (by rw[hk0];exact hl Ym JD o ho) _ _ _ _ _ (Tr.gP hs) H1);rintro e a' w' ⟨ex,S',B',rfl,H',hq⟩
  have key:(Da P fn ents.length Bg S').sat (λo'=>bM o'.val o.val∧dz (o'.outs++[o'.new]) (o.outs++[o.new]))→
    a'.defers=[]∧ ∃v,(results fn a'.tmps).run P w'= .ok v w'∧ ∃v' B',Ending.returned v= .returned v'∧Holds C B' (nI (o.outs++[o.new]) (Ym.length+1)) GQ w'∧aV (aT C.A0 B' (gQ (o.outs++[o.new]))) B' w' o.val v':=by
   intro hfin;obtain⟨v,B2,o',hrun,⟨OC,heqv⟩,H2,hrel,hol⟩:=Bh hC (hk0.trans hel) H' hfin;refine⟨H'.defers,v,hrun,v,B2,rfl,?_⟩;have hm2: ∀s,qK (gQ (o'.outs++[o'.new]) s) (gQ (o.outs++[o.new]) s):=heqv.len.2;rw[hel];exact⟨H2.eqv hm2,OC _ _ _ _ (hrel.trans (Trans.refl _ _) (λb _ h=>heqv.own b h) (λ_ _ h=>h))⟩
  cases ex with
  | normal=>exact key hq
  | ret=>exact key hq
  | exit id=>exact hq.elim
theorem nk{L:Nat→Option (St→Tr (Ex×St))}(hm:P.follows .mixedOrders=true)(hΓ: ∀f s,Γ f=some s→aR P f s){f:FuncId}{fn:Func}{c:Code}(hf:P.funcs[f]? =some fn)(hb:fn.body=some c)
  (hcall: ∀args w,(callFunc f args).run P w= .ok (.enter f args) w) {K:List AV→Option (AV×List Bool)} {N:Nat} (hl:bF P 0 L c)
  (hn: ∀args v cs,K args=some (v,cs)→bI.fu v=true)
  (h: ∀args v cs,K args=some (v,cs)→(∀p∈cs,p)→ ∃args',eY args args'∧(aI P Γ L N fn args').sat λr=>bI.fu r=true∧bM r v):aN P f K where
 sound:=λargs v cs hk=>⟨hn args v cs hk,λA w vs hA hc hargs=>by
  obtain⟨args',adz,hs⟩:=h args v cs hk hc;refine iW.enter hf ⟨hcall _ _,(Bc hm hΓ hf hb hl hs hA (adz.Oz hargs)).mono ?_⟩;rintro e w' ⟨r,u,OC,_,rfl,hrel,hb⟩;exact⟨u,rfl,OC _ _ _ _ hrel,hb⟩⟩
end
end Go.bI
namespace Go.bI
open Go.Proofs
theorem adA(a b:Int):(aoJ a b).sat λr=>r=dn .i64 (gW a b):=by
 unfold aoJ gW;refine au (λh=>Bool.noConfusion h) (λ_=>au (λh=>Bool.noConfusion h) (λ_=>au (λh=> ?_) (λh=> ?_)))
 ·rw[if_pos (j4 h)];exact av rfl
 ·rw[if_neg (of_decide_eq_false h)]
  refine au (λh=> ?_) (λh=> ?_)
  ·rw[if_pos (j4 h)];exact av rfl
  ·rw[if_neg (of_decide_eq_false h)];exact av rfl
theorem aiC:aN Tryz.prog 162 air:=by
 refine aM aj eP (fn:=Tryz.f162) (c:=codeOf Tryz.f162) (by kernel_rfl) (by kernel_rfl) (aG (fn:=Tryz.f162) (c:=codeOf Tryz.f162) (by kernel_rfl) (by kernel_rfl) (by kernel_rfl)) (L:=bX) (N:=1010) (ak _ _) ?_ ?_
 ·intro args v cs h
  unfold air at h
  split at h
  ·cases h;rfl
  ·cases h
 ·intro args v cs h hc
  unfold air at h
  split at h
  ·rename_i a
   cases h;have hs:=(show(asQ a).sat λr=>r=bL false from av (by simp[bL]))
   rw[←ais]at hs;generalize aI Tryz.prog (λ_=>none) bX 1010 Tryz.f162 [.c (.v (.int .i64 a))]=T at hs⊢;exact Tr.bC (λr hr=>⟨by subst hr;rfl,bM.of_eq hr⟩) hs
  ·cases h
theorem aiD: ∀f s,aoC f=some s→aR Tryz.prog f s:=bS aiC.spec
theorem HY:aN Tryz.prog 111 UR:=by
 refine aM aj aiD (fn:=Tryz.f111) (c:=codeOf Tryz.f111) (by kernel_rfl) (by kernel_rfl) (aG (fn:=Tryz.f111) (c:=codeOf Tryz.f111) (by kernel_rfl) (by kernel_rfl) (by kernel_rfl)) (L:=bX) (N:=1010) (ak _ _) ?_ ?_
 ·intro args v cs h
  unfold UR at h
  split at h
  ·cases h;rfl
  ·cases h
 ·intro args v cs h hc
  unfold UR at h
  split at h
  ·rename_i a b
   cases h;have hs:=adA a b;rw[←ait]at hs;generalize aI Tryz.prog aoC bX 1010 Tryz.f111 [.c (.v (.int .i64 a)),.c (.v (.int .i64 b))]=T at hs⊢;exact Tr.bC (λr hr=>⟨by subst hr;rfl,bM.of_eq hr⟩) hs
  ·cases h
theorem UW(l:List Int)(i:Nat)(hl:l.length≤1000)(hi:i<l.length){R:JA ⊕ OJ→Prop}(h1:l[i]≠0→R (.inr ⟨true,l[i]⟩))(h2:l[i]=0→R (.inl ⟨l,((i+1:Nat):Int)⟩)):(HV l (i:Nat)).sat R:=by
 have hg:l.getD i 0=l[i]:=by simp[dR,hi]
 have hw:IntKind.i64.wrap ((i:Int)+1)=((i+1:Nat):Int):=jR;unfold HV;simp only[Int.toNat_natCast,hg,hw,ME];exact au (λ_=>ah (bQ) (au (λh=>ah rfl (av (h1 (by simpa using h)))) (λh=>ah rfl (ah rfl (ah (by simp) (ah (MC l _) (av (h2 (by simpa using h))))))))) (λh=>absurd (show(i:Int)<(l.length:Nat)by omega) (of_decide_eq_false h))
theorem Yn(l:List Int)(hl:l.length≤1000)(Q:OJ→Prop): ∀(k i:Nat),i+k=l.length→Q ⟨iX (l.drop i) !=0,iX (l.drop i)⟩→dJ (λx:JA=>HV x.l x.i) Q (k+1) ⟨l,i⟩
 | 0,i,hi,hq=>by
   obtain rfl:i=l.length:=by omega
   rw[List.drop_length]at hq;exact au (λh=>absurd (j4 h) (Int.lt_irrefl _)) (λ_=>ah rfl (av hq))
 | k+1,i,hi,hq=>by
   have hlt:i<l.length:=by omega
   have hd:l.drop i=l[i]::l.drop (i+1):=List.drop_eq_getElem_cons hlt;have ih:=Yn l hl Q k (i+1) (by omega);rw[hd]at hq;refine UW l i hl hlt (λhne=> ?_) (λhe=> ?_)
   ·simp only[iX,if_neg hne]at hq
    have hb:(l[i] !=0)=true:=by simpa using hne
    rw[hb]at hq;exact hq
   ·simp only[iX,if_pos he]at hq
    exact ih hq
theorem UY:bF Tryz.prog 0 aae (codeOf Tryz.f109):=by
 refine bG (d:=λid=>Nat.beq id 0) (λid=>by unfold aae;cases Nat.beq id 0<;>rfl) _ ?_;have hb:bU (λid=>Nat.beq id 0) (codeOf Tryz.f109)=[(0,.loop (bn 0 (codeOf Tryz.f109)))]:=by kernel_rfl
 rw[hb];intro p hp g hg;simp only[List.mem_singleton]at hp;subst hp;have hh:aae 0=some ((JC zk).g 0):=rfl;rw[hh]at hg;obtain rfl:g=(JC zk).g 0:=(Option.some.inj hg).symm;refine aZ.sU (N:=1010) aj eP (L:=bX) (ak 0 _) (UQ _) (UU zk) ?_;rintro⟨l,i⟩ hx;have hx:zk.pre ⟨l,i⟩=true:=hx;simp only[zk,cu,fT]at hx;obtain⟨⟨h1,h2⟩,h3⟩:=hx;obtain⟨i,rfl⟩: ∃m:Nat,i=m:=⟨i.toNat,by omega⟩
 exact⟨_,Yn l h3 (· =zk.res ⟨l,i⟩) (l.length-i) i (by omega) (by simp[zk])⟩
theorem adB(l:List Int)(hl:l.length≤1000):(aoK l).sat λr=>r=dn .i64 (iX l):=by
 unfold aoK;simp only[ME];have e:List.drop (Int.toNat 0) l=l:=rfl;rw[e];refine ah rfl (ah rfl (ah (by simp) (ah (MC l _) (ah ?_ (au (λ_=>av rfl) (λh=> ?_))))))
 ·simp[hl]
 ·have h0:iX l=0:=by simpa using h
  rw[h0];exact av rfl
theorem OO:aN Tryz.prog 109 aaf:=by
 refine nk (L:=aae) aj eP (fn:=Tryz.f109) (c:=codeOf Tryz.f109) (by kernel_rfl) (by kernel_rfl) (aG (fn:=Tryz.f109) (c:=codeOf Tryz.f109) (by kernel_rfl) (by kernel_rfl) (by kernel_rfl)) (N:=1010) UY ?_ ?_
 ·intro args v cs h
  unfold aaf at h
  split at h
  ·cases h;rfl
  ·cases h
 ·intro args v cs h hc
  unfold aaf at h
  split at h
  ·rename_i n el
   cases h;have h1:vT n el=true:=hc (vT n el) (by simp);have h2:n≤1000:=dec (hc (decide (n≤1000)) (by simp));have e1:=MB h1;have hlen:=Jz n el;generalize nQ n el=l at e1 hlen⊢;subst hlen;refine⟨[.c (.sl l.length 1 (wH l))],.cons (bM.sl e1) .nil,?_⟩;have hs:=adB l h2;rw[←aiu]at hs;generalize aI Tryz.prog (λ_=>none) aae 1010 Tryz.f109 [.c (.sl l.length 1 (wH l))]=T at hs⊢;exact Tr.bC (λr hr=>⟨by subst hr;rfl,bM.of_eq hr⟩) hs
  ·cases h
theorem Yo:Mv Tryz.prog 306 Extern.BytealgCompare.compare:=⟨Tryz.f306,by kernel_rfl,by kernel_rfl,by kernel_rfl,by kernel_rfl,by kernel_rfl⟩
theorem aiE: ∀f s,aoE f=some s→aR Tryz.prog f s:=bS (ado Yo).spec
theorem aiF:aN Tryz.prog 292 oh:=by
 refine aM aj aiE (fn:=Tryz.f292) (c:=codeOf Tryz.f292) (by kernel_rfl) (by kernel_rfl) (aG (fn:=Tryz.f292) (c:=codeOf Tryz.f292) (by kernel_rfl) (by kernel_rfl) (by kernel_rfl)) (L:=bX) (N:=1010) (ak _ _) ?_ ?_
 ·intro args v cs h
  unfold oh at h
  split at h
  ·cases h;rfl
  ·cases h
 ·intro args v cs h hc
  unfold oh at h
  split at h
  ·rename_i a b
   cases h;have hs:=(show(asR a b).sat λr=>r=dn .i64 (Lib.compareBytes a.data.toList b.data.toList)from av rfl)
   rw[←aiv]at hs;generalize aI Tryz.prog aoE bX 1010 Tryz.f292 [.c (.v (.string a)),.c (.v (.string b))]=T at hs⊢;exact Tr.bC (λr hr=>⟨by subst hr;rfl,bM.of_eq hr⟩) hs
  ·cases h
theorem aiG: ∀f s,aoF f=some s→aR Tryz.prog f s:=bS aiF.spec
theorem aiH:aN Tryz.prog 262 oh:=by
 refine aM aj aiG (fn:=Tryz.f262) (c:=codeOf Tryz.f262) (by kernel_rfl) (by kernel_rfl) (aG (fn:=Tryz.f262) (c:=codeOf Tryz.f262) (by kernel_rfl) (by kernel_rfl) (by kernel_rfl)) (L:=bX) (N:=1010) (ak _ _) ?_ ?_
 ·intro args v cs h
  unfold oh at h
  split at h
  ·cases h;rfl
  ·cases h
 ·intro args v cs h hc
  unfold oh at h
  split at h
  ·rename_i a b
   cases h;have hs:=(show(asS a b).sat λr=>r=dn .i64 (Lib.compareBytes a.data.toList b.data.toList)from av rfl)
   rw[←aiw]at hs;generalize aI Tryz.prog aoF bX 1010 Tryz.f262 [.c (.v (.string a)),.c (.v (.string b))]=T at hs⊢;exact Tr.bC (λr hr=>⟨by subst hr;rfl,bM.of_eq hr⟩) hs
  ·cases h
def Rc:List AV→Option (AV×List Bool)
 | [.c (.v (.string a)),.c (.v (.string b))]=>some (.iC [dn .u64 (iZ a),dn .u64 (iZ b),bL (iq a&&iq b)],[])
 | _=>none
theorem aiI: ∀f s,aoD f=some s→aR Tryz.prog f s:=bS Yk.spec
theorem adC(a b:ByteArray):(aoL a b).sat λr=>r= .iC [dn .u64 (iZ a),dn .u64 (iZ b),bL (iq a&&iq b)]:=by
 unfold aoL;cases iq a<;>exact ah rfl (av rfl)
theorem Di:aN Tryz.prog 256 Rc:=by
 refine aM aj aiI (fn:=Tryz.f256) (c:=codeOf Tryz.f256) (by kernel_rfl) (by kernel_rfl) (aG (fn:=Tryz.f256) (c:=codeOf Tryz.f256) (by kernel_rfl) (by kernel_rfl) (by kernel_rfl)) (L:=bX) (N:=1010) (ak _ _) ?_ ?_
 ·intro args v cs h
  unfold Rc at h
  split at h
  ·cases h;rfl
  ·cases h
 ·intro args v cs h hc
  unfold Rc at h
  split at h
  ·rename_i a b
   cases h;have hs:=adC a b;rw[←aix]at hs;generalize aI Tryz.prog aoD bX 1010 Tryz.f256 [.c (.v (.string a)),.c (.v (.string b))]=T at hs⊢;exact Tr.bC (λr hr=>⟨by subst hr;rfl,bM.of_eq hr⟩) hs
  ·cases h
def aag:List AV→Option (AV×List Bool)
 | [.c (.v (.string a)),.c (.v (.string b))]=>some (dn .i64 (gW (aO a.data.toList:Int) (aO b.data.toList:Int)),[canon a.data.toList,canon b.data.toList])
 | _=>none
theorem aiJ: ∀f s,aoG f=some s→aR Tryz.prog f s:=step_ok HY.spec (step_ok aiH.spec (bS OO.spec))
theorem adD(a b:ByteArray)(ha:canon a.data.toList=true)(hb:canon b.data.toList=true):(aoM a b).sat λr=>r=dn .i64 (gW (aO a.data.toList:Int) (aO b.data.toList:Int)):=by
 unfold aoM;refine ah rfl (ah rfl (ah rfl (av ?_)));rw[←Rb _ _ ha hb];rfl
theorem OP:aN Tryz.prog 226 aag:=by
 refine aM aj aiJ (fn:=Tryz.f226) (c:=codeOf Tryz.f226) (by kernel_rfl) (by kernel_rfl) (aG (fn:=Tryz.f226) (c:=codeOf Tryz.f226) (by kernel_rfl) (by kernel_rfl) (by kernel_rfl)) (L:=bX) (N:=1010) (ak _ _) ?_ ?_
 ·intro args v cs h
  unfold aag at h
  split at h
  ·cases h;rfl
  ·cases h
 ·intro args v cs h hc
  unfold aag at h
  split at h
  ·rename_i a b
   cases h;have ha:canon a.data.toList=true:=hc (canon a.data.toList) (by simp);have hb:canon b.data.toList=true:=hc (canon b.data.toList) (by simp);have hs:=adD a b ha hb;rw[←aiy]at hs;generalize aI Tryz.prog aoG bX 1010 Tryz.f226 [.c (.v (.string a)),.c (.v (.string b))]=T at hs⊢;exact Tr.bC (λr hr=>⟨by subst hr;rfl,bM.of_eq hr⟩) hs
  ·cases h
def UZ:List AV→Option (AV×List Bool)
 | [.agg [.c (.v (.bool p)),.c (.v (.string a))]]=>some (dn .i64 (gW (iv p a) 0),[iL p a])
 | _=>none
theorem adE(p:Bool)(a:ByteArray)(h:iL p a=true):(aoN p a).sat λr=>r=dn .i64 (gW (iv p a) 0):=by
 have hc:canon a.data.toList=true:=by simp only[iL,cu]at h;exact h.1
 have hz:=kL hc;unfold aoN;refine au (λh0=> ?_) (λh0=> ?_)
 ·have h0:a.data.toList=[]:=eq_of_beq h0
  have:iv p a=0:=by
   have:=hz.2 h0;cases p<;>simp[iv,this]
  rw[this];exact av rfl
 ·have h0:a.data.toList≠ []:=by simpa using h0
  have hm:aO a.data.toList≠0:=λhh=>h0 (hz.1 hh)
  refine au (λhp=> ?_) (λhp=> ?_)
  ·subst hp
   have:gW (iv true a) 0= -1:=by unfold gW;rw[if_pos (by simp only[iv,cond_true];omega)]
   rw[this];exact av rfl
  ·subst hp
   have:gW (iv false a) 0=1:=by unfold gW;rw[if_neg (by simp only[iv,cond_false];omega),if_pos (by simp only[iv,cond_false];omega)]
   rw[this];exact av rfl
theorem HZ:aN Tryz.prog 193 UZ:=by
 refine aM aj eP (fn:=Tryz.f193) (c:=codeOf Tryz.f193) (by kernel_rfl) (by kernel_rfl) (aG (fn:=Tryz.f193) (c:=codeOf Tryz.f193) (by kernel_rfl) (by kernel_rfl) (by kernel_rfl)) (L:=bX) (N:=1010) (ak _ _) ?_ ?_
 ·intro args v cs h
  unfold UZ at h
  split at h
  ·cases h;rfl
  ·cases h
 ·intro args v cs h hc
  unfold UZ at h
  split at h
  ·rename_i p a
   cases h;have h1:iL p a=true:=hc (iL p a) (by simp);have hs:=adE p a h1;rw[←aiz]at hs;generalize aI Tryz.prog (λ_=>none) bX 1010 Tryz.f193 [.agg [.c (.v (.bool p)),.c (.v (.string a))]]=T at hs⊢;exact Tr.bC (λr hr=>⟨by subst hr;rfl,bM.of_eq hr⟩) hs
  ·cases h
def adF:List AV→Option (AV×List Bool)
 | [.agg [.c (.v (.bool p)),.c (.v (.string a))]]=>some (dD (-(iv p a)),[iL p a])
 | _=>none
theorem aiK: ∀f s,aoH f=some s→aR Tryz.prog f s:=bS zQ.spec
theorem adG(p:Bool)(a:ByteArray)(h:iL p a=true):(aoO p a).sat λr=>r=dD (-(iv p a)):=by
 have hc:canon a.data.toList=true:=by simp only[iL,cu]at h;exact h.1
 have hz:=kL hc;unfold aoO;refine av ?_;have e:(!p&& !(a.data.toList==[]))=decide (-(iv p a)<0):=by
  by_cases h0:a.data.toList=[]
  ·have:=hz.2 h0
   rw[h0];cases p<;>simp[iv,this]
  ·have hm:aO a.data.toList≠0:=λhh=>h0 (hz.1 hh)
   have hb:(a.data.toList==[])=false:=by simpa using h0
   rw[hb];cases p<;>simp[iv]<;>(try omega)
 unfold dD;rw[←e,Int.natAbs_neg,adx,jy _ hc];rfl
theorem Yp:aN Tryz.prog 191 adF:=by
 refine aM aj aiK (fn:=Tryz.f191) (c:=codeOf Tryz.f191) (by kernel_rfl) (by kernel_rfl) (aG (fn:=Tryz.f191) (c:=codeOf Tryz.f191) (by kernel_rfl) (by kernel_rfl) (by kernel_rfl)) (L:=bX) (N:=1010) (ak _ _) ?_ ?_
 ·intro args v cs h
  unfold adF at h
  split at h
  ·cases h;rfl
  ·cases h
 ·intro args v cs h hc
  unfold adF at h
  split at h
  ·rename_i p a
   cases h;have h1:iL p a=true:=hc (iL p a) (by simp);have hs:=adG p a h1;rw[←aiA]at hs;generalize aI Tryz.prog aoH bX 1010 Tryz.f191 [.agg [.c (.v (.bool p)),.c (.v (.string a))]]=T at hs⊢;generalize -(iv p a)=z at hs⊢;exact Tr.bC (λr hr=>⟨by subst hr;rfl,bM.of_eq hr⟩) hs
  ·cases h
def adH:List AV→Option (AV×List Bool)
 | [.c (.v (.int .i64 n))]=>some (dD n,[decide (-9223372036854775808≤n),decide (n≤9223372036854775807)])
 | _=>none
theorem aiL: ∀f s,aoI f=some s→aR Tryz.prog f s:=step_ok zQ.spec (bS zS.spec)
theorem adI(n:Int)(h1: -9223372036854775808≤n)(h2:n≤9223372036854775807):(aoP n).sat λr=>r=dD n:=by
 have key: ∀m:Int,m.toNat=n.natAbs→0≤m→m<18446744073709551616→(Tr.need (jV m) (Tr.ret (AV.agg [AV.c (.v (.bool (decide (n<0)&& !aA m.toNat==[]))),AV.c (.v (.string ⟨⟨aA m.toNat⟩⟩))]))).sat λr=>r=dD n:=by
  intro m hm h0 hlt;refine ah (by simp[jV,h0,hlt]) (av ?_);rw[hm];unfold dD;by_cases hn:n<0
  ·have hne:aA n.natAbs≠ []:=λhh=>by
    have:=jU n.natAbs;rw[hh]at this;have h3:aO []=0:=rfl;omega
   have hb:(aA n.natAbs==[])=false:=by simpa using hne
   rw[fZ hn,hb];rfl
  ·rw[jK hn]
   rfl
 unfold aoP;refine au (λh=> ?_) (λh=> ?_)
 ·have h:=j4 h
  have e:IntKind.u64.wrap (0-IntKind.u64.wrap n)= -n:=by
   rw[wrap_u64,wrap_u64];omega
  rw[e];exact key (-n) (by omega) (by omega) (by omega)
 ·have h:=of_decide_eq_false h
  have e:IntKind.u64.wrap n=n:=by rw[wrap_u64];omega
  rw[e];exact key n (by omega) (by omega) (by omega)
theorem Yq:aN Tryz.prog 70 adH:=by
 refine aM aj aiL (fn:=Tryz.f70) (c:=codeOf Tryz.f70) (by kernel_rfl) (by kernel_rfl) (aG (fn:=Tryz.f70) (c:=codeOf Tryz.f70) (by kernel_rfl) (by kernel_rfl) (by kernel_rfl)) (L:=bX) (N:=1010) (ak _ _) ?_ ?_
 ·intro args v cs h
  unfold adH at h
  split at h
  ·cases h;rfl
  ·cases h
 ·intro args v cs h hc
  unfold adH at h
  split at h
  ·rename_i n
   cases h;have h1: -9223372036854775808≤n:=dec (hc (decide (-9223372036854775808≤n)) (by simp));have h2:n≤9223372036854775807:=dec (hc (decide (n≤9223372036854775807)) (by simp));have hs:=adI n h1 h2;rw[←aiB]at hs;generalize aI Tryz.prog aoI bX 1010 Tryz.f70 [.c (.v (.int .i64 n))]=T at hs⊢;exact Tr.bC (λr hr=>⟨by subst hr;rfl,bM.of_eq hr⟩) hs
  ·cases h
end Go.bI
namespace Go.bI
open Go.Proofs
def aD(l:List Nat):Nat→List IV:=λk=> [.v (.int .u32 ((l.getD k 0:Nat):Int))]
def u32Of:List IV→Nat
 | [.v (.int .u32 n)]=>n.toNat
 | _=>0
def Rf:List IV→Bool
 | [.v (.int .u32 n)]=>decide (0≤n)&&decide (n<4294967296)
 | _=>false
def aL(n:Nat)(el:Nat→List IV):List Nat:=(List.range n).map λk=>u32Of (el k)
def aJ(n:Nat)(el:Nat→List IV):Bool:=(List.range n).all λk=>Rf (el k)
def okD(l:List Nat):Bool:=l.all λd=>decide (d<4294967296)
theorem kP(n:Nat)(el:Nat→List IV):(aL n el).length=n:=by simp[aL]
theorem jg{n:Nat}{el:Nat→List IV}(h:aJ n el=true):(∀k,k<n→el k=aD (aL n el) k)∧okD (aL n el)=true:=by
 have h1:=List.all_eq_true.1 h;have key: ∀k,k<n→el k=[.v (.int .u32 ((u32Of (el k):Nat):Int))]∧u32Of (el k)<4294967296:=λk hk=>by
  have h2:=h1 k (List.mem_range.2 hk);unfold Rf at h2
  split at h2
  ·rename_i m hh
   simp only[cu,fT]at h2;rw[hh];simp only[u32Of];exact⟨by rw[Int.toNat_of_nonneg h2.1],by omega⟩
  ·cases h2
 refine⟨λk hk=> ?_,List.all_eq_true.2 λd hd=> ?_⟩
 ·have e:(aL n el).getD k 0=u32Of (el k):=by simp[aL,dR,hk]
  unfold aD;rw[e];exact(key k hk).1
 ·unfold aL at hd
  obtain⟨k,hk,rfl⟩:=List.mem_map.1 hd;exact fZ (key k (List.mem_range.1 hk)).2
theorem aQ{l:List Nat}(h:okD l=true)(n:Nat):aJ n (aD l)=true:=by
 refine List.all_eq_true.2 λk _=> ?_
 have:l.getD k 0<4294967296:=by
  by_cases hk:k<l.length
  ·have:=List.all_eq_true.1 h l[k] (List.getElem_mem hk)
   have e:l.getD k 0=l[k]:=by simp[dR,hk]
   rw[e];simpa using this
  ·have e:l.getD k 0=0:=by simp[dR,List.getElem?_eq_none (Nat.le_of_not_lt hk)]
   rw[e];decide
 simp only[aD,Rf,cu,fT];omega
theorem aW(l:List Nat):aL l.length (aD l)=l:=by
 apply List.ext_getElem
 ·simp[aL]
 ·intro i h1 h2
  simp[aL,aD,u32Of,dR,h2]
theorem U0(l:List Nat)(k b:Nat)(hk:k<l.length)(hok:okD l=true)(hb:b<4294967296):
  aL l.length (aP (aD l) k 0 [IV.v (.int .u32 (b:Int))].reverse)=l.set k b∧aJ l.length (aP (aD l) k 0 [IV.v (.int .u32 (b:Int))].reverse)=true:=by
 have hel: ∀i,aP (aD l) k 0 [IV.v (.int .u32 (b:Int))].reverse i=if i=k then [IV.v (.int .u32 (b:Int))]else aD l i:=by
  intro i;unfold aP
  split
  ·rename_i h;subst h;simp[aD]
  ·rfl
 constructor
 ·apply List.ext_getElem
  ·simp[aL]
  ·intro i h1 h2
   simp only[aL,List.getElem_map,List.getElem_range,hel];by_cases hi:i=k
   ·subst hi
    simp[u32Of]
   ·have hil:i<l.length:=by simpa[aL]using h1
    rw[if_neg hi,List.getElem_set_ne (by omega)];simp[aD,u32Of,dR,hil]
 ·refine List.all_eq_true.2 λi hi=> ?_
  rw[hel]
  split
  ·simp[Rf];omega
  ·exact List.all_eq_true.1 (aQ hok l.length) i hi
theorem aiM{l:List Nat}(h:okD l=true)(k b:Nat)(hb:b<4294967296):okD (l.set k b)=true:=by
 refine List.all_eq_true.2 λd hd=> ?_
 rcases List.mem_or_eq_of_mem_set hd with h1|h1
 ·exact List.all_eq_true.1 h d h1
 ·subst h1;exact fZ hb
def bB(v:Nat):Nat→List Nat
 | 0=> []
 | k+1=>v%4294967296::bB (v/4294967296) k
theorem bV: ∀(k v:Nat),(bB v k).length=k
 | 0,v=>rfl
 | k+1,v=>by simp[bB,bV k]
theorem mF: ∀(k v i:Nat),i<k→(bB v k).getD i 0=v/4294967296^i%4294967296
 | k+1,v,0,_=>by simp[bB]
 | k+1,v,i+1,h=>by
   simp only[bB,List.getD_cons_succ];rw[mF k (v/4294967296) i (by omega),Nat.div_div_eq_div_mul, ←Nat.pow_succ']
theorem dH: ∀(k v:Nat),okD (bB v k)=true
 | 0,v=>rfl
 | k+1,v=>by
   simp only[bB,okD,List.all_cons,cu,fT];exact⟨Nat.mod_lt _ (by decide),dH k _⟩
theorem tV{l:List Nat}{v:Nat}(h: ∀i,i<l.length→l.getD i 0=v/4294967296^i%4294967296):l=bB v l.length:=by
 apply List.ext_getElem
 ·rw[bV]
 ·intro i h1 h2
  have e1:l.getD i 0=l[i]:=by simp[dR,h1]
  have e2:(bB v l.length).getD i 0=(bB v l.length)[i]:=by simp[dR,h2]
  rw[←e1, ←e2,h i h1,mF _ _ _ h1]
structure AJ where
 s:ByteArray
 l:List Nat
 n:Int
 i:Int
def Dj(x:AJ):List AV×List (Option jk):=([.c (.v (.string x.s)),.iP 0 x.l.length 1,dn .i64 x.n,dn .i64 x.i],[some (.arr x.l.length 1 (aD x.l) 335)])
def H6:List AV×List (Option jk)→Option (AJ×List Bool)
 | ([.c (.v (.string s)),.iP 0 m 1,.c (.v (.int .i64 n)),.c (.v (.int .i64 i))],[some (.arr m' 1 el 335)])=>some (⟨s,aL m el,n,i⟩,[decide (m=m'),aJ m el])
 | _=>none
def JE(w:Way AJ):aZ AJ AJ where
 nIn:={nt:=38,live:=[0,3,12,13]}
 rD:={nt:=38,live:=[0,3,12,13]}
 head:=Dj
 take:=H6
 out:=λr=>(.normal,Dj r)
 jC:=λq=>match q with|(.normal,q)=>H6 q | _=>none
 res:=w.res
 pre:=w.pre
theorem JF(q:List AV×List (Option jk))(x:AJ)(cs:List Bool)(h:H6 q=some (x,cs))(hc: ∀p∈cs,p):eY q.1 (Dj x).1∧dz q.2 (Dj x).2:=by
 unfold H6 at h
 split at h
 ·rename_i s m n i m' el
  simp only[fK,Prod.mk.injEq]at h;obtain⟨rfl,rfl⟩:=h;have h1:m=m':=dec (hc (decide (m=m')) (by simp));have h2:aJ m el=true:=hc (aJ m el) (by simp);subst h1;simp only[Dj,kP];exact⟨eY.refl _,.cons (.arr _ _ _ _ _ (jg h2).1) .nil⟩
 ·cases h
theorem U1(w:Way AJ):(JE w).gI where
 take:=JF
 jC:=by
  intro e q r cs h hc;cases e with
  | normal=>obtain⟨h1,h2⟩:=JF q r cs h hc;exact⟨rfl,h1,h2⟩
  | exit j=>cases h
  | ret=>cases h
 split:=λr Q h=>h
def bJ(n:Nat):Nat:=(n+3)/4
def BL:Way AJ:=⟨λx=>⟨x.s,bB (aO x.s.data.toList) x.l.length,x.n,x.n⟩,
 λx=>decide (x.n=(x.s.data.toList.length:Nat))&&decide (x.i=0)&&decide (x.l.length=bJ x.s.data.toList.length)&&decide (x.l=List.replicate x.l.length 0)&&decide (x.s.data.toList.length≤1000000000)⟩
def aah:Nat→Option (St→Tr (Ex×St)):=λid=>bif Nat.beq id 0 then some ((JE BL).g 0)else none
end Go.bI
namespace Go.bI
open Go.Proofs
def zU(s:ByteArray)(l:List Nat)(n:Int)(i:Int):Tr (AJ ⊕ AJ):=
 let x1:Int:=IntKind.i64.wrap (i.tdiv 4)
 let x2:Int:= ↑l.length
 let x3:Nat:=x1.toNat
 let x4:List UInt8:=s.data.toList
 let x5:Int:= ↑x4.length
 let x6:Int:=IntKind.i64.wrap (IntKind.i64.wrap (x5-1)-i)
 let x7:Int:=IntKind.i64.wrap (8*i.tmod 4)
 .ite (decide (i<n)) (.need true (.need (decide (0≤x1∧x1<x2)) (.need (decide (x3<l.length)) (.need (decide (0≤x6∧x6<x5)) (.need true (.need (decide ¬x7<0) (.need (decide (0≤x1∧x1<x2)) (.need (decide (x3<l.length)) (.need (decide (l.length=l.length)) (.need (aJ l.length (aP (aD l) x3 0 [IV.v (.int IntKind.u32 (IntKind.u32.wrap ↑(BitVec.ofInt IntKind.u32.bits ↑(l.getD x3 0) ||| BitVec.ofInt IntKind.u32.bits (IntKind.u32.wrap (IntKind.u32.wrap ↑(x4.getD x6.toNat 0).toNat*2^min x7.toNat IntKind.u32.bits))).toNat))].reverse)) (.ret (Sum.inl {s:=s,l:=aL l.length (aP (aD l) x3 0 [IV.v (.int IntKind.u32 (IntKind.u32.wrap ↑(BitVec.ofInt IntKind.u32.bits ↑(l.getD x3 0) ||| BitVec.ofInt IntKind.u32.bits (IntKind.u32.wrap (IntKind.u32.wrap ↑(x4.getD x6.toNat 0).toNat*2^min x7.toNat IntKind.u32.bits))).toNat))].reverse),n:=n,i:=IntKind.i64.wrap (i+1)})))))))))))) (.need (decide (l.length=l.length)) (.need (aJ l.length (aD l)) (.ret (Sum.inr {s:=s,l:=aL l.length (aD l),n:=n,i:=i}))))
def aoS(s:ByteArray):Tr je:=
 let x1:List UInt8:=s.data.toList
 let x2:Int:= ↑x1.length
 let x3:Int:=IntKind.i64.wrap ((IntKind.i64.wrap (x2+3)).tdiv 4)
 let x4:Int:=((4:Nat):Int)*x3
 let x5:Nat:=x3.toNat
 let x6:List Nat:=aL x5 λx=>List.map IV.v [Value.int IntKind.u32 0]
 let x7:Nat:=x6.length
 let x8:List Nat:=List.replicate x7 0
 let x9:List Nat:=bB (aO x1) x7
 let x10:Nat:=x9.length
 .need true (.need (decide (x3=x3)) (.need (decide (0≤x3)) (.need (decide (x3≤9223372036854775807)) (.need (decide (x4≤140737488355328)) (.need (decide (x5=x5)) (.need (aJ x5 λx=>List.map IV.v [Value.int IntKind.u32 0]) (.need (decide (x2=x2)&&decide ((0:Int)=0)&&decide (x7=bJ x1.length)&&decide (x6=x8)&&decide (x1.length≤1000000000)) (.ret {val:=AV.iP 0 x10 1,outs:=[],new:=some (jk.arr x10 1 (aD x9) 335)}))))))))
theorem U2(w:Way AJ)(x:AJ):(exec Tryz.prog (λ_=>none) bX 1010 (bn 0 (codeOf Tryz.f259)) (iQ (JE w).nIn ((JE w).head x))).bind ((JE w).fin 0 0)=zU x.s x.l x.n x.i:=by
 obtain⟨s,l,n,i⟩:=x
 kernel_rfl
theorem aiN(s:ByteArray):wG Tryz.prog (λ_=>none) aah 1010 false Tryz.f259 [] [.c (.v (.string s))]=aoS s:=by kernel_rfl
theorem wrap_u32(x:Int):IntKind.u32.wrap x=x%4294967296:=by
 simp[IntKind.wrap,IntKind.bits,IntKind.signed]
theorem H7(x:Nat)(hx:x<4294967296):(BitVec.ofInt 32 (x:Int)).toNat=x:=by
 rw[BitVec.toNat_ofInt];omega
def Dk(l:List UInt8)(i:Nat):Nat:=aO (l.drop (l.length-i))
theorem aiO(l:List UInt8)(i:Nat)(h:i≤l.length):Dk l i<256^i:=by
 have:=uW (l.drop (l.length-i));rw[List.length_drop,show l.length-(l.length-i)=i by omega]at this;exact this
theorem aai(l:List UInt8)(i:Nat)(h:i<l.length):Dk l (i+1)=Dk l i+(l.getD (l.length-1-i) 0).toNat*256^i:=by
 unfold Dk;have e:l.drop (l.length-(i+1))=l[l.length-1-i]'(by omega)::l.drop (l.length-i):=by
  have h1:=List.drop_eq_getElem_cons (l:=l) (i:=l.length-1-i) (by omega);rw[show l.length-1-i+1=l.length-i by omega]at h1;rw[show l.length-(i+1)=l.length-1-i by omega];exact h1
 have hg:l.getD (l.length-1-i) 0=l[l.length-1-i]'(by omega):=by simp[dR,show l.length-1-i<l.length by omega]
 rw[e,wI,hg,List.length_drop,show l.length-(l.length-i)=i by omega,Nat.add_comm]
theorem adJ(l:List UInt8):Dk l l.length=aO l:=by simp[Dk]
theorem MF(i:Nat):256^i=4294967296^(i/4)*256^(i%4):=by
 have:(4294967296:Nat)=256^4:=by decide
 rw[this, ←Nat.pow_mul, ←Nat.pow_add,Nat.div_add_mod]
theorem zV(r:Nat)(h:r<4):256^r≤16777216:=by
 calc 256^r≤256^3:=Nat.pow_le_pow_right (by omega) (by omega)
  _=16777216:=by decide
theorem Yr(v i n:Nat)(hv:v<256^i)(hn:i/4<n):(bB v n).getD (i/4) 0=v/4294967296^(i/4)∧v/4294967296^(i/4)<256^(i%4):=by
 have hp:0<4294967296^(i/4):=Nat.pow_pos (by decide);have h1:v/4294967296^(i/4)<256^(i%4):=by
  rw[Nat.div_lt_iff_lt_mul hp,Nat.mul_comm, ←MF];exact hv
 have h2:=zV (i%4) (Nat.mod_lt _ (by decide));refine⟨?_,h1⟩;rw[mF n v _ hn,Nat.mod_eq_of_lt (by omega)]
theorem adK(v b i n:Nat)(hv:v<256^i)(hb:b<256)(hn:i/4<n):(bB v n).set (i/4) (v/4294967296^(i/4)+b*256^(i%4))=bB (v+b*256^i) n:=by
 obtain⟨_,hlt⟩:=Yr v i n hv hn;have hs:=zV (i%4) (Nat.mod_lt _ (by decide));have hi:=MF i;have hlen:((bB v n).set (i/4) (v/4294967296^(i/4)+b*256^(i%4))).length=n:=by rw[List.length_set,bV]
 have:=tV (l:=(bB v n).set (i/4) (v/4294967296^(i/4)+b*256^(i%4))) (v:=v+b*256^i) λj hj=> ?_
 ·rw[hlen]at this;exact this
 ·rw[hlen]at hj
  have hpj:0<4294967296^j:=Nat.pow_pos (by decide);by_cases hjk:j=i/4
  ·subst hjk
   have e:((bB v n).set (i/4) (v/4294967296^(i/4)+b*256^(i%4))).getD (i/4) 0=v/4294967296^(i/4)+b*256^(i%4):=by
    simp[dR,List.getElem?_set_self (show i/4<(bB v n).length by rw[bV];exact hn)]
   have hmul:b*256^(i%4)≤255*256^(i%4):=Nat.mul_le_mul_right _ (by omega);have e3:(v+b*256^i)/4294967296^(i/4)=v/4294967296^(i/4)+b*256^(i%4):=by
    rw[hi, ←Nat.mul_assoc,Nat.mul_right_comm,Nat.add_mul_div_right _ _ hpj]
   rw[e,e3];generalize v/4294967296^(i/4)=q at hlt⊢;generalize b*256^(i%4)=z at hmul⊢;generalize 256^(i%4)=D at hlt hmul hs;exact(Nat.mod_eq_of_lt (by omega)).symm
  ·have e:((bB v n).set (i/4) (v/4294967296^(i/4)+b*256^(i%4))).getD j 0=(bB v n).getD j 0:=by
    simp[dR,List.getElem?_set_ne (Ne.symm hjk)]
   rw[e,mF n v j hj];by_cases hlt2:j<i/4
   ·obtain⟨m,hm⟩: ∃m,i/4=j+(m+1):=⟨i/4-j-1,by omega⟩
    have e2:b*256^i=b*4294967296^m*256^(i%4)*4294967296*4294967296^j:=by
     rw[hi,hm,Nat.pow_add,Nat.pow_succ];generalize 4294967296^j=A;generalize 4294967296^m=C;generalize 256^(i%4)=D;simp only[Nat.mul_assoc,Nat.mul_comm,Nat.mul_left_comm]
    rw[e2,Nat.add_mul_div_right _ _ hpj,Nat.add_mul_mod_self_right]
   ·have hgt:i/4+1≤j:=by omega
    have h1:4294967296^(i/4+1)≤4294967296^j:=Nat.pow_le_pow_right (by decide) hgt;have h2:256^(i+1)≤4294967296^(i/4+1):=by
     have:(4294967296:Nat)=256^4:=by decide
     rw[this, ←Nat.pow_mul];exact Nat.pow_le_pow_right (by decide) (by omega)
    have h3:v+b*256^i<256^(i+1):=by
     have:b*256^i≤255*256^i:=Nat.mul_le_mul_right _ (by omega);rw[Nat.pow_succ];omega
    rw[Nat.div_eq_of_lt (show v+b*256^i<4294967296^j by omega),Nat.div_eq_of_lt (show v<4294967296^j by omega)]
theorem aoT(o b r:Nat)(ho:o<256^r)(hb:b<256)(hr:r<4):
  IntKind.u32.wrap ((BitVec.ofInt IntKind.u32.bits (o:Int) ||| BitVec.ofInt IntKind.u32.bits (IntKind.u32.wrap (IntKind.u32.wrap (b:Int)*2^min (8*r) IntKind.u32.bits))).toNat:Nat)=((o+b*256^r:Nat):Int):=by
 have hs:=zV r hr;have hmul:b*256^r≤255*256^r:=Nat.mul_le_mul_right _ (by omega);have e1:min (8*r) IntKind.u32.bits=8*r:=by
  change min (8*r) 32=8*r
  omega
 have e2:((2:Int)^(8*r))=((256^r:Nat):Int):=by
  rw[show(256:Nat)=2^8 from rfl, ←Nat.pow_mul];simp
 have e3:IntKind.u32.wrap (b:Int)=(b:Int):=by rw[wrap_u32];omega
 have e4:IntKind.u32.wrap ((b:Int)*((256^r:Nat):Int))=((b*256^r:Nat):Int):=by
  rw[wrap_u32, ←Int.natCast_mul];omega
 rw[e1,e2,e3,e4]
 change IntKind.u32.wrap ((BitVec.ofInt 32 (o:Int) ||| BitVec.ofInt 32 ((b*256^r:Nat):Int)).toNat:Nat)=_
 rw[BitVec.toNat_or,H7 _ (by omega),H7 _ (by omega)];have e5:o ||| b*256^r=o+b*256^r:=by
  have h2:(256:Nat)^r=2^(8*r):=by rw[show(256:Nat)=2^8 from rfl, ←Nat.pow_mul]
  have:=Nat.two_pow_add_eq_or_of_lt (i:=8*r) (b:=o) (by rw[←h2];exact ho) b;rw[Nat.or_comm,h2,Nat.mul_comm b, ←this,Nat.add_comm]
 rw[e5,wrap_u32];omega
theorem U3(s:ByteArray)(n i:Nat)(hn:s.data.toList.length≤1000000000)(hi:i<s.data.toList.length)(hd:n=bJ s.data.toList.length){R:AJ ⊕ AJ→Prop}
  (hin:R (.inl ⟨s,bB (Dk s.data.toList (i+1)) n,(s.data.toList.length:Nat),((i+1:Nat):Int)⟩)):(zU s (bB (Dk s.data.toList i) n) (s.data.toList.length:Nat) (i:Nat)).sat R:=by
 have hk:i/4<n:=by rw[hd];unfold bJ;omega
 have hv:=aiO s.data.toList i (by omega);obtain⟨o1,o2⟩:=Yr _ i n hv hk;have hb:=(s.data.toList.getD (s.data.toList.length-1-i) 0).toNat_lt;have w1:IntKind.i64.wrap ((i:Int).tdiv 4)=((i/4:Nat):Int):=by
  have:(i:Int).tdiv 4=((i/4:Nat):Int):=rfl;rw[this,wrap_i64 (by omega)]
 have w2:IntKind.i64.wrap (((s.data.toList.length:Nat):Int)-1)=((s.data.toList.length:Nat):Int)-1:=wrap_i64 (by omega);have w3:IntKind.i64.wrap (((s.data.toList.length:Nat):Int)-1-i)=((s.data.toList.length-1-i:Nat):Int):=jR;have w4:IntKind.i64.wrap (8*(i:Int).tmod 4)=((8*(i%4):Nat):Int):=by
  have:(i:Int).tmod 4=((i%4:Nat):Int):=rfl;rw[this,wrap_i64 (by omega)];omega
 have w5:IntKind.i64.wrap ((i:Int)+1)=((i+1:Nat):Int):=jR;have hs:=zV (i%4) (Nat.mod_lt _ (by decide));have hmul:(s.data.toList.getD (s.data.toList.length-1-i) 0).toNat*256^(i%4)≤255*256^(i%4):=Nat.mul_le_mul_right _ (by omega);obtain⟨s1,s2⟩:=U0 (bB (Dk s.data.toList i) n) (i/4) (Dk s.data.toList i/4294967296^(i/4)+(s.data.toList.getD (s.data.toList.length-1-i) 0).toNat*256^(i%4)) (by rw[bV];exact hk) (dH _ _) (by omega);rw[adK _ _ i n hv hb hk, ←aai _ i hi]at s1;unfold zU;simp only[w1,w2,w3,w4,w5,Int.toNat_natCast,o1,aoT _ _ _ o2 hb (Nat.mod_lt i (show 0<4 by decide)),s1,s2];rw[bV]at*;exact au (λ_=>ah rfl (ah (bQ) (ah (bQ) (ah (bQ) (ah rfl (ah (bQ) (ah (bQ) (ah (bQ) (ah (by simp) (ah rfl (av hin))))))))))) (λh=>absurd (show(i:Int)<(s.data.toList.length:Nat)by omega) (of_decide_eq_false h))
theorem Yt(s:ByteArray)(n:Nat)(hn:s.data.toList.length≤1000000000)(hd:n=bJ s.data.toList.length)(Q:AJ→Prop)(hq:Q ⟨s,bB (aO s.data.toList) n,(s.data.toList.length:Nat),(s.data.toList.length:Nat)⟩): ∀(k i:Nat),i+k=s.data.toList.length→
  dJ (λx:AJ=>zU x.s x.l x.n x.i) Q (k+1) ⟨s,bB (Dk s.data.toList i) n,(s.data.toList.length:Nat),i⟩
 | 0,i,hi=>by
   obtain rfl:i=s.data.toList.length:=by omega
   rw[adJ];unfold dJ
   change Tr.sat _ (zU s (bB (aO s.data.toList) n) (s.data.toList.length:Nat) (s.data.toList.length:Nat))
   have e:=aW (bB (aO s.data.toList) n);unfold zU;rw[e];exact au (λh=>absurd (j4 h) (Int.lt_irrefl _)) (λ_=>ah (by simp) (ah (aQ (dH _ _) _) (av hq)))
 | k+1,i,hi=>U3 s n i hn (by omega) hd (Yt s n hn hd Q hq k (i+1) (by omega))
end Go.bI
namespace Go.bI
open Go.Proofs
theorem U4:bF Tryz.prog 0 aah (codeOf Tryz.f259):=by
 refine bG (d:=λid=>Nat.beq id 0) (λid=>by unfold aah;cases Nat.beq id 0<;>rfl) _ ?_;have hb:bU (λid=>Nat.beq id 0) (codeOf Tryz.f259)=[(0,.loop (bn 0 (codeOf Tryz.f259)))]:=by kernel_rfl
 rw[hb];intro p hp g hg;simp only[List.mem_singleton]at hp;subst hp;have hh:aah 0=some ((JE BL).g 0):=rfl;rw[hh]at hg;obtain rfl:g=(JE BL).g 0:=(Option.some.inj hg).symm;refine aZ.sU (N:=1010) aj eP (L:=bX) (ak 0 _) (U1 _) (U2 BL) ?_;rintro⟨s,l,n,i⟩ hx;have hx:BL.pre ⟨s,l,n,i⟩=true:=hx;simp only[BL,cu,fT]at hx;obtain⟨⟨⟨⟨rfl,rfl⟩,h3⟩,h4⟩,h5⟩:=hx;have hz: ∀n,bB 0 n=List.replicate n 0:=by
  intro n
  induction n with
  | zero=>rfl
  | succ n ih=>simp[bB,ih,List.replicate_succ]
 have e:l=bB (Dk s.data.toList 0) l.length:=by
  have:Dk s.data.toList 0=0:=by
   unfold Dk;rw[Nat.sub_zero,List.drop_length];rfl
  rw[this,hz];exact h4
 have:=Yt s l.length h5 h3 (· =BL.res ⟨s,l,(s.data.toList.length:Nat),0⟩) rfl s.data.toList.length 0 (by omega);rw[←e]at this;exact⟨_,this⟩
def adL(s:ByteArray):je:={val:= .iP 0 (bJ s.data.toList.length) 1,outs:=[],new:=some (.arr (bJ s.data.toList.length) 1 (aD (bB (aO s.data.toList) (bJ s.data.toList.length))) 335)}
def U5:rX
 | [],[.c (.v (.string s))]=>some {adL s with conds:=[decide (s.data.toList.length≤1000000000)]}
 | _,_=>none
theorem adM(s:ByteArray)(h:s.data.toList.length≤1000000000):(aoS s).sat (Out (adL s)):=by
 have w1:IntKind.i64.wrap (((s.data.toList.length:Nat):Int)+3)=((s.data.toList.length+3:Nat):Int):=jR;have w2:IntKind.i64.wrap (((s.data.toList.length+3:Nat):Int).tdiv 4)=((bJ s.data.toList.length:Nat):Int):=by
  have:((s.data.toList.length+3:Nat):Int).tdiv 4=((bJ s.data.toList.length:Nat):Int):=rfl;rw[this,wrap_i64 (by unfold bJ;omega)]
 have hn:bJ s.data.toList.length≤1000000000:=by unfold bJ;omega
 have e0: ∀k,aL k (λ_=>List.map IV.v [Value.int IntKind.u32 0])=List.replicate k 0:=by
  intro k
  apply List.ext_getElem
  ·simp[aL]
  ·intro i h1 h2
   simp[aL,u32Of]
 unfold aoS;simp only[w1,w2,Int.toNat_natCast,e0,List.length_replicate,bV];refine ah rfl (ah (by simp) (ah (bQ) (ah (bQ) (ah (bQ) (ah (by simp) (ah ?_ (ah ?_ (av (Out.refl _)))))))))
 ·exact List.all_eq_true.2 λ_ _=>rfl
 ·simp;exact h
theorem H8:uT Tryz.prog 259 U5:=by
 refine yw (L:=λ_=>aah) aj eP (fn:=Tryz.f259) (c:=codeOf Tryz.f259) (by kernel_rfl) (by kernel_rfl) (aG (fn:=Tryz.f259) (c:=codeOf Tryz.f259) (by kernel_rfl) (by kernel_rfl) (by kernel_rfl)) (N:=1010) (Bg:=false) ?_ ?_
 ·intro ents args o h
  unfold U5 at h
  split at h
  ·exact U4
  ·cases h
 ·intro ents args o h hc
  unfold U5 at h
  split at h
  ·rename_i s
   cases h;have h1:s.data.toList.length≤1000000000:=dec (hc (decide (s.data.toList.length≤1000000000)) (by simp));refine⟨[],[.c (.v (.string s))],dz.refl _,eY.refl _,?_⟩;have hs:=adM s h1;rw[←aiN]at hs;generalize wG Tryz.prog (λ_=>none) aah 1010 false Tryz.f259 [] [.c (.v (.string s))]=T at hs⊢;exact hs
  ·cases h
def Dl(l:List Nat):List AV×List (Option jk):=([.c (.sl l.length 1 (aD l))],[])
def H9:List AV×List (Option jk)→Option (List Nat×List Bool)
 | ([.c (.sl n 1 el)],[])=>some (aL n el,[aJ n el])
 | _=>none
structure Rh (X:Type) where
 res:X→X
 pre:X→Bool
def JG(w:Rh (List Nat)):aZ (List Nat) (List Nat) where
 nIn:={nt:=21,live:=[0]}
 rD:={nt:=21,live:=[0]}
 head:=Dl
 take:=H9
 out:=λr=>(.normal,Dl r)
 jC:=λq=>match q with|(.normal,q)=>H9 q | _=>none
 res:=w.res
 pre:=w.pre
theorem JH(q:List AV×List (Option jk))(x:List Nat)(cs:List Bool)(h:H9 q=some (x,cs))(hc: ∀p∈cs,p):eY q.1 (Dl x).1∧dz q.2 (Dl x).2:=by
 unfold H9 at h
 split at h
 ·rename_i n el
  simp only[fK,Prod.mk.injEq]at h;obtain⟨rfl,rfl⟩:=h;have h1:aJ n el=true:=hc _ (List.mem_singleton.2 rfl);simp only[Dl,kP];exact⟨.cons (bM.sl (jg h1).1) .nil,dz.refl _⟩
 ·cases h
theorem U6(w:Rh (List Nat)):(JG w).gI where
 take:=JH
 jC:=by
  intro e q r cs h hc;cases e with
  | normal=>obtain⟨h1,h2⟩:=JH q r cs h hc;exact⟨rfl,h1,h2⟩
  | exit j=>cases h
  | ret=>cases h
 split:=λr Q h=>h
def rE(l:List Nat):List Nat:=(l.reverse.dropWhile (· ==0)).reverse
def JI:Rh (List Nat):=⟨rE,λl=>okD l&&decide (l.length≤1000000000)⟩
def aaj:Nat→Option (St→Tr (Ex×St)):=λid=>bif Nat.beq id 0 then some ((JG JI).g 0)else none
def Ia(x:List UInt8×Int):List AV×List (Option jk):=([oq x.1,dn .u8 x.2],[])
def Ib:List AV×List (Option jk)→Option ((List UInt8×Int)×List Bool)
 | ([.c (.v (.string s)),.c (.v (.int .u8 c))],[])=>some ((s.data.toList,c),[])
 | _=>none
def JJ(w:Rh (List UInt8×Int)):aZ (List UInt8×Int) (List UInt8×Int) where
 nIn:={nt:=17,live:=[0,1]}
 rD:={nt:=17,live:=[0,1]}
 head:=Ia
 take:=Ib
 out:=λr=>(.normal,Ia r)
 jC:=λq=>match q with|(.normal,q)=>Ib q | _=>none
 res:=w.res
 pre:=w.pre
theorem JK(q:List AV×List (Option jk))(x:List UInt8×Int)(cs:List Bool)(h:Ib q=some (x,cs))(hc: ∀p∈cs,p):eY q.1 (Ia x).1∧dz q.2 (Ia x).2:=by
 unfold Ib at h
 split at h
 ·cases h;exact⟨eY.refl _,dz.refl _⟩
 ·cases h
theorem U7(w:Rh (List UInt8×Int)):(JJ w).gI where
 take:=JK
 jC:=by
  intro e q r cs h hc;cases e with
  | normal=>obtain⟨h1,h2⟩:=JK q r cs h hc;exact⟨rfl,h1,h2⟩
  | exit j=>cases h
  | ret=>cases h
 split:=λr Q h=>h
def JL:Rh (List UInt8×Int):=⟨λx=>(x.1.dropWhile (· ==0),x.2),λx=>decide (x.2=0)⟩
def aak:Nat→Option (St→Tr (Ex×St)):=λid=>bif Nat.beq id 0 then some ((JJ JL).g 0)else none
def aiP:List AV→Option (AV×List Bool)
 | [.c (.v (.string s)),.c (.v (.int .u8 c))]=>some (oq (s.data.toList.dropWhile (· ==0)),[decide (c=0)])
 | _=>none
def aoU:FuncId→Option Spec:=λf=>bif Nat.beq f 302 then some (ay aiP)else none
end Go.bI
namespace Go.bI
open Go.Proofs
def Ic(l:List Nat):Tr (List Nat ⊕ List Nat):=
 let x1:Int:= ↑l.length
 let x2:Int:=IntKind.i64.wrap (x1-1)
 let x3:Nat:=x2.toNat
 .need (bif decide (x1>0)then decide (0≤x2∧x2<x1)&&true else true) (.ite (bif decide (x1>0)then bif true then((l.getD x3 0:Nat):Int)==0 else false else false) (.need (decide (0≤x2∧x2≤x1)) (.need (aJ x3 (aD l)) (.ret (Sum.inl (aL x3 (aD l)))))) (.need (aJ l.length (aD l)) (.ret (Sum.inr (aL l.length (aD l))))))
def aoV(l:List Nat):Tr AV:=
 let x1:List Nat:=aL l.length (aD l)
 let x2:Nat:=x1.length
 let x3:List Nat:=rE x1
 .need (aJ l.length (aD l)) (.need (okD x1&&decide (x2≤1000000000)) (.ret (AV.c (IV.sl x3.length 1 (aD x3)))))
def Ie(l:List UInt8)(c:Int):Tr (List UInt8×Int ⊕ List UInt8×Int):=
 let x1:Int:= ↑l.length
 .need (bif decide (x1>0)then decide ((0:Int)≤0∧0<x1)&&true else true) (.ite (bif decide (x1>0)then bif true then ↑(l.getD (Int.toNat 0) 0).toNat==c else false else false) (.need (decide ((0:Int)≤1∧1≤x1)) (.ret (Sum.inl (List.drop (Int.toNat 1) l,c)))) (.ret (Sum.inr (l,c))))
def asT(s:ByteArray)(c:Int):Tr AV:=
 .need (decide (c=0)) (.ret (.c (.v (.string ⟨⟨List.dropWhile (λx=>x==0) s.data.toList⟩⟩))))
def asU(s:ByteArray):Tr AV:=
 let x1:List UInt8:=s.data.toList
 .need (bif x1==[]then true else true) (.ite (bif x1==[]then true else bif false then true else([0]:List UInt8)==[]) (.ret (.c (.v (.string s)))) (.need true (.ite true (.need true (.need true (.ret (.c (.v (.string ⟨⟨List.dropWhile (λx=>x==0) x1⟩⟩)))))) (.fail "strings.go:1004"))))
theorem U8(w:Rh (List Nat))(x:List Nat):(exec Tryz.prog (λ_=>none) bX 1010 (bn 0 (codeOf Tryz.f290)) (iQ (JG w).nIn ((JG w).head x))).bind ((JG w).fin 0 0)=Ic x:=by kernel_rfl
theorem aiQ(l:List Nat):aI Tryz.prog (λ_=>none) aaj 1010 Tryz.f290 [.c (.sl l.length 1 (aD l))]=aoV l:=by kernel_rfl
theorem U9(w:Rh (List UInt8×Int))(x:List UInt8×Int):(exec Tryz.prog (λ_=>none) bX 1010 (bn 0 (codeOf Tryz.f302)) (iQ (JJ w).nIn ((JJ w).head x))).bind ((JJ w).fin 0 0)=Ie x.1 x.2:=by
 obtain⟨l,c⟩:=x
 kernel_rfl
theorem aiR(s:ByteArray)(c:Int):aI Tryz.prog (λ_=>none) aak 1010 Tryz.f302 [.c (.v (.string s)),.c (.v (.int .u8 c))]=asT s c:=by kernel_rfl
theorem aiS(s:ByteArray):aI Tryz.prog aoU bX 1010 Tryz.f291 [.c (.v (.string s)),.c (.v (.string ⟨⟨[0]⟩⟩))]=asU s:=by kernel_rfl
theorem Dm{P:List Nat→Prop}(h0:P [])(h1: ∀l c,P l→P (l++[c]))(l:List Nat):P l:=by
 rw[←List.reverse_reverse l]
 induction l.reverse with
 | nil=>exact h0
 | cons c l ih=>rw[List.reverse_cons];exact h1 _ _ ih
theorem xG(l:List Nat):rE (l++[0])=rE l:=by simp[rE]
theorem xH(l:List Nat)(x:Nat)(h:x≠0):rE (l++[x])=l++[x]:=by simp[rE,h]
theorem BM{l m:List Nat}:okD (l++m)=(okD l&&okD m):=by simp[okD]
theorem adN(l:List Nat)(h:okD l=true):okD (rE l)=true:=by
 induction l using Dm with
 | h0=>rfl
 | h1 l c ih=>
   by_cases hc:c=0
   ·subst hc
    rw[xG];rw[BM,cu]at h;exact ih h.1
   ·rw[xH l c hc];exact h
theorem Ri(l m:List Nat):aL l.length (aD (l++m))=l:=by
 apply List.ext_getElem
 ·simp[aL]
 ·intro i h1 h2
  simp[aL,aD,u32Of,dR,List.getElem?_append_left h2,h2]
theorem aiT(l:List Nat)(hok:okD l=true)(hl:l.length≤1000000000)(Q:List Nat→Prop)(hq:Q (rE l)):dJ Ic Q (l.length+1) l:=by
 induction l using Dm with
 | h0=>
   unfold dJ;exact ah rfl (au (λh=>Bool.noConfusion h) (λ_=>ah rfl (av hq)))
 | h1 l c ih=>
   have hlen:(l++[c]).length=l.length+1:=by simp
   have w1:IntKind.i64.wrap (((l.length+1:Nat):Int)-1)=((l.length:Nat):Int):=jR;have hg:(l++[c]).getD l.length 0=c:=by simp[dR]
   have hok2:=hok;rw[BM,cu]at hok2;rw[hlen]at hl⊢;have key: ∀{R:List Nat ⊕ List Nat→Prop},(c=0→R (.inl l))→(c≠0→R (.inr (l++[c])))→(Ic (l++[c])).sat R:=by
    intro R h1 h2;unfold Ic;simp only[hlen,w1,Int.toNat_natCast,hg,Ri];have d1:decide (((l.length+1:Nat):Int)>0)=true:=bQ;have d2:decide ((0:Int)≤((l.length:Nat):Int)∧((l.length:Nat):Int)<((l.length+1:Nat):Int))=true:=bQ;simp only[d1,d2,cond_true,Bool.and_true];refine ah rfl (au (λh=>ah (bQ) (ah (aQ hok _) (av (h1 ?_)))) (λh=>ah (aQ hok _) (av ?_)))
    ·have:=eq_of_beq h;omega
    ·have e:aL (l.length+1) (aD (l++[c]))=l++[c]:=by rw[←hlen,aW]
     rw[e];refine h2 ?_;rintro rfl;cases h
   unfold dJ;refine key (λhc=> ?_) (λhc=> ?_)
   ·subst hc
    rw[xG]at hq;exact ih hok2.1 (by omega) hq
   ·rw[xH l c hc]at hq
    exact hq
theorem Va:bF Tryz.prog 0 aaj (codeOf Tryz.f290):=by
 refine bG (d:=λid=>Nat.beq id 0) (λid=>by unfold aaj;cases Nat.beq id 0<;>rfl) _ ?_;have hb:bU (λid=>Nat.beq id 0) (codeOf Tryz.f290)=[(0,.loop (bn 0 (codeOf Tryz.f290)))]:=by kernel_rfl
 rw[hb];intro p hp g hg;simp only[List.mem_singleton]at hp;subst hp;have hh:aaj 0=some ((JG JI).g 0):=rfl;rw[hh]at hg;obtain rfl:g=(JG JI).g 0:=(Option.some.inj hg).symm;refine aZ.sU (N:=1010) aj eP (L:=bX) (ak 0 _) (U6 _) (U8 JI) ?_;intro l hx;have hx:(okD l&&decide (l.length≤1000000000))=true:=hx;simp only[cu,fT]at hx;exact⟨_,aiT l hx.1 hx.2 (· =JI.res l) rfl⟩
def aiU:List AV→Option (AV×List Bool)
 | [.c (.sl n 1 el)]=>some (.c (.sl (rE (aL n el)).length 1 (aD (rE (aL n el)))),[aJ n el,decide (n≤1000000000)])
 | _=>none
theorem adO(l:List Nat)(hok:okD l=true)(hl:l.length≤1000000000):(aoV l).sat λr=>r= .c (.sl (rE l).length 1 (aD (rE l))):=by
 unfold aoV;simp only[aW];exact ah (aQ hok _) (ah (by simp[hok,hl]) (av rfl))
theorem aiV:aN Tryz.prog 290 aiU:=by
 refine nk (L:=aaj) aj eP (fn:=Tryz.f290) (c:=codeOf Tryz.f290) (by kernel_rfl) (by kernel_rfl) (aG (fn:=Tryz.f290) (c:=codeOf Tryz.f290) (by kernel_rfl) (by kernel_rfl) (by kernel_rfl)) (N:=1010) Va ?_ ?_
 ·intro args v cs h
  unfold aiU at h
  split at h
  ·cases h;rfl
  ·cases h
 ·intro args v cs h hc
  unfold aiU at h
  split at h
  ·rename_i n el
   cases h;have h1:aJ n el=true:=hc (aJ n el) (by simp);have h2:n≤1000000000:=dec (hc (decide (n≤1000000000)) (by simp));obtain⟨e1,e2⟩:=jg h1;have hlen:=kP n el;generalize aL n el=l at e1 e2 hlen⊢;subst hlen;refine⟨[.c (.sl l.length 1 (aD l))],.cons (bM.sl e1) .nil,?_⟩;have hs:=adO l e2 h2;rw[←aiQ]at hs;generalize aI Tryz.prog (λ_=>none) aaj 1010 Tryz.f290 [.c (.sl l.length 1 (aD l))]=T at hs⊢;exact Tr.bC (λr hr=>⟨by subst hr;rfl,bM.of_eq hr⟩) hs
  ·cases h
theorem Yu(Q:List UInt8×Int→Prop): ∀(l:List UInt8),Q (l.dropWhile (· ==0),0)→dJ (λx:List UInt8×Int=>Ie x.1 x.2) Q (l.length+1) (l,0)
 | [],hq=>ah rfl (au (λh=>Bool.noConfusion h) (λ_=>av hq))
 | c::l,hq=>by
   have ih:=Yu Q l;have d1:decide ((((c::l).length:Nat):Int)>0)=true:=fZ (by simp);have d2:decide ((0:Int)≤0∧(0:Int)<(((c::l).length:Nat):Int))=true:=fZ (by simp);have d3:decide ((0:Int)≤1∧(1:Int)≤(((c::l).length:Nat):Int))=true:=fZ (by simp;omega);have key: ∀{R:(List UInt8×Int) ⊕ (List UInt8×Int)→Prop},(c=0→R (.inl (l,0)))→(c≠0→R (.inr (c::l,0)))→(Ie (c::l) 0).sat R:=by
    intro R h1 h2;unfold Ie;have hg:(c::l).getD (Int.toNat 0) 0=c:=rfl;have hd:List.drop (Int.toNat 1) (c::l)=l:=rfl;simp only[d1,d2,d3,hg,hd,cond_true,Bool.and_true];refine ah rfl (au (λh=>ah rfl (av (h1 (UInt8.toNat_inj.1 (by simpa using h))))) (λh=>av (h2 ?_)));rintro rfl;cases h
   unfold dJ;refine key (λhc=> ?_) (λhc=> ?_)
   ·subst hc
    exact ih (by simpa using hq)
   ·have:(c::l).dropWhile (· ==0)=c::l:=by simp[hc]
    rw[this]at hq;exact hq
theorem Vb:bF Tryz.prog 0 aak (codeOf Tryz.f302):=by
 refine bG (d:=λid=>Nat.beq id 0) (λid=>by unfold aak;cases Nat.beq id 0<;>rfl) _ ?_;have hb:bU (λid=>Nat.beq id 0) (codeOf Tryz.f302)=[(0,.loop (bn 0 (codeOf Tryz.f302)))]:=by kernel_rfl
 rw[hb];intro p hp g hg;simp only[List.mem_singleton]at hp;subst hp;have hh:aak 0=some ((JJ JL).g 0):=rfl;rw[hh]at hg;obtain rfl:g=(JJ JL).g 0:=(Option.some.inj hg).symm;refine aZ.sU (N:=1010) aj eP (L:=bX) (ak 0 _) (U7 _) (U9 JL) ?_;rintro⟨l,c⟩ hx;have hx:decide (c=0)=true:=hx;obtain rfl:=j4 hx;exact⟨_,Yu (· =JL.res (l,0)) l rfl⟩
theorem aiW:aN Tryz.prog 302 aiP:=by
 refine aM aj eP (fn:=Tryz.f302) (c:=codeOf Tryz.f302) (by kernel_rfl) (by kernel_rfl) (aG (fn:=Tryz.f302) (c:=codeOf Tryz.f302) (by kernel_rfl) (by kernel_rfl) (by kernel_rfl)) (L:=aak) (N:=1010) Vb ?_ ?_
 ·intro args v cs h
  unfold aiP at h
  split at h
  ·cases h;rfl
  ·cases h
 ·intro args v cs h hc
  unfold aiP at h
  split at h
  ·rename_i s c
   cases h;have h1:c=0:=dec (hc (decide (c=0)) (by simp));have hs:=(show(asT s c).sat λr=>r=oq (s.data.toList.dropWhile (· ==0))from ah (fZ h1) (av rfl))
   rw[←aiR]at hs;generalize aI Tryz.prog (λ_=>none) aak 1010 Tryz.f302 [.c (.v (.string s)),.c (.v (.int .u8 c))]=T at hs⊢;exact Tr.bC (λr hr=>⟨by subst hr;rfl,bM.of_eq hr⟩) hs
  ·cases h
def aiX:List AV→Option (AV×List Bool)
 | [.c (.v (.string s)),.c (.v (.string z))]=>some (oq (s.data.toList.dropWhile (· ==0)),[z.data.toList==[0]])
 | _=>none
theorem aiY: ∀f s,aoU f=some s→aR Tryz.prog f s:=bS aiW.spec
theorem adP(s:ByteArray):(asU s).sat λr=>r=oq (s.data.toList.dropWhile (· ==0)):=by
 obtain⟨⟨l⟩⟩:=s;cases l with
 | nil=>exact ah rfl (au (λ_=>av rfl) (λh=>Bool.noConfusion h))
 | cons c l=>exact ah rfl (au (λh=>Bool.noConfusion h) (λ_=>ah rfl (au (λ_=>ah rfl (ah rfl (av rfl))) (λh=>Bool.noConfusion h))))
theorem aiZ:aN Tryz.prog 291 aiX:=by
 refine aM aj aiY (fn:=Tryz.f291) (c:=codeOf Tryz.f291) (by kernel_rfl) (by kernel_rfl) (aG (fn:=Tryz.f291) (c:=codeOf Tryz.f291) (by kernel_rfl) (by kernel_rfl) (by kernel_rfl)) (L:=bX) (N:=1010) (ak _ _) ?_ ?_
 ·intro args v cs h
  unfold aiX at h
  split at h
  ·cases h;rfl
  ·cases h
 ·intro args v cs h hc
  unfold aiX at h
  split at h
  ·rename_i s z
   cases h;have h1:(z.data.toList==[0])=true:=hc (z.data.toList==[0]) (by simp);have hz:z=⟨⟨[0]⟩⟩:=by
    obtain⟨⟨zl⟩⟩:=z;have:zl=[0]:=eq_of_beq h1;rw[this]
   subst hz;have hs:=adP s;rw[←aiS]at hs;generalize aI Tryz.prog aoU bX 1010 Tryz.f291 [.c (.v (.string s)),.c (.v (.string ⟨⟨[0]⟩⟩))]=T at hs⊢;exact Tr.bC (λr hr=>⟨by subst hr;rfl,bM.of_eq hr⟩) hs
  ·cases h
end Go.bI
namespace Go.bI
open Go.Proofs
structure wJ where
 x:List Nat
 b:List UInt8
 n:Int
 i:Int
def Dn(y:wJ):List AV×List (Option jk):=([.iP 0 y.b.length 1,.c (.sl y.x.length 1 (aD y.x)),dn .i64 y.n,dn .i64 y.i],[some (.arr y.b.length 1 (fP y.b) 5)])
def Ih:List AV×List (Option jk)→Option (wJ×List Bool)
 | ([.iP 0 m 1,.c (.sl k 1 xl),.c (.v (.int .i64 n)),.c (.v (.int .i64 i))],[some (.arr m' 1 el 5)])=>some (⟨aL k xl,bytesOf m el,n,i⟩,[decide (m=m'),aJ k xl,isBytes m el])
 | _=>none
def JM(w:Way wJ):aZ wJ wJ where
 nIn:={nt:=46,live:=[3,16,17,18]}
 rD:={nt:=46,live:=[3,16,17,18]}
 head:=Dn
 take:=Ih
 out:=λr=>(.normal,Dn r)
 jC:=λq=>match q with|(.normal,q)=>Ih q | _=>none
 res:=w.res
 pre:=w.pre
theorem JN(q:List AV×List (Option jk))(x:wJ)(cs:List Bool)(h:Ih q=some (x,cs))(hc: ∀p∈cs,p):eY q.1 (Dn x).1∧dz q.2 (Dn x).2:=by
 unfold Ih at h
 split at h
 ·rename_i m k xl n i m' el
  simp only[fK,Prod.mk.injEq]at h;obtain⟨rfl,rfl⟩:=h;have h1:m=m':=dec (hc (decide (m=m')) (by simp));have h2:aJ k xl=true:=hc (aJ k xl) (by simp);have h3:isBytes m el=true:=hc (isBytes m el) (by simp);subst h1;simp only[Dn,kP,zh];exact⟨.cons (bM.refl _) (.cons (bM.sl (jg h2).1) (eY.refl _)),.cons (.arr _ _ _ _ _ (yu h3)) .nil⟩
 ·cases h
theorem Vd(w:Way wJ):(JM w).gI where
 take:=JN
 jC:=by
  intro e q r cs h hc;cases e with
  | normal=>obtain⟨h1,h2⟩:=JN q r cs h hc;exact⟨rfl,h1,h2⟩
  | exit j=>cases h
  | ret=>cases h
 split:=λr Q h=>h
def be4(d:Nat):List UInt8:=[UInt8.ofNat (d/16777216%256),UInt8.ofNat (d/65536%256),UInt8.ofNat (d/256%256),UInt8.ofNat (d%256)]
def OQ:List Nat→List UInt8
 | []=> []
 | d::l=>OQ l++be4 d
def BN:Way wJ:=⟨λy=>⟨y.x,OQ y.x,y.n,y.n⟩,λy=>decide (y.n=(y.x.length:Nat))&&decide (y.i=0)&&decide (y.b.length=4*y.x.length)&&okD y.x&&decide (y.x.length≤1000000000)⟩
def aal:Nat→Option (St→Tr (Ex×St)):=λid=>bif Nat.beq id 0 then some ((JM BN).g 0)else none
def aoW:FuncId→Option Spec:=λf=>bif Nat.beq f 290 then some (ay aiU)else bif Nat.beq f 291 then some (ay aiX)else none
end Go.bI
