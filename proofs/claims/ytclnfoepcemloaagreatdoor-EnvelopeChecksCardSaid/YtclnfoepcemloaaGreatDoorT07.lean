/- Helpers for the proof: no statement of its own. -/
import Derived.Test.YtclnfoepcemloaaGreatDoorT00
import Derived.Test.YtclnfoepcemloaaGreatDoorT05
set_option linter.unusedVariables false
set_option linter.unusedSimpArgs false
set_option linter.unnecessarySimpa false
set_option linter.deprecated false
set_option maxRecDepth 1000000
open Nat(beq)
open Go.Proofs.Tryz(prog)
open Go.bA.Tr(need ret)
namespace Go.bA
open Go.Proofs
def Pz:List (List AV×AV):=[([j6 (H7 Fu Fu false false)],j6 Fu),
 ([j6 (H7 Fu DV true true)],j6 ra1),
 ([j6 (H7 DV DV false false)],j6 DV),
 ([j6 (H7 DV Fv true true)],j6 ra3),
 ([j6 (H7 Fv Fv false false)],j6 Fv)]
theorem akg:rowOk (eG prog (iR prog Γk AQ 70 20) 70 Tryz.f52) ([j6 (H7 Fu Fu false false)],j6 Fu)=true:=by kernel_rfl
theorem akh:rowOk (eG prog (iR prog Γk AQ 70 20) 70 Tryz.f52) ([j6 (H7 Fu DV true true)],j6 ra1)=true:=by kernel_rfl
theorem aki:rowOk (eG prog (iR prog Γk AQ 70 20) 70 Tryz.f52) ([j6 (H7 DV DV false false)],j6 DV)=true:=by kernel_rfl
theorem akj:rowOk (eG prog (iR prog Γk AQ 70 20) 70 Tryz.f52) ([j6 (H7 DV Fv true true)],j6 ra3)=true:=by kernel_rfl
theorem akk:rowOk (eG prog (iR prog Γk AQ 70 20) 70 Tryz.f52) ([j6 (H7 Fv Fv false false)],j6 Fv)=true:=by kernel_rfl
theorem SQ:aF prog 52 (nH Pz):=by
 refine sV (jc aI (jW (N:=70) (ms:=AQ) aI DU 20) (fn:=Tryz.f52) (c:=codeOf Tryz.f52) (N:=70) (by kernel_rfl) (by kernel_rfl) (by kernel_rfl)) ?_;intro r hr;simp only[Pz,List.mem_cons,List.not_mem_nil,or_false]at hr;rcases hr with rfl|rfl|rfl|rfl|rfl
 ·exact akg
 ·exact akh
 ·exact aki
 ·exact akj
 ·exact akk
end Go.bA
namespace Go.bA
open Go.Proofs
def PD:List (List AV×AV):=[([H8 20 [xB],j6 Fu],bJ true),
 ([H8 20 [xB],j6 ra1],bJ true),
 ([H8 20 [xB],j6 DV],bJ true),
 ([H8 20 [xB],j6 ra3],bJ true),
 ([H8 20 [xB],j6 Fv],bJ true)]
theorem afb:rowOk (eG prog (iR prog Γk AQ 70 20) 70 Tryz.f112) ([H8 20 [xB],j6 Fu],bJ true)=true:=by kernel_rfl
theorem afc:rowOk (eG prog (iR prog Γk AQ 70 20) 70 Tryz.f112) ([H8 20 [xB],j6 ra1],bJ true)=true:=by kernel_rfl
theorem afd:rowOk (eG prog (iR prog Γk AQ 70 20) 70 Tryz.f112) ([H8 20 [xB],j6 DV],bJ true)=true:=by kernel_rfl
theorem afe:rowOk (eG prog (iR prog Γk AQ 70 20) 70 Tryz.f112) ([H8 20 [xB],j6 ra3],bJ true)=true:=by kernel_rfl
theorem aff:rowOk (eG prog (iR prog Γk AQ 70 20) 70 Tryz.f112) ([H8 20 [xB],j6 Fv],bJ true)=true:=by kernel_rfl
theorem aaE:aF prog 112 (nH PD):=by
 refine sV (jc aI (jW (N:=70) (ms:=AQ) aI DU 20) (fn:=Tryz.f112) (c:=codeOf Tryz.f112) (N:=70) (by kernel_rfl) (by kernel_rfl) (by kernel_rfl)) ?_;intro r hr;simp only[PD,List.mem_cons,List.not_mem_nil,or_false]at hr;rcases hr with rfl|rfl|rfl|rfl|rfl
 ·exact afb
 ·exact afc
 ·exact afd
 ·exact afe
 ·exact aff
end Go.bA
namespace Go.bA
open Go.Proofs
def AR:Code→Code
 | .seq _ (.seq (.seq _ b) _)=>b
 | c=>c
def afg:Code→Code
 | .block _ (.rangeFunc _ _ a _)=>a
 | _=> .skip
def afh:Code→Code
 | .block _ (.rangeFunc _ _ _ b)=>b
 | _=> .skip
def Γ84(sY:Spec):FuncId→Option Spec:=λf=>bif beq f 1000000000 then some sY else
 bif beq f 52 then some (au (nH Pz))else bif beq f 112 then some (au (nH PD))else none
def S84(l:Nat)(pts per:IV):St:={tm:=[.c (.v (pF l)),.fB [pts],.fB [per]]++List.replicate 45 (.c (.v undef)),mem:=fD [some (.cells [.c (.v (.slice none 0 0))] 91)],nx:=1}
def finSeq(q:Ex×St):Tr dx:=
 match q.1 with
 | .exit _=> .fail "seq: exit"
 | _=>
   match FU 1 q.2 (bJ true)with
   | some o=> .ret o
   | none=> .fail "seq: pack"
def Tr.go{α:Type}:Tr α→Option (List Bool×α)
 | .ret a=>some ([],a)
 | .ite c t e=>bif c then t.go else e.go
 | .need p t=>t.go.map λq=>(p::q.1,q.2)
 | .both _ _=>none
 | .fail _=>none
theorem Tr.go_sat{α:Type}: ∀{t:Tr α} {ps:List Bool} {a:α},t.go=some (ps,a)→(∀p∈ps,p=true)→t.sat (· =a)
 | .ret a,ps,b,h,hp=>by
   simp only[Tr.go,fu,Prod.mk.injEq]at h;exact h.2
 | .ite c t e,ps,b,h,hp=>by
   cases c with
   | true=>exact⟨λ_=>Tr.go_sat (by simpa[Tr.go]using h) hp,λh=>by cases h⟩
   | false=>exact⟨λh=>(by cases h),λ_=>Tr.go_sat (by simpa[Tr.go]using h) hp⟩
 | .need p t,ps,b,h,hp=>by
   obtain⟨q,hq,he⟩:=Option.map_eq_some_iff.1 h;simp only[Prod.mk.injEq]at he;obtain⟨rfl,rfl⟩:=he;exact⟨hp p (List.mem_cons_self ..),λ_=>Tr.go_sat (a:=q.2) (ps:=q.1) hq λp' h'=>hp p' (List.mem_cons_of_mem _ h')⟩
 | .both _ _,ps,b,h,hp=>by cases h
 | .fail _,ps,b,h,hp=>by cases h
def Ww(o:dx)(out:List (List IV)):Bool:=
 match o.outs,o.new with
 | [some (.cells [.fK 1 n 20] 91)],some (.arr m 20 el 38)=>beq n out.length&&(beq m out.length&&(List.range out.length).all λk=>ae8 (el k) (out.getD k []))
 | _,_=>false
def Lc(l:List (List IV)):AV:= .c (.sl l.length 20 λk=>l.getD k [])
def afi:IV:= .sl 3 9 λk=> [Fu,DV,Fv].getD k []
def afj:IV:= .sl 1 20 λk=> [xB].getD k []
def Wx:List (List IV):=[H7 Fu Fu false false,H7 Fu DV true true,H7 DV DV false false,H7 DV Fv true true,H7 Fv Fv false false]
end Go.bA
namespace Go.bA
open Go.Proofs Go.RowKit
theorem akl(l:Nat):(((exec prog (Γ84 (Pv prog 5 13 2 7 (afg (AR (codeOf Tryz.f144))) (afh (AR (codeOf Tryz.f144))) l 0)) dn 1010 (codeOf Tryz.f145) (S84 l afi afj)).bind finSeq).go).map (λq=>(q.1,Ww q.2 Wx))=
 some ([true,decide (l=l),true,decide (l=l),true,decide (l=l),true,decide (l=l),true,decide (l=l)],true):=by kernel_rfl
def Gathers(pts per:IV)(out:List (List IV)):Prop:=
 ∀l,((exec prog (Γ84 (Pv prog 5 13 2 7 (afg (AR (codeOf Tryz.f144))) (afh (AR (codeOf Tryz.f144))) l 0)) dn 1010 (codeOf Tryz.f145) (S84 l pts per)).bind finSeq).sat λo=>Ww o out=true
theorem Wy{pts per:IV}{out:List (List IV)}{ps:Nat→List Bool}(hp: ∀l, ∀p∈ps l,p=true)(h: ∀l,(((exec prog (Γ84 (Pv prog 5 13 2 7 (afg (AR (codeOf Tryz.f144))) (afh (AR (codeOf Tryz.f144))) l 0)) dn 1010 (codeOf Tryz.f145) (S84 l pts per)).bind finSeq).go).map (λq=>(q.1,Ww q.2 out))=some (ps l,true)):Gathers pts per out:=by
 intro l;obtain⟨q,hq,he⟩:=Option.map_eq_some_iff.1 (h l);simp only[Prod.mk.injEq]at he;obtain⟨h1,h2⟩:=he;refine Tr.aZ ?_ (Tr.go_sat (ps:=q.1) (a:=q.2) hq (by rw[h1];exact hp l));rintro o rfl;exact h2
theorem afk:Gathers afi afj Wx:=Wy (ps:=λl=> [true,decide (l=l),true,decide (l=l),true,decide (l=l),true,decide (l=l),true,decide (l=l)]) (λl p hp=>by simp at hp;simpa using hp) akl
def YV(P:Program)(f:FuncId)(args:List AV)(v:AV):Prop:=
 ∀(A:Nat→Prop) (w:World) (vs:List Value),(∀b,A b→b<w.heap.size)→dN A (λ_=>none) w args vs→gF P f vs.toArray w λe w'=> ∃u,e= .returned u∧aV A (λ_=>none) w' v u∧Below w.heap.size w w'
theorem SS{P:Program}{f:FuncId}: ∀{rows:List (List AV×AV)},(∀r∈rows,dY r.2=true∧YV P f r.1 r.2)→aF P f (nH rows)
 | [],_=>⟨λ_ _ _ h=>by cases h⟩
 | r::l,h=>by
   refine⟨λargs v cs hk=> ?_⟩;unfold nH at hk;cases hb:M5 args r.1 with
   | false=>rw[hb]at hk;exact(SS (rows:=l) λr' hr=>h r' (List.mem_cons_of_mem _ hr)).sound args v cs hk
   | true=>
     rw[hb]at hk;cases hk;obtain⟨h1,h2⟩:=h r (List.mem_cons_self ..);exact⟨h1,λA w vs hA _ hr=>h2 A w vs hA ((BL hb).NG hr)⟩
theorem Gg{A:Nat→Prop}{w:World}{args:List AV}{vs:List Value}{nt:Nat}(hA: ∀b,A b→b<w.heap.size)(hargs:dN A (λ_=>none) w args vs):
  (Ctx.mk A (λ_=>False) w 0 (λ_=>none)).Ok∧Holds ⟨A,λ_=>False,w,0,λ_=>none⟩ (λ_=>none) (start args nt) {tmps:=vs.toArray++Array.replicate (nt-vs.toArray.size) undef,defers:=[]} w:=by
 refine⟨⟨hA,λ_ h=>h.elim,λ_ _ h=>h⟩,?_⟩;have hown: ∀b,aU A (λ_=>none) (start args nt).mem b↔A b:=λb=>by
  constructor
  ·intro h
   rcases h with h|⟨s,e,h1,_⟩
   ·exact h
   ·cases h1
  ·exact λh=>Or.inl h
 have Qv: ∀{x:AV} {v:Value},aV A (λ_=>none) w x v→aV (aU A (λ_=>none) (start args nt).mem) (λ_=>none) w x v:=
  λh=>h.trans (Trans.refl _ _) (λb _ hb=>(hown b).1 hb) (λ_ _ h=>h)
 have hlen:vs.length=args.length:=hargs.1;refine{defers:=rfl,size:=by simp[start,hlen],tm:=?_,mem:=λs e he=>(by cases he),inj:=λ_ _ _ _ _ h=>(by cases h),kept:=Kept.refl _ _,old:=λs β h=>(by cases h),fresh:=λ_ _=>rfl,base:=λ_ _=>rfl,sW:=Nat.zero_le _};intro t ht;by_cases hlt:t<args.length
 ·have:=Qv (hargs.2 t hlt)
  have hlt':t<vs.length:=by omega
  simpa[start,dJ,nS,List.getElem?_append_left hlt,Array.getElem?_append,hlt,hlt']using this
 ·have ht':t-args.length<nt-args.length:=by simp only[start,List.length_append,List.length_replicate]at ht;omega
  have hlt': ¬t<vs.length:=by omega
  have e1:(start args nt).tm.getD t .any= .c (.v undef):=by
   simp[start,dJ,List.getElem?_append_right (Nat.le_of_not_lt hlt),List.getElem?_replicate,ht']
  have e2:(vs.toArray++Array.replicate (nt-vs.toArray.size) undef).getD t undef=undef:=by
   simp[nS,Array.getElem?_append,hlt',Array.getElem?_replicate,hlen,ht',hlt]
  show aV _ _ _ _ _
  rw[e1];simp only[]at e2⊢;rw[e2];exact aV.lit _
def as2:Code→Code
 | .seq a _=>a
 | c=>c
def as3:Code→Code
 | .seq a (.seq (.seq b _) _)=> .seq a b
 | c=>c
def apo:Code→Code
 | .seq a _=>a
 | c=>c
def akm:Code→Code
 | .seq _ (.seq (.seq b _) _)=>b
 | c=>c
def arV:Code→Code
 | .seq _ (.seq _ (.seq c _))=>c
 | c=>c
theorem apq:codeOf Tryz.f144= .seq (apo (codeOf Tryz.f144)) (.seq (.seq (akm (codeOf Tryz.f144)) (.block 0 (.rangeFunc (.tmp 6) #[7] (afg (AR (codeOf Tryz.f144))) (afh (AR (codeOf Tryz.f144)))))) (.seq (arV (codeOf Tryz.f144)) .ret)):=by kernel_rfl
def atb(q:Ex×St):Option (Bool×Bool×Bool):=
 match q.1,q.2.tm,q.2.mem 0 with
 | .normal,[_,.fn 145 [.fB [_],.fB [_]],.ptr 0 0,_,_,_,.fn 145 [.fB [_],.fB [_]],_,_,_,_,_,_],some (.cells [.c (.v (.slice none 0 0))] 91)=>some (true,true,true)
 | _,_,_=>none
def onN(k:St→Tr (Ex×St))(q:Ex×St):Tr (Ex×St):=
 match q.1 with
 | .normal=>k q.2
 | _=> .fail ""
theorem arW(pts per:IV):((exec prog (λ_=>none) dn 1010 (apo (codeOf Tryz.f144)) (start [.c (.v (.slice none 0 0)),.fn 145 [.fB [pts],.fB [per]]] 13)).bind (onN (exec prog (λ_=>none) dn 1010 (akm (codeOf Tryz.f144)))))=
 .ret (.normal,{tm:=[.c (.v (.slice none 0 0)),.fn 145 [.fB [pts],.fB [per]],.ptr 0 0,.c (.v undef),.c (.v (.slice none 0 0)),.c (.v undef),.fn 145 [.fB [pts],.fB [per]],.c (.v undef),.c (.v undef),.c (.v undef),.c (.v undef),.c (.v undef),.c (.v undef)],mem:=Mem.set (λ_=>none) 0 (some (.cells [.c (.v (.slice none 0 0))] 91)),nx:=3}):=by kernel_rfl
end Go.bA
set_option maxHeartbeats 1000000
namespace Go.bA
open Go.Proofs Go.RowKit
theorem aaF{o:dx}{out:List (List IV)}(h:Ww o out=true): ∃el,o.outs=[some (.cells [.fK 1 out.length 20] 91)]∧o.new=some (.arr out.length 20 el 38)∧ ∀k,k<out.length→el k=out.getD k []:=by
 unfold Ww at h
 split at h
 ·rename_i n m el h1 h2
  simp only[bI]at h;obtain⟨h3,h4,h5⟩:=h;obtain rfl:=Nat.eq_of_beq_eq_true h3;obtain rfl:=Nat.eq_of_beq_eq_true h4;exact⟨el,h1,h2,λk hk=>Px (List.all_eq_true.1 h5 k (List.mem_range.2 hk))⟩
 ·cases h
theorem apr{A:Nat→Prop}{B:dI}{w:World}{args:List AV}{vs:List Value}{nt:Nat}(hr:dN A B w args vs): ∀t,t<(args++List.replicate (nt-args.length) (AV.c (.v undef))).length→
  aV A B w ((args++List.replicate (nt-args.length) (AV.c (.v undef))).getD t .any) ((vs.toArray++Array.replicate (nt-vs.toArray.size) undef).getD t undef):=by
 intro t ht;have hlen:vs.length=args.length:=hr.1;by_cases hlt:t<args.length
 ·have:=hr.2 t hlt
  have hlt':t<vs.length:=by omega
  simpa[dJ,nS,List.getElem?_append_left hlt,Array.getElem?_append,hlt,hlt']using this
 ·have ht':t-args.length<nt-args.length:=by simp only[List.length_append,List.length_replicate]at ht;omega
  have hlt': ¬t<vs.length:=by omega
  have e1:(args++List.replicate (nt-args.length) (AV.c (.v undef))).getD t .any= .c (.v undef):=by
   simp[dJ,List.getElem?_append_right (Nat.le_of_not_lt hlt),List.getElem?_replicate,ht']
  have e2:(vs.toArray++Array.replicate (nt-vs.toArray.size) undef).getD t undef=undef:=by
   simp[nS,Array.getElem?_append,hlt',Array.getElem?_replicate,hlen,ht',hlt]
  rw[e1,e2];exact aV.lit _
theorem akn {A:Nat→Prop} {w w2:World} {B2:dI} {S2:St} {a2:Act} (hC:(Ctx.mk A (λ_=>False) w 0 (λ_=>none)).Ok) (H2:Holds ⟨A,λ_=>False,w,0,λ_=>none⟩ B2 S2 a2 w2) {Bs:Nat} (hB:B2 0=some Bs) (hm:S2.mem 0=some (.cells [.c (.v (.slice none 0 0))] 91))
  {o1 o2:Obj} {pts per:IV} {p1 p2:Value} (h1:aV (aU A B2 S2.mem) B2 w2 (.fB [pts]) p1) (h2:aV (aU A B2 S2.mem) B2 w2 (.fB [per]) p2):
  (Ctx.mk (λb=>A b∨(b=w2.heap.size+1∨b=w2.heap.size)) (λb=>b=Bs) ((w2.alloc o1).alloc o2) 1 (λs=>if s=0 then some Bs else none)).Ok∧
  Holds ⟨λb=>A b∨(b=w2.heap.size+1∨b=w2.heap.size),λb=>b=Bs,(w2.alloc o1).alloc o2,1,λs=>if s=0 then some Bs else none⟩ (λs=>if s=0 then some Bs else none) (S84 (w2.heap.size+1) pts per)
   {tmps:= #[pF (w2.heap.size+1),p1,p2]++Array.replicate (48-3) undef,defers:=[]} ((w2.alloc o1).alloc o2):=by
 have hBs:Bs<w2.heap.size:=(H2.old 0 Bs hB).2;have hsz:((w2.alloc o1).alloc o2).heap.size=w2.heap.size+2:=by simp
 have hbel:Below w2.heap.size w2 ((w2.alloc o1).alloc o2):=((Below.refl _ w2).alloc (Nat.le_refl _) _).alloc (by simp) _;have ht: ∀X,Trans X w2 ((w2.alloc o1).alloc o2):=λX=>Trans.of_below hbel
 have hAs: ∀b,A b→b<w2.heap.size:=λb hb=>Nat.lt_of_lt_of_le (hC.a0 b hb) H2.kept.size
 refine⟨⟨λb hb=> ?_,λb hb=> ?_,λb hb hx=> ?_⟩,?_⟩
 ·rw[hsz]
  rcases hb with hb|rfl|rfl
  ·have:=hAs b hb;omega
  ·omega
  ·omega
 ·show b<((w2.alloc o1).alloc o2).heap.size
  have hb:b=Bs:=hb;rw[hsz];omega
 ·have hx:b=Bs:=hx
  subst hx;rcases hb with hb|hb|hb
  ·exact zY hC H2 hB hb
  ·omega
  ·omega
 ·have hown: ∀b,b<w2.heap.size→aU (λb=>A b∨(b=w2.heap.size+1∨b=w2.heap.size)) (λs=>if s=0 then some Bs else none) (S84 (w2.heap.size+1) pts per).mem b→aU A B2 S2.mem b:=by
   rintro b hb ((h|h|h)|⟨s,e,h1,h2⟩)
   ·exact .inl h
   ·omega
   ·omega
   ·by_cases hs:s=0
    ·subst hs
     simp only[if_true,fu]at h2;subst h2;exact .inr ⟨0,_,hm,hB⟩
    ·simp only[hs,if_false]at h2;cases h2
  have hrel: ∀{x:AV} {v:Value},bA.dY x=true→aV (aU A B2 S2.mem) B2 w2 x v→aV (aU (λb=>A b∨(b=w2.heap.size+1∨b=w2.heap.size)) (λs=>if s=0 then some Bs else none) (S84 (w2.heap.size+1) pts per).mem) (λs=>if s=0 then some Bs else none) ((w2.alloc o1).alloc o2) x v:=
   λhn h=>(h.dY hn _).trans (ht _) hown (λ_ _ h=>h)
  refine{defers:=rfl,size:=by simp[S84],tm:=?_,mem:=?_,inj:=?_,kept:=Kept.refl _ _,old:=?_,fresh:=?_,base:=λ_ _=>rfl,sW:=Nat.le_refl _}
  ·exact apr (nt:=48) (args:=[.c (.v (pF (w2.heap.size+1))),.fB [pts],.fB [per]]) (vs:=[pF (w2.heap.size+1),p1,p2])
    (dN.cons (aV.lit _) (dN.cons (hrel rfl h1) (dN.cons (hrel rfl h2) .nil)))
  ·intro s e he
   by_cases hs:s=0
   ·subst hs
    have he:some (gJ.cells [.c (.v (.slice none 0 0))] 91)=some e:=he;cases he;refine .inl ⟨Bs,rfl,?_⟩;rcases H2.mem 0 _ hm with⟨β,h3,h4⟩|⟨h3,_⟩
    ·rw[hB]at h3
     cases h3;rw[hbel.block Bs hBs];generalize w2.heap[Bs]? =ob at h4;cases h4 with
     | cells _ _ cs hcs hrc=>
       refine .cells _ _ cs hcs λj hj=> ?_
       have hj0:j=0:=by simpa using hj
       subst hj0;have:=(hrc 0 (by simp)).plain;rw[this];exact aV.lit _
    ·rw[hB]at h3;cases h3
   ·have:(S84 (w2.heap.size+1) pts per).mem s=none:=by
     simp only[S84,fD];cases s with
     | zero=>exact absurd rfl hs
     | succ s=>simp
    rw[this]at he;cases he
  ·intro s s' e e' β _ _ h1 h2
   by_cases hs:s=0<;>by_cases hs':s'=0
   ·rw[hs,hs']
   ·simp only[hs',if_false]at h2;cases h2
   ·simp only[hs,if_false]at h1;cases h1
   ·simp only[hs,if_false]at h1;cases h1
  ·intro s β hs
   by_cases h0:s=0
   ·simp only[h0,if_true,fu]at hs
    subst hs;exact⟨.inr rfl,by rw[hsz];omega⟩
   ·simp only[h0,if_false]at hs;cases hs
  ·intro s hs
   have:s≠0:=by have:1≤s:=hs;omega
   simp only[this,if_false]
end Go.bA
set_option maxHeartbeats 2000000
namespace Go.bA
open Go.Proofs Go.RowKit
theorem SV:Tryz.f145.body=some (codeOf Tryz.f145):=by kernel_rfl
theorem SX:Tryz.f144.body=some (codeOf Tryz.f144):=by kernel_rfl
theorem arX:prog.funcs[145]? =some Tryz.f145:=by kernel_rfl
theorem afl:prog.funcs[144]? =some Tryz.f144:=by kernel_rfl
theorem asX:Tryz.f144.ntmps=13:=by kernel_rfl
theorem arY:Tryz.f145.results= #[]:=by kernel_rfl
theorem arZ:Tryz.f144.results= #[.tmp 4]:=by kernel_rfl
def r4l:Code:= .region 4 #[{dst:=some 12,op:=Op.load 91 (Operand.tmp 2),type:=91,pos:= "iter.go:54",after:= #[],guard:=none},{dst:=some 4,op:=Op.assign (Operand.tmp 12),type:=91,pos:= "iter.go:54",after:= #[{on:=0,ground:=Ground.data},{on:=0,ground:=Ground.phase}],guard:=none}] false
theorem ar0:arV (codeOf Tryz.f144)=r4l:=by kernel_rfl
theorem aps(u:Value):jS prog 91 (PU [.v u]) 0=some (.c (.v u)):=by kernel_rfl
theorem apt{C:Ctx}{sY:Spec}(h:lG C prog jo sY): ∀f s,Γ84 sY f=some s→lG C prog f s:=by
 intro f s hs;unfold Γ84 at hs;cases hb:beq f 1000000000 with
 | true=>
   rw[hb]at hs;simp only[cond_true,fu]at hs;subst hs;rw[show f=jo from Nat.eq_of_beq_eq_true hb];exact h
 | false=>
   rw[hb]at hs;simp only[cond_false]at hs;cases hb:beq f 52 with
   | true=>
     rw[hb]at hs;simp only[cond_true,fu]at hs;subst hs;rw[Nat.eq_of_beq_eq_true hb];exact SQ.spec.at C
   | false=>
     rw[hb]at hs;simp only[cond_false]at hs;cases hb:beq f 112 with
     | true=>
       rw[hb]at hs;simp only[cond_true,fu]at hs;subst hs;rw[Nat.eq_of_beq_eq_true hb];exact aaE.spec.at C
     | false=>rw[hb]at hs;cases hs
theorem apu{A:Nat→Prop}{w:World}{Q:Exit→Act→World→Prop}{a:Act}{W:World}{Bs:Nat}{u:Value}(hsz:a.tmps.size=13)(h2:a.tmps.getD 2 undef= .pointer (some ⟨Bs,0,none⟩))(hcell:W.heap[Bs]? =some (.cells #[u] 91 (0,0)))
  (hQ:Q .ret ((a.put (some 12) u).put (some 4) u) W):(Code.seq r4l .ret).wpIn Fence.wide 0 prog Q a W:=by
 have hc:(W.cell? ⟨Bs,0,none⟩).isSome=true∧jd (λ_=>False) W (.v u) (jE W ⟨Bs,0,none⟩):=by
  have e:W.cell? ⟨Bs,0,none⟩=some u:=by simp[World.cell?,hcell]
  refine⟨by rw[e];rfl,?_⟩;have:jE W ⟨Bs,0,none⟩=u:=by simp[jE,e]
  rw[this];exact .v u
 obtain⟨u',hrun,hrel⟩:=om (P:=prog) (B:=λ_=>none) (A:=λ_=>False) (w:=W) (t:=91) (b:=Bs) (off:=0) (j:=0) (l:=[.v u]) (λi hi=>by
  have:i=0:=by simpa using hi
  subst this;exact hc) (aps u)
 have hu:u'=u:=hrel.plain;subst hu;have hrun':(loadVar 91 ⟨Bs,0,none⟩).run prog W= .ok u' W:=hrun;refine wpIn_seq (wpIn_region ?_);have hev:a.eval (.tmp 2)= .pointer (some ⟨Bs,0,none⟩):=h2
 show wpOpsIn Fence.wide 0 prog _ _ [0,1] a W
 rw[wpOpsIn_cons];unfold wpOpIn;simp only[List.getElem?_toArray,List.getElem?_cons_zero,Region.wanted,if_true];refine⟨λ_ _=>trivial,?_⟩;rw[show∀(o:Oper),o.op=Op.load 91 (Operand.tmp 2)→(o.semAt Fence.wide.round a.eval).run prog W= .ok (.value u') W from λo ho=>by
  rw[Oper.semAt_eq _ _ _ (by intro c hc;rw[ho]at hc;cases hc)];simp[execOp,ho,Instr.loadAt,hev,Instr.sureAddr,hrun']]
 ·rw[Oper.uponIn_value]
  show wpOpsIn Fence.wide 0 prog _ _ [1] (a.put (some 12) u') W
  have asY:(a.put (some 12) u').eval (.tmp 12)=u':=by
   show(a.tmps.setIfInBounds 12 u').getD 12 undef=u'
   simp[nS,hsz]
  rw[wpOpsIn_cons];unfold wpOpIn;simp only[List.getElem?_toArray,List.getElem?_cons_succ,List.getElem?_cons_zero,Region.wanted,if_true];refine⟨λ_ _=>trivial,?_⟩;rw[show∀(o:Oper),o.op=Op.assign (Operand.tmp 12)→(o.semAt Fence.wide.round (a.put (some 12) u').eval).run prog W= .ok (.value u') W from λo ho=>by
   rw[Oper.semAt_eq _ _ _ (by intro c hc;rw[ho]at hc;cases hc)];simp[execOp,ho,asY]]
  ·rw[Oper.uponIn_value]
   exact wpIn_ret hQ
  ·rfl
 ·rfl
theorem PE{C:Ctx}{B:dI}{S:St}{a:Act}{w:World}(hC:C.Ok)(H:Holds C B S a w){n:Nat}{el:Nat→List IV}{out:List (List IV)}{u:Value}(hn:n=out.length)(hm:S.mem 1=some (.arr n 20 el 38))(hel: ∀k,k<n→el k=out.getD k [])
  (h:aV (aU C.A0 B S.mem) B w (.fK 1 n 20) u):aV C.A0 (λ_=>none) w (Lc out) u:=by
 subst hn;have hv:fM S.mem (.fK 1 out.length 20)=(.c (.sl out.length 20 el),[decide (out.length≤out.length)]):=by
  simp[fM,hm]
 have hr:=pK H (A:=C.A0) (λb hb=> .inl hb) _ u h (λb hb=>by
  rintro⟨s,_,e,_,h2⟩;exact zY hC H h2 hb) (by rw[hv];intro p hp;simp only[List.mem_singleton]at hp;subst hp;simp)
 rw[hv]at hr;have hs:bL (.c (.sl out.length 20 el)) (Lc out):=bL.sl hel;exact hs _ _ _ _ (hr.dY rfl _)
theorem ar1{pts per:IV}{out:List (List IV)}(hg:Gathers pts per out):YV prog 144 [.c (.v (.slice none 0 0)),.fn 145 [.fB [pts],.fB [per]]] (Lc out):=by
 intro A w vs hA hargs;refine gF.enter afl ⟨cO afl SX (by kernel_rfl) _ _,(callsIn_wide (n:=0)).1 (callsIn_of_wp_marks afl SX trivial ?_ rfl)⟩;rw[apq,ar0,asX];obtain⟨hC,H0⟩:=Gg (nt:=13) hA hargs;have hs0:((exec prog (λ_=>none) dn 1010 (apo (codeOf Tryz.f144)) (start [.c (.v (.slice none 0 0)),.fn 145 [.fB [pts],.fB [per]]] 13)).bind (onN (exec prog (λ_=>none) dn 1010 (akm (codeOf Tryz.f144))))).sat (· =(Ex.normal,{tm:=[.c (.v (.slice none 0 0)),.fn 145 [.fB [pts],.fB [per]],.ptr 0 0,.c (.v undef),.c (.v (.slice none 0 0)),.c (.v undef),.fn 145 [.fB [pts],.fB [per]],.c (.v undef),.c (.v undef),.c (.v undef),.c (.v undef),.c (.v undef),.c (.v undef)],mem:=Mem.set (λ_=>none) 0 (some (.cells [.c (.v (.slice none 0 0))] 91)),nx:=3})):=by
  rw[arW pts per];exact ak rfl
 have ar2: ∀(C:Ctx) (f:FuncId) (s:Spec),(λ_=>none:FuncId→Option Spec) f=some s→lG C prog f s:=λC f s h=>by cases h
 refine wpIn_seq (oq ?_ (eU (ro:=none) aI (L:=dn) (N:=1010) (ar2 _) hC _ (aA _ _) _ _ _ _ _ (Tr.cK hs0) H0));rintro e a1 w1 ⟨ex,S1,B1,rfl,H1,hq1⟩;cases ex with
 | exit j=>exact hq1.elim
 | ret=>exact hq1.elim
 | normal=>
 refine wpIn_seq (wpIn_seq (oq ?_ (eU (ro:=none) aI (L:=dn) (N:=1010) (ar2 _) hC (akm (codeOf Tryz.f144)) (aA _ _) _ S1 _ _ _ hq1 H1)));rintro e a2 w2 ⟨ex,S2,B2,rfl,H2,hq2⟩;simp only[Prod.mk.injEq]at hq2;obtain⟨rfl,hS⟩:=hq2;have hB0: ∃Bs,B2 0=some Bs∧a2.tmps.getD 2 undef= .pointer (some ⟨Bs,0,none⟩):=by
  have h:=H2.tm 2 (by rw[hS];show 2<13;decide);rw[hS]at h;obtain⟨β,h1,h2⟩:=(show aV _ _ _ (.ptr 0 0) _ from h).lV;exact⟨β,h1,h2⟩
 obtain⟨Bs,hB,hp2⟩:=hB0;have hm:S2.mem 0=some (.cells [.c (.v (.slice none 0 0))] 91):=by rw[hS];rfl
 have hsize:a2.tmps.size=13:=by rw[H2.size,hS];rfl
 have hfn: ∃cs:List Value,a2.eval (.tmp 6)= .func (.func 145) #[] cs.toArray∧dN (aU A B2 S2.mem) B2 w2 [.fB [pts],.fB [per]] cs:=by
  have h:=bG H2 (.tmp 6);have e:bQ S2.tm (.tmp 6)= .fn 145 [.fB [pts],.fB [per]]:=by rw[hS];rfl
  rw[e]at h;exact h.Im
 obtain⟨cs,hev,hcs⟩:=hfn;obtain⟨p1,cs1,rfl,hp,hcs⟩:=hcs.head;obtain⟨p2',cs2,rfl,hq,hcs⟩:=hcs.head;obtain rfl:=hcs.nZ;refine wpIn_block (wpIn_rangeFunc ?_);intro fn _
 let l:=w2.heap.size+1
 let yZ:Loop:={state:= .ready,pending:=none,fn,tmps:=a2.tmps,params:= #[7],assign:=afg (AR (codeOf Tryz.f144)),body:=afh (AR (codeOf Tryz.f144)),defers:=w2.heap.size}
 obtain⟨apv,H84⟩:=akn hC H2 hB hm (o1:= .deferred (some [])) (o2:= .loop yZ) hp hq;have hl1:((w2.alloc (.deferred (some []))).alloc (.loop yZ)).heap[w2.heap.size+1]? =some (.loop yZ):=by
  have:=World.alloc_heap_new (w2.alloc (.deferred (some []))) (.loop yZ)
  rwa [World.size_alloc]at this
 have hD1:((w2.alloc (.deferred (some []))).alloc (.loop yZ)).heap[w2.heap.size]? =some (.deferred (some [])):=
  (Below.heap_alloc _ _ _ (by simp)).trans (World.alloc_heap_new w2 _)
 refine⟨w2.heap.size+1,[{target:= .collected w2.heap.size,args:= #[]}],(w2.alloc (.deferred (some []))).alloc (.loop yZ),{target:= .fn (.func 145) #[p1,p2'],args:= #[.func (.yield (w2.heap.size+1)) #[] #[]]},(w2.alloc (.deferred (some []))).alloc (.loop yZ),145, #[.func (.yield (w2.heap.size+1)) #[] #[]]++ #[p1,p2'],(w2.alloc (.deferred (some []))).alloc (.loop yZ),run_enterLoop_outer _ _ _ _ _,?_,λ_ _=>trivial,?_,λh=>(by cases h),?_⟩
 ·simp only[resolve,hev]
  simp[go_sem]
 ·simp[invoke,go_sem,cO arX SV (by kernel_rfl)]
 ·refine callsIn_wide.2 (calls_of_wp arX SV ?_)
  have apw:=ae7 (P:=prog) aI (N:=5) (nt:=13) (tb:=2) (p:=7) (l:=w2.heap.size+1) (box:=0) hsize hp2 (by decide) apv (.inr (.inl rfl)) (Nat.lt_succ_self 0) rfl hl1;refine Code.wp_mono ?_ (pQ (eU (ro:=none) aI (L:=dn) (N:=1010) (apt apw) apv (codeOf Tryz.f145) (aA _ _) _ _ _ _ _ (Tr.cK (hg (w2.heap.size+1))) H84));rintro e a' W2 ⟨ex,S',B',rfl,H',hq'⟩;have hne:ex= .normal∨ex= .ret:=by
   cases ex with
   | exit j=>exact hq'.elim
   | normal=>exact .inl rfl
   | ret=>exact .inr rfl
  have hpk: ∃o,FU 1 S' (bJ true)=some o∧Ww o out=true:=by
   have key:(match FU 1 S' (bJ true)with|some o=>ret o|none=>Tr.fail "seq: pack").sat (λo=>Ww o out=true):=by
    rcases hne with rfl|rfl<;>exact hq'
   split at key
   ·rename_i o ho;exact⟨o,ho,key⟩
   ·exact key.elim
  obtain⟨o,ho,asZ⟩:=hpk;obtain⟨B3,Hp,_,hol⟩:=uh (k:=1) rfl H' (x:=bJ true) (v:= .bool true) (aV.lit _) ho;obtain⟨el,ho1,ho2,hel⟩:=aaF asZ;have hm0:(mJ (o.outs++[o.new]) (1+1)).mem 0=some (.cells [.fK 1 out.length 20] 91):=by rw[ho1,ho2];rfl
  have hm1:(mJ (o.outs++[o.new]) (1+1)).mem 1=some (.arr out.length 20 el 38):=by rw[ho1,ho2];rfl
  have hB3:B3 0=some Bs:=Hp.base 0 (Nat.lt_succ_self 0);obtain⟨u,hcell,hu⟩: ∃u,W2.heap[Bs]? =some (.cells #[u] 91 (0,0))∧aV (aU (λb=>A b∨(b=w2.heap.size+1∨b=w2.heap.size)) B3 (mJ (o.outs++[o.new]) (1+1)).mem) B3 W2 (.fK 1 out.length 20) u:=by
   rcases Hp.mem 0 _ hm0 with⟨β,h1,h2⟩|⟨h1,_⟩
   ·rw[hB3]at h1
    cases h1;generalize W2.heap[Bs]? =ob at h2⊢;cases h2 with
    | cells _ _ cs hcs hr=>
      have h1:cs.size=1:=hcs;have e:cs= #[cs.getD 0 undef]:=by
       apply Array.ext
       ·simp[h1]
       ·intro i hi _
        have:i=0:=by omega
        subst this;simp[nS,h1]
      exact⟨cs.getD 0 undef,by rw[←e],hr 0 (by simp)⟩
   ·rw[hB3]at h1;cases h1
  have hres:=PE apv Hp rfl hm1 hel hu;have hBlt:Bs<w2.heap.size:=(H2.old 0 Bs hB).2;have atc:w.heap.size≤Bs:=((H2.old 0 Bs hB).1).resolve_right (λh=>h);have hW1:((w2.alloc (.deferred (some []))).alloc (.loop yZ)).heap.size=w2.heap.size+2:=by simp
  have hl2:W2.heap[w2.heap.size+1]? =some (.loop yZ):=(H'.kept.block (w2.heap.size+1) (by show _<((w2.alloc (.deferred (some []))).alloc (.loop yZ)).heap.size;omega) (λh=>by have h:w2.heap.size+1=Bs:=h;omega)).trans hl1;have hD2:W2.heap[w2.heap.size]? =some (.deferred (some [])):=(H'.kept.block w2.heap.size (by show _<((w2.alloc (.deferred (some []))).alloc (.loop yZ)).heap.size;omega) (λh=>by have h:w2.heap.size=Bs:=h;omega)).trans hD1;have hD3:(W2.putObj (w2.heap.size+1) (.loop {yZ with state:= .exhausted})).heap[w2.heap.size]? =some (.deferred (some [])):=(World.putObj_heap_other (by omega)).trans hD2
  have fin: ∀v:Value,rangePost Fence.wide 0 prog (w2.heap.size+1) (Exit.inBlock 0 (Exit.then (Code.wpIn Fence.wide 0 prog (r4l.seq Code.ret) (bodyPostM Fence.wide 0 prog Tryz.f144 λe w'=> ∃u,e=Ending.returned u∧aV A (λx=>none) w' (Lc out) u∧Below w.heap.size w w'))
    (bodyPostM Fence.wide 0 prog Tryz.f144 λe w'=> ∃u,e=Ending.returned u∧aV A (λx=>none) w' (Lc out) u∧Below w.heap.size w w')))
    {tmps:=a2.tmps,defers:=[{target:=Target.collected w2.heap.size,args:= #[]}]++a2.defers} (.returned v) W2:=by
   intro v;refine⟨none,_,run_endLoop hl2 (by simp[yZ]),?_⟩
   show Code.wpIn Fence.wide 0 prog (r4l.seq Code.ret) _ _ _
   refine apu (A:=A) (w:=w) (Bs:=Bs) (u:=u) hsize hp2 ((World.putObj_heap_other (by omega)).trans hcell) ?_
   show LeavesInM Fence.wide 0 prog Tryz.f144 _ _ ([{target:=Target.collected w2.heap.size,args:= #[]}]++a2.defers) .returning _
   rw[H2.defers];refine⟨by simp,.inl ⟨w2.heap.size,_,rfl,run_takeDeferred hD3,?_⟩⟩
   show LeavesIn Fence.wide 0 prog Tryz.f144 _ _ [] .returning _
   refine⟨_,results_tmp arZ _ _ _,u,?_,?_,?_⟩
   ·congr 1
    show((a2.tmps.setIfInBounds 12 u).setIfInBounds 4 u).getD 4 undef=u
    simp[nS,hsize]
   ·have t1:=BK (A:=λb=>A b∨(b=w2.heap.size+1∨b=w2.heap.size)) (o':= .loop {yZ with state:= .exhausted}) hl2 (λ_ _ _ h=>by cases h) (.inr (.inl rfl))
    have t2:=BK (A:=λb=>A b∨(b=w2.heap.size+1∨b=w2.heap.size)) (o':= .deferred none) hD3 (λ_ _ _ h=>by cases h) (.inr (.inr rfl));exact((hres.trans t1 (λ_ _ h=>h) (λ_ _ h=>h)).trans t2 (λ_ _ h=>h) (λ_ _ h=>h)).trans (Trans.refl _ _) (λb _ h=> .inl h) (λ_ _ h=>h)
   ·have k2:=H2.kept
    have k4:=H'.kept;have hs2:w.heap.size≤w2.heap.size:=k2.size;have hs4:w2.heap.size+2≤W2.heap.size:=by have:=k4.size;simpa using this
    refine⟨?_,?_,?_,?_,?_⟩
    ·exact k4.os.trans k2.os
    ·exact k4.tape.trans k2.tape
    ·exact k4.output.trans k2.output
    ·simp only[World.putObj_size];omega
    ·intro k hk
     rw[World.putObj_heap_other (by omega),World.putObj_heap_other (by omega),k4.block k (by show k<((w2.alloc (.deferred (some []))).alloc (.loop yZ)).heap.size;omega) (λh=>by have h:k=Bs:=h;omega)]
     show((w2.alloc (.deferred (some []))).alloc (.loop yZ)).heap[k]? =_
     rw[Below.heap_alloc _ _ k (by simp;omega),Below.heap_alloc _ _ k (by omega)];exact k2.block k hk (λh=>h)
  have hr: ∃v,(results Tryz.f145 a'.tmps).run prog W2= .ok v W2:=by
   obtain⟨v,hv,_⟩:=oz (fn:=Tryz.f145) (P:=prog) H' (x:= .fG []) (by rw[arY];rfl);exact⟨v,hv⟩
  obtain⟨v,hv⟩:=hr;rcases hne with rfl|rfl<;>exact⟨H'.defers,v,hv,fin v⟩
end Go.bA
set_option maxHeartbeats 2000000
namespace Go.bA
open Go.Proofs Go.RowKit
def Wz:List (List AV×AV):=[([.c (.v (.slice none 0 0)),.fn 145 [.fB [afi],.fB [afj]]],Lc Wx)]
theorem afm:aF prog 144 (nH Wz):=by
 refine SS ?_;intro r hr;simp only[Wz,List.mem_cons,List.not_mem_nil,or_false]at hr;subst hr;exact⟨rfl,ar1 afk⟩
def Γ55:FuncId→Option Spec:=λf=>bif beq f 144 then some (au (nH Wz))else none
theorem apx: ∀f s,Γ55 f=some s→aH prog f s:=bM afm.spec
def WA:List (List AV×AV):=[([.fn 145 [.fB [afi],.fB [afj]]],Lc Wx)]
theorem ako:rowOk (eG prog Γ55 70 Tryz.f96) ([.fn 145 [.fB [afi],.fB [afj]]],Lc Wx)=true:=by kernel_rfl
theorem afn:aF prog 96 (nH WA):=by
 refine sV (jc (N:=70) aI apx (fn:=Tryz.f96) (c:=codeOf Tryz.f96) (by kernel_rfl) (by kernel_rfl) (by kernel_rfl)) ?_;intro r hr;simp only[WA,List.mem_cons,List.not_mem_nil,or_false]at hr;subst hr;exact ako
theorem SY{C:Ctx}{B:dI}{S:St}{a:Act}{w:World}(hC:C.Ok)(H:Holds C B S a w){s β:Nat}{x:IV}{t:TypeId}(hB:B s=some β)(hm:S.mem s=some (.cells [.c x] t)):
  aV C.A0 (λ_=>none) w (.fB [x]) (.pointer (some ⟨β,0,none⟩)):=by
 rcases H.mem s _ hm with⟨γ,h1,h2⟩|⟨h1,_⟩
 ·rw[hB]at h1
  cases h1;generalize xR:w.heap[β]? =ob at h2;cases h2 with
  | cells _ _ cs hcs hr=>
    refine .fB _ β 0 (zY hC H hB) (H.old s β hB).2 λj hj=> ?_
    have hj0:j=0:=by simpa using hj
    subst hj0;have h1:cs.size=1:=hcs;have e:w.cell? ⟨β,0+0,none⟩=some (cs.getD 0 undef):=by simp[World.cell?,xR,nS,h1]
    refine⟨by rw[e];rfl,?_⟩;have e2:jE w ⟨β,0+0,none⟩=cs.getD 0 undef:=by unfold jE;rw[e];rfl
    rw[e2];have:=hr 0 (by simp);have h3:aV (aU C.A0 B S.mem) B w (.c x) (cs.getD 0 undef):=this;cases h3 with
    | c _ _ hi=>exact hi.trans (Trans.refl _ _) (λb _ hb=> .inl hb)
 ·rw[hB]at h1;cases h1
def K56:List AV→Option (AV×List Bool)
 | [.c (.sl n 20 el),.c (.sl m 9 iV)]=>some (.fn 145 [.fB [.sl m 9 iV],.fB [.sl n 20 el]],[])
 | _=>none
theorem ar3(n m:Nat)(el iV:Nat→List IV):exec prog (λ_=>none) dn 1010 (codeOf Tryz.f97) (start [.c (.sl n 20 el),.c (.sl m 9 iV)] 6)=
 .ret (.ret,{tm:=[.c (.sl n 20 el),.c (.sl m 9 iV),.ptr 0 0,.ptr 1 0,.fn 145 [.ptr 1 0,.ptr 0 0],.fn 145 [.ptr 1 0,.ptr 0 0]],mem:=Mem.set (Mem.set (λ_=>none) 0 (some (.cells [.c (.sl n 20 el)] 91))) 1 (some (.cells [.c (.sl m 9 iV)] 68)),nx:=5}):=by kernel_rfl
theorem S9:Tryz.f97.body=some (codeOf Tryz.f97):=by kernel_rfl
theorem apy:prog.funcs[97]? =some Tryz.f97:=by kernel_rfl
theorem as0:Tryz.f97.ntmps=6:=by kernel_rfl
theorem ar4:Tryz.f97.results= #[.tmp 4]:=by kernel_rfl
theorem apz:aF prog 97 K56 where
 sound:=by
  intro args v cs hk;unfold K56 at hk
  split at hk
  ·rename_i n el m iV
   cases hk;refine⟨rfl,λA w vs hA _ hargs=>gF.enter apy ⟨cO apy S9 (by kernel_rfl) _ _,calls_of_wp apy S9 ?_⟩⟩;rw[as0];obtain⟨hC,H0⟩:=Gg (nt:=6) hA hargs;have hs:(exec prog (λ_=>none) dn 1010 (codeOf Tryz.f97) (start [.c (.sl n 20 el),.c (.sl m 9 iV)] 6)).sat (· =(Ex.ret,{tm:=[.c (.sl n 20 el),.c (.sl m 9 iV),.ptr 0 0,.ptr 1 0,.fn 145 [.ptr 1 0,.ptr 0 0],.fn 145 [.ptr 1 0,.ptr 0 0]],mem:=Mem.set (Mem.set (λ_=>none) 0 (some (.cells [.c (.sl n 20 el)] 91))) 1 (some (.cells [.c (.sl m 9 iV)] 68)),nx:=5})):=by
    rw[ar3];exact ak rfl
   refine Code.wp_mono ?_ (pQ (eU (ro:=none) aI (L:=dn) (N:=1010) (Γ:=λ_=>none) (λf s h=>by cases h) hC (codeOf Tryz.f97) (aA _ _) _ _ _ _ _ hs H0));rintro e a' w' ⟨ex,S',B',rfl,H',hq⟩;simp only[Prod.mk.injEq]at hq;obtain⟨rfl,rfl⟩:=hq;have h4:=H'.tm 4 (by show 4<6;decide);obtain⟨cs,hv,hr⟩:=(show aV _ _ _ (.fn 145 [.ptr 1 0,.ptr 0 0]) _ from h4).Im;obtain⟨p1,cs1,rfl,hp,hr⟩:=hr.head;obtain⟨p2,cs2,rfl,hq,hr⟩:=hr.head;obtain rfl:=hr.nZ;obtain⟨β1,hβ1,rfl⟩:=hp.lV;obtain⟨β2,hβ2,rfl⟩:=hq.lV;have i1:=SY hC H' (x:= .sl m 9 iV) (t:=68) hβ1 rfl;have i2:=SY hC H' (x:= .sl n 20 el) (t:=91) hβ2 rfl;refine⟨H'.defers,_,results_tmp ar4 _ _ _,_,rfl,?_,H'.kept.below⟩;rw[hv];have hrr:dN A (λ_=>none) w' [AV.fB [IV.sl m 9 iV],AV.fB [IV.sl n 20 el]] [.pointer (some ⟨β1,0,none⟩),.pointer (some ⟨β2,0,none⟩)]:=dN.cons i1 (dN.cons i2 .nil);exact .fn 145 _ _ (by simp) λj hj=>by simpa[nS,dJ]using hrr.2 j hj
  ·cases hk
end Go.bA
namespace Go.bA
open Go.Proofs
def Γ49:FuncId→Option Spec:=λf=>bif beq f 96 then some (au (nH WA))else bif beq f 97 then some (au K56)else Γk f
theorem apA: ∀f s,Γ49 f=some s→aH prog f s:=by
 intro f s h;unfold Γ49 at h;cases h1:beq f 96 with
 | true=>
   rw[h1]at h;cases h;rw[Nat.eq_of_beq_eq_true h1];exact afn.spec
 | false=>
   rw[h1]at h;simp only[cond_false]at h;cases h2:beq f 97 with
   | true=>
     rw[h2]at h;cases h;rw[Nat.eq_of_beq_eq_true h2];exact apz.spec
   | false=>
     rw[h2]at h;exact DU f s h
def WB:List (List AV×AV):=[([H8 20 [xB],H8 9 [Fu,Fv,DV,Fu,Fv]],Lc Wx)]
theorem akp:rowOk (eG prog (iR prog Γ49 AQ 70 20) 70 Tryz.f49) ([H8 20 [xB],H8 9 [Fu,Fv,DV,Fu,Fv]],Lc Wx)=true:=by kernel_rfl
theorem afo:aF prog 49 (nH WB):=by
 refine sV (jc aI (jW (N:=70) (ms:=AQ) aI apA 20) (fn:=Tryz.f49) (c:=codeOf Tryz.f49) (N:=70) (by kernel_rfl) (by kernel_rfl) (by kernel_rfl)) ?_;intro r hr;simp only[WB,List.mem_cons,List.not_mem_nil,or_false]at hr;subst hr;exact akp
end Go.bA
namespace Go.bA
open Go.Proofs
def WC:List (List AV×AV):=[([H8 20 [xB,xB]],H8 20 [xB])]
theorem akq:rowOk (eG prog (iR prog Γk AQ 70 20) 70 Tryz.f50) ([H8 20 [xB,xB]],H8 20 [xB])=true:=by kernel_rfl
theorem afp:aF prog 50 (nH WC):=by
 refine sV (jc aI (jW (N:=70) (ms:=AQ) aI DU 20) (fn:=Tryz.f50) (c:=codeOf Tryz.f50) (N:=70) (by kernel_rfl) (by kernel_rfl) (by kernel_rfl)) ?_;intro r hr;simp only[WC,List.mem_cons,List.not_mem_nil,or_false]at hr;subst hr;exact akq
end Go.bA
namespace Go.bA
open Go.Proofs
def WE:List (List AV×AV):=[([xP],H8 9 [Fu,Fv,DV,Fu,Fv])]
theorem akr:rowOk (eG prog (iR prog Γk AQ 70 20) 70 Tryz.f51) ([xP],H8 9 [Fu,Fv,DV,Fu,Fv])=true:=by kernel_rfl
theorem afq:aF prog 51 (nH WE):=by
 refine sV (jc aI (jW (N:=70) (ms:=AQ) aI DU 20) (fn:=Tryz.f51) (c:=codeOf Tryz.f51) (N:=70) (by kernel_rfl) (by kernel_rfl) (by kernel_rfl)) ?_;intro r hr;simp only[WE,List.mem_cons,List.not_mem_nil,or_false]at hr;subst hr;exact akr
end Go.bA
