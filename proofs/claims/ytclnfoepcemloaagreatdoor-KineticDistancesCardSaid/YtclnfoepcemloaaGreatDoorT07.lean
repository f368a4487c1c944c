/- Helpers for the proof: no statement of its own. -/
import Derived.Test.YtclnfoepcemloaaGreatDoorT00
import Derived.Test.YtclnfoepcemloaaGreatDoorT05
set_option linter.unusedVariables false
set_option linter.unusedSimpArgs false
set_option linter.unnecessarySimpa false
set_option linter.deprecated false
set_option maxRecDepth 1000000
namespace Go.bI
open Go.Proofs
def Qd:List (List AV×AV):=[([gJ (yC qW qW false false)],gJ qW),
 ([gJ (yC qW wo true true)],gJ ra1),
 ([gJ (yC wo wo false false)],gJ wo),
 ([gJ (yC wo qX true true)],gJ ra3),
 ([gJ (yC qX qX false false)],gJ qX),
 ([gJ (yC qX Le true true)],gJ ra5),
 ([gJ (yC Le Le false false)],gJ Le)]
theorem amX:rowOk (cO Tryz.prog (dW Tryz.prog Γk sO 70 20) 70 Tryz.f52) ([gJ (yC qW qW false false)],gJ qW)=true:=by kernel_rfl
theorem amY:rowOk (cO Tryz.prog (dW Tryz.prog Γk sO 70 20) 70 Tryz.f52) ([gJ (yC qW wo true true)],gJ ra1)=true:=by kernel_rfl
theorem amZ:rowOk (cO Tryz.prog (dW Tryz.prog Γk sO 70 20) 70 Tryz.f52) ([gJ (yC wo wo false false)],gJ wo)=true:=by kernel_rfl
theorem am0:rowOk (cO Tryz.prog (dW Tryz.prog Γk sO 70 20) 70 Tryz.f52) ([gJ (yC wo qX true true)],gJ ra3)=true:=by kernel_rfl
theorem am1:rowOk (cO Tryz.prog (dW Tryz.prog Γk sO 70 20) 70 Tryz.f52) ([gJ (yC qX qX false false)],gJ qX)=true:=by kernel_rfl
theorem am2:rowOk (cO Tryz.prog (dW Tryz.prog Γk sO 70 20) 70 Tryz.f52) ([gJ (yC qX Le true true)],gJ ra5)=true:=by kernel_rfl
theorem am3:rowOk (cO Tryz.prog (dW Tryz.prog Γk sO 70 20) 70 Tryz.f52) ([gJ (yC Le Le false false)],gJ Le)=true:=by kernel_rfl
theorem TF:aN Tryz.prog 52 (nY Qd):=by
 refine qV (jl aj (jM (N:=70) (ms:=sO) aj GJ 20) (fn:=Tryz.f52) (c:=codeOf Tryz.f52) (N:=70) (by kernel_rfl) (by kernel_rfl) (by kernel_rfl)) ?_;intro r hr;simp only[Qd,List.mem_cons,List.not_mem_nil,or_false]at hr;rcases hr with rfl|rfl|rfl|rfl|rfl|rfl|rfl
 ·exact amX
 ·exact amY
 ·exact amZ
 ·exact am0
 ·exact am1
 ·exact am2
 ·exact am3
end Go.bI
namespace Go.bI
open Go.Proofs
def Qe:List (List AV×AV):=[([nO 20 [oD],gJ qW],bL true),
 ([nO 20 [oD],gJ ra1],bL true),
 ([nO 20 [oD],gJ wo],bL true),
 ([nO 20 [oD],gJ ra3],bL true),
 ([nO 20 [oD],gJ qX],bL true),
 ([nO 20 [qg],gJ qW],bL true),
 ([nO 20 [qg],gJ ra1],bL true),
 ([nO 20 [qg],gJ wo],bL true),
 ([nO 20 [qg],gJ ra3],bL true),
 ([nO 20 [qg],gJ qX],bL true),
 ([nO 20 [qg],gJ ra5],bL true),
 ([nO 20 [qg],gJ Le],bL true)]
theorem ahu:rowOk (cO Tryz.prog (dW Tryz.prog Γk sO 70 20) 70 Tryz.f112) ([nO 20 [oD],gJ qW],bL true)=true:=by kernel_rfl
theorem ahv:rowOk (cO Tryz.prog (dW Tryz.prog Γk sO 70 20) 70 Tryz.f112) ([nO 20 [oD],gJ ra1],bL true)=true:=by kernel_rfl
theorem ahw:rowOk (cO Tryz.prog (dW Tryz.prog Γk sO 70 20) 70 Tryz.f112) ([nO 20 [oD],gJ wo],bL true)=true:=by kernel_rfl
theorem ahx:rowOk (cO Tryz.prog (dW Tryz.prog Γk sO 70 20) 70 Tryz.f112) ([nO 20 [oD],gJ ra3],bL true)=true:=by kernel_rfl
theorem ahy:rowOk (cO Tryz.prog (dW Tryz.prog Γk sO 70 20) 70 Tryz.f112) ([nO 20 [oD],gJ qX],bL true)=true:=by kernel_rfl
theorem ahz:rowOk (cO Tryz.prog (dW Tryz.prog Γk sO 70 20) 70 Tryz.f112) ([nO 20 [qg],gJ qW],bL true)=true:=by kernel_rfl
theorem ahA:rowOk (cO Tryz.prog (dW Tryz.prog Γk sO 70 20) 70 Tryz.f112) ([nO 20 [qg],gJ ra1],bL true)=true:=by kernel_rfl
theorem ahB:rowOk (cO Tryz.prog (dW Tryz.prog Γk sO 70 20) 70 Tryz.f112) ([nO 20 [qg],gJ wo],bL true)=true:=by kernel_rfl
theorem ahC:rowOk (cO Tryz.prog (dW Tryz.prog Γk sO 70 20) 70 Tryz.f112) ([nO 20 [qg],gJ ra3],bL true)=true:=by kernel_rfl
theorem ahD:rowOk (cO Tryz.prog (dW Tryz.prog Γk sO 70 20) 70 Tryz.f112) ([nO 20 [qg],gJ qX],bL true)=true:=by kernel_rfl
theorem acP:rowOk (cO Tryz.prog (dW Tryz.prog Γk sO 70 20) 70 Tryz.f112) ([nO 20 [qg],gJ ra5],bL true)=true:=by kernel_rfl
theorem acQ:rowOk (cO Tryz.prog (dW Tryz.prog Γk sO 70 20) 70 Tryz.f112) ([nO 20 [qg],gJ Le],bL true)=true:=by kernel_rfl
theorem acR:aN Tryz.prog 112 (nY Qe):=by
 refine qV (jl aj (jM (N:=70) (ms:=sO) aj GJ 20) (fn:=Tryz.f112) (c:=codeOf Tryz.f112) (N:=70) (by kernel_rfl) (by kernel_rfl) (by kernel_rfl)) ?_;intro r hr;simp only[Qe,List.mem_cons,List.not_mem_nil,or_false]at hr;rcases hr with rfl|rfl|rfl|rfl|rfl|rfl|rfl|rfl|rfl|rfl|rfl|rfl
 ·exact ahu
 ·exact ahv
 ·exact ahw
 ·exact ahx
 ·exact ahy
 ·exact ahz
 ·exact ahA
 ·exact ahB
 ·exact ahC
 ·exact ahD
 ·exact acP
 ·exact acQ
end Go.bI
namespace Go.bI
open Go.Proofs
def yD:Code→Code
 | .seq _ (.seq (.seq _ b) _)=>b
 | c=>c
def acS:Code→Code
 | .block _ (.rangeFunc _ _ a _)=>a
 | _=> .skip
def acT:Code→Code
 | .block _ (.rangeFunc _ _ _ b)=>b
 | _=> .skip
def Γ84(sY:Spec):FuncId→Option Spec:=λf=>bif Nat.beq f 1000000000 then some sY else
 bif Nat.beq f 52 then some (ay (nY Qd))else bif Nat.beq f 112 then some (ay (nY Qe))else none
def S84(l:Nat)(pts per:IV):St:={tm:=[.c (.v (qE l)),.gq [pts],.gq [per]]++List.replicate 45 (.c (.v undef)),mem:=gQ [some (.cells [.c (.v (.slice none 0 0))] 91)],nx:=1}
def finSeq(q:Ex×St):Tr je:=
 match q.1 with
 | .exit _=> .fail "seq: exit"
 | _=>
   match Gl 1 q.2 (bL true)with
   | some o=> .ret o
   | none=> .fail "seq: pack"
def Tr.go{α:Type}:Tr α→Option (List Bool×α)
 | .ret a=>some ([],a)
 | .ite c t e=>bif c then t.go else e.go
 | .need p t=>t.go.map λq=>(p::q.1,q.2)
 | .both _ _=>none
 | .fail _=>none
theorem Tr.go_sat{α:Type}: ∀{t:Tr α} {ps:List Bool} {a:α},t.go=some (ps,a)→(∀p∈ps,p=true)→t.sat (· =a)
 | .ret a,ps,b,h,hp=>by
   simp only[Tr.go,fK,Prod.mk.injEq]at h;exact h.2
 | .ite c t e,ps,b,h,hp=>by
   cases c with
   | true=>exact⟨λ_=>Tr.go_sat (by simpa[Tr.go]using h) hp,λh=>by cases h⟩
   | false=>exact⟨λh=>(by cases h),λ_=>Tr.go_sat (by simpa[Tr.go]using h) hp⟩
 | .need p t,ps,b,h,hp=>by
   obtain⟨q,hq,he⟩:=Option.map_eq_some_iff.1 h;simp only[Prod.mk.injEq]at he;obtain⟨rfl,rfl⟩:=he;exact⟨hp p (List.mem_cons_self ..),λ_=>Tr.go_sat (a:=q.2) (ps:=q.1) hq λp' h'=>hp p' (List.mem_cons_of_mem _ h')⟩
 | .both _ _,ps,b,h,hp=>by cases h
 | .fail _,ps,b,h,hp=>by cases h
def TG(o:je)(out:List (List IV)):Bool:=
 match o.outs,o.new with
 | [some (.cells [.iP 1 n 20] 91)],some (.arr m 20 el 38)=>Nat.beq n out.length&&(Nat.beq m out.length&&(List.range out.length).all λk=>ahr (el k) (out.getD k []))
 | _,_=>false
def Cj(l:List (List IV)):AV:= .c (.sl l.length 20 λk=>l.getD k [])
def ahE:IV:= .sl 3 9 λk=> [qW,wo,qX].getD k []
def ahF:IV:= .sl 1 20 λk=> [oD].getD k []
def XK:List (List IV):=[yC qW qW false false,yC qW wo true true,yC wo wo false false,yC wo qX true true,yC qX qX false false]
def ahG:IV:= .sl 4 9 λk=> [qW,wo,qX,Le].getD k []
def ahH:IV:= .sl 1 20 λk=> [qg].getD k []
def XL:List (List IV):=[yC qW qW false false,yC qW wo true true,yC wo wo false false,yC wo qX true true,yC qX qX false false,yC qX Le true true,yC Le Le false false]
end Go.bI
namespace Go.bI
open Go.Proofs Go.RowKit
theorem am4(l:Nat):(((exec Tryz.prog (Γ84 (KZ Tryz.prog 5 13 2 7 (acS (yD (codeOf Tryz.f144))) (acT (yD (codeOf Tryz.f144))) l 0)) bX 1010 (codeOf Tryz.f145) (S84 l ahE ahF)).bind finSeq).go).map (λq=>(q.1,TG q.2 XK))=
 some ([true,decide (l=l),true,decide (l=l),true,decide (l=l),true,decide (l=l),true,decide (l=l)],true):=by kernel_rfl
theorem am5(l:Nat):(((exec Tryz.prog (Γ84 (KZ Tryz.prog 5 13 2 7 (acS (yD (codeOf Tryz.f144))) (acT (yD (codeOf Tryz.f144))) l 0)) bX 1010 (codeOf Tryz.f145) (S84 l ahG ahH)).bind finSeq).go).map (λq=>(q.1,TG q.2 XL))=
 some ([true,decide (l=l),true,decide (l=l),true,decide (l=l),true,decide (l=l),true,decide (l=l),true,decide (l=l),true,decide (l=l)],true):=by kernel_rfl
def Gathers(pts per:IV)(out:List (List IV)):Prop:=
 ∀l,((exec Tryz.prog (Γ84 (KZ Tryz.prog 5 13 2 7 (acS (yD (codeOf Tryz.f144))) (acT (yD (codeOf Tryz.f144))) l 0)) bX 1010 (codeOf Tryz.f145) (S84 l pts per)).bind finSeq).sat λo=>TG o out=true
theorem K4{pts per:IV}{out:List (List IV)}{ps:Nat→List Bool}(hp: ∀l, ∀p∈ps l,p=true)(h: ∀l,(((exec Tryz.prog (Γ84 (KZ Tryz.prog 5 13 2 7 (acS (yD (codeOf Tryz.f144))) (acT (yD (codeOf Tryz.f144))) l 0)) bX 1010 (codeOf Tryz.f145) (S84 l pts per)).bind finSeq).go).map (λq=>(q.1,TG q.2 out))=some (ps l,true)):Gathers pts per out:=by
 intro l;obtain⟨q,hq,he⟩:=Option.map_eq_some_iff.1 (h l);simp only[Prod.mk.injEq]at he;obtain⟨h1,h2⟩:=he;refine Tr.bC ?_ (Tr.go_sat (ps:=q.1) (a:=q.2) hq (by rw[h1];exact hp l));rintro o rfl;exact h2
theorem ahI:Gathers ahE ahF XK:=K4 (ps:=λl=> [true,decide (l=l),true,decide (l=l),true,decide (l=l),true,decide (l=l),true,decide (l=l)]) (λl p hp=>by simp at hp;simpa using hp) am4
theorem ahJ:Gathers ahG ahH XL:=K4 (ps:=λl=> [true,decide (l=l),true,decide (l=l),true,decide (l=l),true,decide (l=l),true,decide (l=l),true,decide (l=l),true,decide (l=l)]) (λl p hp=>by simp at hp;simpa using hp) am5
def ZW(P:Program)(f:FuncId)(args:List AV)(v:AV):Prop:=
 ∀(A:Nat→Prop) (w:World) (vs:List Value),(∀b,A b→b<w.heap.size)→eF A (λ_=>none) w args vs→iW P f vs.toArray w λe w'=> ∃u,e= .returned u∧aV A (λ_=>none) w' v u∧Below w.heap.size w w'
theorem TH{P:Program}{f:FuncId}: ∀{rows:List (List AV×AV)},(∀r∈rows,fu r.2=true∧ZW P f r.1 r.2)→aN P f (nY rows)
 | [],_=>⟨λ_ _ _ h=>by cases h⟩
 | r::l,h=>by
   refine⟨λargs v cs hk=> ?_⟩;unfold nY at hk;cases hb:NR args r.1 with
   | false=>rw[hb]at hk;exact(TH (rows:=l) λr' hr=>h r' (List.mem_cons_of_mem _ hr)).sound args v cs hk
   | true=>
     rw[hb]at hk;cases hk;obtain⟨h1,h2⟩:=h r (List.mem_cons_self ..);exact⟨h1,λA w vs hA _ hr=>h2 A w vs hA ((Ci hb).Oz hr)⟩
theorem GK{A:Nat→Prop}{w:World}{args:List AV}{vs:List Value}{nt:Nat}(hA: ∀b,A b→b<w.heap.size)(hargs:eF A (λ_=>none) w args vs):
  (Ctx.mk A (λ_=>False) w 0 (λ_=>none)).Ok∧Holds ⟨A,λ_=>False,w,0,λ_=>none⟩ (λ_=>none) (start args nt) {tmps:=vs.toArray++Array.replicate (nt-vs.toArray.size) undef,defers:=[]} w:=by
 refine⟨⟨hA,λ_ h=>h.elim,λ_ _ h=>h⟩,?_⟩;have hown: ∀b,aT A (λ_=>none) (start args nt).mem b↔A b:=λb=>by
  constructor
  ·intro h
   rcases h with h|⟨s,e,h1,_⟩
   ·exact h
   ·cases h1
  ·exact λh=>Or.inl h
 have QT: ∀{x:AV} {v:Value},aV A (λ_=>none) w x v→aV (aT A (λ_=>none) (start args nt).mem) (λ_=>none) w x v:=
  λh=>h.trans (Trans.refl _ _) (λb _ hb=>(hown b).1 hb) (λ_ _ h=>h)
 have hlen:vs.length=args.length:=hargs.1;refine{defers:=rfl,size:=by simp[start,hlen],tm:=?_,mem:=λs e he=>(by cases he),inj:=λ_ _ _ _ _ h=>(by cases h),kept:=Kept.refl _ _,old:=λs β h=>(by cases h),fresh:=λ_ _=>rfl,base:=λ_ _=>rfl,uF:=Nat.zero_le _};intro t ht;by_cases hlt:t<args.length
 ·have:=QT (hargs.2 t hlt)
  have hlt':t<vs.length:=by omega
  simpa[start,dR,oQ,List.getElem?_append_left hlt,Array.getElem?_append,hlt,hlt']using this
 ·have ht':t-args.length<nt-args.length:=by simp only[start,List.length_append,List.length_replicate]at ht;omega
  have hlt': ¬t<vs.length:=by omega
  have e1:(start args nt).tm.getD t .any= .c (.v undef):=by
   simp[start,dR,List.getElem?_append_right (Nat.le_of_not_lt hlt),List.getElem?_replicate,ht']
  have e2:(vs.toArray++Array.replicate (nt-vs.toArray.size) undef).getD t undef=undef:=by
   simp[oQ,Array.getElem?_append,hlt',Array.getElem?_replicate,hlen,ht',hlt]
  show aV _ _ _ _ _
  rw[e1];simp only[]at e2⊢;rw[e2];exact aV.lit _
def avY:Code→Code
 | .seq a _=>a
 | c=>c
def avZ:Code→Code
 | .seq a (.seq (.seq b _) _)=> .seq a b
 | c=>c
def ase:Code→Code
 | .seq a _=>a
 | c=>c
def am6:Code→Code
 | .seq _ (.seq (.seq b _) _)=>b
 | c=>c
def ava:Code→Code
 | .seq _ (.seq _ (.seq c _))=>c
 | c=>c
theorem asf:codeOf Tryz.f144= .seq (ase (codeOf Tryz.f144)) (.seq (.seq (am6 (codeOf Tryz.f144)) (.block 0 (.rangeFunc (.tmp 6) #[7] (acS (yD (codeOf Tryz.f144))) (acT (yD (codeOf Tryz.f144)))))) (.seq (ava (codeOf Tryz.f144)) .ret)):=by kernel_rfl
def av7(q:Ex×St):Option (Bool×Bool×Bool):=
 match q.1,q.2.tm,q.2.mem 0 with
 | .normal,[_,.fn 145 [.gq [_],.gq [_]],.ptr 0 0,_,_,_,.fn 145 [.gq [_],.gq [_]],_,_,_,_,_,_],some (.cells [.c (.v (.slice none 0 0))] 91)=>some (true,true,true)
 | _,_,_=>none
def onN(k:St→Tr (Ex×St))(q:Ex×St):Tr (Ex×St):=
 match q.1 with
 | .normal=>k q.2
 | _=> .fail ""
theorem avb(pts per:IV):((exec Tryz.prog (λ_=>none) bX 1010 (ase (codeOf Tryz.f144)) (start [.c (.v (.slice none 0 0)),.fn 145 [.gq [pts],.gq [per]]] 13)).bind (onN (exec Tryz.prog (λ_=>none) bX 1010 (am6 (codeOf Tryz.f144)))))=
 .ret (.normal,{tm:=[.c (.v (.slice none 0 0)),.fn 145 [.gq [pts],.gq [per]],.ptr 0 0,.c (.v undef),.c (.v (.slice none 0 0)),.c (.v undef),.fn 145 [.gq [pts],.gq [per]],.c (.v undef),.c (.v undef),.c (.v undef),.c (.v undef),.c (.v undef),.c (.v undef)],mem:=Mem.set (λ_=>none) 0 (some (.cells [.c (.v (.slice none 0 0))] 91)),nx:=3}):=by kernel_rfl
end Go.bI
set_option maxHeartbeats 1000000
namespace Go.bI
open Go.Proofs Go.RowKit
theorem acU{o:je}{out:List (List IV)}(h:TG o out=true): ∃el,o.outs=[some (.cells [.iP 1 out.length 20] 91)]∧o.new=some (.arr out.length 20 el 38)∧ ∀k,k<out.length→el k=out.getD k []:=by
 unfold TG at h
 split at h
 ·rename_i n m el h1 h2
  simp only[cu]at h;obtain⟨h3,h4,h5⟩:=h;obtain rfl:=Nat.eq_of_beq_eq_true h3;obtain rfl:=Nat.eq_of_beq_eq_true h4;exact⟨el,h1,h2,λk hk=>Qb (List.all_eq_true.1 h5 k (List.mem_range.2 hk))⟩
 ·cases h
theorem asg{A:Nat→Prop}{B:eB}{w:World}{args:List AV}{vs:List Value}{nt:Nat}(hr:eF A B w args vs): ∀t,t<(args++List.replicate (nt-args.length) (AV.c (.v undef))).length→
  aV A B w ((args++List.replicate (nt-args.length) (AV.c (.v undef))).getD t .any) ((vs.toArray++Array.replicate (nt-vs.toArray.size) undef).getD t undef):=by
 intro t ht;have hlen:vs.length=args.length:=hr.1;by_cases hlt:t<args.length
 ·have:=hr.2 t hlt
  have hlt':t<vs.length:=by omega
  simpa[dR,oQ,List.getElem?_append_left hlt,Array.getElem?_append,hlt,hlt']using this
 ·have ht':t-args.length<nt-args.length:=by simp only[List.length_append,List.length_replicate]at ht;omega
  have hlt': ¬t<vs.length:=by omega
  have e1:(args++List.replicate (nt-args.length) (AV.c (.v undef))).getD t .any= .c (.v undef):=by
   simp[dR,List.getElem?_append_right (Nat.le_of_not_lt hlt),List.getElem?_replicate,ht']
  have e2:(vs.toArray++Array.replicate (nt-vs.toArray.size) undef).getD t undef=undef:=by
   simp[oQ,Array.getElem?_append,hlt',Array.getElem?_replicate,hlen,ht',hlt]
  rw[e1,e2];exact aV.lit _
theorem am7 {A:Nat→Prop} {w w2:World} {B2:eB} {S2:St} {a2:Act} (hC:(Ctx.mk A (λ_=>False) w 0 (λ_=>none)).Ok) (H2:Holds ⟨A,λ_=>False,w,0,λ_=>none⟩ B2 S2 a2 w2) {Bs:Nat} (hB:B2 0=some Bs) (hm:S2.mem 0=some (.cells [.c (.v (.slice none 0 0))] 91))
  {o1 o2:Obj} {pts per:IV} {p1 p2:Value} (h1:aV (aT A B2 S2.mem) B2 w2 (.gq [pts]) p1) (h2:aV (aT A B2 S2.mem) B2 w2 (.gq [per]) p2):
  (Ctx.mk (λb=>A b∨(b=w2.heap.size+1∨b=w2.heap.size)) (λb=>b=Bs) ((w2.alloc o1).alloc o2) 1 (λs=>if s=0 then some Bs else none)).Ok∧
  Holds ⟨λb=>A b∨(b=w2.heap.size+1∨b=w2.heap.size),λb=>b=Bs,(w2.alloc o1).alloc o2,1,λs=>if s=0 then some Bs else none⟩ (λs=>if s=0 then some Bs else none) (S84 (w2.heap.size+1) pts per)
   {tmps:= #[qE (w2.heap.size+1),p1,p2]++Array.replicate (48-3) undef,defers:=[]} ((w2.alloc o1).alloc o2):=by
 have hBs:Bs<w2.heap.size:=(H2.old 0 Bs hB).2;have hsz:((w2.alloc o1).alloc o2).heap.size=w2.heap.size+2:=by simp
 have hbel:Below w2.heap.size w2 ((w2.alloc o1).alloc o2):=((Below.refl _ w2).alloc (Nat.le_refl _) _).alloc (by simp) _;have ht: ∀X,Trans X w2 ((w2.alloc o1).alloc o2):=λX=>Trans.of_below hbel
 have hAs: ∀b,A b→b<w2.heap.size:=λb hb=>Nat.lt_of_lt_of_le (hC.a0 b hb) H2.kept.size
 refine⟨⟨λb hb=> ?_,λb hb=> ?_,λb hb hx=> ?_⟩,?_⟩
 ·rw[hsz]
  rcases hb with hb|rfl|rfl
  ·have:=hAs b hb;omega
  ·omega
  ·omega
 ·show b<((w2.alloc o1).alloc o2).heap.size
  have hb:b=Bs:=hb;rw[hsz];omega
 ·have hx:b=Bs:=hx
  subst hx;rcases hb with hb|hb|hb
  ·exact Ay hC H2 hB hb
  ·omega
  ·omega
 ·have hown: ∀b,b<w2.heap.size→aT (λb=>A b∨(b=w2.heap.size+1∨b=w2.heap.size)) (λs=>if s=0 then some Bs else none) (S84 (w2.heap.size+1) pts per).mem b→aT A B2 S2.mem b:=by
   rintro b hb ((h|h|h)|⟨s,e,h1,h2⟩)
   ·exact .inl h
   ·omega
   ·omega
   ·by_cases hs:s=0
    ·subst hs
     simp only[if_true,fK]at h2;subst h2;exact .inr ⟨0,_,hm,hB⟩
    ·simp only[hs,if_false]at h2;cases h2
  have hrel: ∀{x:AV} {v:Value},bI.fu x=true→aV (aT A B2 S2.mem) B2 w2 x v→aV (aT (λb=>A b∨(b=w2.heap.size+1∨b=w2.heap.size)) (λs=>if s=0 then some Bs else none) (S84 (w2.heap.size+1) pts per).mem) (λs=>if s=0 then some Bs else none) ((w2.alloc o1).alloc o2) x v:=
   λhn h=>(h.fu hn _).trans (ht _) hown (λ_ _ h=>h)
  refine{defers:=rfl,size:=by simp[S84],tm:=?_,mem:=?_,inj:=?_,kept:=Kept.refl _ _,old:=?_,fresh:=?_,base:=λ_ _=>rfl,uF:=Nat.le_refl _}
  ·exact asg (nt:=48) (args:=[.c (.v (qE (w2.heap.size+1))),.gq [pts],.gq [per]]) (vs:=[qE (w2.heap.size+1),p1,p2])
    (eF.cons (aV.lit _) (eF.cons (hrel rfl h1) (eF.cons (hrel rfl h2) .nil)))
  ·intro s e he
   by_cases hs:s=0
   ·subst hs
    have he:some (jk.cells [.c (.v (.slice none 0 0))] 91)=some e:=he;cases he;refine .inl ⟨Bs,rfl,?_⟩;rcases H2.mem 0 _ hm with⟨β,h3,h4⟩|⟨h3,_⟩
    ·rw[hB]at h3
     cases h3;rw[hbel.block Bs hBs];generalize w2.heap[Bs]? =ob at h4;cases h4 with
     | cells _ _ cs hcs hrc=>
       refine .cells _ _ cs hcs λj hj=> ?_
       have hj0:j=0:=by simpa using hj
       subst hj0;have:=(hrc 0 (by simp)).plain;rw[this];exact aV.lit _
    ·rw[hB]at h3;cases h3
   ·have:(S84 (w2.heap.size+1) pts per).mem s=none:=by
     simp only[S84,gQ];cases s with
     | zero=>exact absurd rfl hs
     | succ s=>simp
    rw[this]at he;cases he
  ·intro s s' e e' β _ _ h1 h2
   by_cases hs:s=0<;>by_cases hs':s'=0
   ·rw[hs,hs']
   ·simp only[hs',if_false]at h2;cases h2
   ·simp only[hs,if_false]at h1;cases h1
   ·simp only[hs,if_false]at h1;cases h1
  ·intro s β hs
   by_cases h0:s=0
   ·simp only[h0,if_true,fK]at hs
    subst hs;exact⟨.inr rfl,by rw[hsz];omega⟩
   ·simp only[h0,if_false]at hs;cases hs
  ·intro s hs
   have:s≠0:=by have:1≤s:=hs;omega
   simp only[this,if_false]
end Go.bI
set_option maxHeartbeats 2000000
namespace Go.bI
open Go.Proofs Go.RowKit
theorem TI:Tryz.f145.body=some (codeOf Tryz.f145):=by kernel_rfl
theorem TJ:Tryz.f144.body=some (codeOf Tryz.f144):=by kernel_rfl
theorem avc:Tryz.prog.funcs[145]? =some Tryz.f145:=by kernel_rfl
theorem ahK:Tryz.prog.funcs[144]? =some Tryz.f144:=by kernel_rfl
theorem avS:Tryz.f144.ntmps=13:=by kernel_rfl
theorem avd:Tryz.f145.results= #[]:=by kernel_rfl
theorem ave:Tryz.f144.results= #[.tmp 4]:=by kernel_rfl
def r4l:Code:= .region 4 #[{dst:=some 12,op:=Op.load 91 (Operand.tmp 2),type:=91,pos:= "iter.go:54",after:= #[],guard:=none},{dst:=some 4,op:=Op.assign (Operand.tmp 12),type:=91,pos:= "iter.go:54",after:= #[{on:=0,ground:=Ground.data},{on:=0,ground:=Ground.phase}],guard:=none}] false
theorem avf:ava (codeOf Tryz.f144)=r4l:=by kernel_rfl
theorem ash(u:Value):kS Tryz.prog 91 (Qk [.v u]) 0=some (.c (.v u)):=by kernel_rfl
theorem asi{C:Ctx}{sY:Spec}(h:mE C Tryz.prog j5 sY): ∀f s,Γ84 sY f=some s→mE C Tryz.prog f s:=by
 intro f s hs;unfold Γ84 at hs;cases hb:Nat.beq f 1000000000 with
 | true=>
   rw[hb]at hs;simp only[cond_true,fK]at hs;subst hs;rw[show f=j5 from Nat.eq_of_beq_eq_true hb];exact h
 | false=>
   rw[hb]at hs;simp only[cond_false]at hs;cases hb:Nat.beq f 52 with
   | true=>
     rw[hb]at hs;simp only[cond_true,fK]at hs;subst hs;rw[Nat.eq_of_beq_eq_true hb];exact TF.spec.at C
   | false=>
     rw[hb]at hs;simp only[cond_false]at hs;cases hb:Nat.beq f 112 with
     | true=>
       rw[hb]at hs;simp only[cond_true,fK]at hs;subst hs;rw[Nat.eq_of_beq_eq_true hb];exact acR.spec.at C
     | false=>rw[hb]at hs;cases hs
theorem asj{A:Nat→Prop}{w:World}{Q:Exit→Act→World→Prop}{a:Act}{W:World}{Bs:Nat}{u:Value}(hsz:a.tmps.size=13)(h2:a.tmps.getD 2 undef= .pointer (some ⟨Bs,0,none⟩))(hcell:W.heap[Bs]? =some (.cells #[u] 91 (0,0)))
  (hQ:Q .ret ((a.put (some 12) u).put (some 4) u) W):(Code.seq r4l .ret).wpIn Fence.wide 0 Tryz.prog Q a W:=by
 have hc:(W.cell? ⟨Bs,0,none⟩).isSome=true∧jG (λ_=>False) W (.v u) (kJ W ⟨Bs,0,none⟩):=by
  have e:W.cell? ⟨Bs,0,none⟩=some u:=by simp[World.cell?,hcell]
  refine⟨by rw[e];rfl,?_⟩;have:kJ W ⟨Bs,0,none⟩=u:=by simp[kJ,e]
  rw[this];exact .v u
 obtain⟨u',hrun,hrel⟩:=pz (P:=Tryz.prog) (B:=λ_=>none) (A:=λ_=>False) (w:=W) (t:=91) (b:=Bs) (off:=0) (j:=0) (l:=[.v u]) (λi hi=>by
  have:i=0:=by simpa using hi
  subst this;exact hc) (ash u)
 have hu:u'=u:=hrel.plain;subst hu;have hrun':(loadVar 91 ⟨Bs,0,none⟩).run Tryz.prog W= .ok u' W:=hrun;refine wpIn_seq (wpIn_region ?_);have hev:a.eval (.tmp 2)= .pointer (some ⟨Bs,0,none⟩):=h2
 show wpOpsIn Fence.wide 0 Tryz.prog _ _ [0,1] a W
 rw[wpOpsIn_cons];unfold wpOpIn;simp only[List.getElem?_toArray,List.getElem?_cons_zero,Region.wanted,if_true];refine⟨λ_ _=>trivial,?_⟩;rw[show∀(o:Oper),o.op=Op.load 91 (Operand.tmp 2)→(o.semAt Fence.wide.round a.eval).run Tryz.prog W= .ok (.value u') W from λo ho=>by
  rw[Oper.semAt_eq _ _ _ (by intro c hc;rw[ho]at hc;cases hc)];simp[execOp,ho,Instr.loadAt,hev,Instr.sureAddr,hrun']]
 ·rw[Oper.uponIn_value]
  show wpOpsIn Fence.wide 0 Tryz.prog _ _ [1] (a.put (some 12) u') W
  have avT:(a.put (some 12) u').eval (.tmp 12)=u':=by
   show(a.tmps.setIfInBounds 12 u').getD 12 undef=u'
   simp[oQ,hsz]
  rw[wpOpsIn_cons];unfold wpOpIn;simp only[List.getElem?_toArray,List.getElem?_cons_succ,List.getElem?_cons_zero,Region.wanted,if_true];refine⟨λ_ _=>trivial,?_⟩;rw[show∀(o:Oper),o.op=Op.assign (Operand.tmp 12)→(o.semAt Fence.wide.round (a.put (some 12) u').eval).run Tryz.prog W= .ok (.value u') W from λo ho=>by
   rw[Oper.semAt_eq _ _ _ (by intro c hc;rw[ho]at hc;cases hc)];simp[execOp,ho,avT]]
  ·rw[Oper.uponIn_value]
   exact wpIn_ret hQ
  ·rfl
 ·rfl
theorem Qf{C:Ctx}{B:eB}{S:St}{a:Act}{w:World}(hC:C.Ok)(H:Holds C B S a w){n:Nat}{el:Nat→List IV}{out:List (List IV)}{u:Value}(hn:n=out.length)(hm:S.mem 1=some (.arr n 20 el 38))(hel: ∀k,k<n→el k=out.getD k [])
  (h:aV (aT C.A0 B S.mem) B w (.iP 1 n 20) u):aV C.A0 (λ_=>none) w (Cj out) u:=by
 subst hn;have hv:iJ S.mem (.iP 1 out.length 20)=(.c (.sl out.length 20 el),[decide (out.length≤out.length)]):=by
  simp[iJ,hm]
 have hr:=sS H (A:=C.A0) (λb hb=> .inl hb) _ u h (λb hb=>by
  rintro⟨s,_,e,_,h2⟩;exact Ay hC H h2 hb) (by rw[hv];intro p hp;simp only[List.mem_singleton]at hp;subst hp;simp)
 rw[hv]at hr;have hs:bM (.c (.sl out.length 20 el)) (Cj out):=bM.sl hel;exact hs _ _ _ _ (hr.fu rfl _)
theorem aoj{pts per:IV}{out:List (List IV)}(hg:Gathers pts per out):ZW Tryz.prog 144 [.c (.v (.slice none 0 0)),.fn 145 [.gq [pts],.gq [per]]] (Cj out):=by
 intro A w vs hA hargs;refine iW.enter ahK ⟨aG ahK TJ (by kernel_rfl) _ _,(callsIn_wide (n:=0)).1 (callsIn_of_wp_marks ahK TJ trivial ?_ rfl)⟩;rw[asf,avf,avS];obtain⟨hC,H0⟩:=GK (nt:=13) hA hargs;have hs0:((exec Tryz.prog (λ_=>none) bX 1010 (ase (codeOf Tryz.f144)) (start [.c (.v (.slice none 0 0)),.fn 145 [.gq [pts],.gq [per]]] 13)).bind (onN (exec Tryz.prog (λ_=>none) bX 1010 (am6 (codeOf Tryz.f144))))).sat (· =(Ex.normal,{tm:=[.c (.v (.slice none 0 0)),.fn 145 [.gq [pts],.gq [per]],.ptr 0 0,.c (.v undef),.c (.v (.slice none 0 0)),.c (.v undef),.fn 145 [.gq [pts],.gq [per]],.c (.v undef),.c (.v undef),.c (.v undef),.c (.v undef),.c (.v undef),.c (.v undef)],mem:=Mem.set (λ_=>none) 0 (some (.cells [.c (.v (.slice none 0 0))] 91)),nx:=3})):=by
  rw[avb pts per];exact av rfl
 have avg: ∀(C:Ctx) (f:FuncId) (s:Spec),(λ_=>none:FuncId→Option Spec) f=some s→mE C Tryz.prog f s:=λC f s h=>by cases h
 refine wpIn_seq (pF ?_ (gG (ro:=none) aj (L:=bX) (N:=1010) (avg _) hC _ (ak _ _) _ _ _ _ _ (Tr.gP hs0) H0));rintro e a1 w1 ⟨ex,S1,B1,rfl,H1,hq1⟩;cases ex with
 | exit j=>exact hq1.elim
 | ret=>exact hq1.elim
 | normal=>
 refine wpIn_seq (wpIn_seq (pF ?_ (gG (ro:=none) aj (L:=bX) (N:=1010) (avg _) hC (am6 (codeOf Tryz.f144)) (ak _ _) _ S1 _ _ _ hq1 H1)));rintro e a2 w2 ⟨ex,S2,B2,rfl,H2,hq2⟩;simp only[Prod.mk.injEq]at hq2;obtain⟨rfl,hS⟩:=hq2;have hB0: ∃Bs,B2 0=some Bs∧a2.tmps.getD 2 undef= .pointer (some ⟨Bs,0,none⟩):=by
  have h:=H2.tm 2 (by rw[hS];show 2<13;decide);rw[hS]at h;obtain⟨β,h1,h2⟩:=(show aV _ _ _ (.ptr 0 0) _ from h).mQ;exact⟨β,h1,h2⟩
 obtain⟨Bs,hB,hp2⟩:=hB0;have hm:S2.mem 0=some (.cells [.c (.v (.slice none 0 0))] 91):=by rw[hS];rfl
 have hsize:a2.tmps.size=13:=by rw[H2.size,hS];rfl
 have hfn: ∃cs:List Value,a2.eval (.tmp 6)= .func (.func 145) #[] cs.toArray∧eF (aT A B2 S2.mem) B2 w2 [.gq [pts],.gq [per]] cs:=by
  have h:=bP H2 (.tmp 6);have e:cZ S2.tm (.tmp 6)= .fn 145 [.gq [pts],.gq [per]]:=by rw[hS];rfl
  rw[e]at h;exact h.I8
 obtain⟨cs,hev,hcs⟩:=hfn;obtain⟨p1,cs1,rfl,hp,hcs⟩:=hcs.head;obtain⟨p2',cs2,rfl,hq,hcs⟩:=hcs.head;obtain rfl:=hcs.o8;refine wpIn_block (wpIn_rangeFunc ?_);intro fn _
 let l:=w2.heap.size+1
 let zJ:Loop:={state:= .ready,pending:=none,fn,tmps:=a2.tmps,params:= #[7],assign:=acS (yD (codeOf Tryz.f144)),body:=acT (yD (codeOf Tryz.f144)),defers:=w2.heap.size}
 obtain⟨asl,H84⟩:=am7 hC H2 hB hm (o1:= .deferred (some [])) (o2:= .loop zJ) hp hq;have hl1:((w2.alloc (.deferred (some []))).alloc (.loop zJ)).heap[w2.heap.size+1]? =some (.loop zJ):=by
  have:=World.alloc_heap_new (w2.alloc (.deferred (some []))) (.loop zJ)
  rwa [World.size_alloc]at this
 have hD1:((w2.alloc (.deferred (some []))).alloc (.loop zJ)).heap[w2.heap.size]? =some (.deferred (some [])):=
  (Below.heap_alloc _ _ _ (by simp)).trans (World.alloc_heap_new w2 _)
 refine⟨w2.heap.size+1,[{target:= .collected w2.heap.size,args:= #[]}],(w2.alloc (.deferred (some []))).alloc (.loop zJ),{target:= .fn (.func 145) #[p1,p2'],args:= #[.func (.yield (w2.heap.size+1)) #[] #[]]},(w2.alloc (.deferred (some []))).alloc (.loop zJ),145, #[.func (.yield (w2.heap.size+1)) #[] #[]]++ #[p1,p2'],(w2.alloc (.deferred (some []))).alloc (.loop zJ),run_enterLoop_outer _ _ _ _ _,?_,λ_ _=>trivial,?_,λh=>(by cases h),?_⟩
 ·simp only[resolve,hev]
  simp[go_sem]
 ·simp[invoke,go_sem,aG avc TI (by kernel_rfl)]
 ·refine callsIn_wide.2 (calls_of_wp avc TI ?_)
  have asn:=ahq (P:=Tryz.prog) aj (N:=5) (nt:=13) (tb:=2) (p:=7) (l:=w2.heap.size+1) (box:=0) hsize hp2 (by decide) asl (.inr (.inl rfl)) (Nat.lt_succ_self 0) rfl hl1;refine Code.wp_mono ?_ (qJ (gG (ro:=none) aj (L:=bX) (N:=1010) (asi asn) asl (codeOf Tryz.f145) (ak _ _) _ _ _ _ _ (Tr.gP (hg (w2.heap.size+1))) H84));rintro e a' W2 ⟨ex,S',B',rfl,H',hq'⟩;have hne:ex= .normal∨ex= .ret:=by
   cases ex with
   | exit j=>exact hq'.elim
   | normal=>exact .inl rfl
   | ret=>exact .inr rfl
  have hpk: ∃o,Gl 1 S' (bL true)=some o∧TG o out=true:=by
   have key:(match Gl 1 S' (bL true)with|some o=>Tr.ret o|none=>Tr.fail "seq: pack").sat (λo=>TG o out=true):=by
    rcases hne with rfl|rfl<;>exact hq'
   split at key
   ·rename_i o ho;exact⟨o,ho,key⟩
   ·exact key.elim
  obtain⟨o,ho,avU⟩:=hpk;obtain⟨B3,Hp,_,hol⟩:=uV (k:=1) rfl H' (x:=bL true) (v:= .bool true) (aV.lit _) ho;obtain⟨el,ho1,ho2,hel⟩:=acU avU;have hm0:(nI (o.outs++[o.new]) (1+1)).mem 0=some (.cells [.iP 1 out.length 20] 91):=by rw[ho1,ho2];rfl
  have hm1:(nI (o.outs++[o.new]) (1+1)).mem 1=some (.arr out.length 20 el 38):=by rw[ho1,ho2];rfl
  have hB3:B3 0=some Bs:=Hp.base 0 (Nat.lt_succ_self 0);obtain⟨u,hcell,hu⟩: ∃u,W2.heap[Bs]? =some (.cells #[u] 91 (0,0))∧aV (aT (λb=>A b∨(b=w2.heap.size+1∨b=w2.heap.size)) B3 (nI (o.outs++[o.new]) (1+1)).mem) B3 W2 (.iP 1 out.length 20) u:=by
   rcases Hp.mem 0 _ hm0 with⟨β,h1,h2⟩|⟨h1,_⟩
   ·rw[hB3]at h1
    cases h1;generalize W2.heap[Bs]? =ob at h2⊢;cases h2 with
    | cells _ _ cs hcs hr=>
      have h1:cs.size=1:=hcs;have e:cs= #[cs.getD 0 undef]:=by
       apply Array.ext
       ·simp[h1]
       ·intro i hi _
        have:i=0:=by omega
        subst this;simp[oQ,h1]
      exact⟨cs.getD 0 undef,by rw[←e],hr 0 (by simp)⟩
   ·rw[hB3]at h1;cases h1
  have hres:=Qf asl Hp rfl hm1 hel hu;have hBlt:Bs<w2.heap.size:=(H2.old 0 Bs hB).2;have av8:w.heap.size≤Bs:=((H2.old 0 Bs hB).1).resolve_right (λh=>h);have hW1:((w2.alloc (.deferred (some []))).alloc (.loop zJ)).heap.size=w2.heap.size+2:=by simp
  have hl2:W2.heap[w2.heap.size+1]? =some (.loop zJ):=(H'.kept.block (w2.heap.size+1) (by show _<((w2.alloc (.deferred (some []))).alloc (.loop zJ)).heap.size;omega) (λh=>by have h:w2.heap.size+1=Bs:=h;omega)).trans hl1;have hD2:W2.heap[w2.heap.size]? =some (.deferred (some [])):=(H'.kept.block w2.heap.size (by show _<((w2.alloc (.deferred (some []))).alloc (.loop zJ)).heap.size;omega) (λh=>by have h:w2.heap.size=Bs:=h;omega)).trans hD1;have hD3:(W2.putObj (w2.heap.size+1) (.loop {zJ with state:= .exhausted})).heap[w2.heap.size]? =some (.deferred (some [])):=(World.putObj_heap_other (by omega)).trans hD2
  have fin: ∀v:Value,rangePost Fence.wide 0 Tryz.prog (w2.heap.size+1) (Exit.inBlock 0 (Exit.then (Code.wpIn Fence.wide 0 Tryz.prog (r4l.seq Code.ret) (bodyPostM Fence.wide 0 Tryz.prog Tryz.f144 λe w'=> ∃u,e=Ending.returned u∧aV A (λx=>none) w' (Cj out) u∧Below w.heap.size w w'))
    (bodyPostM Fence.wide 0 Tryz.prog Tryz.f144 λe w'=> ∃u,e=Ending.returned u∧aV A (λx=>none) w' (Cj out) u∧Below w.heap.size w w')))
    {tmps:=a2.tmps,defers:=[{target:=Target.collected w2.heap.size,args:= #[]}]++a2.defers} (.returned v) W2:=by
   intro v;refine⟨none,_,run_endLoop hl2 (by simp[zJ]),?_⟩
   show Code.wpIn Fence.wide 0 Tryz.prog (r4l.seq Code.ret) _ _ _
   refine asj (A:=A) (w:=w) (Bs:=Bs) (u:=u) hsize hp2 ((World.putObj_heap_other (by omega)).trans hcell) ?_
   show LeavesInM Fence.wide 0 Tryz.prog Tryz.f144 _ _ ([{target:=Target.collected w2.heap.size,args:= #[]}]++a2.defers) .returning _
   rw[H2.defers];refine⟨by simp,.inl ⟨w2.heap.size,_,rfl,run_takeDeferred hD3,?_⟩⟩
   show LeavesIn Fence.wide 0 Tryz.prog Tryz.f144 _ _ [] .returning _
   refine⟨_,results_tmp ave _ _ _,u,?_,?_,?_⟩
   ·congr 1
    show((a2.tmps.setIfInBounds 12 u).setIfInBounds 4 u).getD 4 undef=u
    simp[oQ,hsize]
   ·have t1:=Ch (A:=λb=>A b∨(b=w2.heap.size+1∨b=w2.heap.size)) (o':= .loop {zJ with state:= .exhausted}) hl2 (λ_ _ _ h=>by cases h) (.inr (.inl rfl))
    have t2:=Ch (A:=λb=>A b∨(b=w2.heap.size+1∨b=w2.heap.size)) (o':= .deferred none) hD3 (λ_ _ _ h=>by cases h) (.inr (.inr rfl));exact((hres.trans t1 (λ_ _ h=>h) (λ_ _ h=>h)).trans t2 (λ_ _ h=>h) (λ_ _ h=>h)).trans (Trans.refl _ _) (λb _ h=> .inl h) (λ_ _ h=>h)
   ·have k2:=H2.kept
    have k4:=H'.kept;have hs2:w.heap.size≤w2.heap.size:=k2.size;have hs4:w2.heap.size+2≤W2.heap.size:=by have:=k4.size;simpa using this
    refine⟨?_,?_,?_,?_,?_⟩
    ·exact k4.os.trans k2.os
    ·exact k4.tape.trans k2.tape
    ·exact k4.output.trans k2.output
    ·simp only[World.putObj_size];omega
    ·intro k hk
     rw[World.putObj_heap_other (by omega),World.putObj_heap_other (by omega),k4.block k (by show k<((w2.alloc (.deferred (some []))).alloc (.loop zJ)).heap.size;omega) (λh=>by have h:k=Bs:=h;omega)]
     show((w2.alloc (.deferred (some []))).alloc (.loop zJ)).heap[k]? =_
     rw[Below.heap_alloc _ _ k (by simp;omega),Below.heap_alloc _ _ k (by omega)];exact k2.block k hk (λh=>h)
  have hr: ∃v,(results Tryz.f145 a'.tmps).run Tryz.prog W2= .ok v W2:=by
   obtain⟨v,hv,_⟩:=pI (fn:=Tryz.f145) (P:=Tryz.prog) H' (x:= .iC []) (by rw[avd];rfl);exact⟨v,hv⟩
  obtain⟨v,hv⟩:=hr;rcases hne with rfl|rfl<;>exact⟨H'.defers,v,hv,fin v⟩
end Go.bI
set_option maxHeartbeats 2000000
namespace Go.bI
open Go.Proofs Go.RowKit
def XM:List (List AV×AV):=[([.c (.v (.slice none 0 0)),.fn 145 [.gq [ahE],.gq [ahF]]],Cj XK),
 ([.c (.v (.slice none 0 0)),.fn 145 [.gq [ahG],.gq [ahH]]],Cj XL)]
theorem ahL:aN Tryz.prog 144 (nY XM):=by
 refine TH ?_;intro r hr;simp only[XM,List.mem_cons,List.not_mem_nil,or_false]at hr;rcases hr with rfl|rfl
 ·exact⟨rfl,aoj ahI⟩
 ·exact⟨rfl,aoj ahJ⟩
def Γ55:FuncId→Option Spec:=λf=>bif Nat.beq f 144 then some (ay (nY XM))else none
theorem aso: ∀f s,Γ55 f=some s→aR Tryz.prog f s:=bS ahL.spec
def XO:List (List AV×AV):=[([.fn 145 [.gq [ahE],.gq [ahF]]],Cj XK),
 ([.fn 145 [.gq [ahG],.gq [ahH]]],Cj XL)]
theorem am8:rowOk (cO Tryz.prog Γ55 70 Tryz.f96) ([.fn 145 [.gq [ahE],.gq [ahF]]],Cj XK)=true:=by kernel_rfl
theorem am9:rowOk (cO Tryz.prog Γ55 70 Tryz.f96) ([.fn 145 [.gq [ahG],.gq [ahH]]],Cj XL)=true:=by kernel_rfl
theorem ahM:aN Tryz.prog 96 (nY XO):=by
 refine qV (jl (N:=70) aj aso (fn:=Tryz.f96) (c:=codeOf Tryz.f96) (by kernel_rfl) (by kernel_rfl) (by kernel_rfl)) ?_;intro r hr;simp only[XO,List.mem_cons,List.not_mem_nil,or_false]at hr;rcases hr with rfl|rfl
 ·exact am8
 ·exact am9
theorem TK{C:Ctx}{B:eB}{S:St}{a:Act}{w:World}(hC:C.Ok)(H:Holds C B S a w){s β:Nat}{x:IV}{t:TypeId}(hB:B s=some β)(hm:S.mem s=some (.cells [.c x] t)):
  aV C.A0 (λ_=>none) w (.gq [x]) (.pointer (some ⟨β,0,none⟩)):=by
 rcases H.mem s _ hm with⟨γ,h1,h2⟩|⟨h1,_⟩
 ·rw[hB]at h1
  cases h1;generalize uG:w.heap[β]? =ob at h2;cases h2 with
  | cells _ _ cs hcs hr=>
    refine .gq _ β 0 (Ay hC H hB) (H.old s β hB).2 λj hj=> ?_
    have hj0:j=0:=by simpa using hj
    subst hj0;have h1:cs.size=1:=hcs;have e:w.cell? ⟨β,0+0,none⟩=some (cs.getD 0 undef):=by simp[World.cell?,uG,oQ,h1]
    refine⟨by rw[e];rfl,?_⟩;have e2:kJ w ⟨β,0+0,none⟩=cs.getD 0 undef:=by unfold kJ;rw[e];rfl
    rw[e2];have:=hr 0 (by simp);have h3:aV (aT C.A0 B S.mem) B w (.c x) (cs.getD 0 undef):=this;cases h3 with
    | c _ _ hi=>exact hi.trans (Trans.refl _ _) (λb _ hb=> .inl hb)
 ·rw[hB]at h1;cases h1
def K56:List AV→Option (AV×List Bool)
 | [.c (.sl n 20 el),.c (.sl m 9 jw)]=>some (.fn 145 [.gq [.sl m 9 jw],.gq [.sl n 20 el]],[])
 | _=>none
theorem avh(n m:Nat)(el jw:Nat→List IV):exec Tryz.prog (λ_=>none) bX 1010 (codeOf Tryz.f97) (start [.c (.sl n 20 el),.c (.sl m 9 jw)] 6)=
 .ret (.ret,{tm:=[.c (.sl n 20 el),.c (.sl m 9 jw),.ptr 0 0,.ptr 1 0,.fn 145 [.ptr 1 0,.ptr 0 0],.fn 145 [.ptr 1 0,.ptr 0 0]],mem:=Mem.set (Mem.set (λ_=>none) 0 (some (.cells [.c (.sl n 20 el)] 91))) 1 (some (.cells [.c (.sl m 9 jw)] 68)),nx:=5}):=by kernel_rfl
theorem TL:Tryz.f97.body=some (codeOf Tryz.f97):=by kernel_rfl
theorem asq:Tryz.prog.funcs[97]? =some Tryz.f97:=by kernel_rfl
theorem avV:Tryz.f97.ntmps=6:=by kernel_rfl
theorem avi:Tryz.f97.results= #[.tmp 4]:=by kernel_rfl
theorem asr:aN Tryz.prog 97 K56 where
 sound:=by
  intro args v cs hk;unfold K56 at hk
  split at hk
  ·rename_i n el m jw
   cases hk;refine⟨rfl,λA w vs hA _ hargs=>iW.enter asq ⟨aG asq TL (by kernel_rfl) _ _,calls_of_wp asq TL ?_⟩⟩;rw[avV];obtain⟨hC,H0⟩:=GK (nt:=6) hA hargs;have hs:(exec Tryz.prog (λ_=>none) bX 1010 (codeOf Tryz.f97) (start [.c (.sl n 20 el),.c (.sl m 9 jw)] 6)).sat (· =(Ex.ret,{tm:=[.c (.sl n 20 el),.c (.sl m 9 jw),.ptr 0 0,.ptr 1 0,.fn 145 [.ptr 1 0,.ptr 0 0],.fn 145 [.ptr 1 0,.ptr 0 0]],mem:=Mem.set (Mem.set (λ_=>none) 0 (some (.cells [.c (.sl n 20 el)] 91))) 1 (some (.cells [.c (.sl m 9 jw)] 68)),nx:=5})):=by
    rw[avh];exact av rfl
   refine Code.wp_mono ?_ (qJ (gG (ro:=none) aj (L:=bX) (N:=1010) (Γ:=λ_=>none) (λf s h=>by cases h) hC (codeOf Tryz.f97) (ak _ _) _ _ _ _ _ hs H0));rintro e a' w' ⟨ex,S',B',rfl,H',hq⟩;simp only[Prod.mk.injEq]at hq;obtain⟨rfl,rfl⟩:=hq;have h4:=H'.tm 4 (by show 4<6;decide);obtain⟨cs,hv,hr⟩:=(show aV _ _ _ (.fn 145 [.ptr 1 0,.ptr 0 0]) _ from h4).I8;obtain⟨p1,cs1,rfl,hp,hr⟩:=hr.head;obtain⟨p2,cs2,rfl,hq,hr⟩:=hr.head;obtain rfl:=hr.o8;obtain⟨β1,hβ1,rfl⟩:=hp.mQ;obtain⟨β2,hβ2,rfl⟩:=hq.mQ;have i1:=TK hC H' (x:= .sl m 9 jw) (t:=68) hβ1 rfl;have i2:=TK hC H' (x:= .sl n 20 el) (t:=91) hβ2 rfl;refine⟨H'.defers,_,results_tmp avi _ _ _,_,rfl,?_,H'.kept.below⟩;rw[hv];have hrr:eF A (λ_=>none) w' [AV.gq [IV.sl m 9 jw],AV.gq [IV.sl n 20 el]] [.pointer (some ⟨β1,0,none⟩),.pointer (some ⟨β2,0,none⟩)]:=eF.cons i1 (eF.cons i2 .nil);exact .fn 145 _ _ (by simp) λj hj=>by simpa[oQ,dR]using hrr.2 j hj
  ·cases hk
end Go.bI
namespace Go.bI
open Go.Proofs
def Γ49:FuncId→Option Spec:=λf=>bif Nat.beq f 96 then some (ay (nY XO))else bif Nat.beq f 97 then some (ay K56)else Γk f
theorem asu: ∀f s,Γ49 f=some s→aR Tryz.prog f s:=by
 intro f s h;unfold Γ49 at h;cases h1:Nat.beq f 96 with
 | true=>
   rw[h1]at h;cases h;rw[Nat.eq_of_beq_eq_true h1];exact ahM.spec
 | false=>
   rw[h1]at h;simp only[cond_false]at h;cases h2:Nat.beq f 97 with
   | true=>
     rw[h2]at h;cases h;rw[Nat.eq_of_beq_eq_true h2];exact asr.spec
   | false=>
     rw[h2]at h;exact GJ f s h
def XP:List (List AV×AV):=[([nO 20 [oD],nO 9 [qW,qX,wo,qW,qX]],Cj XK),
 ([nO 20 [qg],nO 9 [qW,qX,wo,qW,qW,qX,qX,qW,Le]],Cj XL)]
theorem ana:rowOk (cO Tryz.prog (dW Tryz.prog Γ49 sO 70 20) 70 Tryz.f49) ([nO 20 [oD],nO 9 [qW,qX,wo,qW,qX]],Cj XK)=true:=by kernel_rfl
theorem anb:rowOk (cO Tryz.prog (dW Tryz.prog Γ49 sO 70 20) 70 Tryz.f49) ([nO 20 [qg],nO 9 [qW,qX,wo,qW,qW,qX,qX,qW,Le]],Cj XL)=true:=by kernel_rfl
theorem ahN:aN Tryz.prog 49 (nY XP):=by
 refine qV (jl aj (jM (N:=70) (ms:=sO) aj asu 20) (fn:=Tryz.f49) (c:=codeOf Tryz.f49) (N:=70) (by kernel_rfl) (by kernel_rfl) (by kernel_rfl)) ?_;intro r hr;simp only[XP,List.mem_cons,List.not_mem_nil,or_false]at hr;rcases hr with rfl|rfl
 ·exact ana
 ·exact anb
end Go.bI
namespace Go.bI
open Go.Proofs
def XQ:List (List AV×AV):=[([nO 20 [oD,oD]],nO 20 [oD]),
 ([nO 20 [oD,oD,qg]],nO 20 [qg]),
 ([nO 20 [oD,qg,oD]],nO 20 [qg]),
 ([nO 20 [qg,oD,oD]],nO 20 [qg])]
theorem anc:rowOk (cO Tryz.prog (dW Tryz.prog Γk sO 70 20) 70 Tryz.f50) ([nO 20 [oD,oD]],nO 20 [oD])=true:=by kernel_rfl
theorem ane:rowOk (cO Tryz.prog (dW Tryz.prog Γk sO 70 20) 70 Tryz.f50) ([nO 20 [oD,oD,qg]],nO 20 [qg])=true:=by kernel_rfl
theorem anf:rowOk (cO Tryz.prog (dW Tryz.prog Γk sO 70 20) 70 Tryz.f50) ([nO 20 [oD,qg,oD]],nO 20 [qg])=true:=by kernel_rfl
theorem ang:rowOk (cO Tryz.prog (dW Tryz.prog Γk sO 70 20) 70 Tryz.f50) ([nO 20 [qg,oD,oD]],nO 20 [qg])=true:=by kernel_rfl
theorem ahO:aN Tryz.prog 50 (nY XQ):=by
 refine qV (jl aj (jM (N:=70) (ms:=sO) aj GJ 20) (fn:=Tryz.f50) (c:=codeOf Tryz.f50) (N:=70) (by kernel_rfl) (by kernel_rfl) (by kernel_rfl)) ?_;intro r hr;simp only[XQ,List.mem_cons,List.not_mem_nil,or_false]at hr;rcases hr with rfl|rfl|rfl|rfl
 ·exact anc
 ·exact ane
 ·exact anf
 ·exact ang
end Go.bI
namespace Go.bI
open Go.Proofs
def XR:List (List AV×AV):=[([yL],nO 9 [qW,qX,wo,qW,qX]),
 ([oM],nO 9 [qW,qX,wo,qW,qW,qX,qX,qW,Le])]
theorem anh:rowOk (cO Tryz.prog (dW Tryz.prog Γk sO 70 20) 70 Tryz.f51) ([yL],nO 9 [qW,qX,wo,qW,qX])=true:=by kernel_rfl
theorem ani:rowOk (cO Tryz.prog (dW Tryz.prog Γk sO 70 20) 70 Tryz.f51) ([oM],nO 9 [qW,qX,wo,qW,qW,qX,qX,qW,Le])=true:=by kernel_rfl
theorem ahP:aN Tryz.prog 51 (nY XR):=by
 refine qV (jl aj (jM (N:=70) (ms:=sO) aj GJ 20) (fn:=Tryz.f51) (c:=codeOf Tryz.f51) (N:=70) (by kernel_rfl) (by kernel_rfl) (by kernel_rfl)) ?_;intro r hr;simp only[XR,List.mem_cons,List.not_mem_nil,or_false]at hr;rcases hr with rfl|rfl
 ·exact anh
 ·exact ani
end Go.bI
