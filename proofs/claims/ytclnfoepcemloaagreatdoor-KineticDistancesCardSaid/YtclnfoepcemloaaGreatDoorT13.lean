/- Helpers for the proof: no statement of its own. -/
import Derived.Test.YtclnfoepcemloaaGreatDoorT00
import Derived.Test.YtclnfoepcemloaaGreatDoorT11
import Derived.Test.YtclnfoepcemloaaGreatDoorT12
import Derived.Test.YtclnfoepcemloaaGreatDoorT08
import Derived.Test.YtclnfoepcemloaaGreatDoorRows
import Derived.Test.YtclnfoepcemloaaGreatDoorTie
import Derived.Test.YtclnfoepcemloaaGreatDoorCards
import Derived.ProofKit
import Derived.LaidMore
import Derived.OpenShut
import Derived.Stop.Joined
import Derived.Below
import Derived.Lay
import Derived.MakeChecks
import Derived.ChangeSame
import Derived.SevenTiedAt
import Derived.Deep.Slices
import Derived.Deep.Fields
import Derived.Lib.SmallJoins
import Derived.Carry
set_option linter.unusedVariables false
set_option linter.unusedSimpArgs false
set_option linter.unnecessarySimpa false
set_option linter.deprecated false
set_option maxRecDepth 1000000
namespace Go.bI
open Go.Proofs
noncomputable def Γ6k:FuncId→Option Spec:=λf=>bif Nat.beq f 33 then some (ay (nY XZ))else bif Nat.beq f 32 then some (ay (nY XY))else bif Nat.beq f 8 then some (ay (nY ahW))else bif Nat.beq f 31 then some (ay (nY X0))else bif Nat.beq f 86 then some (j6 (OD Tryz.prog (dW Tryz.prog Γk XW 70 20) 70 Tryz.f86))else Γ52 f
theorem asw: ∀f s,Γ6k f=some s→aR Tryz.prog f s:=by
 intro f s h;unfold Γ6k at h;cases h33:Nat.beq f 33 with
 | true=>
   rw[h33]at h;cases h;rw[Nat.eq_of_beq_eq_true h33];exact ahV.spec
 | false=>
 rw[h33]at h;simp only[cond_false]at h;cases h32:Nat.beq f 32 with
 | true=>
   rw[h32]at h;cases h;rw[Nat.eq_of_beq_eq_true h32];exact ahU.spec
 | false=>
 rw[h32]at h;simp only[cond_false]at h;cases h8:Nat.beq f 8 with
 | true=>
   rw[h8]at h;cases h;rw[Nat.eq_of_beq_eq_true h8];exact anD.spec
 | false=>
 rw[h8]at h;simp only[cond_false]at h;cases h31:Nat.beq f 31 with
 | true=>
   rw[h31]at h;cases h;rw[Nat.eq_of_beq_eq_true h31];exact ahX.spec
 | false=>
 rw[h31]at h;simp only[cond_false]at h;cases h86:Nat.beq f 86 with
 | true=>
   rw[h86]at h;cases h;rw[Nat.eq_of_beq_eq_true h86];exact(Js aj (jM (N:=70) (ms:=XW) aj GJ 20) (fn:=Tryz.f86) (c:=codeOf Tryz.f86) (by kernel_rfl) (by kernel_rfl) (by kernel_rfl)).spec
 | false=>
 rw[h86]at h;simp only[cond_false]at h;exact K7 f s h
def ahY:List (List AV×AV):=[([],bL true)]
theorem anF:rowOk (Qh Tryz.prog (dW Tryz.prog Γ6k XW 70 20) 70 2 Tryz.f10) ([],bL true)=true:=by kernel_rfl
theorem ahZ:aN Tryz.prog 10 (nY ahY):=by
 refine qV (acV aj (jM (N:=70) (ms:=XW) aj asw 20) (fn:=Tryz.f10) (c:=codeOf Tryz.f10) (N:=70) (by kernel_rfl) (by kernel_rfl) (by kernel_rfl) 2) ?_;intro r hr;simp only[ahY,List.mem_cons,List.not_mem_nil,or_false]at hr;subst hr;exact anF
end Go.bI
namespace Go.bI
open Go.Proofs
theorem anG:aN Tryz.prog 10 ahn where
 sound:=by
  intro args v cs h;unfold ahn at h
  split at h
  ·cases h
   exact ahZ.sound [] _ _ rfl
  ·cases h
theorem avp: ∀f s,ΓL f=some s→aR Tryz.prog f s:=step_ok anG.spec (step_ok auE.spec (step_ok auF.spec (step_ok au5.spec (bS au7.spec))))
def KLw:List AV→Option (AV×List Bool):=(F2 Nz bK).K (λ_=>bL true) λx=> [x.1.1.all Cw.ok,decide (x.1.1.length≤9223372036854775807)]
theorem asx:aN Tryz.prog 4 KLw:=
 (F2 Nz bK).dO (N:=1010) (L:=LA) aj avp (fn:=Tryz.f4) (c:=codeOf Tryz.f4) (by kernel_rfl) (by kernel_rfl) (by kernel_rfl) au4 (λ_=>rfl) (M:=λx=>MKd x.1.1 x.1.2.1 x.1.2.2.1 x.1.2.2.2 x.2.1) (λx=>asc x.1.1 x.1.2.1 x.1.2.2.1 x.1.2.2.2 x.2.1) λx h=>by
  obtain⟨⟨C,a,z,e⟩,id,⟨⟩⟩:=x;exact amU C a z e id (h (C.all Cw.ok) (by simp)) (dec (h (decide (C.length≤9223372036854775807)) (by simp)))
end Go.bI
namespace Go.bI
open Go.Proofs Go.RowKit
theorem Ck{W:World}{a:Addr}{v:Value}(h:W.cell? a=some v):a.spot=none∧a.block<W.heap.size:=by
 refine⟨World.cell?_spot h,?_⟩;unfold World.cell? at h
 split at h
 ·rename_i hh
  exact(Array.getElem?_eq_some_iff.1 hh).1
 ·cases h
theorem FT{α:Type}(d:α){P:Nat→α→Prop}: ∀n:Nat,(∀i,i<n→ ∃x,P i x)→ ∃l:List α,l.length=n∧ ∀i,i<n→P i (l.getD i d)
 | 0,_=>⟨[],rfl,λi hi=>by omega⟩
 | n+1,h=>by
   obtain⟨l,hl,hp⟩:=FT d n λi hi=>h i (by omega)
   obtain⟨x,hx⟩:=h n (by omega);refine⟨l++[x],by simp[hl],λi hi=> ?_⟩;by_cases hin:i<n
   ·have:(l++[x]).getD i d=l.getD i d:=by
     simp[dR,List.getElem?_append_left (by omega:i<l.length)]
    rw[this];exact hp i hin
   ·obtain rfl:i=n:=by omega
    have:(l++[x]).getD i d=x:=by
     simp[dR,hl]
    rw[this];exact hx
theorem X3{W:World}{b off:Nat}{x0 x1 x2 x3:Int}(h0:W.cell? ⟨b,off+0,none⟩=some (.int .u8 x0))(h1:W.cell? ⟨b,off+1,none⟩=some (.int .u8 x1))(h2:W.cell? ⟨b,off+2,none⟩=some (.int .u8 x2))(h3:W.cell? ⟨b,off+3,none⟩=some (.int .u8 x3)):
  ∀j,j<4→ ∃n,W.cell? ⟨b,off+j,none⟩=some (.int .u8 n)∧([.v (.int .u8 x0),.v (.int .u8 x1),.v (.int .u8 x2),.v (.int .u8 x3)]:List IV).getD j (.v undef)= .v (.int .u8 n):=by
 intro j hj;rcases(show j=0∨j=1∨j=2∨j=3 by omega)with rfl|rfl|rfl|rfl
 ·exact⟨x0,h0,rfl⟩
 ·exact⟨x1,h1,rfl⟩
 ·exact⟨x2,h2,rfl⟩
 ·exact⟨x3,h3,rfl⟩
theorem K8{W:World}{b off len cap:Nat}(hb:b<W.heap.size)(hc:len≤cap)
  (h: ∀i,i<len→ ∀j,j<4→ ∃n,W.cell? ⟨b,off+(i*4+j),none⟩=some (.int .u8 n)∧AR n=true):
  ∃S:List Stp,S.all Stp.ok=true∧jG (λ_=>False) W (.sl S.length 4 (zC S)) (.slice (some ⟨b,off,none⟩) len cap):=by
 obtain⟨S,hS,hp⟩:=FT (P:=λi s=>s.ok=true∧ ∀j,j<4→ ∃n,W.cell? ⟨b,off+(i*4+j),none⟩=some (.int .u8 n)∧(agP s).getD j (.v undef)= .v (.int .u8 n)) st0 len λi hi=>by
  obtain⟨x0,e0,o0⟩:=h i hi 0 (by omega);obtain⟨x1,e1,o1⟩:=h i hi 1 (by omega);obtain⟨x2,e2,o2⟩:=h i hi 2 (by omega);obtain⟨x3,e3,o3⟩:=h i hi 3 (by omega);refine⟨⟨x0,x1,x2,x3⟩,by show(AR x0&&(AR x1&&(AR x2&&AR x3)))=true;rw[o0,o1,o2,o3];rfl,λj hj=> ?_⟩;have:=X3 (off:=off+i*4) (by rw[Nat.add_assoc];exact e0) (by rw[Nat.add_assoc];exact e1) (by rw[Nat.add_assoc];exact e2) (by rw[Nat.add_assoc];exact e3) j hj;rw[Nat.add_assoc]at this;exact this
 subst hS;refine⟨S,List.all_eq_true.2 λr hr=> ?_,?_⟩
 ·obtain⟨i,hi,rfl⟩:=List.mem_iff_getElem.1 hr
  have:=(hp i hi).1;simpa[dR,hi]using this
 ·refine .sl S.length 4 _ b off cap (λh=>h) hb hc (λk _=>rfl) (λk j hk hj=> ?_) (λk j hk hj=> ?_)
  ·obtain⟨n,hn,_⟩:=(hp k hk).2 j hj
   exact⟨by rw[hn];rfl,by rw[Cx hn];rfl⟩
  ·obtain⟨n,hn,he⟩:=(hp k hk).2 j hj
   rw[Cx hn]
   show jG _ W ((agP (S.getD k st0)).getD j (.v undef)) _
   rw[he];exact .v _
structure avq (W:World) (b off i:Nat) (c:Cw):Prop where
 ok:c.ok=true
 t:W.cell? ⟨b,off+(i*4+0),none⟩=some (.int .u8 c.t)
 x:W.cell? ⟨b,off+(i*4+1),none⟩=some (.int .u8 c.x)
 y:W.cell? ⟨b,off+(i*4+2),none⟩=some (.int .u8 c.y)
 s: ∃v,W.cell? ⟨b,off+(i*4+3),none⟩=some v∧v.oneCell'=true∧jG (λ_=>False) W (.sl c.m 4 c.e) v
theorem LW{W:World}{b off len cap:Nat}(hb:b<W.heap.size)(hc:len≤cap)(h: ∀i,i<len→ ∃c,avq W b off i c):
  ∃C:List Cw,C.length=len∧C.all Cw.ok=true∧jG (λ_=>False) W (.sl C.length 4 (rR C)) (.slice (some ⟨b,off,none⟩) len cap):=by
 obtain⟨C,hC,hp⟩:=FT FD len h;subst hC;refine⟨C,rfl,List.all_eq_true.2 λr hr=> ?_,?_⟩
 ·obtain⟨i,hi,rfl⟩:=List.mem_iff_getElem.1 hr
  have:=(hp i hi).ok;simpa[dR,hi]using this
 ·have key: ∀k j,k<C.length→j<4→ ∃v,W.cell? ⟨b,off+(k*4+j),none⟩=some v∧v.oneCell'=true∧jG (λ_=>False) W ((rR C k).getD j (.v undef)) v:=by
   intro k j hk hj;have hh:=hp k hk;obtain⟨v,e3,o3,r3⟩:=hh.s;rcases(show j=0∨j=1∨j=2∨j=3 by omega)with rfl|rfl|rfl|rfl
   ·exact⟨_,hh.t,rfl,.v _⟩
   ·exact⟨_,hh.x,rfl,.v _⟩
   ·exact⟨_,hh.y,rfl,.v _⟩
   ·exact⟨v,e3,o3,r3⟩
  refine .sl C.length 4 _ b off cap (λh=>h) hb hc (λk _=>rfl) (λk j hk hj=> ?_) (λk j hk hj=> ?_)
  ·obtain⟨v,hv,ho,_⟩:=key k j hk hj
   exact⟨by rw[hv];rfl,by rw[Cx hv];exact ho⟩
  ·obtain⟨v,hv,_,hr⟩:=key k j hk hj
   rw[Cx hv];exact hr
theorem asy{W:World}{x:Fl}{v0 v1:Value}(h0:jG (λ_=>False) W (.sl x.1.length 4 (rR x.1)) v0)(h1:jG (λ_=>False) W (.sl x.2.1 x.2.2.1 x.2.2.2) v1):
  aV (λ_=>False) (λ_=>none) W (.agg (nH x)) (.agg #[v0,v1]):=
 .agg _ _ rfl λj hj=>by
  rcases(show j=0∨j=1 by have:j<2:=hj;omega)with rfl|rfl
  ·exact .c _ _ h0
  ·exact .c _ _ h1
theorem ah0{x:Fl}{id:Int}(hc:x.1.all Cw.ok=true)(hl:x.1.length≤9223372036854775807)(W:World){v0:Value}(h0:aV (λ_=>False) (λ_=>none) W (.agg (nH x)) v0):
  Calls Tryz.prog 4 #[v0,.int .i64 id] W λe w'=>e= .returned (.bool true)∧Below W.heap.size W w':=by
 obtain⟨C,a,z,e⟩:=x;have hk:KLw [.agg (nH (C,a,z,e)),.c (.v (.int .i64 id))]=some (bL true,[Hf C.length (rR C),(og C.length (rR C)).all Cw.ok,decide ((og C.length (rR C)).length≤9223372036854775807)]):=rfl;have hs:=(asx.sound _ _ _ hk).2 (λ_=>False) W [v0,.int .i64 id] (λb h=>h.elim) (by
  intro p hp;simp only[List.mem_cons,List.not_mem_nil,or_false,mO,mP]at hp;rcases hp with rfl|rfl|rfl
  ·rfl
  ·exact hc
  ·exact fZ hl) (eF.cons h0 (eF.cons (.c _ _ (.v _)) .nil))
 have henter:=aG (P:=Tryz.prog) (f:=4) (fn:=Tryz.f4) (c:=codeOf Tryz.f4) (by kernel_rfl) (by kernel_rfl) (by kernel_rfl) #[v0,.int .i64 id] W;rcases hs with⟨_,⟨_,asz⟩|⟨v,w',hval,_⟩⟩|⟨hy,_⟩
 ·refine asz.mono ?_
  rintro e w' ⟨u,rfl,hr,hb⟩;rw[show u= .bool true from hr.plain];exact⟨rfl,hb⟩
 ·have e2:(callFunc 4 #[v0,.int .i64 id]).run Tryz.prog W= .ok (.value v) w':=hval
  rw[henter]at e2;cases e2
 ·exact absurd hy (by decide)
end Go.bI
namespace Go.Proofs.YtclnfoepcemloaaGreatDoor
open Go Go.ChangeShapes Go.WideShapes Go.ChangeAt Go.WideMaps Go.WideElems Go.RowKit
section
variable{H:Type}{enc:TypeId×Value→H}{P:Program}
theorem closing{f:Func}{s:ChangeSpec}{apart fresh handsOn again:Bool}{W W':World}{args:Array Value}{v:Value}{ds gs:List (DataW H)}{before pa pv:List MemPlace}
  (hW:DataW.Whole enc P f.params.toList s.vars apart W args.toList ds gs before)
  (hres: ∀(b:Nat) (sp:Nat→Bool) (hd:Bool),DataW.TrodAll enc P W' b sp hd f.resultTypes.toList (v.resultList f.resultTypes.size) (s.fn H (ds++gs)).results [])
  (hargs: ∀sp:Nat→Bool,(∀p∈before,sp p.block=true)→DataW.TrodAll enc P W' 0 sp true f.params.toList args.toList (s.fn H (ds++gs)).args pa)
  (hvars: ∀sp:Nat→Bool,(∀p∈before,sp p.block=true)→DataW.TrodVars enc P W' sp s.vars (s.fn H (ds++gs)).vars pv)
  (hps:before=pa++pv) (hb:Below W.heap.size W W')
  (hok: ∀(j:Nat) (t:TypeId) (r:Value),f.resultTypes[j]? =some t→(v.resultList f.resultTypes.size)[j]? =some r→Value.okWide P W' .any 0 t r):
  s.post enc P f apart fresh handsOn again W args v W':=by
 have hlt: ∀p∈before,p.block<W.heap.size:=λp hp=>hW.lt p hp
 have hold: ∀p∈before,(λb=>decide (b<W.heap.size)) p.block=true:=λp hp=>by simpa using hlt p hp
 refine⟨ds,gs,before,[],pa,pv,hW,hres _ _ _,hargs _ hold,hvars _ hold,World.keptBut_mono (λp hp=>⟨hp,?_⟩) (hb.frame (· ∈before)),λ_=> ?_⟩
 ·rw[hps,List.mem_append]at hp
  exact Or.inr hp
 ·obtain⟨_,_,_,_,_,hz,hn⟩:=hW
  refine⟨hok,_,_,([]++pa)++pv,⟨[]++pa,pv,trodAll_append (hargs _ (λ_ _=>rfl)) (hres _ _ _),hvars _ (λ_ _=>rfl),rfl,?_,?_⟩,?_⟩
  ·intro b off hp
   have hin:MemPlace.cell b off∈before:=by rw[hps];simpa using hp
   rw[hb.frozen (hlt _ hin)];exact hz b off hin
  ·intro ha
   have:=hn ha;rw[hps]at this;simpa using this
  ·intro p hp _
   rw[hps];simpa using hp
end
theorem own:ownKnob Tryz.prog.godebug=none:=by kernel_rfl
abbrev NS:List (String×DataW Unit):=Rows.kineticDistancesRow.laid
theorem ah1(os:Os)(args:Array Value):laidMetH Tryz.prog NS ((World.laidAll Tryz.prog os NS).forCall (λ_ _=>0) ⟨#[],args,[]⟩).memory:=by
 rw[MakeChecks.laidMetH_plain _ _ _ (by kernel_rfl)];exact laidMet_laidAll _ (by kernel_rfl) (by kernel_rfl)
theorem u5:Tryz.prog.underlying 5=some (.int .u8):=by kernel_rfl
theorem u3:Tryz.prog.underlying 3=some (.int .i64):=by kernel_rfl
theorem u4:Tryz.prog.underlying 4=some .bool:=by kernel_rfl
end Go.Proofs.YtclnfoepcemloaaGreatDoor
namespace Go.Proofs.YtclnfoepcemloaaGreatDoor
open Go Go.ChangeShapes Go.WideShapes Go.ChangeAt Go.WideMaps Go.WideElems Go.RowKit Go.ChangeMaps Go.Deep Go.Joins
section
variable{H:Type}{enc:TypeId×Value→H}{P:Program}{w:World}{base:Nat}{spare:Nat→Bool}{held:Bool}
theorem K9{t e:TypeId}{fs:Array Field}{fuel:Nat}{cs:List Value}{x:DataW H×List MemPlace}(ht:P.underlying t=some (.slice e))(he:P.underlying e=some (.struct fs))
  (hone:oneCellFields P fs=true) (hC:P.cellsOf e=fs.size) (h:DataW.trod enc P w base spare held fuel t cs=some x):
  cs=[.slice none 0 0]∨
  ∃(a:Addr) (len cap:Nat),cs=[.slice (some a) len cap]∧len≤cap∧cap≤maxLen∧
   ∀i,i<(if spare a.block then cap else len)→ ∀(j:Nat) (f:Field),fs[j]? =some f→ ∃(v:Value) (n:Nat) (y:DataW H×List MemPlace),w.cell? (a.add (i*fs.size+j))=some v∧DataW.trod enc P w base spare held n f.type [v]=some y:=by
 rcases open_slice ht h with h0|⟨a,len,cap,m,n,D,Pl,hcs,hb,hl,hm,hmm,hx,hi⟩
 ·exact .inl h0.1
 ·refine .inr ⟨a,len,cap,hcs,hl,hm,λi hlt j f hj=> ?_⟩
  have him:i<m:=by rw[hmm];exact hlt
  obtain⟨cs',hc,ht'⟩:=hi i him;rw[hC]at hc;obtain⟨ys,n',hn',hy,hlen,hyl,hf⟩:=DataW.trod_struct he ht';obtain⟨_,hcl,hat⟩:=World.cells?_some hc;obtain⟨ho,hk⟩:=hone_of hone j f hj;have hjl:j<fs.size:=(Array.getElem?_eq_some_iff.1 hj).1;have hcell:=hat j hjl;have hv:cs'[j]? =some (cs'[j]'(by omega)):=List.getElem?_eq_getElem (by omega);have h1:=hf j f hj;rw[ho,hk]at h1;have hone':(cs'.drop j).take 1=[cs'[j]'(by omega)]:=by
   rw[List.drop_eq_getElem_cons (by omega)];rfl
  rw[hone']at h1;have hys:ys[j]? =some (ys[j]'(by omega)):=List.getElem?_eq_getElem (by omega);refine⟨_,_,_,?_,h1.trans hys⟩;rw[←Go.Deep.add_add,hcell,hv]
end
theorem u46:Tryz.prog.underlying 46=some (.slice 82):=by kernel_rfl
theorem u47:Tryz.prog.underlying 47=some (.slice 465):=by kernel_rfl
theorem u80:Tryz.prog.underlying 80=some (.slice 142):=by kernel_rfl
noncomputable def sP (t:TypeId):Array Field:=match Tryz.prog.underlying t with|some (.struct fs)=>fs | _=> #[]
theorem u49:Tryz.prog.underlying 49=some (.struct (sP 49)):=by kernel_rfl
theorem u82:Tryz.prog.underlying 82=some (.struct (sP 82)):=by kernel_rfl
theorem avW:Tryz.prog.underlying 142=some (.struct (sP 142)):=by kernel_rfl
theorem avX:Tryz.prog.underlying 465=some (.struct (sP 465)):=by kernel_rfl
theorem asA:(sP 49).size=2:=by kernel_rfl
theorem asB:(sP 82).size=4:=by kernel_rfl
theorem anH:(sP 142).size=4:=by kernel_rfl
theorem ah2:((List.range 4).all λj=>decide (((sP 142)[j]?).map (·.type)=some 5))=true:=by kernel_rfl
theorem anI:((sP 82)[0]?).map (·.type)=some 5∧((sP 82)[1]?).map (·.type)=some 5∧((sP 82)[2]?).map (·.type)=some 5∧((sP 82)[3]?).map (·.type)=some 80:=⟨by kernel_rfl,by kernel_rfl,by kernel_rfl,by kernel_rfl⟩
theorem ah3:((sP 465)[0]?).map (·.type)=some 5:=by kernel_rfl
theorem asC:oneCellFields Tryz.prog (sP 142)=true:=by kernel_rfl
theorem avr:oneCellFields Tryz.prog (sP 82)=true:=by kernel_rfl
theorem asD:oneCellFields Tryz.prog (sP 465)=true:=by kernel_rfl
theorem ah4:Tryz.prog.cellsOf 142=(sP 142).size:=by kernel_rfl
theorem anJ:Tryz.prog.cellsOf 82=(sP 82).size:=by kernel_rfl
theorem ah5:Tryz.prog.cellsOf 465=(sP 465).size:=by kernel_rfl
theorem asE:Tryz.prog.funcs[4]? =some Tryz.f4:=by kernel_rfl
theorem aol:Tryz.f4.params.toList=[49,3]:=by kernel_rfl
theorem wf_u8{n:Int}(hn:(Lit.int .u8 n).wf=true):bI.AR n=true:=by
 simp only[Lit.wf,IntKind.min,IntKind.max,IntKind.signed,IntKind.bits,cu,fT]at hn;have h1:0≤n:=by simpa using hn.1
 have h2:n≤255:=by simpa using hn.2
 simp only[bI.AR,cu,fT];omega
section
variable{H:Type}{enc:TypeId×Value→H}{W:World}{base:Nat}{held:Bool}
abbrev NT:Nat→Bool:=λ_=>true
theorem X4{fuel:Nat}{v:Value}{x:DataW H×List MemPlace}(h:DataW.trod enc Tryz.prog W base NT held fuel 80 [v]=some x):
  ∃(m:Nat) (e:Nat→List bI.IV),bI.zD m e=true∧v.oneCell'=true∧bI.jG (λ_=>False) W (.sl m 4 e) v:=by
 rcases K9 u80 avW asC ah4 h with h0|⟨a,len,cap,h0,hl,hm,hf⟩
 ·obtain rfl:v= .slice none 0 0:=by simpa using h0
  exact⟨0,λ_=> [],rfl,rfl,.nil _ _⟩
 ·obtain rfl:v= .slice (some a) len cap:=by simpa using h0
  rw[if_pos rfl]at hf;have cell: ∀i,i<cap→ ∀j,j<4→ ∃n,W.cell? (a.add (i*4+j))=some (.int .u8 n)∧bI.AR n=true:=by
   intro i hi j hj;have ht:((sP 142)[j]?).map (·.type)=some 5:=j4 (List.all_eq_true.1 ah2 j (List.mem_range.2 hj));obtain⟨f,hf1,hf2⟩:=Option.map_eq_some_iff.1 ht;obtain⟨v,n,y,hc,hy⟩:=hf i hi j f hf1;rw[hf2]at hy;obtain⟨k,hk,_,hw⟩:=DataW.trod_int u5 hy;obtain rfl:v= .int .u8 k:=by simpa using hk
   rw[anH]at hc;exact⟨k,hc,wf_u8 hw⟩
  by_cases h0:cap=0
  ·subst h0
   obtain rfl:len=0:=by omega
   exact⟨0,λ_=> [],rfl,rfl,.zero _ _ _⟩
  ·obtain⟨n0,hc0,_⟩:=cell 0 (by omega) 0 (by omega)
   obtain⟨hs,hb⟩:=bI.Ck hc0;obtain⟨b,off,sp⟩:=a;obtain rfl:sp=none:=by simpa[Addr.add]using hs
   have hb:b<W.heap.size:=by simpa[Addr.add]using hb
   obtain⟨S,hS,hr⟩:=bI.K8 (W:=W) (b:=b) (off:=off) (len:=len) (cap:=cap) hb hl λi hi j hj=>by
    obtain⟨n,hn,hw⟩:=cell i (by omega) j hj;rw[add_plain]at hn;exact⟨n,hn,hw⟩
   exact⟨S.length,bI.zC S,bI.qU hS,rfl,hr⟩
theorem acW{fuel:Nat}{v:Value}{x:DataW H×List MemPlace}(h:DataW.trod enc Tryz.prog W base NT held fuel 46 [v]=some x):
  ∃C:List bI.Cw,C.all bI.Cw.ok=true∧C.length≤9223372036854775807∧bI.jG (λ_=>False) W (.sl C.length 4 (bI.rR C)) v:=by
 rcases K9 u46 u82 avr anJ h with h0|⟨a,len,cap,h0,hl,hm,hf⟩
 ·obtain rfl:v= .slice none 0 0:=by simpa using h0
  exact⟨[],rfl,by decide,.nil _ _⟩
 ·obtain rfl:v= .slice (some a) len cap:=by simpa using h0
  rw[if_pos rfl]at hf;have hm':cap≤9223372036854775807:=hm;have part: ∀i,i<cap→ ∀(j t:Nat),((sP 82)[j]?).map (·.type)=some t→ ∃(v:Value) (n:Nat) (y:DataW H×List MemPlace),W.cell? (a.add (i*4+j))=some v∧DataW.trod enc Tryz.prog W base NT held n t [v]=some y:=by
   intro i hi j t ht;obtain⟨f,hf1,hf2⟩:=Option.map_eq_some_iff.1 ht;obtain⟨v,n,y,hc,hy⟩:=hf i hi j f hf1;rw[hf2]at hy;rw[asB]at hc;exact⟨v,n,y,hc,hy⟩
  have num: ∀i,i<cap→ ∀j,((sP 82)[j]?).map (·.type)=some 5→ ∃k,W.cell? (a.add (i*4+j))=some (.int .u8 k)∧bI.AR k=true:=by
   intro i hi j hj;obtain⟨v,n,y,hc,hy⟩:=part i hi j 5 hj;obtain⟨k,hk,_,hw⟩:=DataW.trod_int u5 hy;obtain rfl:v= .int .u8 k:=by simpa using hk
   exact⟨k,hc,wf_u8 hw⟩
  obtain⟨f0,f1,f2,f3⟩:=anI;by_cases h0:cap=0
  ·subst h0
   obtain rfl:len=0:=by omega
   exact⟨[],rfl,by decide,.zero _ _ _⟩
  ·obtain⟨n0,hc0,_⟩:=num 0 (by omega) 0 f0
   obtain⟨hs,hb⟩:=bI.Ck hc0;obtain⟨b,off,sp⟩:=a;obtain rfl:sp=none:=by simpa[Addr.add]using hs
   have hb:b<W.heap.size:=by simpa[Addr.add]using hb
   obtain⟨C,hC,hok,hr⟩:=bI.LW (W:=W) (b:=b) (off:=off) (len:=len) (cap:=cap) hb hl λi hi=>by
    obtain⟨x0,e0,o0⟩:=num i (by omega) 0 f0;obtain⟨x1,e1,o1⟩:=num i (by omega) 1 f1;obtain⟨x2,e2,o2⟩:=num i (by omega) 2 f2;obtain⟨v3,n3,y3,e3,t3⟩:=part i (by omega) 3 80 f3;obtain⟨m,e,so,oc,r3⟩:=X4 t3;rw[add_plain]at e0 e1 e2 e3;exact⟨⟨x0,x1,x2,m,e⟩,⟨by show(bI.AR x0&&(bI.AR x1&&(bI.AR x2&&bI.zD m e)))=true;rw[o0,o1,o2,so];rfl,e0,e1,e2,v3,e3,oc,r3⟩⟩
   exact⟨C,hok,by omega,hr⟩
theorem X5{fuel:Nat}{v:Value}{x:DataW H×List MemPlace}(h:DataW.trod enc Tryz.prog W base NT held fuel 47 [v]=some x):
  ∃(a z:Nat) (e:Nat→List bI.IV),bI.jG (λ_=>False) W (.sl a z e) v:=by
 rcases K9 u47 avX asD ah5 h with h0|⟨a,len,cap,h0,hl,hm,hf⟩
 ·obtain rfl:v= .slice none 0 0:=by simpa using h0
  exact⟨0,0,λ_=> [],.nil _ _⟩
 ·obtain rfl:v= .slice (some a) len cap:=by simpa using h0
  rw[if_pos rfl]at hf;by_cases h0:cap=0
  ·subst h0
   obtain rfl:len=0:=by omega
   exact⟨0,0,λ_=> [],.zero _ _ _⟩
  ·obtain⟨f,hf1,_⟩:=Option.map_eq_some_iff.1 ah3
   obtain⟨v,n,y,hc0,_⟩:=hf 0 (by omega) 0 f hf1;obtain⟨hs,hb⟩:=bI.Ck hc0;obtain⟨b,off,sp⟩:=a;obtain rfl:sp=none:=by simpa[Addr.add]using hs
   have hb:b<W.heap.size:=by simpa[Addr.add]using hb
   exact⟨len,0,λ_=> [],.sl len 0 _ b off cap (λh=>h) hb hl (λ_ _=>rfl) (λk j _ hj=>by omega) (λk j _ hj=>by omega)⟩
theorem array2{cs:Array Value}(h:cs.size=2): ∃v0 v1,cs= #[v0,v1]:=by
 obtain⟨l⟩:=cs
 match l,h with
 | [a,b],_=>exact⟨a,b,rfl⟩
theorem X6{b0:Nat}{v:Value}{d:DataW H}{ps:List MemPlace}(hv:Value.okWide Tryz.prog W .any b0 49 v)(h:DataW.Trod enc Tryz.prog W base NT held 49 v d ps):
  ∃x:bI.Fl,x.1.all bI.Cw.ok=true∧x.1.length≤9223372036854775807∧bI.aV (λ_=>False) (λ_=>none) W (.agg (bI.nH x)) v:=by
 simp only[Value.okWide,u49]at hv;obtain⟨cs,rfl,hsz,ts,hts,_,hcells⟩:=hv;have h2:Tryz.prog.cellsOf 49=2:=by kernel_rfl
 obtain⟨v0,v1,rfl⟩:=array2 (hsz.trans h2);obtain⟨fuel,hf⟩:=h;obtain⟨xs,n,_,_,_,_,hg⟩:=DataW.trod_struct u49 hf;have hx: ∀j,j<2→ ∃y,xs[j]? =some y:=λj hj=>by
  have hl:xs.length=2:=by
   have:(sP 49).size=2:=asA;omega
  exact⟨_,List.getElem?_eq_getElem (by omega)⟩
 have part: ∀(j t:Nat) (u:Value),(((sP 49)[j]?).map λf=>(f.type,f.offset))=some (t,j)→Tryz.prog.cellsOf t=1→j<2→(#[v0,v1]:Array Value)[j]? =some u→ ∃y,DataW.trod enc Tryz.prog W base NT held n t [u]=some y:=by
  intro j t u hft hct hj hu;obtain⟨g,hg1,hg2⟩:=Option.map_eq_some_iff.1 hft;simp only[Prod.mk.injEq]at hg2;have t0:=hg j g hg1;rw[hg2.1,hg2.2,hct]at t0;have x0:((Value.agg #[v0,v1]).cells.toList.drop j).take 1=[u]:=by
   have hl:j<(#[v0,v1]:Array Value).toList.length:=hj;have hu':(#[v0,v1]:Array Value).toList[j]'hl=u:=by
    have:=(Array.getElem?_eq_some_iff.1 hu).2;simpa using this
   show((#[v0,v1]:Array Value).toList.drop j).take 1=[u]
   rw[List.drop_eq_getElem_cons hl,hu'];rfl
  rw[x0]at t0;obtain⟨y,hy⟩:=hx j hj;exact⟨y,t0.trans hy⟩
 obtain⟨_,t0⟩:=part 0 46 v0 (by kernel_rfl) (by kernel_rfl) (by omega) rfl;obtain⟨_,t1⟩:=part 1 47 v1 (by kernel_rfl) (by kernel_rfl) (by omega) rfl;obtain⟨C,hC,hl,r0⟩:=acW t0;obtain⟨a,z,e,r1⟩:=X5 t1;exact⟨(C,a,z,e),hC,hl,bI.asy (x:=(C,a,z,e)) r0 r1⟩
end
end Go.Proofs.YtclnfoepcemloaaGreatDoor
