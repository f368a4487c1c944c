/- EnvelopeChecks returns true for whatever waves, whatever ids and whatever number again, and its arguments read as they did. No condition. -/
import Derived.Test.YtclnfoepcemloaaGreatDoorT00
import Derived.Test.YtclnfoepcemloaaGreatDoorT08
import Derived.Carry
set_option linter.unusedVariables false
set_option linter.unusedSimpArgs false
set_option linter.unnecessarySimpa false
set_option linter.deprecated false
set_option maxRecDepth 1000000
open Go.Proofs.Tryz(prog)
namespace Go.Proofs.YtclnfoepcemloaaGreatDoor
open Go Go.ChangeShapes Go.WideShapes Go.ChangeAt Go.WideMaps Go.WideElems Go.RowKit Go.ChangeMaps
theorem PL(os:Os)(started:os.Started)(H:Type)(enc:TypeId×Value→H):
  ReturnsInHanded {} Tryz.checked os 3 .any (λw args=>(Rows.envelopeChecksSpec.pre enc prog Tryz.f3 [] false w args∧laidMetH prog M7 w)∧sizedMet enc prog Tryz.f3 (OpenSpec.ofChange Rows.envelopeChecksSpec) false w args)
   (Rows.envelopeChecksSpec.post enc prog Tryz.f3 false true false false):=by
 refine returnsInHanded_of_change_and (C:=Tryz.checked) (X:=λw _=>laidMetH prog M7 w) (λ_ _ _ hh h=>h.of_heap hh) own started (by kernel_rfl) apK
  (ChangeSpec.witness_shaped (enc:=enc) (C:=Tryz.checked) (os:=os) (X:=λw _=>laidMetH prog M7 w) false (World.laidAll prog os M7) #[.slice none 0 0,.slice none 0 0,.int .u8 0] 8 (World.laidAll_os _ _ _) (World.shaped_of_ZipB (by kernel_rfl) (by kernel_rfl)) (by kernel_rfl) (by kernel_rfl) (by kernel_rfl) (afu os _)) ?_
 intro W base args ds gs before hval0 hW _ _ hL _;have hval: ∀(j:Nat) t v,Tryz.f3.params[j]? =some t→args[j]? =some v→Value.okWide prog W .any base t v:=hval0;have hW':=hW;obtain⟨p,q,hA0,hV,rfl,hfz,hnd⟩:=hW;have hA:DataW.TrodAll enc prog W 0 (λ_=>true) true Tryz.f3.params.toList args.toList ds p:=hA0;have hp:Tryz.f3.params= #[22,23,5]:=by kernel_rfl
 rw[hp]at hval;rw[alh]at hA;obtain⟨v0,vs0,d0,ds0,p0,q0,ea0,rfl,rfl,h0,hr0⟩:=trodAll_cons hA;obtain⟨v1,vs1,d1,ds1,p1,q1,rfl,rfl,rfl,h1,hr1⟩:=trodAll_cons hr0;obtain⟨v2,vs2,d2,ds2,p2,q2,rfl,rfl,rfl,h2,hr2⟩:=trodAll_cons hr1;obtain⟨rfl,rfl,rfl⟩:=trodAll_nil hr2;obtain⟨rfl,rfl⟩:=trodVars_none hV;obtain rfl:args= #[v0,v1,v2]:=by
  cases args;simp only[]at ea0;rw[ea0]
 obtain⟨C,hC,hCl,r0⟩:=Td (hval 0 22 v0 rfl rfl) h0;obtain⟨I,hI,r1⟩:=aaG (hval 1 23 v1 rfl rfl) h1;obtain⟨n,rfl,rfl,rfl,hn⟩:=open_int u5 (hval 2 5 v2 rfl rfl) h2;clear hA0 hA hval0 hr0 hr1 hr2;simp only[List.append_nil]at hW';have hlt: ∀x∈p0++p1,x.block<W.heap.size:=λx hx=>hW'.lt x hx
 refine(bA.aft hC hCl (wf_u8 hn) hI W r0 r1).mono λe W' ⟨he,hw⟩=> ?_
 subst he;refine⟨_,rfl,?_⟩;refine closing (pa:=p0++p1) (pv:=[]) hW' (λ_ _ _=>trodAll_mk1 (shut_bool u4 _)) (λsp hsp=> ?_) (λ_ _=>rfl) (List.append_nil _).symm hw (ok_one (by kernel_rfl) rfl (okWide_bool_mk u4 _));rw[alh];have s0:=Trod_stays (P:=prog) (by kernel_rfl) (by kernel_rfl) (iX (by kernel_rfl)) h0 (λx hx=>hw.same (hlt x (by simp[hx]))) (λx hx=>hsp x (by simp[hx]));have s1:=Trod_stays (P:=prog) (by kernel_rfl) (by kernel_rfl) (iX (by kernel_rfl)) h1 (λx hx=>hw.same (hlt x (by simp[hx]))) (λx hx=>hsp x (by simp[hx]));have hm:=trodAll_mk3 s0 s1 (shut_int u5 hn);rw[List.append_nil]at hm;exact hm
set_option maxHeartbeats 8000000 in
theorem Lf:joinedFacts prog 3 Tryz.f3 Rows.envelopeChecksSpec Rows.envelopeChecksRow=true:=by
 unfold joinedFacts;simp only[bI]
 repeat' apply And.intro
 all_goals as_aux_lemma=>kernel_rfl
theorem WL:Rows.EnvelopeChecksSaid:=
 OpenClaim.holds_of_wide 3 Tryz.f3 rfl rfl rfl rfl rfl rfl rfl ⟨rfl,rfl,rfl,rfl,rfl⟩ rfl rfl rfl rfl rfl (by as_aux_lemma=>kernel_rfl) apK Lf
  (iX (by as_aux_lemma=>kernel_rfl)) (by unfold Func.isWrapper;first|(rw[if_pos (by decide+kernel)];kernel_rfl)|(rw[if_neg (by decide+kernel)];exact⟨rfl,rfl⟩))
  (λos started H enc _=>PL os started H enc)
theorem checks_card:Rows.EnvelopeChecksCardSaid:=
 Claim7.holds_tied_plain_at .later [] [.data,.data,.pinned] true (true, "a1f7bf1f3acd197dd179cee4d8ff4580216721963dc51ea485a581d850faa0f3") false
  WL (λ_ h=>by cases h) (by as_aux_lemma=>kernel_rfl) (λ_ h=>by cases h) envelopeChecks_row_tie rfl ⟨rfl,rfl⟩ (by as_aux_lemma=>kernel_rfl) rfl
  (λf fn hf hfn=>by
   obtain rfl:f=3:=Option.some.inj ((show prog.funcNamed Rows.envelopeChecksRow.func=some 3 by kernel_rfl).symm.trans hf) |>.symm;obtain rfl:fn=Tryz.f3:=(Option.some.inj (apK.symm.trans hfn)).symm;exact⟨by as_aux_lemma=>kernel_rfl,λj t ht=>by
    have hp:Tryz.f3.params= #[22,23,5]:=by kernel_rfl
    rw[hp]at ht;have hm:t∈[22,23,5]:=by simpa using Array.mem_of_getElem? ht
    have hall:([22,23,5].all λu=> !prog.wantsStandIn u)=true:=by kernel_rfl
    exact(show prog.wantsStandIn t=false by simpa using List.all_eq_true.1 hall t hm)⟩)
  (by as_aux_lemma=>kernel_rfl)
#print axioms checks_card
end Go.Proofs.YtclnfoepcemloaaGreatDoor
