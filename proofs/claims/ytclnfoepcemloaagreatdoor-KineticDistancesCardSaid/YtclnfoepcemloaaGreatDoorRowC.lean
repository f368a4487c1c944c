/- KineticDistances returns true for whatever fleet and whatever id, and its arguments read as they did. No condition. -/
import Derived.Test.YtclnfoepcemloaaGreatDoorT00
import Derived.Test.YtclnfoepcemloaaGreatDoorT13
import Derived.Carry
set_option linter.unusedVariables false
set_option linter.unusedSimpArgs false
set_option linter.unnecessarySimpa false
set_option linter.deprecated false
set_option maxRecDepth 1000000
namespace Go.Proofs.YtclnfoepcemloaaGreatDoor
open Go Go.ChangeShapes Go.WideShapes Go.ChangeAt Go.WideMaps Go.WideElems Go.RowKit Go.ChangeMaps
theorem Hl(os:Os)(started:os.Started)(H:Type)(enc:TypeId×Value→H):
  ReturnsInHanded {} Tryz.checked os 4 .any (λw args=>(Rows.kineticDistancesSpec.pre enc Tryz.prog Tryz.f4 [] false w args∧laidMetH Tryz.prog NS w)∧sizedMet enc Tryz.prog Tryz.f4 (OpenSpec.ofChange Rows.kineticDistancesSpec) false w args)
   (Rows.kineticDistancesSpec.post enc Tryz.prog Tryz.f4 false true false false):=by
 refine returnsInHanded_of_change_and (C:=Tryz.checked) (X:=λw _=>laidMetH Tryz.prog NS w) (λ_ _ _ hh h=>h.of_heap hh) own started (by kernel_rfl) asE
  (ChangeSpec.witness_shaped (enc:=enc) (C:=Tryz.checked) (os:=os) (X:=λw _=>laidMetH Tryz.prog NS w) false (World.laidAll Tryz.prog os NS) #[.agg #[.slice none 0 0,.slice none 0 0],.int .i64 0] 8 (World.laidAll_os _ _ _) (World.shaped_of_ZipB (by kernel_rfl) (by kernel_rfl)) (by kernel_rfl) (by kernel_rfl) (by kernel_rfl) (ah1 os _)) ?_
 intro W base args ds gs before hval0 hW _ _ hL _;have hval: ∀(j:Nat) t v,Tryz.f4.params[j]? =some t→args[j]? =some v→Value.okWide Tryz.prog W .any base t v:=hval0;have hW':=hW;obtain⟨p,q,hA0,hV,rfl,hfz,hnd⟩:=hW;have hA:DataW.TrodAll enc Tryz.prog W 0 (λ_=>true) true Tryz.f4.params.toList args.toList ds p:=hA0;have hp:Tryz.f4.params= #[49,3]:=by kernel_rfl
 rw[hp]at hval;rw[aol]at hA;obtain⟨v0,vs0,d0,ds0,p0,q0,ea0,rfl,rfl,h0,hr0⟩:=trodAll_cons hA;obtain⟨v1,vs1,d1,ds1,p1,q1,rfl,rfl,rfl,h1,hr1⟩:=trodAll_cons hr0;obtain⟨rfl,rfl,rfl⟩:=trodAll_nil hr1;obtain⟨rfl,rfl⟩:=trodVars_none hV;obtain rfl:args= #[v0,v1]:=by
  cases args;simp only[]at ea0;rw[ea0]
 obtain⟨x,hx,hxl,rel⟩:=X6 (hval 0 49 v0 rfl rfl) h0;obtain⟨n,rfl,rfl,rfl,hn⟩:=open_int u3 (hval 1 3 v1 rfl rfl) h1;clear hA0 hA hval0 hr0 hr1;simp only[List.append_nil]at hW';have hlt: ∀x∈p0,x.block<W.heap.size:=λx hx=>hW'.lt x hx
 refine(bI.ah0 (id:=n) hx hxl W rel).mono λe W' ⟨he,hw⟩=> ?_
 subst he;refine⟨_,rfl,?_⟩;refine closing (pa:=p0) (pv:=[]) hW' (λ_ _ _=>trodAll_mk1 (shut_bool u4 _)) (λsp hsp=> ?_) (λ_ _=>rfl) (List.append_nil _).symm hw (ok_one (by kernel_rfl) rfl (okWide_bool_mk u4 _));rw[aol];have s0:=Trod_stays (P:=Tryz.prog) (by kernel_rfl) (by kernel_rfl) (j4 (by kernel_rfl)) h0 (λx hx=>hw.same (hlt x hx)) (λx hx=>hsp x hx);have hm:=trodAll_mk2 s0 (shut_int u3 hn);rw[List.append_nil]at hm;exact hm
set_option maxHeartbeats 8000000 in
theorem FU:joinedFacts Tryz.prog 4 Tryz.f4 Rows.kineticDistancesSpec Rows.kineticDistancesRow=true:=by
 unfold joinedFacts;simp only[cu]
 repeat' apply And.intro
 all_goals as_aux_lemma=>kernel_rfl
theorem LX:Rows.KineticDistancesSaid:=
 OpenClaim.holds_of_wide 4 Tryz.f4 rfl rfl rfl rfl rfl rfl rfl ⟨rfl,rfl,rfl,rfl,rfl⟩ rfl rfl rfl rfl rfl (by as_aux_lemma=>kernel_rfl) asE FU
  (j4 (by as_aux_lemma=>kernel_rfl)) (by unfold Func.isWrapper;first|(rw[if_pos (by decide+kernel)];kernel_rfl)|(rw[if_neg (by decide+kernel)];exact⟨rfl,rfl⟩))
  (λos started H enc _=>Hl os started H enc)
theorem distances_card:Rows.KineticDistancesCardSaid:=
 Claim7.holds_tied_plain_at .later [] [.data,.pinned] true (true, "a1f7bf1f3acd197dd179cee4d8ff4580216721963dc51ea485a581d850faa0f3") false
  LX (λ_ h=>by cases h) (by as_aux_lemma=>kernel_rfl) (λ_ h=>by cases h) kineticDistances_row_tie rfl ⟨rfl,rfl⟩ (by as_aux_lemma=>kernel_rfl) rfl
  (λf fn hf hfn=>by
   obtain rfl:f=4:=Option.some.inj ((show Tryz.prog.funcNamed Rows.kineticDistancesRow.func=some 4 by kernel_rfl).symm.trans hf) |>.symm;obtain rfl:fn=Tryz.f4:=(Option.some.inj (asE.symm.trans hfn)).symm;exact⟨by as_aux_lemma=>kernel_rfl,λj t ht=>by
    have hp:Tryz.f4.params= #[49,3]:=by kernel_rfl
    rw[hp]at ht;have hm:t∈[49,3]:=by simpa using Array.mem_of_getElem? ht
    have hall:([49,3].all λu=> !Tryz.prog.wantsStandIn u)=true:=by kernel_rfl
    exact(show Tryz.prog.wantsStandIn t=false by simpa using List.all_eq_true.1 hall t hm)⟩)
  (by as_aux_lemma=>kernel_rfl)
#print axioms distances_card
end Go.Proofs.YtclnfoepcemloaaGreatDoor
