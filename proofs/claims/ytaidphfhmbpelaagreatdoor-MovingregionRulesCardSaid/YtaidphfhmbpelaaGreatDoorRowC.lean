/- MovingregionRules returns true for whatever two frames and whatever instant, and its arguments read as they did. No condition. -/
import Derived.Test.YtaidphfhmbpelaaGreatDoorRowA
import Derived.Carry
import Derived.Test.YtaidphfhmbpelaaGreatDoorTabE
set_option linter.unusedVariables false
set_option linter.unusedSimpArgs false
set_option linter.unnecessarySimpa false
set_option linter.deprecated false
namespace Go.Proofs.YtaidphfhmbpelaaGreatDoor
open Go Go.ChangeShapes Go.WideShapes Go.ChangeAt Go.WideMaps Go.WideElems Go.RowKit Go.ChangeMaps
set_option maxRecDepth 100000 in
theorem rulesLifted (h3 : Vse.PureOk Tryz.prog 3 Vse.K3) (os : Os) (started : os.Started) (H : Type) (enc : TypeId × Value → H) :
   ReturnsInHanded {} Tryz.checked os 3 .any (fun w args => (Rows.movingregionRulesSpec.pre enc Tryz.prog Tryz.f3 [] false w args ∧ laidMetH Tryz.prog laids w) ∧ sizedMet enc Tryz.prog Tryz.f3 (OpenSpec.ofChange Rows.movingregionRulesSpec) false w args)
     (Rows.movingregionRulesSpec.post enc Tryz.prog Tryz.f3 false true false false) := by
 refine returnsInHanded_of_change_and (C := Tryz.checked) (X := fun w _ => laidMetH Tryz.prog laids w) (fun _ _ _ hh h => h.of_heap hh) own started (by kernel_rfl) fun3
   (ChangeSpec.witness_shaped (enc := enc) (C := Tryz.checked) (os := os) (X := fun w _ => laidMetH Tryz.prog laids w) false (World.laidAll Tryz.prog os laids) #[.agg #[.int .u8 0, .int .u8 0, .bool false, .bool false, .bool false, .slice none 0 0, .slice none 0 0], .agg #[.int .u8 0, .int .u8 0, .bool false, .bool false, .bool false, .slice none 0 0, .slice none 0 0], .int .u8 0] 8 (World.laidAll_os _ _ _) (World.shaped_of_ZipB (by kernel_rfl) (by kernel_rfl)) (by kernel_rfl) (by kernel_rfl) (by kernel_rfl) (laid_met os _)) ?_
 intro W base args ds gs before hval0 hW _ _ hL _
 have hval : ∀ (j : Nat) t v, Tryz.f3.params[j]? = some t → args[j]? = some v → Value.okWide Tryz.prog W .any base t v := hval0
 have hW' := hW
 obtain ⟨p, q, hA0, hV, rfl, hfz, hnd⟩ := hW
 have hA : DataW.TrodAll enc Tryz.prog W 0 (fun _ => true) true Tryz.f3.params.toList args.toList ds p := hA0
 have hp : Tryz.f3.params = #[24, 24, 5] := by kernel_rfl
 rw [hp] at hval
 rw [pars3] at hA
 obtain ⟨v0, vs0, d0, ds0, p0, q0, ea0, rfl, rfl, h0, hr0⟩ := trodAll_cons hA
 obtain ⟨v1, vs1, d1, ds1, p1, q1, rfl, rfl, rfl, h1, hr1⟩ := trodAll_cons hr0
 obtain ⟨v2, vs2, d2, ds2, p2, q2, rfl, rfl, rfl, h2, hr2⟩ := trodAll_cons hr1
 obtain ⟨rfl, rfl, rfl⟩ := trodAll_nil hr2
 obtain ⟨rfl, rfl⟩ := trodVars_none hV
 obtain rfl : args = #[v0, v1, v2] := by
   cases args; simp only [] at ea0; rw [ea0]
 obtain ⟨F, hF, relF⟩ := open_frame (hval 0 24 v0 rfl rfl) h0
 obtain ⟨G, hG, relG⟩ := open_frame (hval 1 24 v1 rfl rfl) h1
 obtain ⟨n, rfl, rfl, rfl, hn⟩ := open_int u5 (hval 2 5 v2 rfl rfl) h2
 clear hA0 hA hval0 hr0 hr1 hr2
 simp only [List.append_nil] at hW'
 have hlt : ∀ x ∈ p0 ++ p1, x.block < W.heap.size := fun x hx => hW'.lt x hx
 refine (Vse.f3_calls h3 hF hG (wf_u8 hn) W relF relG).mono fun e W' ⟨he, hw⟩ => ?_
 subst he
 refine ⟨_, rfl, ?_⟩
 refine closing (pa := p0 ++ p1) (pv := []) hW' (fun _ _ _ => trodAll_mk1 (shut_bool u4 _)) (fun sp hsp => ?_) (fun _ _ => rfl) (List.append_nil _).symm hw (ok_one (by kernel_rfl) rfl (okWide_bool_mk u4 _))
 rw [pars3]
 have s0 := Trod_stays (P := Tryz.prog) (by kernel_rfl) (by kernel_rfl) (of_decide_eq_true (by kernel_rfl)) h0 (fun x hx => hw.same (hlt x (List.mem_append_left _ hx))) (fun x hx => hsp x (List.mem_append_left _ hx))
 have s1 := Trod_stays (P := Tryz.prog) (by kernel_rfl) (by kernel_rfl) (of_decide_eq_true (by kernel_rfl)) h1 (fun x hx => hw.same (hlt x (List.mem_append_right _ hx))) (fun x hx => hsp x (List.mem_append_right _ hx))
 have := trodAll_mk3 s0 s1 (shut_int u5 hn)
 simp only [List.append_nil] at this
 exact this
set_option maxHeartbeats 8000000 in
theorem rules_closed : joinedFacts Tryz.prog 3 Tryz.f3 Rows.movingregionRulesSpec Rows.movingregionRulesRow = true := by
 unfold joinedFacts
 simp only [Bool.and_eq_true]
 repeat' apply And.intro
 all_goals as_aux_lemma => kernel_rfl
theorem rules_row (h3 : Vse.PureOk Tryz.prog 3 Vse.K3) : Rows.MovingregionRulesSaid :=
 OpenClaim.holds_of_wide 3 Tryz.f3 rfl rfl rfl rfl rfl rfl rfl ⟨rfl, rfl, rfl, rfl, rfl⟩ rfl rfl rfl rfl rfl (by as_aux_lemma => kernel_rfl) fun3 rules_closed
   (of_decide_eq_true (by as_aux_lemma => kernel_rfl)) (by unfold Func.isWrapper; first | (rw [if_pos (by decide +kernel)]; kernel_rfl) | (rw [if_neg (by decide +kernel)]; exact ⟨rfl, rfl⟩))
   (fun os started H enc _ => rulesLifted h3 os started H enc)
theorem rules_card_of (h3 : Vse.PureOk Tryz.prog 3 Vse.K3) : Rows.MovingregionRulesCardSaid :=
 Claim7.holds_tied_plain_at .later [] [.data, .pinned] true (true, "c82c2b27dec7ff104567b94418d52622a66a89e2a572a3503f1c538861228915") false
   (rules_row h3) (fun _ h => by cases h) (by as_aux_lemma => kernel_rfl) (fun _ h => by cases h) movingregionRules_row_tie rfl ⟨rfl, rfl⟩ (by as_aux_lemma => kernel_rfl) rfl
   (fun f fn hf hfn => by
     obtain rfl : f = 3 := Option.some.inj ((show Tryz.prog.funcNamed Rows.movingregionRulesRow.func = some 3 by kernel_rfl).symm.trans hf) |>.symm
     obtain rfl : fn = Tryz.f3 := (Option.some.inj (fun3.symm.trans hfn)).symm
     exact ⟨by as_aux_lemma => kernel_rfl, fun j t ht => by
       have hp : Tryz.f3.params = #[24, 24, 5] := by kernel_rfl
       rw [hp] at ht
       have hm : t ∈ [24, 24, 5] := by simpa using Array.mem_of_getElem? ht
       have hall : ([24, 24, 5].all fun u => !Tryz.prog.wantsStandIn u) = true := by kernel_rfl
       exact (show Tryz.prog.wantsStandIn t = false by simpa using List.all_eq_true.1 hall t hm)⟩)
   (by as_aux_lemma => kernel_rfl)
end Go.Proofs.YtaidphfhmbpelaaGreatDoor
namespace Go.Proofs.YtaidphfhmbpelaaGreatDoor
theorem rules_card : Rows.MovingregionRulesCardSaid := rules_card_of Vse.f3_ok
#print axioms rules_card
end Go.Proofs.YtaidphfhmbpelaaGreatDoor
