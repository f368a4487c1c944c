/- MovingregionRigid returns true for whatever ring and whatever path of corners, and its arguments read as they did. No condition. -/
import Derived.Test.YtahaekeikoibmaaGreatDoorT05
import Derived.Carry
set_option linter.unusedVariables false
set_option linter.unusedSimpArgs false
set_option linter.unnecessarySimpa false
set_option linter.deprecated false
namespace Go.Proofs.YtahaekeikoibmaaGreatDoor
open Go Go.ChangeShapes Go.WideShapes Go.ChangeAt Go.WideMaps Go.WideElems Go.RowKit Go.ChangeMaps
set_option maxRecDepth 100000 in
theorem rigidLifted (os : Os) (started : os.Started) (H : Type) (enc : TypeId × Value → H) :
  ReturnsInHanded {} Tryz.checked os 3 .any (fun w args => (Rows.movingregionRigidSpec.pre enc Tryz.prog Tryz.f3 [] false w args ∧ laidMetH Tryz.prog laids w) ∧ sizedMet enc Tryz.prog Tryz.f3 (OpenSpec.ofChange Rows.movingregionRigidSpec) false w args)
   (Rows.movingregionRigidSpec.post enc Tryz.prog Tryz.f3 false true false false) := by
 refine returnsInHanded_of_change_and (C := Tryz.checked) (X := fun w _ => laidMetH Tryz.prog laids w) (fun _ _ _ hh h => h.of_heap hh) own started (by kernel_rfl) fun3
  (ChangeSpec.witness_shaped (enc := enc) (C := Tryz.checked) (os := os) (X := fun w _ => laidMetH Tryz.prog laids w) false (World.laidAll Tryz.prog os laids) #[.slice none 0 0, .slice none 0 0] 8 (World.laidAll_os _ _ _) (World.shaped_of_ZipB (by kernel_rfl) (by kernel_rfl)) (by kernel_rfl) (by kernel_rfl) (by kernel_rfl) (laid_met os _)) ?_
 intro W base args ds gs before hval0 hW _ _ hL _
 have hval : ∀ (j : Nat) t v, Tryz.f3.params[j]? = some t → args[j]? = some v → Value.okWide Tryz.prog W .any base t v := hval0
 have hW' := hW
 obtain ⟨p, q, hA0, hV, rfl, hfz, hnd⟩ := hW
 have hA : DataW.TrodAll enc Tryz.prog W 0 (fun _ => true) true Tryz.f3.params.toList args.toList ds p := hA0
 have hp : Tryz.f3.params = #[22, 22] := by kernel_rfl
 rw [hp] at hval
 rw [pars3] at hA
 obtain ⟨v0, vs0, d0, ds0, p0, q0, ea0, rfl, rfl, h0, hr0⟩ := trodAll_cons hA
 obtain ⟨v1, vs1, d1, ds1, p1, q1, rfl, rfl, rfl, h1, hr1⟩ := trodAll_cons hr0
 obtain ⟨rfl, rfl, rfl⟩ := trodAll_nil hr1
 obtain ⟨rfl, rfl⟩ := trodVars_none hV
 obtain rfl : args = #[v0, v1] := by
  cases args; simp only [] at ea0; rw [ea0]
 obtain ⟨R, hR, r0⟩ := open_corners' (hval 0 22 v0 rfl rfl) h0
 obtain ⟨L, hL, r1⟩ := open_corners' (hval 1 22 v1 rfl rfl) h1
 clear hA0 hA hval0 hr0 hr1
 simp only [List.append_nil] at hW'
 have hlt : ∀ x ∈ p0 ++ p1, x.block < W.heap.size := fun x hx => hW'.lt x hx
 refine (Vse.f3_calls hR hL W r0 r1).mono fun e W' ⟨he, hw⟩ => ?_
 subst he
 refine ⟨_, rfl, ?_⟩
 refine closing (pa := p0 ++ p1) (pv := []) hW' (fun _ _ _ => trodAll_mk1 (shut_bool u4 _)) (fun sp hsp => ?_) (fun _ _ => rfl) (List.append_nil _).symm hw (ok_one (by kernel_rfl) rfl (okWide_bool_mk u4 _))
 rw [pars3]
 have s0 := Trod_stays (P := Tryz.prog) (by kernel_rfl) (by kernel_rfl) (of_decide_eq_true (by kernel_rfl)) h0 (fun x hx => hw.same (hlt x (by simp [hx]))) (fun x hx => hsp x (by simp [hx]))
 have s1 := Trod_stays (P := Tryz.prog) (by kernel_rfl) (by kernel_rfl) (of_decide_eq_true (by kernel_rfl)) h1 (fun x hx => hw.same (hlt x (by simp [hx]))) (fun x hx => hsp x (by simp [hx]))
 exact trodAll_mk2 s0 s1
set_option maxHeartbeats 8000000 in
theorem rigid_closed : joinedFacts Tryz.prog 3 Tryz.f3 Rows.movingregionRigidSpec Rows.movingregionRigidRow = true := by
 unfold joinedFacts
 simp only [Bool.and_eq_true]
 repeat' apply And.intro
 all_goals as_aux_lemma => kernel_rfl
theorem rigid_row : Rows.MovingregionRigidSaid :=
 OpenClaim.holds_of_wide 3 Tryz.f3 rfl rfl rfl rfl rfl rfl rfl ⟨rfl, rfl, rfl, rfl, rfl⟩ rfl rfl rfl rfl rfl (by as_aux_lemma => kernel_rfl) fun3 rigid_closed
  (of_decide_eq_true (by as_aux_lemma => kernel_rfl)) (by unfold Func.isWrapper; first | (rw [if_pos (by decide +kernel)]; kernel_rfl) | (rw [if_neg (by decide +kernel)]; exact ⟨rfl, rfl⟩))
  (fun os started H enc _ => rigidLifted os started H enc)
theorem rigid_card : Rows.MovingregionRigidCardSaid :=
 Claim7.holds_tied_plain_at .later [] [.data, .pinned] true (true, "75798544069686e2e3dbfcf197d26f80ebf3b690296d96372a6bf56e71067d41") false
  rigid_row (fun _ h => by cases h) (by as_aux_lemma => kernel_rfl) (fun _ h => by cases h) movingregionRigid_row_tie rfl ⟨rfl, rfl⟩ (by as_aux_lemma => kernel_rfl) rfl
  (fun f fn hf hfn => by
   obtain rfl : f = 3 := Option.some.inj ((show Tryz.prog.funcNamed Rows.movingregionRigidRow.func = some 3 by kernel_rfl).symm.trans hf) |>.symm
   obtain rfl : fn = Tryz.f3 := (Option.some.inj (fun3.symm.trans hfn)).symm
   exact ⟨by as_aux_lemma => kernel_rfl, fun j t ht => by
    have hp : Tryz.f3.params = #[22, 22] := by kernel_rfl
    rw [hp] at ht
    have hm : t ∈ [22, 22] := by simpa using Array.mem_of_getElem? ht
    have hall : ([22, 22].all fun u => !Tryz.prog.wantsStandIn u) = true := by kernel_rfl
    exact (show Tryz.prog.wantsStandIn t = false by simpa using List.all_eq_true.1 hall t hm)⟩)
  (by as_aux_lemma => kernel_rfl)
#print axioms rigid_card
end Go.Proofs.YtahaekeikoibmaaGreatDoor
