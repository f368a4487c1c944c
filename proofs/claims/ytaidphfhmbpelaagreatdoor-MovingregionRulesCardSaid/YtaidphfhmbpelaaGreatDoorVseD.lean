/- Helpers for the proof: no statement of its own. -/
import Derived.Test.YtaidphfhmbpelaaGreatDoorVseC
import Derived.Laws.Externs
import Derived.Lib.Bytealg
set_option linter.unusedVariables false
set_option linter.unusedSimpArgs false
set_option linter.unnecessarySimpa false
set_option linter.deprecated false
namespace Go.Vse
open Go.RowKit
def startM (ents : List (Option Ent)) (args : List AV) (nt : Nat) : St := { tm := args ++ List.replicate (nt - args.length) (.c (.v undef)), mem := memOf ents, nx := ents.length }
def dropAll (S : St) (ids : List Nat) : St := { S with mem := applyUpd S.mem (ids.map fun b => (b, none)) }
def packM (k : Nat) (S : St) (v : AV) : Option MemOut :=
 let ids := reach S.mem 3 (addAll (List.range k) (namesA v))
 bif nodupB ids && closedB S.mem ids && (namesA v).all (memB ids) && prefixB 0 k ids && Nat.ble ids.length (k + 1) then
  some { val := renA (pos ids) v, outs := (List.range k).map fun i => (S.mem i).map (renE (pos ids)), new := (match ids[k]? with | some s => (S.mem s).map (renE (pos ids)) | none => none) }
 else none
def finishM (P : Program) (fn : Func) (k : Nat) (frz : Bool) (S : St) : Tr MemOut :=
 match resultsA P S fn.results.toList with
 | none => .fail "results"
 | some v =>
  bif frz then
   match packM k (dropAll S (idsA v)) (viewA S.mem v).1 with
   | some o => Tr.needs (viewA S.mem v).2 (.ret o)
   | none => .fail "pack"
  else
   match packM k S v with
   | some o => .ret o
   | none => .fail "pack"
def execM (P : Program) (Γ : FuncId → Option Spec) (L : Nat → Option (St → Tr (Ex × St))) (N : Nat) (frz : Bool) (fn : Func) (ents : List (Option Ent)) (args : List AV) : Tr MemOut :=
 match fn.body with
 | none => .fail "body"
 | some c => (exec P Γ L N c (startM ents args fn.ntmps)).bind fun (e, S) =>
  match e with
  | .exit _ => .fail "exit"
  | _ => finishM P fn ents.length frz S
section
variable {P : Program} {Γ : FuncId → Option Spec} {L : Nat → Option (St → Tr (Ex × St))} {C : Ctx} {B : Bmap} {S : St} {a : Act} {w : World}
theorem freeze (hC : C.Ok) (H : Holds C B S a w) {x : AV} {v : Value} (h : ARel (ownOf C.A0 B S.mem) B w x v) (hc : ∀ p ∈ (viewA S.mem x).2, p) :
  Holds C B (dropAll S (idsA x)) a w ∧ ARel (ownOf C.A0 B (dropAll S (idsA x)).mem) B w (viewA S.mem x).1 v := by
 refine ⟨Holds.drops _ S H, viewA_rel H (fun b hb => ?_) x v h (fun b hb => ?_) hc⟩
 ·rcases hb with hb | ⟨t, e, h1, h2⟩
  ·exact .inl hb
  ·obtain ⟨_, h4⟩ := drops_get (idsA x) S.mem t e h1
   exact .inr ⟨t, e, h4, h2⟩
 ·rintro ⟨t, ht, e, h1, h2⟩
  rcases hb with hb | ⟨t', e', h3, h4⟩
  ·rcases (H.old t b h2).1 with h3 | h3
   ·exact absurd (hC.a0 b hb) (Nat.not_lt.2 h3)
   ·exact hC.disj b hb h3
  ·obtain ⟨h5, h6⟩ := drops_get (idsA x) S.mem t' e' h3
   exact h5 (H.inj t' t e' e b h6 h1 h4 h2 ▸ ht)
theorem packM_sound {k : Nat} (hk : C.k = k) (H : Holds C B S a w) {x : AV} {v : Value} (h : ARel (ownOf C.A0 B S.mem) B w x v) {o : MemOut} (hp : packM k S x = some o) :
   ∃ B', Holds C B' (memSt (o.outs ++ [o.new]) (k + 1)) act0 w ∧ ARel (ownOf C.A0 B' (memOf (o.outs ++ [o.new]))) B' w o.val v ∧ o.outs.length = k := by
 unfold packM at hp
 simp only [] at hp
 generalize hids : reach S.mem 3 (addAll (List.range k) (namesA x)) = ids at hp
 cases hb : (nodupB ids && closedB S.mem ids && (namesA x).all (memB ids) && prefixB 0 k ids && Nat.ble ids.length (k + 1)) with
 | false => rw [hb] at hp; cases hp
 | true =>
   rw [hb] at hp
   simp only [cond_true, Option.some.injEq] at hp
   subst hp
   simp only [Bool.and_eq_true, Nat.ble_eq] at hb
   obtain ⟨⟨⟨⟨hnd, hcl⟩, hnames⟩, hpre⟩, hle⟩ := hb
   have hkl := (prefixB_spec k 0 ids hpre).1
   have hget := (prefixB_spec k 0 ids hpre).2
   -- the state with the value as its one temporary
   have H1 : Holds C B { S with tm := [x] } { tmps := #[v], defers := [] } w :=
     { H with
       defers := rfl
       size := rfl
       tm := fun t ht => by
         have h0 : t < 1 := ht
         obtain rfl : t = 0 := by omega
         exact h }
   have hok : canonOk C.k ids { S with tm := [x] } = true := by
     simp only [canonOk, Bool.and_eq_true]
     refine ⟨⟨⟨hnd, hcl⟩, ?_⟩, by rw [hk]; exact hpre⟩
     show (namesL [x]).all (memB ids) = true
     simp only [namesL, List.append_nil]
     exact hnames
   have H2 := H1.canon hok
   -- the entries in order
   have hmem : ∀ s, memOf (((List.range k).map fun i => (S.mem i).map (renE (pos ids))) ++ [match ids[k]? with | some s => (S.mem s).map (renE (pos ids)) | none => none]) s = (canonSt ids { S with tm := [x] }).mem s := by
     intro s
     show _ = memOf (ids.map fun s => (S.mem s).map (renE (pos ids))) s
     have hlen : ((List.range k).map fun i => (S.mem i).map (renE (pos ids))).length = k := by simp
     rcases Nat.lt_trichotomy s k with hs | hs | hs
     · rw [memOf_append_left (by rw [hlen]; exact hs)]
       have h1 : s < ids.length := by omega
       have h2 := hget s hs
       rw [List.getD_eq_getElem?_getD, List.getElem?_eq_getElem h1] at h2
       simp only [Option.getD_some, Nat.zero_add] at h2
       simp only [memOf, List.getD_eq_getElem?_getD, List.getElem?_map, List.getElem?_range hs, List.getElem?_eq_getElem h1, Option.map_some, Option.getD_some, h2]
     · subst hs
       have := memOf_append_right (l := (List.range s).map fun i => (S.mem i).map (renE (pos ids))) (e := match ids[s]? with | some s => (S.mem s).map (renE (pos ids)) | none => none)
       rw [hlen] at this
       rw [this]
       simp only [memOf, List.getD_eq_getElem?_getD, List.getElem?_map]
       cases ids[s]? <;> rfl
     · rw [memOf_append_none (by rw [hlen]; exact hs)]
       simp only [memOf, List.getD_eq_getElem?_getD, List.getElem?_map, List.getElem?_eq_none (show ids.length ≤ s by omega)]
       rfl
   have hmem' := funext hmem
   refine ⟨B.at ids, ?_, ?_, by simp⟩
   · refine { defers := rfl, size := rfl, tm := fun t ht => absurd ht (Nat.not_lt_zero t), mem := ?_, inj := ?_, kept := H2.kept, old := H2.old, fresh := fun s hs => H2.fresh s (by simp only [canonSt, memSt] at hs ⊢; omega), base := H2.base, kle := by simp only [memSt]; omega }
     · simp only [memSt, hmem']; exact H2.mem
     · simp only [memSt, hmem']; exact H2.inj
   · rw [hmem']
     have := H2.tm 0 (by simp [canonSt, renL])
     simpa [canonSt, renL] using this
theorem finishM_sound {fn : Func} {k : Nat} {frz : Bool} (hC : C.Ok) (hk : C.k = k) (H : Holds C B S a w) {Q : MemOut → Prop} (h : (finishM P fn k frz S).sat Q) :
  ∃ v B' o, (results fn a.tmps).run P w = .ok v w ∧ Q o ∧ Holds C B' (memSt (o.outs ++ [o.new]) (k + 1)) act0 w ∧ ARel (ownOf C.A0 B' (memOf (o.outs ++ [o.new]))) B' w o.val v ∧ o.outs.length = k := by
 unfold finishM at h
 split at h
 ·exact h.elim
 ·rename_i x hx
  obtain ⟨v, hrun, hrel⟩ := resultsA_sound H hx
  cases frz with
  | true =>
   simp only [cond_true] at h
   split at h
   ·rename_i o ho
    obtain ⟨hc, h⟩ := Tr.sat_needs h
    obtain ⟨H2, hrel2⟩ := freeze hC H hrel hc
    obtain ⟨B', h1, h2, h3⟩ := packM_sound hk H2 hrel2 ho
    exact ⟨v, B', o, hrun, h, h1, h2, h3⟩
   ·exact h.elim
  | false =>
   simp only [cond_false] at h
   split at h
   ·rename_i o ho
    obtain ⟨B', h1, h2, h3⟩ := packM_sound hk H hrel ho
    exact ⟨v, B', o, hrun, h, h1, h2, h3⟩
   ·exact h.elim
theorem memOk_of_exec {L : Nat → Nat → Option (St → Tr (Ex × St))} (hm : P.follows .mixedOrders = true) (hΓ : ∀ f s, Γ f = some s → SpecOk P f s) {f : FuncId} {fn : Func} {c : Code} (hf : P.funcs[f]? = some fn) (hb : fn.body = some c)
   (hcall : ∀ args w, (callFunc f args).run P w = .ok (.enter f args) w) {K : MSpec} {N : Nat} {frz : Bool}
   (hl : ∀ ents args o, K ents args = some o → BlocksOk P ents.length (L ents.length) c)
   (h : ∀ ents args o, K ents args = some o → (∀ p ∈ o.conds, p) → (execM P Γ (L ents.length) N frz fn ents args).sat fun o' => Sees o'.val o.val ∧ EntsEqv (o'.outs ++ [o'.new]) (o.outs ++ [o.new])) : MemOk P f K where
 sound := by
   intro ents args o C B w vs ho hC hk H hargs hconds
   refine CallsTo.enter hf ⟨hcall _ _, calls_of_wp hf hb ?_⟩
   have hs := h ents args o ho hconds
   unfold execM at hs
   rw [hb] at hs
   simp only at hs
   have hlen : vs.length = args.length := hargs.1
   have H1 : Holds C B (startM ents args fn.ntmps) { tmps := vs.toArray ++ Array.replicate (fn.ntmps - vs.toArray.size) undef, defers := [] } w := by
     refine { H with defers := rfl, size := by simp [startM, hlen], tm := ?_ }
     intro t ht
     by_cases hlt : t < args.length
     · have := hargs.2 t hlt
       have hlt' : t < vs.length := by omega
       simpa [startM, List.getD_eq_getElem?_getD, Array.getD_eq_getD_getElem?, List.getElem?_append_left hlt, Array.getElem?_append, hlt, hlt'] using this
     · have ht' : t - args.length < fn.ntmps - args.length := by simp only [startM, List.length_append, List.length_replicate] at ht; omega
       have hlt' : ¬ t < vs.length := by omega
       have e1 : (startM ents args fn.ntmps).tm.getD t .any = .c (.v undef) := by
         simp [startM, List.getD_eq_getElem?_getD, List.getElem?_append_right (Nat.le_of_not_lt hlt), List.getElem?_replicate, ht']
       have e2 : (vs.toArray ++ Array.replicate (fn.ntmps - vs.toArray.size) undef).getD t undef = undef := by
         simp [Array.getD_eq_getD_getElem?, Array.getElem?_append, hlt', Array.getElem?_replicate, hlen, ht', hlt]
       show ARel _ _ _ _ _
       rw [e1]
       simp only [] at e2 ⊢
       rw [e2]
       exact ARel.lit _
   refine Code.wp_mono ?_ (wp_of_vse <| exec_sound hm (specsAt hΓ _) hC c (by rw [hk]; exact hl ents args o ho) _ _ _ _ _ (Tr.sat_bind hs) H1)
   rintro e a' w' ⟨ex, S', B', rfl, H', hq⟩
   have key : (finishM P fn ents.length frz S').sat (fun o' => Sees o'.val o.val ∧ EntsEqv (o'.outs ++ [o'.new]) (o.outs ++ [o.new])) →
       a'.defers = [] ∧ ∃ v, (results fn a'.tmps).run P w' = .ok v w' ∧ ∃ v' B', Ending.returned v = .returned v' ∧ Holds C B' (memSt (o.outs ++ [o.new]) (ents.length + 1)) act0 w' ∧ ARel (ownOf C.A0 B' (memOf (o.outs ++ [o.new]))) B' w' o.val v' := by
     intro hfin
     obtain ⟨v, B2, o', hrun, ⟨hsee, heqv⟩, H2, hrel, hol⟩ := finishM_sound hC hk H' hfin
     refine ⟨H'.defers, v, hrun, v, B2, rfl, ?_⟩
     have hm2 : ∀ s, EntEqv (memOf (o'.outs ++ [o'.new]) s) (memOf (o.outs ++ [o.new]) s) := heqv.len.2
     have hA : ∀ b, ownOf C.A0 B2 (memOf (o.outs ++ [o.new])) b → ownOf C.A0 B2 (memOf (o'.outs ++ [o'.new])) b := by
       rintro b (h | ⟨s, e, h1, h2⟩)
       · exact .inl h
       · have := hm2 s
         rw [h1] at this
         generalize hq : memOf (o'.outs ++ [o'.new]) s = q at this
         cases this with
         | refl => exact .inr ⟨s, e, hq, h2⟩
         | arr n sz el el' t _ => exact .inr ⟨s, _, hq, h2⟩
         | cells l m t _ => exact .inr ⟨s, _, hq, h2⟩
     exact ⟨H2.eqv hm2, hsee _ _ _ _ (hrel.trans (Trans.refl _ _) (fun b _ h => hA b h) (fun _ _ h => h))⟩
   cases ex with
   | normal => exact key hq
   | ret => exact key hq
   | exit id => exact hq.elim
theorem pureOk_of_exec (hm : P.follows .mixedOrders = true) (hΓ : ∀ f s, Γ f = some s → SpecOk P f s) {f : FuncId} {fn : Func} {c : Code} (hf : P.funcs[f]? = some fn) (hb : fn.body = some c)
  (hcall : ∀ args w, (callFunc f args).run P w = .ok (.enter f args) w) {K : List AV → Option (AV × List Bool)} {N : Nat} (hl : BlocksOk P 0 L c)
  (hn : ∀ args v cs, K args = some (v, cs) → Vse.noPtr v = true)
  (h : ∀ args v cs, K args = some (v, cs) → (∀ p ∈ cs, p) → (execFn P Γ L N fn args).sat fun r => Vse.noPtr r = true ∧ Sees r v) : PureOk P f K where
 sound := fun args v cs hk => ⟨hn args v cs hk, fun A w vs hA hc hargs => by
  refine CallsTo.enter hf ⟨hcall _ _, (calls_of_exec hm hΓ hf hb hl (h args v cs hk hc) hA hargs).mono ?_⟩
  rintro e w' ⟨r, u, hsee, _, rfl, hrel, hb⟩
  exact ⟨u, rfl, hsee _ _ _ _ hrel, hb⟩⟩
end
end Go.Vse
namespace Go.Vse
open Go.RowKit
section
variable {P : Program} {Γ : FuncId → Option Spec}
theorem EntsEqv.own {C : Ctx} {B : Bmap} {l l' : List (Option Ent)} (h : EntsEqv l l') (b : Nat) : ownOf C.A0 B (memOf l') b → ownOf C.A0 B (memOf l) b := by
 have hm2 : ∀ s, EntEqv (memOf l s) (memOf l' s) := h.len.2
 rintro (h | ⟨s, e, h1, h2⟩)
 ·exact .inl h
 ·have := hm2 s
  rw [h1] at this
  generalize hq : memOf l s = q at this
  cases this with
  | refl => exact .inr ⟨s, e, hq, h2⟩
  | arr n sz el el' t _ => exact .inr ⟨s, _, hq, h2⟩
  | cells l m t _ => exact .inr ⟨s, _, hq, h2⟩
theorem memOk_of_exec_c {L : Nat → Nat → Option (St → Tr (Ex × St))} (hm : P.follows .mixedOrders = true) (hΓ : ∀ f s, Γ f = some s → SpecOk P f s) {f : FuncId} {fn : Func} {c : Code} (hf : P.funcs[f]? = some fn) (hb : fn.body = some c)
   (hcall : ∀ args w, (callFunc f args).run P w = .ok (.enter f args) w) {K : MSpec} {N : Nat} {frz : Bool}
   (hl : ∀ ents args o, K ents args = some o → BlocksOk P ents.length (L ents.length) c)
   (h : ∀ ents args o, K ents args = some o → (∀ p ∈ o.conds, p) → ∃ ents' args', EntsEqv ents ents' ∧ SeesL args args' ∧
     (execM P Γ (L ents.length) N frz fn ents' args').sat fun o' => Sees o'.val o.val ∧ EntsEqv (o'.outs ++ [o'.new]) (o.outs ++ [o.new])) : MemOk P f K where
 sound := by
   intro ents0 args0 o C B w vs ho hC hk0 H0 hargs0 hconds
   refine CallsTo.enter hf ⟨hcall _ _, calls_of_wp hf hb ?_⟩
   obtain ⟨ents, args, heq, hsees, hs⟩ := h ents0 args0 o ho hconds
   have hel : ents0.length = ents.length := heq.len.1
   have H : Holds C B (memSt ents ents.length) act0 w := by
     have := H0.eqv (m := memOf ents) heq.len.2
     rw [hel] at this
     exact this
   have hargs : Rels (ownOf C.A0 B (memOf ents)) B w args vs := by
     have h1 := hsees.rels hargs0
     exact ⟨h1.1, fun j hj => (h1.2 j hj).trans (Trans.refl _ _) (fun b _ hb => heq.own b hb) (fun _ _ h => h)⟩
   unfold execM at hs
   rw [hb] at hs
   simp only at hs
   have hlen : vs.length = args.length := hargs.1
   have H1 : Holds C B (startM ents args fn.ntmps) { tmps := vs.toArray ++ Array.replicate (fn.ntmps - vs.toArray.size) undef, defers := [] } w := by
     refine { H with defers := rfl, size := by simp [startM, hlen], tm := ?_ }
     intro t ht
     by_cases hlt : t < args.length
     · have := hargs.2 t hlt
       have hlt' : t < vs.length := by omega
       simpa [startM, List.getD_eq_getElem?_getD, Array.getD_eq_getD_getElem?, List.getElem?_append_left hlt, Array.getElem?_append, hlt, hlt'] using this
     · have ht' : t - args.length < fn.ntmps - args.length := by simp only [startM, List.length_append, List.length_replicate] at ht; omega
       have hlt' : ¬ t < vs.length := by omega
       have e1 : (startM ents args fn.ntmps).tm.getD t .any = .c (.v undef) := by
         simp [startM, List.getD_eq_getElem?_getD, List.getElem?_append_right (Nat.le_of_not_lt hlt), List.getElem?_replicate, ht']
       have e2 : (vs.toArray ++ Array.replicate (fn.ntmps - vs.toArray.size) undef).getD t undef = undef := by
         simp [Array.getD_eq_getD_getElem?, Array.getElem?_append, hlt', Array.getElem?_replicate, hlen, ht', hlt]
       show ARel _ _ _ _ _
       rw [e1]
       simp only [] at e2 ⊢
       rw [e2]
       exact ARel.lit _
   refine Code.wp_mono ?_ (wp_of_vse <| exec_sound hm (specsAt hΓ _) hC c (by rw [hk0]; exact hl ents0 args0 o ho) _ _ _ _ _ (Tr.sat_bind hs) H1)
   rintro e a' w' ⟨ex, S', B', rfl, H', hq⟩
   have key : (finishM P fn ents.length frz S').sat (fun o' => Sees o'.val o.val ∧ EntsEqv (o'.outs ++ [o'.new]) (o.outs ++ [o.new])) →
       a'.defers = [] ∧ ∃ v, (results fn a'.tmps).run P w' = .ok v w' ∧ ∃ v' B', Ending.returned v = .returned v' ∧ Holds C B' (memSt (o.outs ++ [o.new]) (ents0.length + 1)) act0 w' ∧ ARel (ownOf C.A0 B' (memOf (o.outs ++ [o.new]))) B' w' o.val v' := by
     intro hfin
     obtain ⟨v, B2, o', hrun, ⟨hsee, heqv⟩, H2, hrel, hol⟩ := finishM_sound hC (hk0.trans hel) H' hfin
     refine ⟨H'.defers, v, hrun, v, B2, rfl, ?_⟩
     have hm2 : ∀ s, EntEqv (memOf (o'.outs ++ [o'.new]) s) (memOf (o.outs ++ [o.new]) s) := heqv.len.2
     rw [hel]
     exact ⟨H2.eqv hm2, hsee _ _ _ _ (hrel.trans (Trans.refl _ _) (fun b _ h => heqv.own b h) (fun _ _ h => h))⟩
   cases ex with
   | normal => exact key hq
   | ret => exact key hq
   | exit id => exact hq.elim
theorem pureOk_of_exec_c {L : Nat → Option (St → Tr (Ex × St))} (hm : P.follows .mixedOrders = true) (hΓ : ∀ f s, Γ f = some s → SpecOk P f s) {f : FuncId} {fn : Func} {c : Code} (hf : P.funcs[f]? = some fn) (hb : fn.body = some c)
  (hcall : ∀ args w, (callFunc f args).run P w = .ok (.enter f args) w) {K : List AV → Option (AV × List Bool)} {N : Nat} (hl : BlocksOk P 0 L c)
  (hn : ∀ args v cs, K args = some (v, cs) → Vse.noPtr v = true)
  (h : ∀ args v cs, K args = some (v, cs) → (∀ p ∈ cs, p) → ∃ args', SeesL args args' ∧ (execFn P Γ L N fn args').sat fun r => Vse.noPtr r = true ∧ Sees r v) : PureOk P f K where
 sound := fun args v cs hk => ⟨hn args v cs hk, fun A w vs hA hc hargs => by
  obtain ⟨args', hsees, hs⟩ := h args v cs hk hc
  refine CallsTo.enter hf ⟨hcall _ _, (calls_of_exec hm hΓ hf hb hl hs hA (hsees.rels hargs)).mono ?_⟩
  rintro e w' ⟨r, u, hsee, _, rfl, hrel, hb⟩
  exact ⟨u, rfl, hsee _ _ _ _ hrel, hb⟩⟩
end
end Go.Vse
namespace Go.Vse
open Go.RowKit
def Tr.run {α : Type} : Tr α → Option α
 | .ret a => some a
 | .ite c t e => bif c then t.run else e.run
 | .need p t => bif p then t.run else none
 | .fail _ => none
theorem Tr.run_sat {α : Type} : ∀ {t : Tr α} {a : α}, t.run = some a → t.sat (· = a)
 | .ret a, b, h => by simpa [Tr.run, Tr.sat] using h
 | .ite c t e, b, h => by
   cases c with
   | true => exact ⟨fun _ => Tr.run_sat (by simpa [Tr.run] using h), fun h => by cases h⟩
   | false => exact ⟨fun h => (by cases h), fun _ => Tr.run_sat (by simpa [Tr.run] using h)⟩
 | .need p t, b, h => by
   cases p with
   | true => exact ⟨rfl, fun _ => Tr.run_sat (by simpa [Tr.run] using h)⟩
   | false => simp [Tr.run] at h
 | .fail _, b, h => by simp [Tr.run] at h
theorem sat_need {α : Type} {p : Bool} {t : Tr α} {Q : α → Prop} (h : p = true) (k : t.sat Q) : (Tr.need p t).sat Q := ⟨h, fun _ => k⟩
theorem sat_ite {α : Type} {c : Bool} {t e : Tr α} {Q : α → Prop} (h : c = true → t.sat Q) (k : c = false → e.sat Q) : (Tr.ite c t e).sat Q := ⟨h, k⟩
theorem sat_ret {α : Type} {a : α} {Q : α → Prop} (h : Q a) : (Tr.ret a).sat Q := h
abbrev noL : Nat → Option (St → Tr (Ex × St)) := fun _ => none
def concPure (P : Program) (Γ : FuncId → Option Spec) (N : Nat) (fn : Func) (args : List AV) : Option (AV × List Bool) :=
 match (execFn P Γ noL N fn args).run with
 | some v => bif noPtr v then some (v, []) else none
 | none => none
def concMem (P : Program) (Γ : FuncId → Option Spec) (N : Nat) (fn : Func) : MSpec := fun ents args => (execM P Γ noL N true fn ents args).run
mutual
/-- no pointer into one's own -/
def freeA : AV → Bool
 | .ptr _ _ => false
 | .eptr _ _ _ _ => false
 | .ssl _ _ _ _ => false
 | .agg l => freeL l
 | .tup l => freeL l
 | .fn _ l => freeL l
 | _ => true
def freeL : List AV → Bool
 | [] => true
 | x :: l => freeA x && freeL l
end
def concS (P : Program) (Γ : FuncId → Option Spec) (N : Nat) (fn : Func) : Spec := fun slot m args =>
 bif freeL args then pureSpec (concPure P Γ N fn) slot m args else memSpec (concMem P Γ N fn) slot m args
def okName (fn : Func) : Bool := !(fn.name == "runtime.NumGoroutine")
def concΓ (P : Program) (base : FuncId → Option Spec) (N : Nat) : Nat → FuncId → Option Spec
 | 0 => base
 | d + 1 => fun f =>
  match base f with
  | some s => some s
  | none =>
   match P.funcs[f]? with
   | some fn =>
    match fn.body with
    | some _ => bif okName fn then some (concS P (concΓ P base N d) N fn) else none
    | none => none
   | none => none
theorem callFunc_enter {P : Program} {f : FuncId} {fn : Func} {c : Code} (hf : P.funcs[f]? = some fn) (hb : fn.body = some c) (hn : okName fn = true) (args : Array Value) (w : World) : (callFunc f args).run P w = .ok (.enter f args) w := by
 have hn' : (fn.name == "runtime.NumGoroutine") = false := by simpa [okName] using hn
 unfold callFunc
 rw [Sem.run_bind, run_program, Result.andThen_ok]
 simp only [hf, hn', hb, Bool.false_eq_true, if_false, Option.isNone_some]
 rfl
section
variable {P : Program} {Γ : FuncId → Option Spec} {N : Nat}
theorem concPure_ok (hm : P.follows .mixedOrders = true) (hΓ : ∀ f s, Γ f = some s → SpecOk P f s) {f : FuncId} {fn : Func} {c : Code} (hf : P.funcs[f]? = some fn) (hb : fn.body = some c) (hn : okName fn = true) : PureOk P f (concPure P Γ N fn) := by
 have hk : ∀ args v cs, concPure P Γ N fn args = some (v, cs) → Vse.noPtr v = true ∧ (execFn P Γ noL N fn args).run = some v := by
  intro args v cs h
  unfold concPure at h
  split at h
  ·rename_i u hu
   cases hp : Vse.noPtr u with
   | false => rw [hp] at h; cases h
   | true =>
    rw [hp] at h
    simp only [cond_true, Option.some.injEq, Prod.mk.injEq] at h
    obtain ⟨rfl, _⟩ := h
    exact ⟨hp, hu⟩
  ·cases h
 refine pureOk_of_exec hm hΓ hf hb (callFunc_enter hf hb hn) (L := noL) (N := N) (blocksOk_none 0 c) (fun args v cs h => (hk args v cs h).1) fun args v cs h _ => ?_
 refine Tr.sat_mono ?_ (Tr.run_sat (hk args v cs h).2)
 rintro r rfl
 exact ⟨(hk args r cs h).1, Sees.refl r⟩
theorem concMem_ok (hm : P.follows .mixedOrders = true) (hΓ : ∀ f s, Γ f = some s → SpecOk P f s) {f : FuncId} {fn : Func} {c : Code} (hf : P.funcs[f]? = some fn) (hb : fn.body = some c) (hn : okName fn = true) : MemOk P f (concMem P Γ N fn) := by
 refine memOk_of_exec (L := fun _ => noL) hm hΓ hf hb (callFunc_enter hf hb hn) (N := N) (frz := true) (fun ents args o _ => blocksOk_none ents.length c) fun ents args o h _ => ?_
 refine Tr.sat_mono ?_ (Tr.run_sat h)
 rintro r rfl
 exact ⟨Sees.refl _, EntsEqv.refl _⟩
theorem SpecOk.pick {f : FuncId} {s t : Spec} (p : List AV → Bool) (hs : SpecOk P f s) (ht : SpecOk P f t) : SpecOk P f (fun slot m args => bif p args then s slot m args else t slot m args) where
 look := fun slot m m' args r h hk => by
  cases hp : p args with
  | true => simp only [hp, cond_true] at h ⊢; exact hs.look slot m m' args r h hk
  | false => simp only [hp, cond_false] at h ⊢; exact ht.look slot m m' args r h hk
 sound := fun slot args r C B S a w vs h => by
  cases hp : p args with
  | true => simp only [hp, cond_true] at h; exact hs.sound slot args r C B S a w vs h
  | false => simp only [hp, cond_false] at h; exact ht.sound slot args r C B S a w vs h
theorem concS_ok (hm : P.follows .mixedOrders = true) (hΓ : ∀ f s, Γ f = some s → SpecOk P f s) {f : FuncId} {fn : Func} {c : Code} (hf : P.funcs[f]? = some fn) (hb : fn.body = some c) (hn : okName fn = true) : SpecOk P f (concS P Γ N fn) :=
 SpecOk.pick freeL (concPure_ok hm hΓ hf hb hn).spec (concMem_ok hm hΓ hf hb hn).spec
theorem concΓ_ok (hm : P.follows .mixedOrders = true) {base : FuncId → Option Spec} (hΓ : ∀ f s, base f = some s → SpecOk P f s) : ∀ (d : Nat) (f : FuncId) (s : Spec), concΓ P base N d f = some s → SpecOk P f s
 | 0, f, s, h => hΓ f s h
 | d + 1, f, s, h => by
  unfold concΓ at h
  split at h
  ·rename_i s' hs'
   cases h
   exact hΓ f _ hs'
  ·split at h
   ·rename_i fn hf
    split at h
    ·rename_i c hb
     cases hn : okName fn with
     | false => rw [hn] at h; cases h
     | true =>
      rw [hn] at h
      simp only [cond_true, Option.some.injEq] at h
      subst h
      exact concS_ok hm (concΓ_ok hm hΓ d) hf hb hn
    ·cases h
   ·cases h
end
end Go.Vse
namespace Go.Vse
open Go.RowKit
def concMemF (P : Program) (Γ : FuncId → Option Spec) (N : Nat) (fn : Func) : MSpec := fun ents args => (execM P Γ noL N false fn ents args).run
def concS2 (P : Program) (Γ : FuncId → Option Spec) (N : Nat) (ms : Bool) (fn : Func) : Spec := bif ms then memSpec (concMemF P Γ N fn) else concS P Γ N fn
def concΓ2 (P : Program) (base : FuncId → Option Spec) (ms : FuncId → Bool) (N : Nat) : Nat → FuncId → Option Spec
 | 0 => base
 | d + 1 => fun f =>
  match base f with
  | some s => some s
  | none =>
   match P.funcs[f]? with
   | some fn =>
    match fn.body with
    | some _ => bif okName fn then some (concS2 P (concΓ2 P base ms N d) N (ms f) fn) else none
    | none => none
   | none => none
section
variable {P : Program} {Γ : FuncId → Option Spec} {N : Nat}
theorem concMemF_ok (hm : P.follows .mixedOrders = true) (hΓ : ∀ f s, Γ f = some s → SpecOk P f s) {f : FuncId} {fn : Func} {c : Code} (hf : P.funcs[f]? = some fn) (hb : fn.body = some c) (hn : okName fn = true) : MemOk P f (concMemF P Γ N fn) := by
 refine memOk_of_exec (L := fun _ => noL) hm hΓ hf hb (callFunc_enter hf hb hn) (N := N) (frz := false) (fun ents args o _ => blocksOk_none ents.length c) fun ents args o h _ => ?_
 refine Tr.sat_mono ?_ (Tr.run_sat h)
 rintro r rfl
 exact ⟨Sees.refl _, EntsEqv.refl _⟩
theorem concS2_ok (hm : P.follows .mixedOrders = true) (hΓ : ∀ f s, Γ f = some s → SpecOk P f s) {f : FuncId} {fn : Func} {c : Code} (hf : P.funcs[f]? = some fn) (hb : fn.body = some c) (hn : okName fn = true) (ms : Bool) : SpecOk P f (concS2 P Γ N ms fn) := by
 cases ms with
 | true => exact (concMemF_ok hm hΓ hf hb hn).spec
 | false => exact concS_ok hm hΓ hf hb hn
theorem concΓ2_ok (hm : P.follows .mixedOrders = true) {base : FuncId → Option Spec} {ms : FuncId → Bool} (hΓ : ∀ f s, base f = some s → SpecOk P f s) : ∀ (d : Nat) (f : FuncId) (s : Spec), concΓ2 P base ms N d f = some s → SpecOk P f s
 | 0, f, s, h => hΓ f s h
 | d + 1, f, s, h => by
  unfold concΓ2 at h
  split at h
  ·rename_i s' hs'
   cases h
   exact hΓ f _ hs'
  ·split at h
   ·rename_i fn hf
    split at h
    ·rename_i c hb
     cases hn : okName fn with
     | false => rw [hn] at h; cases h
     | true =>
      rw [hn] at h
      simp only [cond_true, Option.some.injEq] at h
      subst h
      exact concS2_ok hm (concΓ2_ok hm hΓ d) hf hb hn _
    ·cases h
   ·cases h
end
end Go.Vse
namespace Go.Vse
open Go.RowKit
structure ExtOk (P : Program) (f : FuncId) (e : Array Value → Sem Value) : Prop where
 ex : ∃ fn, P.funcs[f]? = some fn ∧ (fn.name == "runtime.NumGoroutine") = false ∧ fn.body.isNone = true ∧ Extern.findNext fn = none ∧ Extern.find fn = some e
theorem ExtOk.run {P : Program} {f : FuncId} {e : Array Value → Sem Value} (h : ExtOk P f e) (args : Array Value) (w : World) {v : Value} {w' : World} (hr : (e args).run P w = .ok v w') : (callFunc f args).run P w = .ok (.value v) w' := by
 obtain ⟨fn, h1, h2, h3, h4, h5⟩ := h.ex
 rw [run_callFunc_extern h1 h2 h3 h4 h5, hr]
 rfl
def cmpPure : List AV → Option (AV × List Bool)
 | [.c (.v (.string a)), .c (.v (.string b))] => some (intA .i64 (Lib.compareBytes a.data.toList b.data.toList), [])
 | _ => none
theorem cmp_ok {P : Program} {f : FuncId} (h : ExtOk P f Extern.BytealgCompare.compare) : PureOk P f cmpPure where
 sound := by
  intro args v cs hk
  unfold cmpPure at hk
  split at hk
  ·rename_i a b
   simp only [Option.some.injEq, Prod.mk.injEq] at hk
   obtain ⟨rfl, rfl⟩ := hk
   refine ⟨rfl, fun A w vs hA _ hargs => ?_⟩
   obtain ⟨va, vs, rfl, h1, hargs⟩ := hargs.head
   obtain ⟨vb, vs, rfl, h2, hargs⟩ := hargs.head
   obtain rfl := hargs.nil_inv
   obtain rfl := h1.plain
   obtain rfl := h2.plain
   exact CallsTo.value h.ex.choose_spec.1 ⟨_, w, h.run _ w (Lib.run_compareString a b w), _, rfl, ARel.lit _, Below.refl _ _⟩
  ·cases hk
def addPure : List AV → Option (AV × List Bool)
 | [.c (.v (.int _ x)), .c (.v (.int _ y)), .c (.v (.int _ c))] =>
  some (.tup [intA .u64 (((x.toNat + y.toNat + c.toNat) % Extern.MathBitsCarry.m64 : Nat) : Int), intA .u64 (((x.toNat + y.toNat + c.toNat) / Extern.MathBitsCarry.m64 : Nat) : Int)], [decide (c.toNat ≤ 1)])
 | _ => none
def addExt (args : Array Value) : Sem Value := do
 let (x, y, c) ← Extern.MathBitsCarry.three "Add64" args
 pure (Extern.MathBitsCarry.pair ((x + y + c) % Extern.MathBitsCarry.m64) ((x + y + c) / Extern.MathBitsCarry.m64))
theorem add_ok {P : Program} {f : FuncId} (h : ExtOk P f addExt) : PureOk P f addPure where
 sound := by
  intro args v cs hk
  unfold addPure at hk
  split at hk
  ·rename_i kx x ky y kc c
   simp only [Option.some.injEq, Prod.mk.injEq] at hk
   obtain ⟨rfl, rfl⟩ := hk
   refine ⟨rfl, fun A w vs hA hc hargs => ?_⟩
   have hc := dec (hc (decide (c.toNat ≤ 1)) (by simp))
   obtain ⟨va, vs, rfl, h1, hargs⟩ := hargs.head
   obtain ⟨vb, vs, rfl, h2, hargs⟩ := hargs.head
   obtain ⟨vc, vs, rfl, h3, hargs⟩ := hargs.head
   obtain rfl := hargs.nil_inv
   obtain rfl := h1.plain
   obtain rfl := h2.plain
   obtain rfl := h3.plain
   have hn : ¬ c.toNat > 1 := by omega
   refine CallsTo.value h.ex.choose_spec.1 ⟨_, w, h.run _ w (v := Extern.MathBitsCarry.pair ((x.toNat + y.toNat + c.toNat) % Extern.MathBitsCarry.m64) ((x.toNat + y.toNat + c.toNat) / Extern.MathBitsCarry.m64)) ?_, _, rfl, ?_, Below.refl _ _⟩
   ·have h3 : (Extern.MathBitsCarry.three "Add64" #[.int kx x, .int ky y, .int kc c]).run P w = .ok (x.toNat, y.toNat, c.toNat) w := by
     change Sem.run P (if c.toNat > 1 then _ else _) w = _
     rw [if_neg hn]
     rfl
    unfold addExt
    rw [Sem.run_bind]
    refine (congrArg (fun r => Result.andThen r _) h3).trans ?_
    rfl
   ·exact ARel.tup_mk (cs := [_, _]) (.cons (ARel.lit _) (.cons (ARel.lit _) .nil))
  ·cases hk
def withMap (w : World) (es : Array MapEntry) (clock : Nat) : World := w.alloc (.map es clock)
end Go.Vse
namespace Go.Vse
theorem byteOf_int (x : Int) : byteOf [.v (.int .u8 x)] = UInt8.ofNat x.toNat := rfl
theorem bytesOf_len (n : Nat) (el : Nat → List IV) : (bytesOf n el).length = n := by simp [bytesOf]
theorem bytesOf_byteEl (l : List UInt8) : bytesOf l.length (byteEl l) = l := by
 apply List.ext_getElem
 ·simp [bytesOf]
 ·intro i h1 h2
  simp only [bytesOf, byteEl, List.getElem_map, List.getElem_range, byteOf_int, List.getD_eq_getElem?_getD, List.getElem?_eq_getElem h2, Option.getD_some]
  simp
theorem isBytes_byteEl (n : Nat) (l : List UInt8) : isBytes n (byteEl l) = true := by
 unfold isBytes
 rw [List.all_eq_true]
 intro k _
 have := (l.getD k 0).toNat_lt
 simp only [byteEl, isByte, Bool.and_eq_true, decide_eq_true_eq]
 omega
theorem byteEl_of_bytes {n : Nat} {el : Nat → List IV} (h : isBytes n el = true) : ∀ k, k < n → el k = byteEl (bytesOf n el) k := by
 intro k hk
 obtain ⟨b, hb⟩ := isBytes_get h k hk
 have : (bytesOf n el).getD k 0 = b := by
  simp [bytesOf, List.getD_eq_getElem?_getD, hk, hb, byteOf]
 unfold byteEl
 rw [this, hb]
theorem wrap_u8 (x : Int) : IntKind.u8.wrap x = x % 256 := by
 simp [IntKind.wrap, IntKind.bits, IntKind.signed]
theorem wrap_u64 (x : Int) : IntKind.u64.wrap x = x % 18446744073709551616 := by
 simp [IntKind.wrap, IntKind.bits, IntKind.signed]
theorem wrap_i64 {x : Int} (h : -9223372036854775808 ≤ x ∧ x ≤ 9223372036854775807) : IntKind.i64.wrap x = x := IntWalk.i64_in x h
end Go.Vse
namespace Go.Vse
open Go.RowKit
def finA (P : Program) (fn : Func) (q : Ex × St) : Tr AV :=
 match q.1 with
 | .exit _ => .fail "exit"
 | _ =>
  match resultsA P q.2 fn.results.toList with
  | some v => Tr.needs (viewA q.2.mem v).2 (.ret (viewA q.2.mem v).1)
  | none => .fail "results"
def execTo (P : Program) (Γ : FuncId → Option Spec) (L : Nat → Option (St → Tr (Ex × St))) (N : Nat) (fn : Func) (cut : St → Tr AV) : Nat → Code → St → Tr AV
 | 0, _, S => cut S
 | n + 1, .seq a b, S => (exec P Γ L N a S).bind fun q =>
  match q.1 with
  | .normal => execTo P Γ L N fn cut n b q.2
  | _ => finA P fn q
 | _ + 1, _, _ => .fail "cut"
def restOf : Nat → Code → Code
 | n + 1, .seq _ b => restOf n b
 | _, c => c
def cutN {X : Type} (nrm : Norm) (take : List AV × List (Option Ent) → Option (X × List Bool)) (G : X → Tr AV) (S : St) : Tr AV :=
 match norm 0 nrm S with
 | some q =>
  match take q with
  | some (x, cs) => Tr.needs cs (G x)
  | none => .fail "cut: take"
 | none => .fail "cut: norm"
def restRun (P : Program) (Γ : FuncId → Option Spec) (L : Nat → Option (St → Tr (Ex × St))) (N : Nat) (fn : Func) (c : Code) (S : St) : Tr AV := (exec P Γ L N c S).bind (finA P fn)
section
variable {P : Program} {Γ : FuncId → Option Spec} {L : Nat → Option (St → Tr (Ex × St))} {N : Nat}
theorem restOf_blocks {k : Nat} : ∀ (n : Nat) (c : Code), BlocksOk P k L c → BlocksOk P k L (restOf n c)
 | 0, c, h => by cases c <;> exact h
 | n + 1, .seq a b, h => restOf_blocks n b h.2
 | n + 1, .skip, h => h
 | n + 1, .region .., h => h
 | n + 1, .cond .., h => h
 | n + 1, .block .., h => h
 | n + 1, .loop .., h => h
 | n + 1, .scope .., h => h
 | n + 1, .rangeFunc .., h => h
 | n + 1, .exit _, h => h
 | n + 1, .label _, h => h
 | n + 1, .goto _, h => h
 | n + 1, .ret, h => h
 | n + 1, .refuse _, h => h
theorem execTo_sound {C : Ctx} {fn : Func} {cut : St → Tr AV} (hm : P.follows .mixedOrders = true) (hΓ : ∀ f s, Γ f = some s → SpecAt C P f s) (hC : C.Ok) : ∀ (n : Nat) (c : Code), BlocksOk P C.k L c →
   (∀ (Q : AV → Prop) (S : St) (B : Bmap) (a : Act) (w : World), (cut S).sat Q → Holds C B S a w → (restOf n c).wp P (PostR C fun q => (finA P fn q).sat Q) a w) →
   ∀ (Q : AV → Prop) (S : St) (B : Bmap) (a : Act) (w : World), (execTo P Γ L N fn cut n c S).sat Q → Holds C B S a w → c.wp P (PostR C fun q => (finA P fn q).sat Q) a w
 | 0, c, hl, hcut, Q, S, B, a, w, h, H => by
   have : restOf 0 c = c := by cases c <;> rfl
   rw [← this]
   exact hcut Q S B a w (by cases c <;> exact h) H
 | n + 1, .seq x y, hl, hcut, Q, S, B, a, w, h, H => by
   unfold execTo at h
   refine wp_seq (Code.wp_mono ?_ (wp_of_vse <| exec_sound hm hΓ hC x hl.1 _ S B a w (Tr.sat_bind h) H))
   rintro e a' w' ⟨ex, S', B', rfl, H', hq⟩
   cases ex with
   | normal => exact execTo_sound hm hΓ hC n y hl.2 hcut Q S' B' a' w' hq H'
   | exit id => exact ⟨.exit id, S', B', rfl, H', hq⟩
   | ret => exact ⟨.ret, S', B', rfl, H', hq⟩
 | n + 1, .skip, _, _, _, _, _, _, _, h, _ => h.elim
 | n + 1, .region .., _, _, _, _, _, _, _, h, _ => h.elim
 | n + 1, .cond .., _, _, _, _, _, _, _, h, _ => h.elim
 | n + 1, .block .., _, _, _, _, _, _, _, h, _ => h.elim
 | n + 1, .loop .., _, _, _, _, _, _, _, h, _ => h.elim
 | n + 1, .scope .., _, _, _, _, _, _, _, h, _ => h.elim
 | n + 1, .rangeFunc .., _, _, _, _, _, _, _, h, _ => h.elim
 | n + 1, .exit _, _, _, _, _, _, _, _, h, _ => h.elim
 | n + 1, .label _, _, _, _, _, _, _, _, h, _ => h.elim
 | n + 1, .goto _, _, _, _, _, _, _, _, h, _ => h.elim
 | n + 1, .ret, _, _, _, _, _, _, _, h, _ => h.elim
 | n + 1, .refuse _, _, _, _, _, _, _, _, h, _ => h.elim
theorem cutN_sound {X : Type} {C : Ctx} {fn : Func} {nrm : Norm} {take : List AV × List (Option Ent) → Option (X × List Bool)} {head : X → List AV × List (Option Ent)} {G : X → Tr AV} {c : Code} (hm : P.follows .mixedOrders = true) (hΓ : ∀ f s, Γ f = some s → SpecAt C P f s) (hC : C.Ok) (hk : C.k = 0) (hl : BlocksOk P 0 L c)
  (ht : ∀ q x cs, take q = some (x, cs) → (∀ p ∈ cs, p) → SeesL q.1 (head x).1 ∧ EntsEqv q.2 (head x).2) (hG : ∀ x (Q : AV → Prop), (G x).sat Q → (restRun P Γ L N fn c (mkSt nrm (head x))).sat Q)
  (Q : AV → Prop) (S : St) (B : Bmap) (a : Act) (w : World) (h : (cutN nrm take G S).sat Q) (H : Holds C B S a w) : c.wp P (PostR C fun q => (finA P fn q).sat Q) a w := by
 unfold cutN at h
 split at h
 ·rename_i q hq
  split at h
  ·rename_i x cs hx
   obtain ⟨hc, h⟩ := Tr.sat_needs h
   obtain ⟨h1, h2⟩ := ht q x cs hx hc
   have hw : Weak 0 S (mkSt nrm (head x)) := (norm_weak hq).trans ((EntsEqv.weak (k := 0) (n := nrm) (vs := q.1) h2).trans (SeesL.weak h1))
   obtain ⟨B2, H2⟩ := hw C B a w hk H
   exact wp_of_vse (exec_sound hm hΓ hC c (by rw [hk]; exact hl) _ _ _ _ _ (Tr.sat_bind (hG x Q h)) H2)
  ·exact h.elim
 ·exact h.elim
theorem calls_of_post {f : FuncId} {fn : Func} {c : Code} (hf : P.funcs[f]? = some fn) (hb : fn.body = some c)
   {args : List AV} {Q : AV → Prop} {A : Nat → Prop} {w : World} {vs : List Value} (hA : ∀ b, A b → b < w.heap.size) (hargs : Rels A (fun _ => none) w args vs)
   (h : ∀ (C : Ctx) (a : Act), C.Ok → C.k = 0 → Holds C (fun _ => none) (start args fn.ntmps) a w → c.wp P (PostR C fun q => (finA P fn q).sat fun r => Vse.noPtr r = true ∧ Q r) a w) :
   Calls P f vs.toArray w fun e w' => ∃ r v, Q r ∧ Vse.noPtr r = true ∧ e = .returned v ∧ ARel A (fun _ => none) w' r v ∧ Below w.heap.size w w' := by
 refine calls_of_wp hf hb ?_
 have hown : ∀ b, ownOf A (fun _ => none) (start args fn.ntmps).mem b ↔ A b := fun b => by
   constructor
   · intro h
     rcases h with h | ⟨s, e, h1, _⟩
     · exact h
     · cases h1
   · exact fun h => Or.inl h
 have hweak : ∀ {x : AV} {v : Value}, ARel A (fun _ => none) w x v → ARel (ownOf A (fun _ => none) (start args fn.ntmps).mem) (fun _ => none) w x v :=
   fun h => h.trans (Trans.refl _ _) (fun b _ hb => (hown b).1 hb) (fun _ _ h => h)
 have hlen : vs.length = args.length := hargs.1
 have H : Holds ⟨A, fun _ => False, w, 0, fun _ => none⟩ (fun _ => none) (start args fn.ntmps) { tmps := vs.toArray ++ Array.replicate (fn.ntmps - vs.toArray.size) undef, defers := [] } w := by
   refine { defers := rfl, size := by simp [start, hlen], tm := ?_, mem := fun s e he => (by cases he), inj := fun _ _ _ _ _ h => (by cases h), kept := Kept.refl _ _, old := fun s β h => (by cases h), fresh := fun _ _ => rfl, base := fun _ _ => rfl, kle := Nat.zero_le _ }
   intro t ht
   by_cases hlt : t < args.length
   · have := hweak (hargs.2 t hlt)
     have hlt' : t < vs.length := by omega
     simpa [start, List.getD_eq_getElem?_getD, Array.getD_eq_getD_getElem?, List.getElem?_append_left hlt, Array.getElem?_append, hlt, hlt'] using this
   · have ht' : t - args.length < fn.ntmps - args.length := by simp only [start, List.length_append, List.length_replicate] at ht; omega
     have hlt' : ¬ t < vs.length := by omega
     have e1 : (start args fn.ntmps).tm.getD t .any = .c (.v undef) := by
       simp [start, List.getD_eq_getElem?_getD, List.getElem?_append_right (Nat.le_of_not_lt hlt), List.getElem?_replicate, ht']
     have e2 : (vs.toArray ++ Array.replicate (fn.ntmps - vs.toArray.size) undef).getD t undef = undef := by
       simp [Array.getD_eq_getD_getElem?, Array.getElem?_append, hlt', Array.getElem?_replicate, hlen, ht', hlt]
     show ARel _ _ _ _ _
     rw [e1]
     simp only [] at e2 ⊢
     rw [e2]
     exact ARel.lit _
 refine Code.wp_mono ?_ (h ⟨A, fun _ => False, w, 0, fun _ => none⟩ _ ⟨hA, fun _ h => h.elim, fun _ _ h => h⟩ rfl H)
 rintro e a' w' ⟨ex, S', B', rfl, H', hq⟩
 have key : (match resultsA P S' fn.results.toList with | some v => Tr.needs (viewA S'.mem v).2 (.ret (viewA S'.mem v).1) | none => Tr.fail "results").sat (fun r => Vse.noPtr r = true ∧ Q r) →
     a'.defers = [] ∧ ∃ v, (results fn a'.tmps).run P w' = .ok v w' ∧ ∃ r v', Q r ∧ Vse.noPtr r = true ∧ Ending.returned v = .returned v' ∧ ARel A (fun _ => none) w' r v' ∧ Below w.heap.size w w' := by
   intro hs
   cases hr : resultsA P S' fn.results.toList with
   | none => rw [hr] at hs; exact hs.elim
   | some x =>
     rw [hr] at hs
     obtain ⟨hcs, hn, hQ⟩ := Tr.sat_needs hs
     obtain ⟨v, hrun, hrel⟩ := resultsA_sound H' hr
     have hview := viewA_rel H' (A := A) (fun b hb => .inl hb) x v hrel (fun b hb => by
       rintro ⟨s, _, e, _, h2⟩
       rcases (H'.old s b h2).1 with h3 | h3
       · exact absurd (hA b hb) (Nat.not_lt.2 h3)
       · exact h3) hcs
     exact ⟨H'.defers, v, hrun, _, v, hQ, hn, rfl, hview.noPtr hn _, H'.kept.below⟩
 cases ex with
 | normal => exact key hq
 | ret => exact key hq
 | exit id => exact hq.elim
theorem pureOk_of_cut {X : Type} {nrm : Norm} {take : List AV × List (Option Ent) → Option (X × List Bool)} {head : X → List AV × List (Option Ent)} {G : X → Tr AV} (hm : P.follows .mixedOrders = true) (hΓ : ∀ f s, Γ f = some s → SpecOk P f s) {f : FuncId} {fn : Func} {c : Code} (hf : P.funcs[f]? = some fn) (hb : fn.body = some c)
  (hcall : ∀ args w, (callFunc f args).run P w = .ok (.enter f args) w) {K : List AV → Option (AV × List Bool)} (n : Nat) (hl : BlocksOk P 0 L c)
  (ht : ∀ q x cs, take q = some (x, cs) → (∀ p ∈ cs, p) → SeesL q.1 (head x).1 ∧ EntsEqv q.2 (head x).2) (hG : ∀ x (Q : AV → Prop), (G x).sat Q → (restRun P Γ L N fn (restOf n c) (mkSt nrm (head x))).sat Q)
  (hn : ∀ args v cs, K args = some (v, cs) → Vse.noPtr v = true)
  (h : ∀ args v cs, K args = some (v, cs) → (∀ p ∈ cs, p) → ∃ args', SeesL args args' ∧ (execTo P Γ L N fn (cutN nrm take G) n c (start args' fn.ntmps)).sat fun r => Vse.noPtr r = true ∧ Sees r v) : PureOk P f K where
 sound := fun args v cs hk => ⟨hn args v cs hk, fun A w vs hA hc hargs => by
  obtain ⟨args', hsees, hs⟩ := h args v cs hk hc
  refine CallsTo.enter hf ⟨hcall _ _, (calls_of_post hf hb (Q := fun r => Sees r v) hA (hsees.rels hargs) fun C a hC hk H => ?_).mono ?_⟩
  ·exact execTo_sound hm (specsAt hΓ C) hC n c (by rw [hk]; exact hl) (fun Q S B a w hq H => cutN_sound hm (specsAt hΓ C) hC hk (restOf_blocks n c hl) ht hG Q S B a w hq H) _ _ _ _ _ hs H
  ·rintro e w' ⟨r, u, hsee, _, rfl, hrel, hb⟩
   exact ⟨u, rfl, hsee _ _ _ _ hrel, hb⟩⟩
end
end Go.Vse
