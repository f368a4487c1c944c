/- Helpers for the proof: no statement of its own. -/
import Derived.Test.YtpnbbgegfjefkaaGreatDoorVseC
import Derived.Laws.Externs
import Derived.Lib.Bytealg
set_option linter.unusedVariables false
set_option linter.unusedSimpArgs false
set_option linter.unnecessarySimpa false
set_option linter.deprecated false
namespace Go.Vse
open Go.RowKit
def startM (ents : List (Option Ent)) (args : List AV) (nt : Nat) : St := { tm := args ++ List.replicate (nt - args.length) (.c (.v undef)), mem := memOf ents, nx := ents.length }
def dropAll (S : St) (ids : List Nat) : St := { S with mem := applyUpd S.mem (ids.map fun b => (b, none)) }
def packM (k : Nat) (S : St) (v : AV) : Option MemOut :=
 let ids := reach S.mem 3 (addAll (List.range k) (namesA v))
 bif nodupB ids && closedB S.mem ids && (namesA v).all (memB ids) && prefixB 0 k ids && Nat.ble ids.length (k + 1) then
  some { val := renA (pos ids) v, outs := (List.range k).map fun i => (S.mem i).map (renE (pos ids)), new := (match ids[k]? with | some s => (S.mem s).map (renE (pos ids)) | none => none) }
 else none
def finishM (P : Program) (fn : Func) (k : Nat) (frz : Bool) (S : St) : Tr MemOut :=
 match resultsA P S fn.results.toList with
 | none => .fail "results"
 | some v =>
  bif frz then
   match packM k (dropAll S (idsA v)) (viewA S.mem v).1 with
   | some o => Tr.needs (viewA S.mem v).2 (.ret o)
   | none => .fail "pack"
  else
   match packM k S v with
   | some o => .ret o
   | none => .fail "pack"
def execM (P : Program) (Γ : FuncId → Option Spec) (L : Nat → Option (St → Tr (Ex × St))) (N : Nat) (frz : Bool) (fn : Func) (ents : List (Option Ent)) (args : List AV) : Tr MemOut :=
 match fn.body with
 | none => .fail "body"
 | some c => (exec P Γ L N c (startM ents args fn.ntmps)).bind fun (e, S) =>
  match e with
  | .exit _ => .fail "exit"
  | _ => finishM P fn ents.length frz S
section
variable {P : Program} {Γ : FuncId → Option Spec} {L : Nat → Option (St → Tr (Ex × St))} {C : Ctx} {B : Bmap} {S : St} {a : Act} {w : World}
theorem freeze (hC : C.Ok) (H : Holds C B S a w) {x : AV} {v : Value} (h : ARel (ownOf C.A0 B S.mem) B w x v) (hc : ∀ p ∈ (viewA S.mem x).2, p) :
  Holds C B (dropAll S (idsA x)) a w ∧ ARel (ownOf C.A0 B (dropAll S (idsA x)).mem) B w (viewA S.mem x).1 v := by
 refine ⟨Holds.drops _ S H, viewA_rel H (fun b hb => ?_) x v h (fun b hb => ?_) hc⟩
 ·rcases hb with hb | ⟨t, e, h1, h2⟩
  ·exact .inl hb
  ·obtain ⟨_, h4⟩ := drops_get (idsA x) S.mem t e h1
   exact .inr ⟨t, e, h4, h2⟩
 ·rintro ⟨t, ht, e, h1, h2⟩
  rcases hb with hb | ⟨t', e', h3, h4⟩
  ·rcases (H.old t b h2).1 with h3 | h3
   ·exact absurd (hC.a0 b hb) (Nat.not_lt.2 h3)
   ·exact hC.disj b hb h3
  ·obtain ⟨h5, h6⟩ := drops_get (idsA x) S.mem t' e' h3
   exact h5 (H.inj t' t e' e b h6 h1 h4 h2 ▸ ht)
theorem packM_sound {k : Nat} (hk : C.k = k) (H : Holds C B S a w) {x : AV} {v : Value} (h : ARel (ownOf C.A0 B S.mem) B w x v) {o : MemOut} (hp : packM k S x = some o) :
   ∃ B', Holds C B' (memSt (o.outs ++ [o.new]) (k + 1)) act0 w ∧ ARel (ownOf C.A0 B' (memOf (o.outs ++ [o.new]))) B' w o.val v ∧ o.outs.length = k := by
 unfold packM at hp
 simp only [] at hp
 generalize hids : reach S.mem 3 (addAll (List.range k) (namesA x)) = ids at hp
 cases hb : (nodupB ids && closedB S.mem ids && (namesA x).all (memB ids) && prefixB 0 k ids && Nat.ble ids.length (k + 1)) with
 | false => rw [hb] at hp; cases hp
 | true =>
   rw [hb] at hp
   simp only [cond_true, Option.some.injEq] at hp
   subst hp
   simp only [Bool.and_eq_true, Nat.ble_eq] at hb
   obtain ⟨⟨⟨⟨hnd, hcl⟩, hnames⟩, hpre⟩, hle⟩ := hb
   have hkl := (prefixB_spec k 0 ids hpre).1
   have hget := (prefixB_spec k 0 ids hpre).2
   -- the state with the value as its one temporary
   have H1 : Holds C B { S with tm := [x] } { tmps := #[v], defers := [] } w :=
     { H with
       defers := rfl
       size := rfl
       tm := fun t ht => by
         have h0 : t < 1 := ht
         obtain rfl : t = 0 := by omega
         exact h }
   have hok : canonOk C.k ids { S with tm := [x] } = true := by
     simp only [canonOk, Bool.and_eq_true]
     refine ⟨⟨⟨hnd, hcl⟩, ?_⟩, by rw [hk]; exact hpre⟩
     show (namesL [x]).all (memB ids) = true
     simp only [namesL, List.append_nil]
     exact hnames
   have H2 := H1.canon hok
   -- the entries in order
   have hmem : ∀ s, memOf (((List.range k).map fun i => (S.mem i).map (renE (pos ids))) ++ [match ids[k]? with | some s => (S.mem s).map (renE (pos ids)) | none => none]) s = (canonSt ids { S with tm := [x] }).mem s := by
     intro s
     show _ = memOf (ids.map fun s => (S.mem s).map (renE (pos ids))) s
     have hlen : ((List.range k).map fun i => (S.mem i).map (renE (pos ids))).length = k := by simp
     rcases Nat.lt_trichotomy s k with hs | hs | hs
     · rw [memOf_append_left (by rw [hlen]; exact hs)]
       have h1 : s < ids.length := by omega
       have h2 := hget s hs
       rw [List.getD_eq_getElem?_getD, List.getElem?_eq_getElem h1] at h2
       simp only [Option.getD_some, Nat.zero_add] at h2
       simp only [memOf, List.getD_eq_getElem?_getD, List.getElem?_map, List.getElem?_range hs, List.getElem?_eq_getElem h1, Option.map_some, Option.getD_some, h2]
     · subst hs
       have := memOf_append_right (l := (List.range s).map fun i => (S.mem i).map (renE (pos ids))) (e := match ids[s]? with | some s => (S.mem s).map (renE (pos ids)) | none => none)
       rw [hlen] at this
       rw [this]
       simp only [memOf, List.getD_eq_getElem?_getD, List.getElem?_map]
       cases ids[s]? <;> rfl
     · rw [memOf_append_none (by rw [hlen]; exact hs)]
       simp only [memOf, List.getD_eq_getElem?_getD, List.getElem?_map, List.getElem?_eq_none (show ids.length ≤ s by omega)]
       rfl
   have hmem' := funext hmem
   refine ⟨B.at ids, ?_, ?_, by simp⟩
   · refine { defers := rfl, size := rfl, tm := fun t ht => absurd ht (Nat.not_lt_zero t), mem := ?_, inj := ?_, kept := H2.kept, old := H2.old, fresh := fun s hs => H2.fresh s (by simp only [canonSt, memSt] at hs ⊢; omega), base := H2.base, kle := by simp only [memSt]; omega }
     · simp only [memSt, hmem']; exact H2.mem
     · simp only [memSt, hmem']; exact H2.inj
   · rw [hmem']
     have := H2.tm 0 (by simp [canonSt, renL])
     simpa [canonSt, renL] using this
theorem finishM_sound {fn : Func} {k : Nat} {frz : Bool} (hC : C.Ok) (hk : C.k = k) (H : Holds C B S a w) {Q : MemOut → Prop} (h : (finishM P fn k frz S).sat Q) :
  ∃ v B' o, (results fn a.tmps).run P w = .ok v w ∧ Q o ∧ Holds C B' (memSt (o.outs ++ [o.new]) (k + 1)) act0 w ∧ ARel (ownOf C.A0 B' (memOf (o.outs ++ [o.new]))) B' w o.val v ∧ o.outs.length = k := by
 unfold finishM at h
 split at h
 ·exact h.elim
 ·rename_i x hx
  obtain ⟨v, hrun, hrel⟩ := resultsA_sound H hx
  cases frz with
  | true =>
   simp only [cond_true] at h
   split at h
   ·rename_i o ho
    obtain ⟨hc, h⟩ := Tr.sat_needs h
    obtain ⟨H2, hrel2⟩ := freeze hC H hrel hc
    obtain ⟨B', h1, h2, h3⟩ := packM_sound hk H2 hrel2 ho
    exact ⟨v, B', o, hrun, h, h1, h2, h3⟩
   ·exact h.elim
  | false =>
   simp only [cond_false] at h
   split at h
   ·rename_i o ho
    obtain ⟨B', h1, h2, h3⟩ := packM_sound hk H hrel ho
    exact ⟨v, B', o, hrun, h, h1, h2, h3⟩
   ·exact h.elim
theorem memOk_of_exec {L : Nat → Nat → Option (St → Tr (Ex × St))} (hm : P.follows .mixedOrders = true) (hΓ : ∀ f s, Γ f = some s → SpecOk P f s) {f : FuncId} {fn : Func} {c : Code} (hf : P.funcs[f]? = some fn) (hb : fn.body = some c)
   (hcall : ∀ args w, (callFunc f args).run P w = .ok (.enter f args) w) {K : MSpec} {N : Nat} {frz : Bool}
   (hl : ∀ ents args o, K ents args = some o → BlocksOk P ents.length (L ents.length) c)
   (h : ∀ ents args o, K ents args = some o → (∀ p ∈ o.conds, p) → (execM P Γ (L ents.length) N frz fn ents args).sat fun o' => Sees o'.val o.val ∧ EntsEqv (o'.outs ++ [o'.new]) (o.outs ++ [o.new])) : MemOk P f K where
 sound := by
   intro ents args o C B w vs ho hC hk H hargs hconds
   refine CallsTo.enter hf ⟨hcall _ _, calls_of_wp hf hb ?_⟩
   have hs := h ents args o ho hconds
   unfold execM at hs
   rw [hb] at hs
   simp only at hs
   have hlen : vs.length = args.length := hargs.1
   have H1 : Holds C B (startM ents args fn.ntmps) { tmps := vs.toArray ++ Array.replicate (fn.ntmps - vs.toArray.size) undef, defers := [] } w := by
     refine { H with defers := rfl, size := by simp [startM, hlen], tm := ?_ }
     intro t ht
     by_cases hlt : t < args.length
     · have := hargs.2 t hlt
       have hlt' : t < vs.length := by omega
       simpa [startM, List.getD_eq_getElem?_getD, Array.getD_eq_getD_getElem?, List.getElem?_append_left hlt, Array.getElem?_append, hlt, hlt'] using this
     · have ht' : t - args.length < fn.ntmps - args.length := by simp only [startM, List.length_append, List.length_replicate] at ht; omega
       have hlt' : ¬ t < vs.length := by omega
       have e1 : (startM ents args fn.ntmps).tm.getD t .any = .c (.v undef) := by
         simp [startM, List.getD_eq_getElem?_getD, List.getElem?_append_right (Nat.le_of_not_lt hlt), List.getElem?_replicate, ht']
       have e2 : (vs.toArray ++ Array.replicate (fn.ntmps - vs.toArray.size) undef).getD t undef = undef := by
         simp [Array.getD_eq_getD_getElem?, Array.getElem?_append, hlt', Array.getElem?_replicate, hlen, ht', hlt]
       show ARel _ _ _ _ _
       rw [e1]
       simp only [] at e2 ⊢
       rw [e2]
       exact ARel.lit _
   refine Code.wp_mono ?_ (wp_of_vse <| exec_sound hm (specsAt hΓ _) hC c (by rw [hk]; exact hl ents args o ho) _ _ _ _ _ (Tr.sat_bind hs) H1)
   rintro e a' w' ⟨ex, S', B', rfl, H', hq⟩
   have key : (finishM P fn ents.length frz S').sat (fun o' => Sees o'.val o.val ∧ EntsEqv (o'.outs ++ [o'.new]) (o.outs ++ [o.new])) →
       a'.defers = [] ∧ ∃ v, (results fn a'.tmps).run P w' = .ok v w' ∧ ∃ v' B', Ending.returned v = .returned v' ∧ Holds C B' (memSt (o.outs ++ [o.new]) (ents.length + 1)) act0 w' ∧ ARel (ownOf C.A0 B' (memOf (o.outs ++ [o.new]))) B' w' o.val v' := by
     intro hfin
     obtain ⟨v, B2, o', hrun, ⟨hsee, heqv⟩, H2, hrel, hol⟩ := finishM_sound hC hk H' hfin
     refine ⟨H'.defers, v, hrun, v, B2, rfl, ?_⟩
     have hm2 : ∀ s, EntEqv (memOf (o'.outs ++ [o'.new]) s) (memOf (o.outs ++ [o.new]) s) := heqv.len.2
     have hA : ∀ b, ownOf C.A0 B2 (memOf (o.outs ++ [o.new])) b → ownOf C.A0 B2 (memOf (o'.outs ++ [o'.new])) b := by
       rintro b (h | ⟨s, e, h1, h2⟩)
       · exact .inl h
       · have := hm2 s
         rw [h1] at this
         generalize hq : memOf (o'.outs ++ [o'.new]) s = q at this
         cases this with
         | refl => exact .inr ⟨s, e, hq, h2⟩
         | arr n sz el el' t _ => exact .inr ⟨s, _, hq, h2⟩
         | cells l m t _ => exact .inr ⟨s, _, hq, h2⟩
     exact ⟨H2.eqv hm2, hsee _ _ _ _ (hrel.trans (Trans.refl _ _) (fun b _ h => hA b h) (fun _ _ h => h))⟩
   cases ex with
   | normal => exact key hq
   | ret => exact key hq
   | exit id => exact hq.elim
theorem pureOk_of_exec (hm : P.follows .mixedOrders = true) (hΓ : ∀ f s, Γ f = some s → SpecOk P f s) {f : FuncId} {fn : Func} {c : Code} (hf : P.funcs[f]? = some fn) (hb : fn.body = some c)
  (hcall : ∀ args w, (callFunc f args).run P w = .ok (.enter f args) w) {K : List AV → Option (AV × List Bool)} {N : Nat} (hl : BlocksOk P 0 L c)
  (hn : ∀ args v cs, K args = some (v, cs) → Vse.noPtr v = true)
  (h : ∀ args v cs, K args = some (v, cs) → (∀ p ∈ cs, p) → (execFn P Γ L N fn args).sat fun r => Vse.noPtr r = true ∧ Sees r v) : PureOk P f K where
 sound := fun args v cs hk => ⟨hn args v cs hk, fun A w vs hA hc hargs => by
  refine CallsTo.enter hf ⟨hcall _ _, (calls_of_exec hm hΓ hf hb hl (h args v cs hk hc) hA hargs).mono ?_⟩
  rintro e w' ⟨r, u, hsee, _, rfl, hrel, hb⟩
  exact ⟨u, rfl, hsee _ _ _ _ hrel, hb⟩⟩
end
end Go.Vse
namespace Go.Vse
open Go.RowKit
section
variable {P : Program} {Γ : FuncId → Option Spec}
theorem EntsEqv.own {C : Ctx} {B : Bmap} {l l' : List (Option Ent)} (h : EntsEqv l l') (b : Nat) : ownOf C.A0 B (memOf l') b → ownOf C.A0 B (memOf l) b := by
 have hm2 : ∀ s, EntEqv (memOf l s) (memOf l' s) := h.len.2
 rintro (h | ⟨s, e, h1, h2⟩)
 ·exact .inl h
 ·have := hm2 s
  rw [h1] at this
  generalize hq : memOf l s = q at this
  cases this with
  | refl => exact .inr ⟨s, e, hq, h2⟩
  | arr n sz el el' t _ => exact .inr ⟨s, _, hq, h2⟩
  | cells l m t _ => exact .inr ⟨s, _, hq, h2⟩
theorem memOk_of_exec_c {L : Nat → Nat → Option (St → Tr (Ex × St))} (hm : P.follows .mixedOrders = true) (hΓ : ∀ f s, Γ f = some s → SpecOk P f s) {f : FuncId} {fn : Func} {c : Code} (hf : P.funcs[f]? = some fn) (hb : fn.body = some c)
   (hcall : ∀ args w, (callFunc f args).run P w = .ok (.enter f args) w) {K : MSpec} {N : Nat} {frz : Bool}
   (hl : ∀ ents args o, K ents args = some o → BlocksOk P ents.length (L ents.length) c)
   (h : ∀ ents args o, K ents args = some o → (∀ p ∈ o.conds, p) → ∃ ents' args', EntsEqv ents ents' ∧ SeesL args args' ∧
     (execM P Γ (L ents.length) N frz fn ents' args').sat fun o' => Sees o'.val o.val ∧ EntsEqv (o'.outs ++ [o'.new]) (o.outs ++ [o.new])) : MemOk P f K where
 sound := by
   intro ents0 args0 o C B w vs ho hC hk0 H0 hargs0 hconds
   refine CallsTo.enter hf ⟨hcall _ _, calls_of_wp hf hb ?_⟩
   obtain ⟨ents, args, heq, hsees, hs⟩ := h ents0 args0 o ho hconds
   have hel : ents0.length = ents.length := heq.len.1
   have H : Holds C B (memSt ents ents.length) act0 w := by
     have := H0.eqv (m := memOf ents) heq.len.2
     rw [hel] at this
     exact this
   have hargs : Rels (ownOf C.A0 B (memOf ents)) B w args vs := by
     have h1 := hsees.rels hargs0
     exact ⟨h1.1, fun j hj => (h1.2 j hj).trans (Trans.refl _ _) (fun b _ hb => heq.own b hb) (fun _ _ h => h)⟩
   unfold execM at hs
   rw [hb] at hs
   simp only at hs
   have hlen : vs.length = args.length := hargs.1
   have H1 : Holds C B (startM ents args fn.ntmps) { tmps := vs.toArray ++ Array.replicate (fn.ntmps - vs.toArray.size) undef, defers := [] } w := by
     refine { H with defers := rfl, size := by simp [startM, hlen], tm := ?_ }
     intro t ht
     by_cases hlt : t < args.length
     · have := hargs.2 t hlt
       have hlt' : t < vs.length := by omega
       simpa [startM, List.getD_eq_getElem?_getD, Array.getD_eq_getD_getElem?, List.getElem?_append_left hlt, Array.getElem?_append, hlt, hlt'] using this
     · have ht' : t - args.length < fn.ntmps - args.length := by simp only [startM, List.length_append, List.length_replicate] at ht; omega
       have hlt' : ¬ t < vs.length := by omega
       have e1 : (startM ents args fn.ntmps).tm.getD t .any = .c (.v undef) := by
         simp [startM, List.getD_eq_getElem?_getD, List.getElem?_append_right (Nat.le_of_not_lt hlt), List.getElem?_replicate, ht']
       have e2 : (vs.toArray ++ Array.replicate (fn.ntmps - vs.toArray.size) undef).getD t undef = undef := by
         simp [Array.getD_eq_getD_getElem?, Array.getElem?_append, hlt', Array.getElem?_replicate, hlen, ht', hlt]
       show ARel _ _ _ _ _
       rw [e1]
       simp only [] at e2 ⊢
       rw [e2]
       exact ARel.lit _
   refine Code.wp_mono ?_ (wp_of_vse <| exec_sound hm (specsAt hΓ _) hC c (by rw [hk0]; exact hl ents0 args0 o ho) _ _ _ _ _ (Tr.sat_bind hs) H1)
   rintro e a' w' ⟨ex, S', B', rfl, H', hq⟩
   have key : (finishM P fn ents.length frz S').sat (fun o' => Sees o'.val o.val ∧ EntsEqv (o'.outs ++ [o'.new]) (o.outs ++ [o.new])) →
       a'.defers = [] ∧ ∃ v, (results fn a'.tmps).run P w' = .ok v w' ∧ ∃ v' B', Ending.returned v = .returned v' ∧ Holds C B' (memSt (o.outs ++ [o.new]) (ents0.length + 1)) act0 w' ∧ ARel (ownOf C.A0 B' (memOf (o.outs ++ [o.new]))) B' w' o.val v' := by
     intro hfin
     obtain ⟨v, B2, o', hrun, ⟨hsee, heqv⟩, H2, hrel, hol⟩ := finishM_sound hC (hk0.trans hel) H' hfin
     refine ⟨H'.defers, v, hrun, v, B2, rfl, ?_⟩
     have hm2 : ∀ s, EntEqv (memOf (o'.outs ++ [o'.new]) s) (memOf (o.outs ++ [o.new]) s) := heqv.len.2
     rw [hel]
     exact ⟨H2.eqv hm2, hsee _ _ _ _ (hrel.trans (Trans.refl _ _) (fun b _ h => heqv.own b h) (fun _ _ h => h))⟩
   cases ex with
   | normal => exact key hq
   | ret => exact key hq
   | exit id => exact hq.elim
theorem pureOk_of_exec_c {L : Nat → Option (St → Tr (Ex × St))} (hm : P.follows .mixedOrders = true) (hΓ : ∀ f s, Γ f = some s → SpecOk P f s) {f : FuncId} {fn : Func} {c : Code} (hf : P.funcs[f]? = some fn) (hb : fn.body = some c)
  (hcall : ∀ args w, (callFunc f args).run P w = .ok (.enter f args) w) {K : List AV → Option (AV × List Bool)} {N : Nat} (hl : BlocksOk P 0 L c)
  (hn : ∀ args v cs, K args = some (v, cs) → Vse.noPtr v = true)
  (h : ∀ args v cs, K args = some (v, cs) → (∀ p ∈ cs, p) → ∃ args', SeesL args args' ∧ (execFn P Γ L N fn args').sat fun r => Vse.noPtr r = true ∧ Sees r v) : PureOk P f K where
 sound := fun args v cs hk => ⟨hn args v cs hk, fun A w vs hA hc hargs => by
  obtain ⟨args', hsees, hs⟩ := h args v cs hk hc
  refine CallsTo.enter hf ⟨hcall _ _, (calls_of_exec hm hΓ hf hb hl hs hA (hsees.rels hargs)).mono ?_⟩
  rintro e w' ⟨r, u, hsee, _, rfl, hrel, hb⟩
  exact ⟨u, rfl, hsee _ _ _ _ hrel, hb⟩⟩
end
end Go.Vse
namespace Go.Vse
open Go.RowKit
def Tr.run {α : Type} : Tr α → Option α
 | .ret a => some a
 | .ite c t e => bif c then t.run else e.run
 | .need p t => bif p then t.run else none
 | .fail _ => none
theorem Tr.run_sat {α : Type} : ∀ {t : Tr α} {a : α}, t.run = some a → t.sat (· = a)
 | .ret a, b, h => by simpa [Tr.run, Tr.sat] using h
 | .ite c t e, b, h => by
   cases c with
   | true => exact ⟨fun _ => Tr.run_sat (by simpa [Tr.run] using h), fun h => by cases h⟩
   | false => exact ⟨fun h => (by cases h), fun _ => Tr.run_sat (by simpa [Tr.run] using h)⟩
 | .need p t, b, h => by
   cases p with
   | true => exact ⟨rfl, fun _ => Tr.run_sat (by simpa [Tr.run] using h)⟩
   | false => simp [Tr.run] at h
 | .fail _, b, h => by simp [Tr.run] at h
theorem sat_need {α : Type} {p : Bool} {t : Tr α} {Q : α → Prop} (h : p = true) (k : t.sat Q) : (Tr.need p t).sat Q := ⟨h, fun _ => k⟩
theorem sat_ite {α : Type} {c : Bool} {t e : Tr α} {Q : α → Prop} (h : c = true → t.sat Q) (k : c = false → e.sat Q) : (Tr.ite c t e).sat Q := ⟨h, k⟩
theorem sat_ret {α : Type} {a : α} {Q : α → Prop} (h : Q a) : (Tr.ret a).sat Q := h
abbrev noL : Nat → Option (St → Tr (Ex × St)) := fun _ => none
def concPure (P : Program) (Γ : FuncId → Option Spec) (N : Nat) (fn : Func) (args : List AV) : Option (AV × List Bool) :=
 match (execFn P Γ noL N fn args).run with
 | some v => bif noPtr v then some (v, []) else none
 | none => none
def concMem (P : Program) (Γ : FuncId → Option Spec) (N : Nat) (fn : Func) : MSpec := fun ents args => (execM P Γ noL N true fn ents args).run
mutual
/-- no pointer into one's own -/
def freeA : AV → Bool
 | .ptr _ _ => false
 | .eptr _ _ _ _ => false
 | .ssl _ _ _ _ => false
 | .agg l => freeL l
 | .tup l => freeL l
 | .fn _ l => freeL l
 | _ => true
def freeL : List AV → Bool
 | [] => true
 | x :: l => freeA x && freeL l
end
def concS (P : Program) (Γ : FuncId → Option Spec) (N : Nat) (fn : Func) : Spec := fun slot m args =>
 bif freeL args then pureSpec (concPure P Γ N fn) slot m args else memSpec (concMem P Γ N fn) slot m args
def okName (fn : Func) : Bool := !(fn.name == "runtime.NumGoroutine")
def concΓ (P : Program) (base : FuncId → Option Spec) (N : Nat) : Nat → FuncId → Option Spec
 | 0 => base
 | d + 1 => fun f =>
  match base f with
  | some s => some s
  | none =>
   match P.funcs[f]? with
   | some fn =>
    match fn.body with
    | some _ => bif okName fn then some (concS P (concΓ P base N d) N fn) else none
    | none => none
   | none => none
theorem callFunc_enter {P : Program} {f : FuncId} {fn : Func} {c : Code} (hf : P.funcs[f]? = some fn) (hb : fn.body = some c) (hn : okName fn = true) (args : Array Value) (w : World) : (callFunc f args).run P w = .ok (.enter f args) w := by
 have hn' : (fn.name == "runtime.NumGoroutine") = false := by simpa [okName] using hn
 unfold callFunc
 rw [Sem.run_bind, run_program, Result.andThen_ok]
 simp only [hf, hn', hb, Bool.false_eq_true, if_false, Option.isNone_some]
 rfl
section
variable {P : Program} {Γ : FuncId → Option Spec} {N : Nat}
theorem concPure_ok (hm : P.follows .mixedOrders = true) (hΓ : ∀ f s, Γ f = some s → SpecOk P f s) {f : FuncId} {fn : Func} {c : Code} (hf : P.funcs[f]? = some fn) (hb : fn.body = some c) (hn : okName fn = true) : PureOk P f (concPure P Γ N fn) := by
 have hk : ∀ args v cs, concPure P Γ N fn args = some (v, cs) → Vse.noPtr v = true ∧ (execFn P Γ noL N fn args).run = some v := by
  intro args v cs h
  unfold concPure at h
  split at h
  ·rename_i u hu
   cases hp : Vse.noPtr u with
   | false => rw [hp] at h; cases h
   | true =>
    rw [hp] at h
    simp only [cond_true, Option.some.injEq, Prod.mk.injEq] at h
    obtain ⟨rfl, _⟩ := h
    exact ⟨hp, hu⟩
  ·cases h
 refine pureOk_of_exec hm hΓ hf hb (callFunc_enter hf hb hn) (L := noL) (N := N) (blocksOk_none 0 c) (fun args v cs h => (hk args v cs h).1) fun args v cs h _ => ?_
 refine Tr.sat_mono ?_ (Tr.run_sat (hk args v cs h).2)
 rintro r rfl
 exact ⟨(hk args r cs h).1, Sees.refl r⟩
theorem concMem_ok (hm : P.follows .mixedOrders = true) (hΓ : ∀ f s, Γ f = some s → SpecOk P f s) {f : FuncId} {fn : Func} {c : Code} (hf : P.funcs[f]? = some fn) (hb : fn.body = some c) (hn : okName fn = true) : MemOk P f (concMem P Γ N fn) := by
 refine memOk_of_exec (L := fun _ => noL) hm hΓ hf hb (callFunc_enter hf hb hn) (N := N) (frz := true) (fun ents args o _ => blocksOk_none ents.length c) fun ents args o h _ => ?_
 refine Tr.sat_mono ?_ (Tr.run_sat h)
 rintro r rfl
 exact ⟨Sees.refl _, EntsEqv.refl _⟩
theorem SpecOk.pick {f : FuncId} {s t : Spec} (p : List AV → Bool) (hs : SpecOk P f s) (ht : SpecOk P f t) : SpecOk P f (fun slot m args => bif p args then s slot m args else t slot m args) where
 look := fun slot m m' args r h hk => by
  cases hp : p args with
  | true => simp only [hp, cond_true] at h ⊢; exact hs.look slot m m' args r h hk
  | false => simp only [hp, cond_false] at h ⊢; exact ht.look slot m m' args r h hk
 sound := fun slot args r C B S a w vs h => by
  cases hp : p args with
  | true => simp only [hp, cond_true] at h; exact hs.sound slot args r C B S a w vs h
  | false => simp only [hp, cond_false] at h; exact ht.sound slot args r C B S a w vs h
theorem concS_ok (hm : P.follows .mixedOrders = true) (hΓ : ∀ f s, Γ f = some s → SpecOk P f s) {f : FuncId} {fn : Func} {c : Code} (hf : P.funcs[f]? = some fn) (hb : fn.body = some c) (hn : okName fn = true) : SpecOk P f (concS P Γ N fn) :=
 SpecOk.pick freeL (concPure_ok hm hΓ hf hb hn).spec (concMem_ok hm hΓ hf hb hn).spec
theorem concΓ_ok (hm : P.follows .mixedOrders = true) {base : FuncId → Option Spec} (hΓ : ∀ f s, base f = some s → SpecOk P f s) : ∀ (d : Nat) (f : FuncId) (s : Spec), concΓ P base N d f = some s → SpecOk P f s
 | 0, f, s, h => hΓ f s h
 | d + 1, f, s, h => by
  unfold concΓ at h
  split at h
  ·rename_i s' hs'
   cases h
   exact hΓ f _ hs'
  ·split at h
   ·rename_i fn hf
    split at h
    ·rename_i c hb
     cases hn : okName fn with
     | false => rw [hn] at h; cases h
     | true =>
      rw [hn] at h
      simp only [cond_true, Option.some.injEq] at h
      subst h
      exact concS_ok hm (concΓ_ok hm hΓ d) hf hb hn
    ·cases h
   ·cases h
end
end Go.Vse
namespace Go.Vse
open Go.RowKit
section
variable {P : Program} {Γ : FuncId → Option Spec} {N : Nat}
end
end Go.Vse
namespace Go.Vse
open Go.RowKit
structure ExtOk (P : Program) (f : FuncId) (e : Array Value → Sem Value) : Prop where
 ex : ∃ fn, P.funcs[f]? = some fn ∧ (fn.name == "runtime.NumGoroutine") = false ∧ fn.body.isNone = true ∧ Extern.findNext fn = none ∧ Extern.find fn = some e
theorem ExtOk.run {P : Program} {f : FuncId} {e : Array Value → Sem Value} (h : ExtOk P f e) (args : Array Value) (w : World) {v : Value} {w' : World} (hr : (e args).run P w = .ok v w') : (callFunc f args).run P w = .ok (.value v) w' := by
 obtain ⟨fn, h1, h2, h3, h4, h5⟩ := h.ex
 rw [run_callFunc_extern h1 h2 h3 h4 h5, hr]
 rfl
def cmpPure : List AV → Option (AV × List Bool)
 | [.c (.v (.string a)), .c (.v (.string b))] => some (intA .i64 (Lib.compareBytes a.data.toList b.data.toList), [])
 | _ => none
theorem cmp_ok {P : Program} {f : FuncId} (h : ExtOk P f Extern.BytealgCompare.compare) : PureOk P f cmpPure where
 sound := by
  intro args v cs hk
  unfold cmpPure at hk
  split at hk
  ·rename_i a b
   simp only [Option.some.injEq, Prod.mk.injEq] at hk
   obtain ⟨rfl, rfl⟩ := hk
   refine ⟨rfl, fun A w vs hA _ hargs => ?_⟩
   obtain ⟨va, vs, rfl, h1, hargs⟩ := hargs.head
   obtain ⟨vb, vs, rfl, h2, hargs⟩ := hargs.head
   obtain rfl := hargs.nil_inv
   obtain rfl := h1.plain
   obtain rfl := h2.plain
   exact CallsTo.value h.ex.choose_spec.1 ⟨_, w, h.run _ w (Lib.run_compareString a b w), _, rfl, ARel.lit _, Below.refl _ _⟩
  ·cases hk
def addPure : List AV → Option (AV × List Bool)
 | [.c (.v (.int _ x)), .c (.v (.int _ y)), .c (.v (.int _ c))] =>
  some (.tup [intA .u64 (((x.toNat + y.toNat + c.toNat) % Extern.MathBitsCarry.m64 : Nat) : Int), intA .u64 (((x.toNat + y.toNat + c.toNat) / Extern.MathBitsCarry.m64 : Nat) : Int)], [decide (c.toNat ≤ 1)])
 | _ => none
def addExt (args : Array Value) : Sem Value := do
 let (x, y, c) ← Extern.MathBitsCarry.three "Add64" args
 pure (Extern.MathBitsCarry.pair ((x + y + c) % Extern.MathBitsCarry.m64) ((x + y + c) / Extern.MathBitsCarry.m64))
theorem add_ok {P : Program} {f : FuncId} (h : ExtOk P f addExt) : PureOk P f addPure where
 sound := by
  intro args v cs hk
  unfold addPure at hk
  split at hk
  ·rename_i kx x ky y kc c
   simp only [Option.some.injEq, Prod.mk.injEq] at hk
   obtain ⟨rfl, rfl⟩ := hk
   refine ⟨rfl, fun A w vs hA hc hargs => ?_⟩
   have hc := dec (hc (decide (c.toNat ≤ 1)) (by simp))
   obtain ⟨va, vs, rfl, h1, hargs⟩ := hargs.head
   obtain ⟨vb, vs, rfl, h2, hargs⟩ := hargs.head
   obtain ⟨vc, vs, rfl, h3, hargs⟩ := hargs.head
   obtain rfl := hargs.nil_inv
   obtain rfl := h1.plain
   obtain rfl := h2.plain
   obtain rfl := h3.plain
   have hn : ¬ c.toNat > 1 := by omega
   refine CallsTo.value h.ex.choose_spec.1 ⟨_, w, h.run _ w (v := Extern.MathBitsCarry.pair ((x.toNat + y.toNat + c.toNat) % Extern.MathBitsCarry.m64) ((x.toNat + y.toNat + c.toNat) / Extern.MathBitsCarry.m64)) ?_, _, rfl, ?_, Below.refl _ _⟩
   ·have h3 : (Extern.MathBitsCarry.three "Add64" #[.int kx x, .int ky y, .int kc c]).run P w = .ok (x.toNat, y.toNat, c.toNat) w := by
     change Sem.run P (if c.toNat > 1 then _ else _) w = _
     rw [if_neg hn]
     rfl
    unfold addExt
    rw [Sem.run_bind]
    refine (congrArg (fun r => Result.andThen r _) h3).trans ?_
    rfl
   ·exact ARel.tup_mk (cs := [_, _]) (.cons (ARel.lit _) (.cons (ARel.lit _) .nil))
  ·cases hk
theorem step_value {P : Program} {ops : Array Oper} {i : Nat} {o : Oper} {Q : Exit → Act → World → Prop} {K : Act → World → Prop} {a : Act} {w w' : World} {v : Value}
  (ho : ops[i]? = some o) (hg : o.guard = none) (hrun : (execOp a.eval o).run P w = .ok (.value v) w') (hk : K (a.put o.dst v) w') : wpOp P ops Q i K a w := by
 unfold wpOp
 rw [ho]
 simp only [Region.wanted, hg, if_true]
 left
 unfold Oper.wp
 rw [hrun]
 exact hk
theorem step_skip {P : Program} {ops : Array Oper} {i : Nat} {o : Oper} {Q : Exit → Act → World → Prop} {K : Act → World → Prop} {a : Act} {w w' : World}
  (ho : ops[i]? = some o) (hg : o.guard = none) (hrun : (execOp a.eval o).run P w = .ok .skip w') (hk : K (a.put o.dst undef) w') : wpOp P ops Q i K a w := by
 unfold wpOp
 rw [ho]
 simp only [Region.wanted, hg, if_true]
 left
 unfold Oper.wp
 rw [hrun]
 exact hk
def withMap (w : World) (es : Array MapEntry) (clock : Nat) : World := w.alloc (.map es clock)
theorem run_mapUpdate_new {P : Program} {t k e : TypeId} (ht : P.underlying t = some (.map k e)) (hk : P.underlying k = some (.int .i64)) {w : World} {es : Array MapEntry} {clock : Nat} {n : Int} {v : Value}
  (hnew : Instr.findNow (.int .i64) (.int .i64 n) es.toList 0 = some none) :
  (Instr.mapUpdate t (.map (some w.heap.size)) (.int .i64 n) v).run P (withMap w es clock) = .ok () (withMap w (es.push { key := .int .i64 n, val := v, born := clock }) (clock + 1)) := by
 have hh : (withMap w es clock).heap[w.heap.size]? = some (.map es clock) := by show (w.heap.push _)[w.heap.size]? = _; simp
 have hchk : ∀ m, (Instr.checkKey false (m + 1) k (.int .i64 n)).run P (withMap w es clock) = .ok () (withMap w es clock) := by
  intro m
  rw [Instr.checkKey, Sem.run_bind, run_underlying hk, Result.andThen_ok]
  rfl
 have hfind : (Instr.findKey k (.int .i64 n) es.toList).run P (withMap w es clock) = .ok none (withMap w es clock) := by
  simp only [Instr.findKey, Sem.run_bind, run_underlying hk, Result.andThen_ok, hnew, Sem.run_pure]
 have hset : (setObj w.heap.size (.map (es.push { key := .int .i64 n, val := v, born := clock }) (clock + 1))).run P (withMap w es clock) = .ok () (withMap w (es.push { key := .int .i64 n, val := v, born := clock }) (clock + 1)) := by
  simp [setObj, Sem.run, hh]
  have e : (w.heap.push (.map es clock)).setIfInBounds w.heap.size (.map (es.push { key := .int .i64 n, val := v, born := clock }) (clock + 1)) = w.heap.push (.map (es.push { key := .int .i64 n, val := v, born := clock }) (clock + 1)) := by
   apply Array.ext'
   simp
  show ({ (withMap w es clock) with heap := (w.heap.push (.map es clock)).setIfInBounds w.heap.size (.map (es.push { key := .int .i64 n, val := v, born := clock }) (clock + 1)) } : World) = _
  rw [e]
  rfl
 have hg : (getObj w.heap.size).run P (withMap w es clock) = .ok (.map es clock) (withMap w es clock) := by simp [getObj, Sem.run, hh]
 simp only [Instr.mapUpdate, Sem.run_bind, run_underlying ht, Result.andThen_ok, hg]
 rw [show (10000 : Nat) = 9999 + 1 from rfl, hchk]
 simp only [Result.andThen_ok, hfind, hset]
end Go.Vse
namespace Go.Vse
theorem byteOf_int (x : Int) : byteOf [.v (.int .u8 x)] = UInt8.ofNat x.toNat := rfl
theorem bytesOf_len (n : Nat) (el : Nat → List IV) : (bytesOf n el).length = n := by simp [bytesOf]
theorem bytesOf_join (n m : Nat) (el el' : Nat → List IV) : bytesOf (n + m) (joinE n el el') = bytesOf n el ++ bytesOf m el' := by
 apply List.ext_getElem
 ·simp [bytesOf]
 ·intro i h1 h2
  simp only [bytesOf, List.length_map, List.length_range] at h1
  by_cases hi : i < n
  ·rw [List.getElem_append_left (by simpa [bytesOf] using hi)]
   simp [bytesOf, joinE, hi]
  ·rw [List.getElem_append_right (by simp [bytesOf]; omega)]
   simp [bytesOf, joinE, hi]
theorem isBytes_join (n m : Nat) (el el' : Nat → List IV) : isBytes (n + m) (joinE n el el') = (isBytes n el && isBytes m el') := by
 unfold isBytes
 rw [Bool.eq_iff_iff]
 simp only [List.all_eq_true, List.mem_range, Bool.and_eq_true]
 constructor
 ·intro h
  refine ⟨fun k hk => ?_, fun k hk => ?_⟩
  ·have := h k (by omega)
   simpa [joinE, hk] using this
  ·have := h (n + k) (by omega)
   simpa [joinE, show ¬ n + k < n by omega] using this
 ·rintro ⟨h1, h2⟩ k hk
  unfold joinE
  by_cases hn : k < n
  ·rw [if_pos hn]; exact h1 k hn
  ·rw [if_neg hn]; exact h2 _ (by omega)
theorem bytesOf_byteEl (l : List UInt8) : bytesOf l.length (byteEl l) = l := by
 apply List.ext_getElem
 ·simp [bytesOf]
 ·intro i h1 h2
  simp only [bytesOf, byteEl, List.getElem_map, List.getElem_range, byteOf_int, List.getD_eq_getElem?_getD, List.getElem?_eq_getElem h2, Option.getD_some]
  simp
theorem isBytes_byteEl (n : Nat) (l : List UInt8) : isBytes n (byteEl l) = true := by
 unfold isBytes
 rw [List.all_eq_true]
 intro k _
 have := (l.getD k 0).toNat_lt
 simp only [byteEl, isByte, Bool.and_eq_true, decide_eq_true_eq]
 omega
theorem bytesOf_zero (el : Nat → List IV) : bytesOf 0 el = [] := rfl
theorem bytesOf_one (x : Int) : bytesOf 1 (fun k => List.take (0 + 1) (List.drop (k * (0 + 1)) [IV.v (.int .u8 x)].reverse)) = [UInt8.ofNat x.toNat] := rfl
theorem isBytes_one (x : Int) : isBytes 1 (fun k => List.take (0 + 1) (List.drop (k * (0 + 1)) [IV.v (.int .u8 x)].reverse)) = (decide (0 ≤ x) && decide (x < 256)) := by
 simp [isBytes, isByte, List.range_succ]
theorem byteEl_of_bytes {n : Nat} {el : Nat → List IV} (h : isBytes n el = true) : ∀ k, k < n → el k = byteEl (bytesOf n el) k := by
 intro k hk
 obtain ⟨b, hb⟩ := isBytes_get h k hk
 have : (bytesOf n el).getD k 0 = b := by
  simp [bytesOf, List.getD_eq_getElem?_getD, hk, hb, byteOf]
 unfold byteEl
 rw [this, hb]
theorem wrap_u8 (x : Int) : IntKind.u8.wrap x = x % 256 := by
 simp [IntKind.wrap, IntKind.bits, IntKind.signed]
theorem wrap_u64 (x : Int) : IntKind.u64.wrap x = x % 18446744073709551616 := by
 simp [IntKind.wrap, IntKind.bits, IntKind.signed]
theorem wrap_i64 {x : Int} (h : -9223372036854775808 ≤ x ∧ x ≤ 9223372036854775807) : IntKind.i64.wrap x = x := IntWalk.i64_in x h
end Go.Vse
namespace Go.Vse
open Go.RowKit
def Tr.flatS {α : Type} : Tr α → Option (α × List Bool)
 | .ret a => some (a, [])
 | .ite c t e => bif c then t.flatS else e.flatS
 | .need p t =>
  match t.flatS with
  | some (a, cs) => some (a, p :: cs)
  | none => none
 | .fail _ => none
theorem Tr.flatS_sat {α : Type} : ∀ {t : Tr α} {a : α} {cs : List Bool}, t.flatS = some (a, cs) → (∀ p ∈ cs, p = true) → t.sat (· = a)
 | .ret a, b, cs, h, _ => by
   simp only [Tr.flatS, Option.some.injEq, Prod.mk.injEq] at h
   exact h.1
 | .ite c t e, b, cs, h, hc => by
   cases c with
   | true => exact ⟨fun _ => Tr.flatS_sat (by simpa [Tr.flatS] using h) hc, fun h => by cases h⟩
   | false => exact ⟨fun h => (by cases h), fun _ => Tr.flatS_sat (by simpa [Tr.flatS] using h) hc⟩
 | .need p t, b, cs, h, hc => by
   simp only [Tr.flatS] at h
   split at h
   · rename_i a cs' ht
     simp only [Option.some.injEq, Prod.mk.injEq] at h
     obtain ⟨rfl, rfl⟩ := h
     exact ⟨hc p (by simp), fun _ => Tr.flatS_sat ht fun q hq => hc q (by simp [hq])⟩
   · cases h
 | .fail _, b, cs, h, _ => by simp [Tr.flatS] at h
def inlPure (P : Program) (Γ : FuncId → Option Spec) (N : Nat) (fn : Func) (args : List AV) : Option (AV × List Bool) :=
 match (execFn P Γ noL N fn args).flatS with
 | some (v, cs) => bif noPtr v then some (v, cs) else none
 | none => none
def inlMem (P : Program) (Γ : FuncId → Option Spec) (N : Nat) (frz : Bool) (fn : Func) : MSpec := fun ents args =>
 match (execM P Γ noL N frz fn ents args).flatS with
 | some (o, cs) => some { val := o.val, outs := o.outs, new := o.new, conds := cs }
 | none => none
def inlS (P : Program) (Γ : FuncId → Option Spec) (N : Nat) (ms : Bool) (fn : Func) : Spec :=
 bif ms then memSpec (inlMem P Γ N false fn) else fun slot m args =>
  bif freeL args then pureSpec (inlPure P Γ N fn) slot m args else memSpec (inlMem P Γ N true fn) slot m args
def inlΓ (P : Program) (base : FuncId → Option Spec) (ms : FuncId → Bool) (N : Nat) : Nat → FuncId → Option Spec
 | 0 => base
 | d + 1 => fun f =>
  match base f with
  | some s => some s
  | none =>
   match P.funcs[f]? with
   | some fn =>
    match fn.body with
    | some _ => bif okName fn then some (inlS P (inlΓ P base ms N d) N (ms f) fn) else none
    | none => none
   | none => none
section
variable {P : Program} {Γ : FuncId → Option Spec} {N : Nat}
theorem inlPure_ok (hm : P.follows .mixedOrders = true) (hΓ : ∀ f s, Γ f = some s → SpecOk P f s) {f : FuncId} {fn : Func} {c : Code} (hf : P.funcs[f]? = some fn) (hb : fn.body = some c) (hn : okName fn = true) : PureOk P f (inlPure P Γ N fn) := by
 have hk : ∀ args v cs, inlPure P Γ N fn args = some (v, cs) → Vse.noPtr v = true ∧ (execFn P Γ noL N fn args).flatS = some (v, cs) := by
  intro args v cs h
  unfold inlPure at h
  split at h
  ·rename_i u ds hu
   cases hp : Vse.noPtr u with
   | false => rw [hp] at h; cases h
   | true =>
    rw [hp] at h
    simp only [cond_true, Option.some.injEq, Prod.mk.injEq] at h
    obtain ⟨rfl, rfl⟩ := h
    exact ⟨hp, hu⟩
  ·cases h
 refine pureOk_of_exec hm hΓ hf hb (callFunc_enter hf hb hn) (L := noL) (N := N) (blocksOk_none 0 c) (fun args v cs h => (hk args v cs h).1) fun args v cs h hc => ?_
 refine Tr.sat_mono ?_ (Tr.flatS_sat (hk args v cs h).2 hc)
 rintro r rfl
 exact ⟨(hk args r cs h).1, Sees.refl r⟩
theorem inlMem_ok (hm : P.follows .mixedOrders = true) (hΓ : ∀ f s, Γ f = some s → SpecOk P f s) {f : FuncId} {fn : Func} {c : Code} (hf : P.funcs[f]? = some fn) (hb : fn.body = some c) (hn : okName fn = true) (frz : Bool) : MemOk P f (inlMem P Γ N frz fn) := by
 refine memOk_of_exec (L := fun _ => noL) hm hΓ hf hb (callFunc_enter hf hb hn) (N := N) (frz := frz) (fun ents args o _ => blocksOk_none ents.length c) fun ents args o h hc => ?_
 unfold inlMem at h
 split at h
 ·rename_i o' cs ho
  simp only [Option.some.injEq] at h
  subst h
  refine Tr.sat_mono ?_ (Tr.flatS_sat ho hc)
  rintro r rfl
  exact ⟨Sees.refl _, EntsEqv.refl _⟩
 ·cases h
theorem inlS_ok (hm : P.follows .mixedOrders = true) (hΓ : ∀ f s, Γ f = some s → SpecOk P f s) {f : FuncId} {fn : Func} {c : Code} (hf : P.funcs[f]? = some fn) (hb : fn.body = some c) (hn : okName fn = true) (ms : Bool) : SpecOk P f (inlS P Γ N ms fn) := by
 cases ms with
 | true => exact (inlMem_ok hm hΓ hf hb hn false).spec
 | false => exact SpecOk.pick freeL (inlPure_ok hm hΓ hf hb hn).spec (inlMem_ok hm hΓ hf hb hn true).spec
theorem inlΓ_ok (hm : P.follows .mixedOrders = true) {base : FuncId → Option Spec} {ms : FuncId → Bool} (hΓ : ∀ f s, base f = some s → SpecOk P f s) : ∀ (d : Nat) (f : FuncId) (s : Spec), inlΓ P base ms N d f = some s → SpecOk P f s
 | 0, f, s, h => hΓ f s h
 | d + 1, f, s, h => by
  unfold inlΓ at h
  split at h
  ·rename_i s' hs'
   cases h
   exact hΓ f _ hs'
  ·split at h
   ·rename_i fn hf
    split at h
    ·rename_i c hb
     cases hn : okName fn with
     | false => rw [hn] at h; cases h
     | true =>
      rw [hn] at h
      simp only [cond_true, Option.some.injEq] at h
      subst h
      exact inlS_ok hm (inlΓ_ok hm hΓ d) hf hb hn _
    ·cases h
   ·cases h
end
end Go.Vse
namespace Go.Vse
open Go.RowKit
structure Arg (X : Type) where
 get : AV → Option (X × List Bool)
 put : X → AV
 ok : ∀ a x cs, get a = some (x, cs) → (∀ p ∈ cs, p = true) → Sees a (put x)
structure Form (X : Type) where
 parse : List AV → Option (X × List Bool)
 args : X → List AV
 ok : ∀ l x cs, parse l = some (x, cs) → (∀ p ∈ cs, p = true) → SeesL l (args x)
def Form.nil : Form Unit where
 parse := fun l => match l with | [] => some ((), []) | _ => none
 args := fun _ => []
 ok := by
  intro l x cs h hc
  cases l with
  | nil => exact .nil
  | cons a l => cases h
def Form.cons {X Y : Type} (A : Arg X) (F : Form Y) : Form (X × Y) where
 parse := fun l =>
  match l with
  | a :: l =>
   match A.get a, F.parse l with
   | some (x, cs), some (y, ds) => some ((x, y), cs ++ ds)
   | _, _ => none
  | [] => none
 args := fun p => A.put p.1 :: F.args p.2
 ok := by
  intro l p cs h hc
  cases l with
  | nil => cases h
  | cons a l =>
   simp only at h
   split at h
   ·rename_i x c1 y c2 h1 h2
    simp only [Option.some.injEq, Prod.mk.injEq] at h
    obtain ⟨rfl, rfl⟩ := h
    exact .cons (A.ok a x c1 h1 fun p hp => hc p (by simp [hp])) (F.ok l y c2 h2 fun p hp => hc p (by simp [hp]))
   ·cases h
def Form.map {X Y : Type} (F : Form X) (f : X → Y) (g : Y → X) (h : ∀ x, g (f x) = x) : Form Y where
 parse := fun l => match F.parse l with | some (x, cs) => some (f x, cs) | none => none
 args := fun y => F.args (g y)
 ok := by
  intro l y cs hp hc
  split at hp
  ·rename_i x ds hx
   simp only [Option.some.injEq, Prod.mk.injEq] at hp
   obtain ⟨rfl, rfl⟩ := hp
   rw [h]
   exact F.ok l x _ hx hc
  ·cases hp
def Form.K {X : Type} (F : Form X) (val : X → AV) (pre : X → List Bool) : List AV → Option (AV × List Bool) := fun l =>
 match F.parse l with
 | some (x, cs) => some (val x, cs ++ pre x)
 | none => none
section
variable {P : Program} {Γ : FuncId → Option Spec} {L : Nat → Option (St → Tr (Ex × St))} {N : Nat}
theorem Form.pureOk {X : Type} (F : Form X) {val : X → AV} {pre : X → List Bool} (hm : P.follows .mixedOrders = true) (hΓ : ∀ f s, Γ f = some s → SpecOk P f s) {f : FuncId} {fn : Func} {c : Code} (hf : P.funcs[f]? = some fn) (hb : fn.body = some c)
  (hn : okName fn = true) (hl : BlocksOk P 0 L c) (hv : ∀ x, Vse.noPtr (val x) = true)
  (h : ∀ x, (∀ p ∈ pre x, p = true) → (execFn P Γ L N fn (F.args x)).sat fun r => Vse.noPtr r = true ∧ Sees r (val x)) : PureOk P f (F.K val pre) := by
 refine pureOk_of_exec_c hm hΓ hf hb (callFunc_enter hf hb hn) (L := L) (N := N) hl (fun args v cs hk => ?_) fun args v cs hk hc => ?_
 ·unfold Form.K at hk
  split at hk
  ·simp only [Option.some.injEq, Prod.mk.injEq] at hk
   rw [← hk.1]; exact hv _
  ·cases hk
 ·unfold Form.K at hk
  split at hk
  ·rename_i x ds hx
   simp only [Option.some.injEq, Prod.mk.injEq] at hk
   obtain ⟨rfl, rfl⟩ := hk
   exact ⟨F.args x, F.ok args x ds hx fun p hp => hc p (by simp [hp]), h x fun p hp => hc p (by simp [hp])⟩
  ·cases hk
theorem Form.pureEq {X : Type} (F : Form X) {val : X → AV} {pre : X → List Bool} (hm : P.follows .mixedOrders = true) (hΓ : ∀ f s, Γ f = some s → SpecOk P f s) {f : FuncId} {fn : Func} {c : Code} (hf : P.funcs[f]? = some fn) (hb : fn.body = some c)
  (hn : okName fn = true) (hl : BlocksOk P 0 L c) (hv : ∀ x, Vse.noPtr (val x) = true) {M : X → Tr AV} (hM : ∀ x, execFn P Γ L N fn (F.args x) = M x)
  (h : ∀ x, (∀ p ∈ pre x, p = true) → (M x).sat fun r => r = val x) : PureOk P f (F.K val pre) :=
 F.pureOk hm hΓ hf hb hn hl hv fun x hx => by
  rw [hM x]
  exact Tr.sat_mono (fun r hr => ⟨by rw [hr]; exact hv x, Sees.of_eq hr⟩) (h x hx)
structure MForm (X : Type) where
 parse : List (Option Ent) → List AV → Option (X × List Bool)
 ents : X → List (Option Ent)
 args : X → List AV
 ok : ∀ e l x cs, parse e l = some (x, cs) → (∀ p ∈ cs, p = true) → EntsEqv e (ents x) ∧ SeesL l (args x)
def MForm.K {X : Type} (F : MForm X) (out : X → MemOut) (pre : X → List Bool) : MSpec := fun e l =>
 match F.parse e l with
 | some (x, cs) => some { out x with conds := cs ++ pre x }
 | none => none
def OutOf (o : MemOut) (p : MemOut) : Prop := Sees p.val o.val ∧ EntsEqv (p.outs ++ [p.new]) (o.outs ++ [o.new])
theorem OutOf.refl (o : MemOut) : OutOf o o := ⟨Sees.refl _, EntsEqv.refl _⟩
theorem MForm.memOk {X : Type} (F : MForm X) {out : X → MemOut} {pre : X → List Bool} {frz : Bool} {L : Nat → Nat → Option (St → Tr (Ex × St))} (hm : P.follows .mixedOrders = true) (hΓ : ∀ f s, Γ f = some s → SpecOk P f s) {f : FuncId} {fn : Func} {c : Code} (hf : P.funcs[f]? = some fn)
  (hb : fn.body = some c) (hn : okName fn = true) (hl : ∀ e l x cs, F.parse e l = some (x, cs) → BlocksOk P e.length (L e.length) c)
  (hle : ∀ x e, EntsEqv e (F.ents x) → L e.length = L (F.ents x).length)
  (h : ∀ x, (∀ p ∈ pre x, p = true) → (execM P Γ (L (F.ents x).length) N frz fn (F.ents x) (F.args x)).sat (OutOf (out x))) : MemOk P f (F.K out pre) := by
 refine memOk_of_exec_c (L := L) hm hΓ hf hb (callFunc_enter hf hb hn) (N := N) (frz := frz) (fun e l o ho => ?_) fun e l o ho hc => ?_
 ·unfold MForm.K at ho
  split at ho
  ·rename_i x cs hx
   exact hl e l x cs hx
  ·cases ho
 ·unfold MForm.K at ho
  split at ho
  ·rename_i x cs hx
   cases ho
   obtain ⟨h1, h2⟩ := F.ok e l x cs hx fun p hp => hc p (by simp [hp])
   refine ⟨F.ents x, F.args x, h1, h2, ?_⟩
   rw [hle x e h1]
   exact h x fun p hp => hc p (by simp [hp])
  ·cases ho
def lpF {X R : Type} (nIn nOut : Norm) (F : MForm X) (G : MForm R) (res : X → R) (pre : X → Bool) : LoopSt X R where
 nIn := nIn
 nOut := nOut
 head := fun x => (F.args x, F.ents x)
 take := fun q => F.parse q.2 q.1
 out := fun r => (.normal, (G.args r, G.ents r))
 takeR := fun q => match q with | (.normal, q) => G.parse q.2 q.1 | _ => none
 res := res
 pre := pre
theorem lpF_good {X R : Type} (nIn nOut : Norm) (F : MForm X) (G : MForm R) (res : X → R) (pre : X → Bool) : (lpF nIn nOut F G res pre).Good2 where
 take := fun q x cs h hc => ⟨(F.ok q.2 q.1 x cs h hc).2, (F.ok q.2 q.1 x cs h hc).1⟩
 takeR := by
  intro e q r cs h hc
  cases e with
  | normal => exact ⟨rfl, (G.ok q.2 q.1 r cs h hc).2, (G.ok q.2 q.1 r cs h hc).1⟩
  | exit j => cases h
  | ret => cases h
 split := fun r Q h => h
def lpR {X R : Type} (nIn nOut : Norm) (F : MForm X) (G : MForm R) (res : X → Bool × R) (pre : X → Bool) : LoopSt X (Bool × R) where
 nIn := nIn
 nOut := nOut
 head := fun x => (F.args x, F.ents x)
 take := fun q => F.parse q.2 q.1
 out := fun r => (bif r.1 then .ret else .normal, (G.args r.2, G.ents r.2))
 takeR := fun q =>
  match q with
  | (.normal, q) => match G.parse q.2 q.1 with | some (r, cs) => some ((false, r), cs) | none => none
  | (.ret, q) => match G.parse q.2 q.1 with | some (r, cs) => some ((true, r), cs) | none => none
  | _ => none
 res := res
 pre := pre
 split := fun r => .ite r.1 (.ret (true, r.2)) (.ret (false, r.2))
theorem lpR_good {X R : Type} (nIn nOut : Norm) (F : MForm X) (G : MForm R) (res : X → Bool × R) (pre : X → Bool) : (lpR nIn nOut F G res pre).Good2 where
 take := fun q x cs h hc => ⟨(F.ok q.2 q.1 x cs h hc).2, (F.ok q.2 q.1 x cs h hc).1⟩
 takeR := by
  intro e q r cs h hc
  cases e with
  | normal =>
   simp only [lpR] at h
   split at h
   ·rename_i r' cs' hr
    simp only [Option.some.injEq, Prod.mk.injEq] at h
    obtain ⟨rfl, rfl⟩ := h
    exact ⟨rfl, (G.ok q.2 q.1 r' _ hr hc).2, (G.ok q.2 q.1 r' _ hr hc).1⟩
   ·cases h
  | exit j => cases h
  | ret =>
   simp only [lpR] at h
   split at h
   ·rename_i r' cs' hr
    simp only [Option.some.injEq, Prod.mk.injEq] at h
    obtain ⟨rfl, rfl⟩ := h
    exact ⟨rfl, (G.ok q.2 q.1 r' _ hr hc).2, (G.ok q.2 q.1 r' _ hr hc).1⟩
   ·cases h
 split := by
  intro r Q h
  obtain ⟨b, v⟩ := r
  cases b with
  | true => exact h.1 rfl
  | false => exact h.2 rfl
def MForm.pure {X : Type} (F : Form X) : MForm X where
 parse := fun e l => match e with | [] => F.parse l | _ => none
 ents := fun _ => []
 args := F.args
 ok := by
  intro e l x cs h hc
  cases e with
  | nil => exact ⟨EntsEqv.refl _, F.ok l x cs h hc⟩
  | cons _ _ => cases h
structure EForm (X : Type) where
 parse : List (Option Ent) → Option (X × List Bool)
 ents : X → List (Option Ent)
 ok : ∀ e x cs, parse e = some (x, cs) → (∀ p ∈ cs, p = true) → EntsEqv e (ents x)
def MForm.with {X Y : Type} (E : EForm Y) (F : Form X) : MForm (X × Y) where
 parse := fun e l =>
  match F.parse l, E.parse e with
  | some (x, cs), some (y, ds) => some ((x, y), cs ++ ds)
  | _, _ => none
 ents := fun p => E.ents p.2
 args := fun p => F.args p.1
 ok := by
  intro e l p cs h hc
  split at h
  ·rename_i x c1 y c2 h1 h2
   simp only [Option.some.injEq, Prod.mk.injEq] at h
   obtain ⟨rfl, rfl⟩ := h
   exact ⟨E.ok e y c2 h2 fun p hp => hc p (by simp [hp]), F.ok l x c1 h1 fun p hp => hc p (by simp [hp])⟩
  ·cases h
end
def argInt : Arg Int where
 get := fun a => match a with | .c (.v (.int .i64 n)) => some (n, []) | _ => none
 put := fun n => .c (.v (.int .i64 n))
 ok := by
  intro a x cs h hc
  split at h
  ·cases h; exact Sees.refl _
  ·cases h
def argBool : Arg Bool where
 get := fun a => match a with | .c (.v (.bool b)) => some (b, []) | _ => none
 put := fun b => .c (.v (.bool b))
 ok := by
  intro a x cs h hc
  split at h
  ·cases h; exact Sees.refl _
  ·cases h
def argStr : Arg ByteArray where
 get := fun a => match a with | .c (.v (.string b)) => some (b, []) | _ => none
 put := fun b => .c (.v (.string b))
 ok := by
  intro a x cs h hc
  split at h
  ·cases h; exact Sees.refl _
  ·cases h
def argPtr (b o : Nat) : Arg Unit where
 get := fun a => match a with | .ptr b' o' => bif Nat.beq b b' && Nat.beq o o' then some ((), []) else none | _ => none
 put := fun _ => .ptr b o
 ok := by
  intro a x cs h hc
  split at h
  ·rename_i b' o'
   cases hb : (Nat.beq b b' && Nat.beq o o') with
   | false => rw [hb] at h; cases h
   | true =>
    simp only [Bool.and_eq_true] at hb
    obtain ⟨h1, h2⟩ := hb
    obtain rfl : b = b' := by simpa using h1
    obtain rfl : o = o' := by simpa using h2
    exact Sees.refl _
  ·cases h
def argFn1 (f b o : Nat) : Arg Unit where
 get := fun a => match a with | .fn f' [.ptr b' o'] => bif Nat.beq f f' && (Nat.beq b b' && Nat.beq o o') then some ((), []) else none | _ => none
 put := fun _ => .fn f [.ptr b o]
 ok := by
  intro a x cs h hc
  split at h
  ·rename_i f' b' o'
   cases hb : (Nat.beq f f' && (Nat.beq b b' && Nat.beq o o')) with
   | false => rw [hb] at h; cases h
   | true =>
    simp only [Bool.and_eq_true] at hb
    obtain ⟨h0, h1, h2⟩ := hb
    obtain rfl : f = f' := by simpa using h0
    obtain rfl : b = b' := by simpa using h1
    obtain rfl : o = o' := by simpa using h2
    exact Sees.refl _
  ·cases h
def argFnV (f : Nat) : Arg Unit where
 get := fun a => match a with | .c (.v (.func (.func f') first cap)) => bif Nat.beq f f' && (first.isEmpty && cap.isEmpty) then some ((), []) else none | _ => none
 put := fun _ => .c (.v (.func (.func f) #[] #[]))
 ok := by
  intro a x cs h hc
  split at h
  ·rename_i f' first cap
   cases hb : (Nat.beq f f' && (first.isEmpty && cap.isEmpty)) with
   | false => rw [hb] at h; cases h
   | true =>
    simp only [Bool.and_eq_true, Array.isEmpty_iff] at hb
    obtain ⟨h0, rfl, rfl⟩ := hb
    obtain rfl : f = f' := by simpa using h0
    exact Sees.refl _
  ·cases h
def argIface (t : Nat) : Arg Unit where
 get := fun a => match a with | .c (.v (.iface t' (.agg cs))) => bif Nat.beq t t' && cs.isEmpty then some ((), []) else none | _ => none
 put := fun _ => .c (.v (.iface t (.agg #[])))
 ok := by
  intro a x cs h hc
  split at h
  ·rename_i t' es
   cases hb : (Nat.beq t t' && es.isEmpty) with
   | false => rw [hb] at h; cases h
   | true =>
    simp only [Bool.and_eq_true, Array.isEmpty_iff] at hb
    obtain ⟨h0, rfl⟩ := hb
    obtain rfl : t = t' := by simpa using h0
    exact Sees.refl _
  ·cases h
def argUnit : Arg Unit where
 get := fun a => match a with | .agg [] => some ((), []) | _ => none
 put := fun _ => .agg []
 ok := by
  intro a x cs h hc
  split at h
  ·exact Sees.refl _
  ·cases h
end Go.Vse
