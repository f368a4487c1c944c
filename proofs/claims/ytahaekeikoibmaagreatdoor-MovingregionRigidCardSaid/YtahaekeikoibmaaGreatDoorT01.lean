/- Helpers for the proof: no statement of its own. -/
import Derived.Test.YtahaekeikoibmaaGreatDoorT00
import Derived.Laws.IdiomRangeMap
import Derived.Carry
import Derived.RangeFuncRecord
import Derived.LoopN
import Derived.Scope
import Derived.Laws.Externs
import Derived.Lib.Bytealg
set_option linter.unusedVariables false
set_option linter.unusedSimpArgs false
set_option linter.unnecessarySimpa false
set_option linter.deprecated false
namespace Go.Vse
open Go.RowKit
section
variable {P : Program} {C : Ctx} {B : Bmap} {S : St} {a : Act} {w : World} {o : Oper} {r : Eff} {slot : Nat}
  {K : Act → World → Prop} {Q : Exit → Act → World → Prop}
theorem isIntMap_inv {t : TypeId} (h : isIntMap P t = true) : ∃ k e, P.underlying t = some (.map k e) ∧ P.underlying k = some (.int .i64) := by
 unfold isIntMap at h
 split at h
 ·rename_i k e ht
  split at h
  ·rename_i hk
   exact ⟨k, e, ht, hk⟩
  ·cases h
 ·cases h
theorem Holds.turnO (H : Holds C B S a w) {s β : Nat} {e e' : Ent} (hm : S.mem s = some e) (hβ : B s = some β) {o0 o' : Obj} (hc : w.heap[β]? = some o0) (hnc : ∀ cs t fz, o0 ≠ .cells cs t fz)
  (he : EntRel (ownOf C.A0 B S.mem) B w e' (some o')) : Holds C B { S with mem := S.mem.set s (some e') } a (w.putObj β o') := by
 have hown : ownOf C.A0 B S.mem β := .inr ⟨s, e, hm, hβ⟩
 have hlt : β < w.heap.size := lt_of_heap hc
 have hother : ∀ b, b ≠ β → (w.putObj β o').heap[b]? = w.heap[b]? := fun b hb => World.putObj_heap_other hb
 have hrow : ∀ (k : Nat) (D : Array Value) (t : TypeId) (fz : Nat × Nat), w.heap[k]? = some (.cells D t fz) → ∃ D' t' fz', (w.putObj β o').heap[k]? = some (.cells D' t' fz') ∧ D'.size = D.size := by
  intro k D t fz hD
  by_cases hk : k = β
  ·subst hk
   rw [hc] at hD
   exact absurd (Option.some.inj hD) (hnc _ _ _)
  ·exact ⟨D, t, fz, by rw [hother k hk]; exact hD, rfl⟩
 have hk : Kept (fun b => b = β) w (w.putObj β o') := ⟨rfl, rfl, rfl, by simp, fun k _ hk => hother k hk, hrow⟩
 have ht : Trans (ownOf C.A0 B S.mem) w (w.putObj β o') := ⟨by simp, fun b hb hn => hother b (by rintro rfl; exact hn hown), fun b _ D t2 fz2 hD => hrow b D t2 fz2 hD⟩
 have hA0 : ∀ b, ownOf C.A0 B (S.mem.set s (some e')) b → ownOf C.A0 B S.mem b := by
  intro b h
  rcases h with h | ⟨j, e2, h1, h2⟩
  ·exact .inl h
  ·rw [mem_set_eq] at h1
   by_cases hj : j = s
   ·subst hj; exact .inr ⟨j, e, hm, h2⟩
   ·simp only [hj, if_false] at h1; exact .inr ⟨j, e2, h1, h2⟩
 refine { defers := H.defers, size := H.size, tm := fun t h => (H.tm t h).trans ht (fun b _ h => hA0 b h) (fun _ _ h => h), mem := ?_, inj := ?_, kept := ?_, old := fun j γ h => ⟨(H.old j γ h).1, Nat.lt_of_lt_of_le (H.old j γ h).2 hk.size⟩, fresh := H.fresh, base := H.base, kle := H.kle }
 ·intro j e2 hj
  simp only [mem_set_eq] at hj
  by_cases hjs : j = s
  ·subst hjs
   simp only [if_true, Option.some.injEq] at hj
   subst hj
   refine .inl ⟨β, hβ, ?_⟩
   rw [World.putObj_heap_same hlt]
   exact he.trans ht (fun b _ h => hA0 b h) (fun _ _ h => h)
  ·simp only [hjs, if_false] at hj
   rcases H.mem j e2 hj with ⟨γ, h1, h3⟩ | h
   ·refine .inl ⟨γ, h1, ?_⟩
    rw [hother γ (by rintro rfl; exact hjs (H.inj j s _ _ γ hj hm h1 hβ))]
    exact h3.trans ht (fun b _ h => hA0 b h) (fun _ _ h => h)
   ·exact .inr h
 ·have live : ∀ j e2, (S.mem.set s (some e')) j = some e2 → ∃ e3, S.mem j = some e3 := by
   intro j e2 hj
   rw [mem_set_eq] at hj
   by_cases hjs : j = s
   ·subst hjs; exact ⟨e, hm⟩
   ·simp only [hjs, if_false] at hj; exact ⟨e2, hj⟩
  intro j j' e1 e2 γ m1 m2 h1 h2
  obtain ⟨e3, m1⟩ := live j e1 m1
  obtain ⟨e4, m2⟩ := live j' e2 m2
  exact H.inj j j' e3 e4 γ m1 m2 h1 h2
 ·refine H.kept.trans hk fun i hi hib => ?_
  subst hib
  rcases (H.old s i hβ).1 with h | h
  ·exact absurd hi (Nat.not_lt.2 h)
  ·exact h
theorem keys_nil : KeysOk [] #[] 0 := ⟨rfl, rfl, fun i hi => by simp at hi, fun i hi => by simp at hi, fun i hi => by simp at hi⟩
theorem keys_push {es : List (Int × IV)} {entries : Array MapEntry} {clock : Nat} (h : KeysOk es entries clock) (n : Int) (y : IV) (v : Value) (hv : v.oneCell' = true) :
  KeysOk (es ++ [(n, y)]) (entries.push { key := .int .i64 n, val := v, born := clock }) (clock + 1) := by
 have hs := h.size
 have hc := h.clock
 have key : ∀ i, i < (es ++ [(n, y)]).length → (i < es.length ∧ (entries.push { key := .int .i64 n, val := v, born := clock }).getD i me0 = entries.getD i me0 ∧ (es ++ [(n, y)]).getD i mz = es.getD i mz) ∨
   (i = es.length ∧ (entries.push { key := .int .i64 n, val := v, born := clock }).getD i me0 = { key := .int .i64 n, val := v, born := clock } ∧ (es ++ [(n, y)]).getD i mz = (n, y)) := by
  intro i hi
  simp only [List.length_append, List.length_singleton] at hi
  by_cases hlt : i < es.length
  ·refine .inl ⟨hlt, ?_, ?_⟩
   ·simp only [Array.getD_eq_getD_getElem?, Array.getElem?_push_lt (show i < entries.size by omega), Array.getElem?_eq_getElem (show i < entries.size by omega)]
   ·simp [List.getD_eq_getElem?_getD, List.getElem?_append_left hlt]
  ·obtain rfl : i = es.length := by omega
   refine .inr ⟨rfl, ?_, ?_⟩
   ·rw [← hs]
    simp [Array.getD_eq_getD_getElem?]
   ·simp [List.getD_eq_getElem?_getD]
 refine ⟨by simp [hs], by simp [hc], fun i hi => ?_, fun i hi => ?_, fun i hi => ?_⟩
 ·rcases key i hi with ⟨h1, h2, h3⟩ | ⟨h1, h2, h3⟩
  ·rw [h2, h3]; exact h.key i h1
  ·rw [h2, h3]
 ·rcases key i hi with ⟨h1, h2, h3⟩ | ⟨h1, h2, h3⟩
  ·rw [h2]; exact h.born i h1
  ·rw [h2, h1]; exact hc
 ·rcases key i hi with ⟨h1, h2, h3⟩ | ⟨h1, h2, h3⟩
  ·rw [h2]; exact h.one i h1
  ·rw [h2]; exact hv
theorem vals_push {A : Nat → Prop} {es : List (Int × IV)} {entries : Array MapEntry} {clock : Nat} (h : KeysOk es entries clock) (hv : ∀ i, i < es.length → IRel A w (es.getD i mz).2 (entries.getD i me0).val) {n : Int} {y : IV} {v : Value}
  (hy : IRel A w y v) (k : Value) (b : Nat) : ∀ i, i < (es ++ [(n, y)]).length → IRel A w ((es ++ [(n, y)]).getD i mz).2 ((entries.push { key := k, val := v, born := b }).getD i me0).val := by
 have hs := h.size
 intro i hi
 simp only [List.length_append, List.length_singleton] at hi
 by_cases hlt : i < es.length
 ·have e1 : (entries.push { key := k, val := v, born := b }).getD i me0 = entries.getD i me0 := by
   simp only [Array.getD_eq_getD_getElem?, Array.getElem?_push_lt (show i < entries.size by omega), Array.getElem?_eq_getElem (show i < entries.size by omega)]
  have e2 : (es ++ [(n, y)]).getD i mz = es.getD i mz := by simp [List.getD_eq_getElem?_getD, List.getElem?_append_left hlt]
  rw [e1, e2]
  exact hv i hlt
 ·obtain rfl : i = es.length := by omega
  have e1 : (entries.push { key := k, val := v, born := b }).getD es.length me0 = { key := k, val := v, born := b } := by
   rw [← hs]
   simp [Array.getD_eq_getD_getElem?]
  have e2 : (es ++ [(n, y)]).getD es.length mz = (n, y) := by simp [List.getD_eq_getElem?_getD]
  rw [e1, e2]
  exact hy
theorem makeMap_case (hC : C.Ok) (H : Holds C B S a w) (hs : B slot = none) (hnx : Between C S slot) {t : TypeId} {x : Option Operand} (hop : o.op = .makeMap t x)
   (h : makeMapA P slot t (x.map (evalA S.tm)) = some r) (hK : Cont C B slot (S.apply o.dst r) K) : o.wpV P a w K Q := by
 unfold makeMapA at h
 cases hb : (isIntMap P t && hintA (x.map (evalA S.tm))) with
 | false => rw [hb] at h; cases h
 | true =>
   rw [hb] at h
   simp only [cond_true, Option.some.injEq] at h
   subst h
   simp only [Bool.and_eq_true] at hb
   obtain ⟨k, e, ht, hk⟩ := isIntMap_inv hb.1
   have hrun : (Instr.makeMap t (x.map a.eval)).run P w = .ok (.map (some w.heap.size)) (w.alloc (.map #[] 0)) := by
     cases x with
     | none => exact run_makeMap t w
     | some x =>
       have hx := eval_rel H x
       have hb2 := hb.2
       simp only [Option.map_some] at hb2
       unfold hintA at hb2
       split at hb2
       · rename_i hh; cases hh
       · rename_i k' n hh
         simp only [Option.some.injEq] at hh
         rw [hh] at hx
         simp only [Option.map_some, hx.plain]
         simp [Instr.makeMap, Sem.run_bind, run_underlying ht, asInt, asIntOf]
       · cases hb2
   have hent : EntRel (ownOf C.A0 B S.mem) B w (.mapE []) (some (.map #[] 0)) := .mapE [] #[] 0 keys_nil fun i hi => by simp at hi
   exact fin_case hK (v := .map (some w.heap.size)) (w' := w.alloc (.map #[] 0)) (B' := setB B slot w.heap.size) (by simp only [execOp, hop, Sem.run_bind, hrun, Result.andThen_ok, Sem.run_pure]) (H.alloc hC hs hnx hent)
     (.omap slot w.heap.size (by simp [setB])) (fun j hj => by simp [setB, hj])
theorem find_absent (n : Int) : ∀ (l : List MapEntry) (i : Nat), (∀ e ∈ l, ∃ k, e.key = .int .i64 k ∧ k ≠ n) → Instr.findNow (.int .i64) (.int .i64 n) l i = some none
 | [], _, _ => rfl
 | e :: l, i, h => by
  obtain ⟨k, hk, hne⟩ := h e (by simp)
  have h1 : (n == k) = false := by
   cases hb : n == k with
   | false => rfl
   | true => exact absurd (by simpa using hb) (Ne.symm hne)
  have h2 : Instr.sameNow (.int .i64) (.int .i64 n) e.key = some false := by
   rw [hk]
   simp [Instr.sameNow, h1]
  unfold Instr.findNow
  rw [h2]
  exact find_absent n l (i + 1) fun e he => h e (by simp [he])
theorem mapUpdate_case (H : Holds C B S a w) {t : TypeId} {x k v : Operand} (hop : o.op = .mapUpdate t x k v)
   (h : mapUpdateA P S.mem t (evalA S.tm x) (evalA S.tm k) (evalA S.tm v) = some r) (hc : ∀ p ∈ r.conds, p) (hK : Cont C B slot (S.apply o.dst r) K) : o.wpV P a w K Q := by
 have hx := eval_rel H x
 have hkk := eval_rel H k
 have hv := eval_rel H v
 unfold mapUpdateA at h
 split at h
 · rename_i b n y hxe hke hve
   rw [hxe] at hx
   rw [hke] at hkk
   rw [hve] at hv
   have hkv := hkk.plain
   split at h
   · rename_i es hm
     cases hb : (isIntMap P t && cellOk (.c y)) with
     | false => rw [hb] at h; cases h
     | true =>
       rw [hb] at h
       simp only [cond_true, Option.some.injEq] at h
       subst h
       simp only [Bool.and_eq_true] at hb
       obtain ⟨kt, et, ht, hkt⟩ := isIntMap_inv hb.1
       have hall : (es.all fun p => !decide (p.1 = n)) = true := hc _ (by simp)
       generalize hvx : a.eval x = vx at hx
       cases hx with
       | omap _ β hβ =>
         rcases H.mem b _ hm with ⟨γ, hγ, hent⟩ | ⟨hno, _⟩
         · rw [hβ] at hγ
           cases hγ
           generalize hob : w.heap[β]? = ob at hent
           cases hent with
           | mapE _ entries clock hks hvs =>
             have hone : (a.eval v).oneCell' = true := hv.oneCell hb.2
             have hfind : Instr.findNow (.int .i64) (.int .i64 n) entries.toList 0 = some none := by
               refine find_absent n _ 0 fun e he => ?_
               obtain ⟨i, hi, rfl⟩ := List.mem_iff_getElem.1 he
               have hi' : i < entries.size := by simpa using hi
               have hie : i < es.length := by rw [← hks.size]; exact hi'
               have hk1 := hks.key i hie
               have e1 : entries.getD i me0 = entries.toList[i] := by simp [Array.getD_eq_getD_getElem?, hi']
               rw [e1] at hk1
               refine ⟨_, hk1, ?_⟩
               have h2 := List.all_eq_true.1 hall (es.getD i mz) (by
                 have : es.getD i mz = es[i] := by simp [List.getD_eq_getElem?_getD, hie]
                 rw [this]; exact List.getElem_mem hie)
               simpa using h2
             have hrel : IRel (ownOf C.A0 B S.mem) w y (a.eval v) := by
               cases hv with
               | c _ _ h => exact h
             have hrun : (Instr.mapUpdate t (.map (some β)) (.int .i64 n) (a.eval v)).run P w = .ok () (w.putObj β (.map (entries.push { key := .int .i64 n, val := a.eval v, born := clock }) (clock + 1))) := by
               have hg : (getObj β).run P w = .ok (.map entries clock) w := by simp [getObj, Sem.run, hob]
               have hchk : ∀ m, (Instr.checkKey false (m + 1) kt (.int .i64 n)).run P w = .ok () w := by
                 intro m
                 rw [Instr.checkKey, Sem.run_bind, run_underlying hkt, Result.andThen_ok]
                 rfl
               have hfk : (Instr.findKey kt (.int .i64 n) entries.toList).run P w = .ok none w := by
                 simp only [Instr.findKey, Sem.run_bind, run_underlying hkt, Result.andThen_ok, hfind, Sem.run_pure]
               have hset : ∀ ob', (setObj β ob').run P w = .ok () (w.putObj β ob') := fun ob' => by simp [setObj, Sem.run, hob, World.putObj]
               simp only [Instr.mapUpdate, Sem.run_bind, run_underlying ht, Result.andThen_ok, hg]
               rw [show (10000 : Nat) = 9999 + 1 from rfl, hchk]
               simp only [Result.andThen_ok, hfk, hset]
             have H' := H.turnO hm hβ hob (fun _ _ _ h => by cases h) (e' := .mapE (es ++ [(n, y)])) (.mapE _ _ _ (keys_push hks n y (a.eval v) hone) (vals_push hks hvs hrel _ _))
             unfold Oper.wpV
             have hexec : (execOp a.eval o).run P w = .ok .skip (w.putObj β (.map (entries.push { key := .int .i64 n, val := a.eval v, born := clock }) (clock + 1))) := by
               simp only [execOp, hop, hvx, hkv, Sem.run_bind, hrun, Result.andThen_ok, Sem.run_pure]
             rw [hexec]
             exact hK _ _ B (H'.put (x := .c (.v undef)) (v := undef) o.dst (ARel.lit _)) (fun _ _ => rfl)
         · rw [hβ] at hno; cases hno
   · cases h
 · cases h
theorem range_case (hC : C.Ok) (H : Holds C B S a w) (hs : B slot = none) (hnx : Between C S slot) {t : TypeId} {x : Operand} (hop : o.op = .range t x)
   (h : rangeA P slot t (evalA S.tm x) = some r) (hK : Cont C B slot (S.apply o.dst r) K) : o.wpV P a w K Q := by
 have hx := eval_rel H x
 unfold rangeA at h
 split at h
 · rename_i es hxe
   rw [hxe] at hx
   cases hb : isIntMap P t with
   | false => rw [hb] at h; cases h
   | true =>
     rw [hb] at h
     simp only [cond_true, Option.some.injEq] at h
     subst h
     obtain ⟨kt, et, ht, hkt⟩ := isIntMap_inv hb
     generalize hvx : a.eval x = vx at hx
     cases hx with
     | c _ _ hi =>
       cases hi with
       | mq _ b clock entries hA hbw hh hk hv =>
         have hrun := run_range_map w t kt et b entries clock ht hh
         have hcl := hk.clock
         subst hcl
         have hent : EntRel (ownOf C.A0 B S.mem) B w (.itE es []) (some (.mapIter (some b) es.length #[] es.length)) := .itE es [] b (.mq es b _ entries hA hbw hh hk hv) fun i hi => by simp at hi
         exact fin_case hK (v := .pointer (some ⟨w.heap.size, 0, none⟩)) (w' := w.alloc (.mapIter (some b) es.length #[] es.length)) (B' := setB B slot w.heap.size) (by simp only [execOp, hop, hvx, Sem.run_bind, hrun, Result.andThen_ok, Sem.run_pure])
           (H.alloc hC hs hnx hent) (.ptr slot 0 w.heap.size (by simp [setB])) (fun j hj => by simp [setB, hj])
 · cases h
theorem it_inv (H : Holds C B S a w) {b : Nat} {es : List (Int × IV)} {seen : List Nat} (hm : S.mem b = some (.itE es seen)) {β : Nat} (hβ : B b = some β) :
  ∃ bm entries, w.heap[β]? = some (.mapIter (some bm) es.length seen.toArray es.length) ∧ β ≠ bm ∧ w.heap[bm]? = some (.map entries es.length) ∧ ¬ ownOf C.A0 B S.mem bm ∧ bm < w.heap.size ∧ KeysOk es entries es.length ∧
   (∀ i, i < es.length → IRel (ownOf C.A0 B S.mem) w (es.getD i mz).2 (entries.getD i me0).val) ∧ ∀ i ∈ seen, i < es.length := by
 rcases H.mem b _ hm with ⟨γ, hγ, hent⟩ | ⟨hno, _⟩
 ·rw [hβ] at hγ
  cases hγ
  generalize hob : w.heap[β]? = ob at hent
  cases hent with
  | itE _ _ bm hmq hs =>
   cases hmq with
   | mq _ _ clock entries hA hb hh hk hv =>
    have hcl := hk.clock
    subst hcl
    refine ⟨bm, entries, rfl, ?_, hh, hA, hb, hk, hv, hs⟩
    rintro rfl
    exact hA (.inr ⟨b, _, hm, hβ⟩)
 ·rw [hβ] at hno; cases hno
theorem entry_case (H : Holds C B S a w) {x : Operand} (hop : o.op = .entry x) (h : entryA S.mem (evalA S.tm x) = some r) (hK : Cont C B slot (S.apply o.dst r) K) : o.wpV P a w K Q := by
 have hx := eval_rel H x
 unfold entryA at h
 split at h
 ·rename_i b hxe
  rw [hxe] at hx
  obtain ⟨β, hβ, hvx⟩ := hx.ptr_inv
  split at h
  ·rename_i es seen hm
   split at h
   ·rename_i i hl
    cases h
    obtain ⟨bm, entries, hob, hne, hbm, hA, hbw, hk, hv, hs⟩ := it_inv H hm hβ
    have hi : i < es.length := hs i (List.mem_of_getLast? hl)
    have hisz : i < entries.size := by rw [hk.size]; exact hi
    have hback : seen.toArray.back? = some i := by rw [← hl]; simp
    have hfind : entries.find? (fun e => e.born == i) = some (entries.getD i me0) := by
     rw [Array.find?_eq_some_iff_getElem]
     have e1 : entries.getD i me0 = entries[i] := by simp [Array.getD_eq_getD_getElem?, hisz]
     refine ⟨by rw [hk.born i hi]; simp, i, hisz, e1.symm, fun j hj => ?_⟩
     have hj2 : j < es.length := by omega
     have e2 : entries.getD j me0 = entries[j] := by simp [Array.getD_eq_getD_getElem?, show j < entries.size by omega]
     have := hk.born j hj2
     rw [e2] at this
     simp only [this, Bool.not_eq_true', beq_eq_false_iff_ne]
     omega
    have hg : (getObj β).run P w = .ok (.mapIter (some bm) es.length seen.toArray es.length) w := by simp [getObj, Sem.run, hob]
    have hg2 : (getObj bm).run P w = .ok (.map entries es.length) w := by simp [getObj, Sem.run, hbm]
    have hrun : (Instr.entry (.pointer (some ⟨β, 0, none⟩))).run P w = .ok (.tuple #[(entries.getD i me0).key, (entries.getD i me0).val]) w := by
     simp [Instr.entry, Sem.run_bind, hg, hg2, hback, hfind]
    refine pure_fin H hK (v := .tuple #[(entries.getD i me0).key, (entries.getD i me0).val]) (by simp only [execOp, hop, hvx, Sem.run_bind, hrun, Result.andThen_ok, Sem.run_pure]) ?_ rfl
    rw [hk.key i hi]
    exact ARel.tup_mk (.cons (ARel.lit _) (.cons (.c _ _ (hv i hi)) .nil))
   ·cases h
  ·cases h
 ·cases h
theorem run_next_at {r bm since c0 : Nat} {seen : Array Nat} {es : Array MapEntry} {clock : Nat} (ty : TypeId) (hr : w.heap[r]? = some (.mapIter (some bm) since seen c0)) (hb : w.heap[bm]? = some (.map es clock))
   (hold : ∀ x ∈ es.toList, x.born < since) (hsc : since ≤ c0) :
   ((leftOf es seen).size = 0 ∧ (Instr.next (.pointer (some ⟨r, 0, none⟩)) false ty).run P w = .ok (.tuple #[.bool false]) w) ∨
   ∃ e ∈ (leftOf es seen).toList, ∃ w1 : World, (w1 = w ∨ w1 = w.drew) ∧ (Instr.next (.pointer (some ⟨r, 0, none⟩)) false ty).run P w = .ok (.tuple #[.bool true, e.key, e.val]) (w1.putObj r (.mapIter (some bm) since (seen.push e.born) clock)) := by
 simp only [Instr.next, getObj, Sem.run_bind, Sem.run, hr, hb, Result.andThen, next_test_false seen es since c0 hold hsc, Bool.false_eq_true, if_false]
 unfold leftOf
 have hmem : ∀ x ∈ (Array.filter (fun e => !seen.contains e.born) es).toList, x.born < since := fun x hx => hold x (by simp at hx ⊢; exact hx.1)
 generalize Array.filter (fun e => !seen.contains e.born) es = L at hmem ⊢
 have e1 : L.filter (fun x => decide (x.born < since)) = L := Array.filter_eq_self.2 (fun x hx => by simpa using hmem x (by simpa using hx))
 have e2 : L.filter (fun x => decide (x.born ≥ since)) = #[] := by
   rw [Array.filter_eq_empty_iff]
   intro x hx
   have := hmem x (by simpa using hx)
   simp
   omega
 simp only [e1, e2, Array.append_empty]
 by_cases h0 : L.size = 0
 · left
   have : L = #[] := Array.eq_empty_of_size_eq_zero h0
   subst this
   refine ⟨rfl, ?_⟩
   simp [choose, Sem.run, Question.forced]
 · right
   have hne : L.isEmpty = false := by simp [Array.isEmpty, h0]
   simp only [hne, Bool.false_eq_true, if_false, Array.empty_append, Array.size_map]
   have hch : ∃ (j : Nat) (w1 : World), j < L.size ∧ (w1 = w ∨ w1 = w.drew) ∧ (choose (Question.mapNext L.size)).run P w = .ok j w1 := by
     by_cases hf : L.size ≤ 1
     · exact ⟨0, w, by omega, .inl rfl, by simp [choose, Sem.run, Question.forced, hf]⟩
     · exact ⟨_, w.drew, Nat.mod_lt _ (by omega), .inr rfl, by
         simp only [choose, Sem.run, Question.forced, decide_eq_true_eq, hf, if_false, Question.cut]
         rfl⟩
   obtain ⟨j, w1, hj, hal, hrun⟩ := hch
   refine ⟨L[j], by simp, w1, hal, ?_⟩
   have hr1 : w1.heap[r]? = some (.mapIter (some bm) since seen c0) := by rcases hal with rfl | rfl <;> exact hr
   have hset : ∀ o', (setObj r o').run P w1 = .ok () (w1.putObj r o') := fun o' => by simp [setObj, Sem.run, hr1, World.putObj]
   simp only [hrun, Array.getElem?_map, Array.getElem?_eq_getElem hj, Option.map_some, Sem.run_bind, hset, Result.andThen]
   rfl
theorem left_mem {es : List (Int × IV)} {entries : Array MapEntry} (hk : KeysOk es entries es.length) {seen : List Nat} {i : Nat} :
  (i < es.length ∧ (seen.any fun j => Nat.beq i j) = false) → entries.getD i me0 ∈ (leftOf entries seen.toArray).toList := by
 rintro ⟨hi, hns⟩
 have hisz : i < entries.size := by rw [hk.size]; exact hi
 have e1 : entries.getD i me0 = entries[i] := by simp [Array.getD_eq_getD_getElem?, hisz]
 unfold leftOf
 rw [Array.mem_toList_iff, Array.mem_filter]
 refine ⟨by rw [e1]; exact Array.getElem_mem hisz, ?_⟩
 rw [hk.born i hi]
 have : i ∉ seen := by
  intro hm
  have := List.any_eq_false.1 hns i hm
  simp at this
 simpa using this
theorem mem_left {es : List (Int × IV)} {entries : Array MapEntry} (hk : KeysOk es entries es.length) {seen : List Nat} {e : MapEntry} (he : e ∈ (leftOf entries seen.toArray).toList) :
  ∃ i, i < es.length ∧ (seen.any fun j => Nat.beq i j) = false ∧ e = entries.getD i me0 := by
 unfold leftOf at he
 rw [Array.mem_toList_iff, Array.mem_filter] at he
 obtain ⟨h1, h2⟩ := he
 obtain ⟨i, hi, rfl⟩ := Array.mem_iff_getElem.1 h1
 have hie : i < es.length := by rw [← hk.size]; exact hi
 have e1 : entries.getD i me0 = entries[i] := by simp [Array.getD_eq_getD_getElem?, hi]
 refine ⟨i, hie, ?_, e1.symm⟩
 have hb := hk.born i hie
 rw [e1] at hb
 rw [hb] at h2
 rw [List.any_eq_false]
 intro j hj hij
 have : i = j := by simpa using hij
 subst this
 simp [hj] at h2
theorem next_case (H : Holds C B S a w) {x : Operand} (hop : o.op = .next x false) {rs : List Eff} (h : nextA S.mem (evalA S.tm x) = some rs) (hK : ∀ r ∈ rs, Cont C B slot (S.apply o.dst r) K) : o.wpV P a w K Q := by
 have hx := eval_rel H x
 unfold nextA at h
 split at h
 · rename_i b hxe
   rw [hxe] at hx
   obtain ⟨β, hβ, hvx⟩ := hx.ptr_inv
   split at h
   · rename_i es seen hm
     obtain ⟨bm, entries, hob, hne, hbm, hA, hbw, hk, hv, hs⟩ := it_inv H hm hβ
     have hold : ∀ y ∈ entries.toList, y.born < es.length := by
       intro y hy
       obtain ⟨i, hi, rfl⟩ := List.mem_iff_getElem.1 hy
       have hi' : i < entries.size := by simpa using hi
       have hie : i < es.length := by rw [← hk.size]; exact hi'
       have e1 : entries.getD i me0 = entries.toList[i] := by simp [Array.getD_eq_getD_getElem?, hi']
       rw [← e1, hk.born i hie]; exact hie
     have hL : ∀ i, i ∈ (List.range es.length).filter (fun i => !(seen.any fun j => Nat.beq i j)) ↔ (i < es.length ∧ (seen.any fun j => Nat.beq i j) = false) := by
       intro i
       simp only [List.mem_filter, List.mem_range, Bool.not_eq_true']
     have hexec : ∀ v w', (Instr.next (.pointer (some ⟨β, 0, none⟩)) false o.type).run P w = .ok v w' → (execOp a.eval o).run P w = .ok (.value v) w' := fun v w' hr => by
       simp only [execOp, hop, hvx, Sem.run_bind, hr, Result.andThen_ok, Sem.run_pure]
     rcases run_next_at (P := P) o.type hob hbm hold (Nat.le_refl _) with ⟨h0, hrun⟩ | ⟨e, he, w1, hw1, hrun⟩
     · split at h
       · cases h
         refine pure_fin H (hK _ (List.mem_singleton.2 rfl)) (v := .tuple #[.bool false]) (hexec _ _ hrun) ?_ rfl
         exact ARel.tup_mk (.cons (ARel.lit _) .nil)
       · rename_i i l hfl
         have hi : i ∈ (List.range es.length).filter (fun i => !(seen.any fun j => Nat.beq i j)) := by rw [hfl]; simp
         have := left_mem hk ((hL i).1 hi)
         have hemp : (leftOf entries seen.toArray).toList = [] := by
           have : (leftOf entries seen.toArray) = #[] := Array.eq_empty_of_size_eq_zero h0
           rw [this]
         rw [hemp] at this
         cases this
     · obtain ⟨i, hi, hns, rfl⟩ := mem_left hk he
       have hmem := (hL i).2 ⟨hi, hns⟩
       split at h
       · rename_i hfl
         rw [hfl] at hmem
         cases hmem
       · rename_i i0 l hfl
         cases h
         rw [hfl] at hmem
         have hKi := hK _ (List.mem_map.2 ⟨i, hmem, rfl⟩)
         have H1 : Holds C B S a w1 := by
           rcases hw1 with rfl | rfl
           · exact H
           · exact H.move (Below.refl _ w).drew
         have hob1 : w1.heap[β]? = some (.mapIter (some bm) es.length seen.toArray es.length) := by rcases hw1 with rfl | rfl <;> exact hob
         have hbm1 : w1.heap[bm]? = some (.map entries es.length) := by rcases hw1 with rfl | rfl <;> exact hbm
         have hbw1 : bm < w1.heap.size := by rcases hw1 with rfl | rfl <;> exact hbw
         have hv1 : ∀ i, i < es.length → IRel (ownOf C.A0 B S.mem) w1 (es.getD i mz).2 (entries.getD i me0).val := by
           rcases hw1 with rfl | rfl
           · exact hv
           · exact fun i hi => (hv i hi).trans (.of_below (Below.refl _ w).drew) (fun _ _ h => h)
         have hent : EntRel (ownOf C.A0 B S.mem) B w1 (.itE es (seen ++ [i])) (some (.mapIter (some bm) es.length (seen.toArray.push i) es.length)) := by
           have := EntRel.itE (A := ownOf C.A0 B S.mem) (B := B) (w := w1) es (seen ++ [i]) bm (.mq es bm _ entries hA hbw1 hbm1 hk hv1) (fun j hj => by
             rcases List.mem_append.1 hj with hj | hj
             · exact hs j hj
             · obtain rfl := List.mem_singleton.1 hj
               exact hi)
           simpa using this
         have H2 := H1.turnO hm hβ hob1 (fun _ _ _ h => by cases h) hent
         have hb := hk.born i hi
         rw [hb] at hrun
         refine fin_case hKi (w' := w1.putObj β (.mapIter (some bm) es.length (seen.toArray.push i) es.length)) (B' := B) (v := .tuple #[.bool true, (entries.getD i me0).key, (entries.getD i me0).val]) (hexec _ _ hrun) H2 ?_ (fun _ _ => rfl)
         rw [hk.key i hi]
         have hvr := hv1 i hi
         have ht : Trans (ownOf C.A0 B S.mem) w1 (w1.putObj β (.mapIter (some bm) es.length (seen.toArray.push i) es.length)) := by
           refine ⟨by simp, fun b' hb' hn => World.putObj_heap_other (by rintro rfl; exact hn (.inr ⟨b, _, hm, hβ⟩)), fun b' _ D t2 fz2 hD => ?_⟩
           by_cases hbb : b' = β
           · subst hbb
             rw [hob1] at hD
             cases hD
           · exact ⟨D, t2, fz2, by rw [World.putObj_heap_other hbb]; exact hD, rfl⟩
         have hA2 : ∀ b', b' < w1.heap.size → ownOf C.A0 B (applyUpd S.mem [(b, some (Ent.itE es (seen ++ [i])))]) b' → ownOf C.A0 B S.mem b' := by
           intro b' _ h
           rcases h with h | ⟨j, e2, h1, h2⟩
           · exact .inl h
           · simp only [applyUpd, mem_set_eq] at h1
             by_cases hj : j = b
             · subst hj; exact .inr ⟨j, _, hm, h2⟩
             · simp only [hj, if_false] at h1; exact .inr ⟨j, e2, h1, h2⟩
         exact ARel.tup_mk (.cons (ARel.lit _) (.cons (ARel.lit _) (.cons (.c _ _ (hvr.trans ht hA2)) .nil)))
   · cases h
 · cases h
end
end Go.Vse
namespace Go.Vse
open Go.RowKit
def CallsF (P : Program) (f : FuncId) (vs : Array Value) (w : World) (R : Ending → World → Prop) : Prop :=
 ((callFunc f vs).run P w = .ok (.enter f vs) w ∧ Calls P f vs w R) ∨ ∃ v w', (callFunc f vs).run P w = .ok (.value v) w' ∧ R (.returned v) w'
def YieldTo (P : Program) (vs : Array Value) (w : World) (R : Ending → World → Prop) : Prop :=
 ∃ l rest, vs = #[yieldV l] ++ rest ∧ ∃ fn tmps assign body, (Instr.yield l rest).run P w = .ok (.round l fn tmps assign body) w ∧ RoundIn Fence.wide 0 P l fn tmps assign body w R
def CallsTo (P : Program) (f : FuncId) (vs : Array Value) (w : World) (R : Ending → World → Prop) : Prop :=
 ((P.funcs[f]?).isSome = true ∧ CallsF P f vs w R) ∨ (f = yieldNo ∧ YieldTo P vs w R)
theorem CallsTo.enter {P : Program} {f : FuncId} {fn : Func} {vs : Array Value} {w : World} {R : Ending → World → Prop} (hf : P.funcs[f]? = some fn) (h : (callFunc f vs).run P w = .ok (.enter f vs) w ∧ Calls P f vs w R) : CallsTo P f vs w R :=
 .inl ⟨by rw [hf]; rfl, .inl h⟩
theorem CallsTo.value {P : Program} {f : FuncId} {fn : Func} {vs : Array Value} {w : World} {R : Ending → World → Prop} (hf : P.funcs[f]? = some fn) (h : ∃ v w', (callFunc f vs).run P w = .ok (.value v) w' ∧ R (.returned v) w') : CallsTo P f vs w R :=
 .inl ⟨by rw [hf]; rfl, .inr h⟩
theorem CallsTo.mono {P : Program} {f : FuncId} {vs : Array Value} {w : World} {R R' : Ending → World → Prop} (h : CallsTo P f vs w R) (hr : ∀ e w', R e w' → R' e w') : CallsTo P f vs w R' := by
 rcases h with ⟨hs, ⟨h1, h2⟩ | ⟨v, w', h1, h2⟩⟩ | ⟨hf, l, rest, hv, fn, tmps, asL, bo, h1, h2⟩
 ·exact .inl ⟨hs, .inl ⟨h1, h2.mono hr⟩⟩
 ·exact .inl ⟨hs, .inr ⟨v, w', h1, hr _ _ h2⟩⟩
 ·exact .inr ⟨hf, l, rest, hv, fn, tmps, asL, bo, h1, h2.mono hr⟩
def SpecLook (s : Spec) : Prop := ∀ slot m m' args r, s slot m args = some r → (∀ k ∈ r.reads, m' k = m k) → s slot m' args = some r
structure SpecAt (C : Ctx) (P : Program) (f : FuncId) (s : Spec) : Prop where
 look : SpecLook s
 sound : ∀ slot args r (B : Bmap) (S : St) (a : Act) (w : World) (vs : List Value), s slot S.mem args = some r → C.Ok → Holds C B S a w → B slot = none → Between C S slot → (∀ p ∈ r.conds, p) →
  Rels (ownOf C.A0 B S.mem) B w args vs → CallsTo P f vs.toArray w fun e w' => ∃ v B', e = .returned v ∧ Holds C B' { S with mem := applyUpd S.mem r.upd } a w' ∧
   ARel (ownOf C.A0 B' (applyUpd S.mem r.upd)) B' w' r.val v ∧ ∀ j, j ≠ slot → B' j = B j
structure SpecOk (P : Program) (f : FuncId) (s : Spec) : Prop where
 look : ∀ slot m m' args r, s slot m args = some r → (∀ k ∈ r.reads, m' k = m k) → s slot m' args = some r
 sound : ∀ slot args r (C : Ctx) (B : Bmap) (S : St) (a : Act) (w : World) (vs : List Value), s slot S.mem args = some r → C.Ok → Holds C B S a w → B slot = none → Between C S slot → (∀ p ∈ r.conds, p) →
  Rels (ownOf C.A0 B S.mem) B w args vs → CallsTo P f vs.toArray w fun e w' => ∃ v B', e = .returned v ∧ Holds C B' { S with mem := applyUpd S.mem r.upd } a w' ∧
   ARel (ownOf C.A0 B' (applyUpd S.mem r.upd)) B' w' r.val v ∧ ∀ j, j ≠ slot → B' j = B j
theorem SpecOk.at {P : Program} {f : FuncId} {s : Spec} (h : SpecOk P f s) (C : Ctx) : SpecAt C P f s := ⟨h.look, fun slot args r B S a w vs => h.sound slot args r C B S a w vs⟩
theorem specsAt {P : Program} {Γ : FuncId → Option Spec} (h : ∀ f s, Γ f = some s → SpecOk P f s) (C : Ctx) : ∀ f s, Γ f = some s → SpecAt C P f s := fun f s hs => (h f s hs).at C
structure PureOk (P : Program) (f : FuncId) (s : List AV → Option (AV × List Bool)) : Prop where
 sound : ∀ args v conds, s args = some (v, conds) → Vse.noPtr v = true ∧
  ∀ (A : Nat → Prop) (w : World) (vs : List Value), (∀ b, A b → b < w.heap.size) → (∀ p ∈ conds, p) → Rels A (fun _ => none) w args vs →
   CallsTo P f vs.toArray w fun e w' => ∃ u, e = .returned u ∧ ARel A (fun _ => none) w' v u ∧ Below w.heap.size w w'
theorem Rels.noPtr {A : Nat → Prop} {B B' : Bmap} {w : World} {l : List AV} {cs : List Value} (h : Rels A B w l cs) (hn : noPtrs l = true) : Rels A B' w l cs :=
 ⟨h.1, fun j hj => (h.2 j hj).noPtr (noPtrs_getD hn j hj) B'⟩
theorem viewA_msl (m : Mem) (b n sz : Nat) : (∃ n' el t, m b = some (.arr n' sz el t) ∧ viewA m (.msl b n sz) = (.c (.sl n sz el), [decide (n ≤ n')])) ∨ viewA m (.msl b n sz) = (.msl b n sz, []) := by
 simp only [viewA]
 split
 ·rename_i n' sz' el t hm
  cases hb : Nat.beq sz sz' with
  | true =>
   obtain rfl : sz = sz' := by simpa using hb
   exact .inl ⟨n', el, t, hm, by simp⟩
  | false => exact .inr (by simp)
 ·exact .inr rfl
def viewed (B : Bmap) (m : Mem) (ids : List Nat) (b : Nat) : Prop := ∃ s ∈ ids, ∃ e, m s = some e ∧ B s = some b
section
variable {C : Ctx} {B : Bmap} {S : St} {a : Act} {w : World}
mutual
theorem viewA_rel (H : Holds C B S a w) {A : Nat → Prop} (hA : ∀ b, A b → ownOf C.A0 B S.mem b) : ∀ (x : AV) (v : Value), ARel (ownOf C.A0 B S.mem) B w x v → (∀ b, A b → ¬ viewed B S.mem (idsA x) b) → (∀ p ∈ (viewA S.mem x).2, p) →
   ARel A B w (viewA S.mem x).1 v
 | .msl b n sz, v, h, hv, hc => by
   rcases viewA_msl S.mem b n sz with ⟨n', el, t, hm, he⟩ | he
   · rw [he] at hc ⊢
     have hle : n ≤ n' := dec (hc _ (by simp))
     have hvs : viewSl S.mem (.msl b n sz) = some (n, sz, el, [decide (n ≤ n')], [b]) := by simp [viewSl, hm]
     obtain ⟨ad, cap, rfl, hn, hsl⟩ := viewSl_rel H h hvs (by intro p hp; simp only [List.mem_singleton] at hp; subst hp; exact decide_eq_true hle)
     cases h with
     | mnil => exact .c _ _ (.nil sz el)
     | msl _ _ _ _ β hβ _ _ _ =>
       rcases H.mem b _ hm with ⟨γ, hγ, hent⟩ | ⟨hno, _⟩
       · rw [hβ] at hγ
         cases hγ
         obtain ⟨_, _, _, hsl2⟩ := arr_rel hent
         obtain ⟨b', off', he', hb, hl, hh⟩ := hsl2 n hle
         simp only [Option.some.injEq, Addr.mk.injEq, and_true] at he'
         obtain ⟨rfl, rfl⟩ := he'
         refine .c _ _ (.sl n sz el β 0 cap (fun hAb => hv β hAb ⟨b, by simp [idsA], _, hm, hβ⟩) hb hn hl (fun k j hk hj => ⟨(hh k j hk hj).1, (hh k j hk hj).2.1⟩) fun k j hk hj => ?_)
         exact (hh k j hk hj).2.2.trans (Trans.refl _ _) (fun b _ h => hA b h)
       · rw [hβ] at hno; cases hno
   · rw [he]
     exact h.trans (Trans.refl _ _) (fun b _ h => hA b h) (fun _ _ h => h)
 | .agg l, v, h, hv, hc => by
   obtain ⟨cs, rfl, hr⟩ := h.agg_inv
   simp only [viewA] at hc ⊢
   exact ARel.agg_mk (viewL_rel H hA l cs hr (by simpa [idsA] using hv) hc)
 | .tup l, v, h, hv, hc => by
   obtain ⟨cs, rfl, hr⟩ := h.tup_inv
   simp only [viewA] at hc ⊢
   exact ARel.tup_mk (viewL_rel H hA l cs hr (by simpa [idsA] using hv) hc)
 | .c x, v, h, hv, hc => h.trans (Trans.refl _ _) (fun b _ h => hA b h) (fun _ _ h => h)
 | .ptr b off, v, h, hv, hc => h.trans (Trans.refl _ _) (fun b _ h => hA b h) (fun _ _ h => h)
 | .eptr b k j sz, v, h, hv, hc => h.trans (Trans.refl _ _) (fun b _ h => hA b h) (fun _ _ h => h)
 | .ssl b k n sz, v, h, hv, hc => h.trans (Trans.refl _ _) (fun b _ h => hA b h) (fun _ _ h => h)
 | .iptr l, v, h, hv, hc => h.trans (Trans.refl _ _) (fun b _ h => hA b h) (fun _ _ h => h)
 | .fn f l, v, h, hv, hc => h.trans (Trans.refl _ _) (fun b _ h => hA b h) (fun _ _ h => h)
 | .omap b, v, h, hv, hc => by
   have he : (∃ es, S.mem b = some (.mapE es) ∧ viewA S.mem (.omap b) = (.c (.mq es), [])) ∨ viewA S.mem (.omap b) = (.omap b, []) := by
     unfold viewA
     split
     · rename_i es hm; exact .inl ⟨es, hm, rfl⟩
     · exact .inr rfl
   rcases he with ⟨es, hm, he⟩ | he
   · rw [he]
     cases h with
     | omap _ β hβ =>
       rcases H.mem b _ hm with ⟨γ, hγ, hent⟩ | ⟨hno, _⟩
       · rw [hβ] at hγ
         cases hγ
         generalize hob : w.heap[β]? = ob at hent
         cases hent with
         | mapE _ entries clock hk hvs =>
           exact .c _ _ (.mq es β clock entries (fun hAb => hv β hAb ⟨b, by simp [idsA], _, hm, hβ⟩) (lt_of_heap hob) hob hk fun i hi => (hvs i hi).trans (Trans.refl _ _) (fun b _ h => hA b h))
       · rw [hβ] at hno; cases hno
   · rw [he]
     exact h.trans (Trans.refl _ _) (fun b _ h => hA b h) (fun _ _ h => h)
 | .any, v, h, hv, hc => .any v
theorem viewL_rel (H : Holds C B S a w) {A : Nat → Prop} (hA : ∀ b, A b → ownOf C.A0 B S.mem b) : ∀ (l : List AV) (cs : List Value), Rels (ownOf C.A0 B S.mem) B w l cs → (∀ b, A b → ¬ viewed B S.mem (idsL l) b) → (∀ p ∈ (viewL S.mem l).2, p) →
   Rels A B w (viewL S.mem l).1 cs
 | [], cs, h, hv, hc => by obtain rfl := h.nil_inv; exact .nil
 | x :: l, cs, h, hv, hc => by
   obtain ⟨v, cs', rfl, h1, h2⟩ := h.head
   simp only [viewL] at hc ⊢
   refine .cons (viewA_rel H hA x v h1 (fun b hb hw => ?_) (fun p hp => hc p (by simp [hp]))) (viewL_rel H hA l cs' h2 (fun b hb hw => ?_) (fun p hp => hc p (by simp [hp])))
   · obtain ⟨s, hs, e, h⟩ := hw
     exact hv b hb ⟨s, by simp [idsL, hs], e, h⟩
   · obtain ⟨s, hs, e, h⟩ := hw
     exact hv b hb ⟨s, by simp [idsL, hs], e, h⟩
end
end
mutual
theorem viewA_look {m m' : Mem} : ∀ (x : AV), (∀ k ∈ idsA x, m' k = m k) → viewA m' x = viewA m x
 | .msl b n sz, h => by simp only [viewA]; rw [h b (by simp [idsA])]
 | .agg l, h => by simp only [viewA]; rw [viewL_look l (by simpa [idsA] using h)]
 | .tup l, h => by simp only [viewA]; rw [viewL_look l (by simpa [idsA] using h)]
 | .c _, _ => rfl
 | .ptr _ _, _ => rfl
 | .eptr _ _ _ _, _ => rfl
 | .ssl _ _ _ _, _ => rfl
 | .iptr _, _ => rfl
 | .fn _ _, _ => rfl
 | .omap b, h => by simp only [viewA]; rw [h b (by simp [idsA])]
 | .any, _ => rfl
theorem viewL_look {m m' : Mem} : ∀ (l : List AV), (∀ k ∈ idsL l, m' k = m k) → viewL m' l = viewL m l
 | [], _ => rfl
 | x :: l, h => by
   simp only [viewL]
   rw [viewA_look x (fun k hk => h k (by simp [idsL, hk])), viewL_look l (fun k hk => h k (by simp [idsL, hk]))]
end
mutual
theorem plain_rel {A A' : Nat → Prop} {B B' : Bmap} {w w' : World} : ∀ (x : AV) (v : Value), plainA x = true → ARel A B w x v → ARel A' B' w' x v
 | .c (.v x), v, _, h => by obtain rfl := h.plain; exact ARel.lit _
 | .agg l, v, hp, h => by
   obtain ⟨cs, rfl, hr⟩ := h.agg_inv
   exact ARel.agg_mk (plain_rels l cs (by simpa [plainA] using hp) hr)
 | .tup l, v, hp, h => by
   obtain ⟨cs, rfl, hr⟩ := h.tup_inv
   exact ARel.tup_mk (plain_rels l cs (by simpa [plainA] using hp) hr)
 | .c (.sl _ _ _), _, h, _ => by simp [plainA] at h
 | .ptr _ _, _, h, _ => by simp [plainA] at h
 | .eptr _ _ _ _, _, h, _ => by simp [plainA] at h
 | .msl _ _ _, _, h, _ => by simp [plainA] at h
 | .ssl _ _ _ _, _, h, _ => by simp [plainA] at h
 | .iptr _, _, h, _ => by simp [plainA] at h
 | .fn _ _, _, h, _ => by simp [plainA] at h
 | .any, _, h, _ => by simp [plainA] at h
theorem plain_rels {A A' : Nat → Prop} {B B' : Bmap} {w w' : World} : ∀ (l : List AV) (cs : List Value), plainL l = true → Rels A B w l cs → Rels A' B' w' l cs
 | [], cs, _, h => by obtain rfl := h.nil_inv; exact .nil
 | x :: l, cs, hp, h => by
   obtain ⟨v, cs', rfl, h1, h2⟩ := h.head
   simp only [plainL, Bool.and_eq_true] at hp
   exact .cons (plain_rel x v hp.1 h1) (plain_rels l cs' hp.2 h2)
end
theorem Holds.drops {C : Ctx} {B : Bmap} {a : Act} {w : World} : ∀ (ids : List Nat) (S : St), Holds C B S a w → Holds C B { S with mem := applyUpd S.mem (ids.map fun b => (b, none)) } a w
 | [], S, H => H
 | b :: ids, S, H => Holds.drops ids _ (H.drop b)
theorem drops_get (ids : List Nat) : ∀ (m : Mem) (s : Nat) (e : Ent), (applyUpd m (ids.map fun b => (b, none))) s = some e → s ∉ ids ∧ m s = some e := by
 induction ids with
 | nil => intro m s e h; exact ⟨by simp, h⟩
 | cons b ids ih =>
  intro m s e h
  simp only [List.map_cons, applyUpd] at h
  obtain ⟨h1, h2⟩ := ih _ s e h
  rw [mem_set_eq] at h2
  by_cases hs : s = b
  ·simp [hs] at h2
  ·simp only [hs, if_false] at h2
   exact ⟨by simp [hs, h1], h2⟩
theorem applyUpd_app (m : Mem) : ∀ (l k : List (Nat × Option Ent)), applyUpd m (l ++ k) = applyUpd (applyUpd m l) k
 | [], k => rfl
 | (b, e) :: l, k => applyUpd_app (m.set b e) l k
theorem buildSliceB_case {P : Program} {C : Ctx} {B : Bmap} {S : St} {a : Act} {w : World} {o : Oper} {r : Eff} {slot : Nat} {K : Act → World → Prop} {Q : Exit → Act → World → Prop}
  (H : Holds C B S a w) (hC : C.Ok) (hs : B slot = none) (hnx : Between C S slot) {t : TypeId} {n : Nat} {ps : Array (Nat × Operand)} (hop : o.op = .buildSlice t n ps)
  (h : buildSliceB P slot S.mem t n (ps.toList.map fun (i, x) => (i, evalA S.tm x)) = some r) (hc : ∀ p ∈ r.conds, p) (hK : Cont C B slot (S.apply o.dst r) K) : o.wpV P a w K Q := by
 unfold buildSliceB at h
 generalize hxs : (ps.toList.map fun (i, x) => (i, evalA S.tm x)) = xs at h
 cases hany : (xs.any fun p => !(idsA p.2).isEmpty) with
 | false =>
  rw [hany] at h
  simp only [cond_false] at h
  rw [← hxs] at h
  exact buildSlice_case H hC hs hnx hop h hK
 | true =>
  rw [hany] at h
  simp only [cond_true, Option.map_eq_some_iff] at h
  obtain ⟨r0, h0, rfl⟩ := h
  generalize hids : (xs.map fun p => idsA p.2).flatten = ids at hK
  have hidsm : ∀ p ∈ xs, ∀ x ∈ idsA p.2, x ∈ ids := by
   intro p hp x hx
   rw [← hids]
   exact List.mem_flatten.2 ⟨idsA p.2, List.mem_map.2 ⟨p, hp, rfl⟩, hx⟩
  have H' := Holds.drops ids S H
  refine buildSlice_gen H' hC hs hnx hop (xs.map fun p => (p.1, (viewA S.mem p.2).1)) (by rw [← hxs]; simp) (fun j hj => ?_) h0 ?_
  ·have hjx : j < xs.length := by simpa using hj
   have hj' : j < ps.toList.length := by rw [← hxs] at hjx; simpa using hjx
   have hxj : xs[j] = (ps.toList[j].1, evalA S.tm ps.toList[j].2) := by
    have : xs[j]? = (ps.toList.map fun (i, x) => (i, evalA S.tm x))[j]? := by rw [hxs]
    rw [List.getElem?_eq_getElem hjx, List.getElem?_map, List.getElem?_eq_getElem hj'] at this
    simpa using this
   simp only [List.getD_eq_getElem?_getD, List.getElem?_map, List.getElem?_eq_getElem hj', List.getElem?_eq_getElem hjx, Option.map_some, Option.getD_some]
   rw [hxj]
   refine ⟨rfl, viewA_rel H (fun b hb => ?_) _ _ (eval_rel H _) (fun b hb => ?_) (fun p hp => ?_)⟩
   ·rcases hb with hb | ⟨t, e, h1, h2⟩
    ·exact .inl hb
    ·obtain ⟨_, h4⟩ := drops_get ids S.mem t e h1
     exact .inr ⟨t, e, h4, h2⟩
   ·rintro ⟨t, ht, e, h1, h2⟩
    rcases hb with hb | ⟨t', e', h3, h4⟩
    ·rcases (H.old t b h2).1 with h3 | h3
     ·exact absurd (hC.a0 b hb) (Nat.not_lt.2 h3)
     ·exact hC.disj b hb h3
    ·obtain ⟨h5, h6⟩ := drops_get ids S.mem t' e' h3
     refine h5 (H.inj t' t e' e b h6 h1 h4 h2 ▸ hidsm xs[j] (List.getElem_mem hjx) t ?_)
     rw [hxj]
     exact ht
   ·refine hc p ?_
    simp only [List.mem_append]
    refine .inl (List.mem_flatten.2 ⟨(viewA S.mem xs[j].2).2, List.mem_map.2 ⟨xs[j], List.getElem_mem hjx, rfl⟩, ?_⟩)
    rw [hxj]
    exact hp
  ·have : (St.apply { S with mem := applyUpd S.mem (ids.map fun b => (b, none)) } o.dst r0) = S.apply o.dst { r0 with conds := (xs.map fun p => (viewA S.mem p.2).2).flatten ++ r0.conds, upd := (ids.map fun b => (b, none)) ++ r0.upd, reads := ids } := by
    simp only [St.apply, applyUpd_app]
   rw [this]
   exact hK
theorem buildSliceB_congr {P : Program} {slot : Nat} {m m' : Mem} {t : TypeId} {n : Nat} {xs : List (Nat × AV)} {r : Eff} (h : buildSliceB P slot m t n xs = some r) (hm : ∀ s ∈ r.reads, m' s = m s) : buildSliceB P slot m' t n xs = some r := by
 unfold buildSliceB at h ⊢
 cases hany : (xs.any fun p => !(idsA p.2).isEmpty) with
 | false =>
   rw [hany] at h
   exact h
 | true =>
   rw [hany] at h
   simp only [cond_true] at h ⊢
   have hl : ∀ p ∈ xs, viewA m' p.2 = viewA m p.2 := by
     intro p hp
     refine viewA_look p.2 fun k hk => hm k ?_
     obtain ⟨r0, _, rfl⟩ := Option.map_eq_some_iff.1 h
     exact List.mem_flatten.2 ⟨idsA p.2, List.mem_map.2 ⟨p, hp, rfl⟩, hk⟩
   have e1 : (xs.map fun p => (p.1, (viewA m' p.2).1)) = xs.map fun p => (p.1, (viewA m p.2).1) := List.map_congr_left fun p hp => by rw [hl p hp]
   have e2 : (xs.map fun p => (viewA m' p.2).2) = xs.map fun p => (viewA m p.2).2 := List.map_congr_left fun p hp => by rw [hl p hp]
   rw [e1, e2]
   exact h
theorem PureOk.spec {P : Program} {f : FuncId} {s : List AV → Option (AV × List Bool)} (h : PureOk P f s) : SpecOk P f (pureSpec s) where
 look := by
  intro slot m m' args r hr hk
  unfold pureSpec at hr ⊢
  cases hn : noPtrs (viewL m args).1 with
  | false => simp [hn] at hr
  | true =>
   have hids : r.reads = idsL args := by
    simp only [hn, cond_true] at hr
    cases hsa : s (viewL m args).1 with
    | none => simp [hsa] at hr
    | some p => simp only [hsa, Option.some.injEq] at hr; rw [← hr]
   rw [hids] at hk
   rw [viewL_look args hk]
   exact hr
 sound := by
  intro slot args r C B S a w vs hr hC H hs hnx hc hv
  unfold pureSpec at hr
  cases hn : noPtrs (viewL S.mem args).1 with
  | false => simp [hn] at hr
  | true =>
   simp only [hn, cond_true] at hr
   cases hsa : s (viewL S.mem args).1 with
   | none => simp [hsa] at hr
   | some p =>
    obtain ⟨v, conds⟩ := p
    simp only [hsa, Option.some.injEq] at hr
    subst hr
    obtain ⟨hnp, hcall⟩ := h.sound (viewL S.mem args).1 v conds hsa
    let A : Nat → Prop := fun b => ownOf C.A0 B S.mem b ∧ ¬ viewed B S.mem (idsL args) b
    have hargs : Rels A (fun _ => none) w (viewL S.mem args).1 vs :=
     (viewL_rel H (A := A) (fun b h => h.1) args vs hv (fun b h => h.2) (fun p hp => hc p (by simp [hp]))).noPtr hn
    refine (hcall A w vs (fun b hb => own_lt hC H b hb.1) (fun p hp => hc p (by simp [hp])) hargs).mono ?_
    rintro e w' ⟨u, rfl, hrel, hb⟩
    have H' := H.move hb
    cases hpl : plainA v with
    | true => exact ⟨u, B, rfl, H', plain_rel v u hpl hrel, fun _ _ => rfl⟩
    | false =>
     refine ⟨u, B, rfl, Holds.drops (idsL args) S H', ?_, fun _ _ => rfl⟩
     refine (hrel.noPtr hnp B).trans (Trans.refl _ _) (fun b _ hb => ?_) (fun _ _ h => h)
     rcases hb with hb | ⟨t, e, h1, h2⟩
     ·refine ⟨.inl hb, ?_⟩
      rintro ⟨t, _, e, _, h2⟩
      rcases (H.old t b h2).1 with h3 | h3
      ·exact absurd (hC.a0 b hb) (Nat.not_lt.2 h3)
      ·exact hC.disj b hb h3
     ·simp only [cond_false] at h1
      obtain ⟨h3, h4⟩ := drops_get (idsL args) S.mem t e h1
      refine ⟨.inr ⟨t, e, h4, h2⟩, ?_⟩
      rintro ⟨t', h5, e', h6, h7⟩
      exact h3 (H.inj t t' e e' b h4 h6 h2 h7 ▸ h5)
section
variable {P : Program} {Γ : FuncId → Option Spec} {C : Ctx} {B : Bmap} {S : St} {a : Act} {w : World} {o : Oper} {r : Eff} {slot : Nat}
  {K : Act → World → Prop} {Q : Exit → Act → World → Prop}
theorem apply_pure (S : St) (d : Option Tmp) (r : Eff) (h : r.upd = []) : S.apply d r = { S with tm := putTm S.tm d r.val } := by
 unfold St.apply; rw [h]; rfl
theorem pure_case (H : Holds C B S a w) (hK : Cont C B slot (S.apply o.dst r) K) {v : Value} (hrun : (execOp a.eval o).run P w = .ok (.value v) w)
  (hrel : ARel (ownOf C.A0 B S.mem) B w r.val v) (hu : r.upd = []) : o.wpV P a w K Q := by
 unfold Oper.wpV
 rw [hrun]
 refine hK _ _ B ?_ (fun _ _ => rfl)
 rw [apply_pure S o.dst r hu]
 exact H.put o.dst hrel
theorem ent_case (H : Holds C B S a w) (hs : B slot = none) (hnx : Between C S slot) (hC : C.Ok) (hK : Cont C B slot (S.apply o.dst r) K) {l : List AV} {t : TypeId} (hr : newEnt slot t l = some r)
   {cs : List Value} (hl : Rels (ownOf C.A0 B S.mem) B w l cs)
   (hrun : (execOp a.eval o).run P w = .ok (.value (.pointer (some ⟨w.heap.size, 0, none⟩))) (w.alloc (.cells cs.toArray t))) : o.wpV P a w K Q := by
 unfold newEnt at hr
 cases hr
 unfold Oper.wpV
 rw [hrun]
 have h1 := H.alloc hC hs hnx (e := .cells l t) (ob := .cells cs.toArray t) (.cells l t cs.toArray (by simpa using hl.1) fun j hj => by simpa [Array.getD_eq_getD_getElem?, List.getD_eq_getElem?_getD] using hl.2 j hj)
 have h2 := h1.put (x := .ptr slot 0) (v := .pointer (some ⟨w.heap.size, 0, none⟩)) o.dst (.ptr slot 0 w.heap.size (by simp [setB]))
 exact hK _ _ _ h2 (fun j hj => by simp [setB, hj])
theorem askΓ_some {f : FuncId} {s : Spec} (h : askΓ Γ f = some s) : f ≠ yieldNo ∧ Γ f = some s := by
 unfold askΓ at h
 cases hb : Nat.beq f yieldNo with
 | true => rw [hb] at h; cases h
 | false =>
   rw [hb] at h
   exact ⟨fun he => by rw [he] at hb; simp [Nat.beq_refl] at hb, h⟩
theorem call_case (hΓ : ∀ f s, Γ f = some s → SpecAt C P f s) (H : Holds C B S a w) (hs : B slot = none) (hnx : Between C S slot) (hC : C.Ok) (hK : Cont C B slot (S.apply o.dst r) K) (hc : ∀ p ∈ r.conds, p)
  {f : FuncId} {s : Spec} (hf : askΓ Γ f = some s) {args : List AV} (hsp : s slot S.mem args = some r) {vs : List Value} (hv : Rels (ownOf C.A0 B S.mem) B w args vs)
  (hrun : (execOp a.eval o).run P w = (callFunc f vs.toArray).run P w) : o.wpV P a w K Q := by
 unfold Oper.wpV
 rw [hrun]
 obtain ⟨hne, hf⟩ := askΓ_some hf
 have h := (hΓ f s hf).sound slot args r B S a w vs hsp hC H hs hnx hc hv
 rcases h with ⟨_, h⟩ | ⟨hy, _⟩
 ·rcases h with ⟨h1, h2⟩ | ⟨v, w', h1, v', B', h2, H', hrel, hB⟩
  ·rw [h1]
   refine h2.mono ?_
   rintro e w' ⟨v, B', rfl, H', hrel, hB⟩
   exact hK _ _ B' (H'.put o.dst hrel) hB
  ·rw [h1]
   cases h2
   exact hK _ _ B' (H'.put o.dst hrel) hB
 ·exact absurd hy hne
theorem yield_case (hΓ : ∀ f s, Γ f = some s → SpecAt C P f s) (H : Holds C B S a w) (hs : B slot = none) (hnx : Between C S slot) (hC : C.Ok) (hK : Cont C B slot (S.apply o.dst r) K) (hc : ∀ p ∈ r.conds, p)
   {s : Spec} (hf : Γ yieldNo = some s) (hno : (P.funcs[yieldNo]?).isNone = true) {l : Nat} {args : List AV} (hsp : s slot S.mem (.c (.v (yieldV l)) :: args) = some r) {vs : List Value} (hv : Rels (ownOf C.A0 B S.mem) B w args vs)
   (hrun : (execOp a.eval o).run P w = (Instr.yield l vs.toArray).run P w) : o.wpV P a w K Q := by
 unfold Oper.wpV
 rw [hrun]
 have h := (hΓ yieldNo s hf).sound slot _ r B S a w (yieldV l :: vs) hsp hC H hs hnx hc (hv.cons (ARel.lit _))
 rcases h with ⟨h, _⟩ | ⟨_, l', rest, he, fn, tmps, asL, bo, h1, h2⟩
 · cases hq : P.funcs[yieldNo]? with
   | none => rw [hq] at h; cases h
   | some x => rw [hq] at hno; cases hno
 · have he' : yieldV l :: vs = yieldV l' :: rest.toList := by have := congrArg Array.toList he; simpa using this
   injection he' with e1 e2
   have hl : l = l' := by unfold yieldV at e1; injection e1 with e1; injection e1
   subst hl
   have hr : rest = vs.toArray := by rw [e2]
   subst hr
   rw [h1]
   refine RoundIn.mono h2 ?_
   rintro e w' ⟨v, B', rfl, H', hrel, hB⟩
   exact hK _ _ B' (H'.put o.dst hrel) hB
theorem map_toArray' (f : Operand → Value) (c : Array Operand) : (c.toList.map f).toArray = c.map f := by
 apply Array.ext'; simp
theorem getD_map_default {l : List (Nat × Operand)} {f : Nat × Operand → Nat × AV} (j : Nat) (hj : j < l.length) : (l.map f).getD j (0, .any) = f l[j] := by
 simp [List.getD_eq_getElem?_getD, hj]
theorem findNow_mp (n : Int) : ∀ (es : List (Int × Value)) (entries : List MapEntry) (i : Nat), entries.map (fun e => (e.key, e.val)) = es.map (fun p => (Value.int .i64 p.1, p.2)) →
   ∃ r, Instr.findNow (.int .i64) (.int .i64 n) entries i = some r ∧ r.map (·.2) = findMp n es
 | [], entries, i, h => by
   obtain rfl : entries = [] := by simpa using h
   exact ⟨none, rfl, rfl⟩
 | p :: es, [], i, h => by simp at h
 | p :: es, e :: entries, i, h => by
   simp only [List.map_cons, List.cons.injEq, Prod.mk.injEq] at h
   obtain ⟨⟨hk, hv⟩, h⟩ := h
   simp only [Instr.findNow, hk, Instr.sameNow, if_true, findMp]
   by_cases hn : n = p.1
   · subst hn
     exact ⟨some (i, e.val), by simp, by simp [hv]⟩
   · have hb : (n == p.1) = false := by simpa using hn
     obtain ⟨r, h1, h2⟩ := findNow_mp n es entries (i + 1) h
     exact ⟨r, by simp [hb, h1], by simp [hn, h2]⟩
theorem lookup_case (H : Holds C B S a w) {t : TypeId} {x y : Operand} {ok : Bool} (hop : o.op = .lookup t x y ok)
  (h : lookupA P t (evalA S.tm x) (evalA S.tm y) ok = some r) (hK : Cont C B slot (S.apply o.dst r) K) : o.wpV P a w K Q := by
 have hx := eval_rel H x
 have hy := eval_rel H y
 unfold lookupA at h
 split at h
 ·rename_i k e es n hu hxe hye
  rw [hxe] at hx
  rw [hye] at hy
  have hyv := hy.plain
  split at h
  ·rename_i z hk hz
   simp only [Option.some.injEq] at h
   subst h
   generalize hvx : a.eval x = vx at hx
   cases hx with
   | c _ _ hi =>
    cases hi with
    | mp _ b clock entries hA hb hh he =>
     obtain ⟨q, h1, h2⟩ := findNow_mp n es entries.toList 0 he
     have hg : (getObj b).run P w = .ok (.map entries clock) w := by simp [getObj, Sem.run, hh]
     have hchk : ∀ em, (Instr.checkKey em 10000 k (.int .i64 n)).run P w = .ok () w := by
      intro em
      have hc : ∀ m, (Instr.checkKey em (m + 1) k (.int .i64 n)).run P w = .ok () w := by
       intro m
       rw [Instr.checkKey, Sem.run_bind, run_underlying hk, Result.andThen_ok]
       rfl
      exact hc 9999
     have hfind : (Instr.findKey k (.int .i64 n) entries.toList).run P w = .ok q w := by
      simp only [Instr.findKey, Sem.run_bind, run_underlying hk, Result.andThen_ok, h1, Sem.run_pure]
     refine pure_case H hK (v := if ok then .tuple #[(match findMp n es with | some v => v | none => z), .bool (findMp n es).isSome] else (match findMp n es with | some v => v | none => z)) ?_ ?_ rfl
     ·cases q with
      | none =>
       simp only [Option.map_none] at h2
       simp only [execOp, hop, Instr.lookup, hyv, hvx, Sem.run_bind, run_underlying hu, Result.andThen_ok, hg, Sem.run_pure, hchk, hfind, run_zero hz, ← h2]
       cases ok <;> rfl
      | some q =>
       simp only [Option.map_some] at h2
       simp only [execOp, hop, Instr.lookup, hyv, hvx, Sem.run_bind, run_underlying hu, Result.andThen_ok, hg, Sem.run_pure, hchk, hfind, ← h2]
       cases ok <;> rfl
     ·cases ok with
      | true => exact ARel.tup_mk (cs := [(match findMp n es with | some v => v | none => z), .bool (findMp n es).isSome]) (.cons (rel_ofValue _) (.cons (ARel.lit _) .nil))
      | false => exact rel_ofValue _
  ·cases h
 ·cases h
theorem methodP_inv {t : TypeId} {name : String} {f : FuncId} (h : methodP P t name = some f) : ∃ i fs m, P.info? t = some i ∧ P.underlying t = some (.struct fs) ∧ i.methods.find? (·.name == name) = some m ∧ m.func = some (f, false) ∧ m.path = #[] := by
 unfold methodP at h
 split at h
 · rename_i i fs hi hu
   split at h
   · rename_i m hm
     split at h
     · rename_i g hg
       cases hp : m.path.isEmpty with
       | false => simp [hp] at h
       | true =>
         simp only [hp, cond_true, Option.some.injEq] at h
         subst h
         exact ⟨i, fs, m, hi, hu, hm, hg, by simpa using hp⟩
     · cases h
   · cases h
 · cases h
theorem run_methodP {t : TypeId} {name : String} {f : FuncId} (h : methodP P t name = some f) (w : World) (n : Nat) (u : Value) : (method (n + 1) t u name).run P w = .ok (f, u) w := by
 obtain ⟨i, fs, m, hi, hu, hm, hf, hp⟩ := methodP_inv h
 simp [method, Sem.run_bind, typeInfo, hi, hm, hp, follow, hf, receiverAt, run_underlying hu, Place.get]
theorem run_nilAhead {t : TypeId} {name : String} {f : FuncId} (h : methodP P t name = some f) (w : World) (n : Nat) (u : Value) : (nilAhead (n + 1) t u name).run P w = .ok (some false) w := by
 obtain ⟨i, fs, m, hi, hu, hm, hf, hp⟩ := methodP_inv h
 simp [nilAhead, Sem.run_bind, typeInfo, hi, hm, hp, followBlind, hf, run_underlying hu]
theorem store_case {K : Act → World → Prop} {Q : Exit → Act → World → Prop} (hC : C.Ok) (H : Holds C B S a w) {t : TypeId} {x y : Operand} (hop : o.op = .store t x y)
  (h : storeA P S.mem t (evalA S.tm x) (evalA S.tm y) = some r) (hc : ∀ p ∈ r.conds, p) (hK : Cont C B slot (S.apply o.dst r) K) : o.wpV P a w K Q := by
 unfold storeA at h
 split at h
 ·rename_i b k j sz c n s hx hy
  split at h
  ·rename_i n' s' el ty hm
   cases hb : (Nat.beq s s' && !Nat.beq b c) with
   | false => rw [hb] at h; cases h
   | true =>
    rw [hb, cond_true] at h
    obtain ⟨r0, h0, rfl⟩ := Option.map_eq_some_iff.1 h
    simp only [Bool.and_eq_true] at hb
    obtain rfl : s = s' := by simpa using hb.1
    have hv := eval_rel H y
    rw [hy] at hv
    have e1 : viewA S.mem (.msl c n s) = (.c (.sl n s el), [decide (n ≤ n')]) := by simp [viewA, hm]
    have hA : ∀ i, ownOf C.A0 B (S.mem.set c none) i → ownOf C.A0 B S.mem i := by
     intro i h
     rcases h with h | ⟨j, e2, h1, h2⟩
     ·exact .inl h
     ·rw [mem_set_eq] at h1
      by_cases hj : j = c
      ·simp [hj] at h1
      ·simp only [hj, if_false] at h1; exact .inr ⟨j, e2, h1, h2⟩
    have hy' := viewA_rel H hA (.msl c n s) (a.eval y) hv (fun i hi => by
     rintro ⟨t', ht, e, h1, h2⟩
     simp only [idsA, List.mem_singleton] at ht
     subst ht
     rcases hi with hi | ⟨q, e', h3, h4⟩
     ·rcases (H.old t' i h2).1 with h3 | h3
      ·exact absurd (hC.a0 i hi) (Nat.not_lt.2 h3)
      ·exact hC.disj i hi h3
     ·rw [mem_set_eq] at h3
      by_cases hq : q = t'
      ·simp [hq] at h3
      ·simp only [hq, if_false] at h3
       exact hq (H.inj q t' e' e i h3 h1 h4 h2)) (by
     rw [e1]
     intro p hp
     simp only [List.mem_singleton] at hp
     subst hp
     exact hc _ (by simp))
    rw [e1] at hy'
    exact store_gen (S := { S with mem := S.mem.set c none }) (r := r0) (H.drop c) hop hy' (by rw [hx]; exact h0) (fun p hp => hc p (by simp [hp])) hK
  ·cases h
 ·exact store_gen H hop (eval_rel H y) h hc hK
theorem valOp_sound (hΓ : ∀ f s, Γ f = some s → SpecAt C P f s) (h : valOp P Γ slot o S.tm S.mem = some r) (hc : ∀ p ∈ r.conds, p) (H : Holds C B S a w)
   (hs : B slot = none) (hnx : Between C S slot) (hC : C.Ok) (hK : Cont C B slot (S.apply o.dst r) K) : o.wpV P a w K Q := by
 unfold valOp at h
 cases hop : o.op <;> simp only [hop] at h <;> try (cases h; done)
 case move x =>
   cases h
   exact pure_case H hK (v := a.eval x) (by simp [execOp, hop]) (eval_rel H x) rfl
 case assign x =>
   cases h
   exact pure_case H hK (v := a.eval x) (by simp [execOp, hop]) (eval_rel H x) rfl
 case pick c x y =>
   have hcr := eval_rel H c
   have hx := eval_rel H x
   have hy := eval_rel H y
   split at h
   · rename_i t hct
     rw [hct] at hcr
     have hcv := hcr.plain
     have hrun : (execOp a.eval o).run P w = .ok (.value (if t then a.eval x else a.eval y)) w := by
       simp [execOp, hop, hcv, asBool]
     split at h
     · rename_i bx by' hbx hby
       cases h
       rw [hbx] at hx
       rw [hby] at hy
       refine pure_case H hK hrun ?_ rfl
       rw [hx.plain, hy.plain]
       cases t <;> exact ARel.lit _
     · cases h
       refine pure_case H hK hrun ?_ rfl
       cases t
       · exact hy
       · exact hx
   · cases h
 case alloc t =>
   split at h
   · rename_i z hz
     split at h
     · rename_i n e hu
       split at h
       · rename_i p ze hp hze
         cases hsm : (Nat.ble z.cells.size 16 && !byteP P e) with
         | true =>
           rw [hsm] at h
           refine ent_case H hs hnx hC hK h (rels_ofCells z.cells.toList) ?_
           simp [execOp, hop, Instr.alloc, run_zero hz, newVar, newRow]
         | false =>
         rw [hsm] at h
         simp only [cond_false] at h
         cases hzc : Nat.beq ze.cells.size (p + 1) with
         | false => rw [hzc] at h; cases h
         | true =>
           rw [hzc] at h
           exact allocArr_case H hC hs hnx hop hz (by simpa using hzc) h hK
       · cases h
     · refine ent_case H hs hnx hC hK h (rels_ofCells z.cells.toList) ?_
       simp [execOp, hop, Instr.alloc, run_zero hz, newVar, newRow]
   · cases h
 case box t x =>
   cases hok : (cellsA (evalA S.tm x)).all cellOk with
   | false => simp [hok] at h
   | true =>
     simp only [hok, cond_true] at h
     refine ent_case H hs hnx hC hK h (rel_cells (eval_rel H x) (.inl hok)) ?_
     simp [execOp, hop, Instr.box, newVar, newRow]
 case build t ps =>
   obtain ⟨hu, v, hrun, hrel⟩ := buildA_sound (A := ownOf C.A0 B S.mem) (B := B) (w := w) h (vparts := ps.map fun (i, x) => (i, a.eval x)) (by simp) (fun j hj => by
     have hj' : j < ps.toList.length := by simpa using hj
     rw [getD_map_default j hj']
     have : (ps.map fun (i, x) => (i, a.eval x)).toList.getD j (0, undef) = (ps.toList[j].1, a.eval ps.toList[j].2) := by
       simp [List.getD_eq_getElem?_getD, show j < ps.size by simpa using hj']
     rw [this]
     exact ⟨rfl, eval_rel H _⟩)
   exact pure_case H hK (v := v) (by simp [execOp, hop, hrun]) hrel hu
 case makeMap t x => exact makeMap_case hC H hs hnx hop h hK
 case mapUpdate t x k v => exact mapUpdate_case H hop h hc hK
 case range t x => exact range_case hC H hs hnx hop h hK
 case entry x => exact entry_case H hop h hK
 case load t x => exact load_case H hop h hc hK
 case store t x y => exact store_case hC H hop h hc hK
 case nilCheck x =>
   have hx := eval_rel H x
   split at h
   · rename_i b off hptr
     cases h
     rw [hptr] at hx
     obtain ⟨β, hβ, hxe⟩ := hx.ptr_inv
     exact pure_case H hK (v := .pointer (some ⟨β, off, none⟩)) (by simp [execOp, hop, hxe]) (.ptr _ _ _ hβ) rfl
   · rename_i b k j sz hptr
     cases h
     rw [hptr] at hx
     generalize hv : a.eval x = v at hx
     cases hx with
     | eptr _ _ _ _ β hβ => exact pure_case H hK (v := .pointer (some ⟨β, k * sz + j, none⟩)) (by simp [execOp, hop, hv]) (.eptr _ _ _ _ _ hβ) rfl
   · rename_i l hptr
     cases h
     rw [hptr] at hx
     generalize hv : a.eval x = v at hx
     cases hx with
     | iptr _ b off h1 h2 h3 => exact pure_case H hK (v := .pointer (some ⟨b, off, none⟩)) (by simp [execOp, hop, hv]) (.iptr _ _ _ h1 h2 h3) rfl
   · rename_i name first cap hfe
     rw [hfe] at hx
     have hv := hx.plain
     split at h
     · rename_i t u hfl
       have hf1 : first = #[.iface t u] := Array.ext' (by simpa using hfl)
       subst hf1
       cases hm : methodP P t name with
       | none => simp [hm] at h
       | some f =>
         simp only [hm, Option.isSome_some, cond_true, Option.some.injEq] at h
         subst h
         refine pure_case H hK (v := .func (.method name) #[.iface t u] cap) ?_ (ARel.lit _) rfl
         have hna := run_nilAhead hm w (P.types.size + 99) u
         rw [show P.types.size + 99 + 1 = P.types.size + Made.depth from rfl] at hna
         simp [execOp, hop, hv, Sem.run_bind, hna]
     · cases h
   · cases h
 case binOp op t x y yt =>
   obtain ⟨hu, v, hrun, hrel⟩ := binA_sound h hc (eval_rel H x) (eval_rel H y) x y
   exact pure_case H hK (v := v) (by
     simp only [execOp, hop, Sem.run_bind] at hrun ⊢
     rw [hrun]; rfl) hrel hu
 case unOp op t x =>
   obtain ⟨hu, v, hrun, hrel⟩ := unA_sound (P := P) h (eval_rel H x)
   exact pure_case H hK (v := v) (by simp [execOp, hop, hrun]) hrel hu
 case convert s d x => exact convMA_case H hop h hc hK
 case makeSlice t x y => exact makeSlice_case hC H hs hnx hop h hc hK
 case buildSlice t n ps => exact buildSliceB_case H hC hs hnx hop h hc hK
 case indexAddr t x y => exact indexAddr_case H hop h hc hK
 case slice t x lo hi mx =>
   cases hmx : mx with
   | some m => rw [hmx] at h; simp at h
   | none =>
     rw [hmx] at h
     exact slice_case H hC hop hmx (by simpa using h) hc hK
 case makeFunc fn first cap =>
   split at h
   · rename_i f
     cases hf : first.isEmpty with
     | false =>
       simp only [hf, cond_false] at h
       split at h
       · rename_i hfm hcm
         cases h
         have hc0 : cap = #[] := by simpa using hcm
         subst hc0
         have hl1 : first.toList.length = 1 := by have := congrArg List.length hfm; simpa using this
         obtain ⟨z, hz⟩ : ∃ z, first = #[z] := by
           match first, hl1 with
           | ⟨[z]⟩, _ => exact ⟨z, rfl⟩
         subst hz
         have hze : evalA S.tm z = .agg [] := by simpa using hfm
         have hzr := eval_rel H z
         rw [hze] at hzr
         obtain ⟨cs, hzv, hcs⟩ := hzr.agg_inv
         have hcs0 : cs = [] := hcs.nil_inv
         subst hcs0
         exact pure_case H hK (v := .func (.func f) #[.agg #[]] #[]) (by simp [execOp, hop, Instr.makeFunc, hzv]) (ARel.lit _) rfl
       · cases h
     | true =>
       simp only [hf, cond_true] at h
       cases h
       have hfe : first = #[] := by simpa using hf
       subst hfe
       have hcap := evals_rel H cap.toList
       exact pure_case H hK (v := .func (.func f) #[] (cap.toList.map a.eval).toArray) (by simp [execOp, hop, Instr.makeFunc, map_toArray']) (ARel.fn_mk hcap) rfl
   · rename_i name
     split at h
     · rename_i t u hfm hcm
       cases h
       have hc0 : cap = #[] := by simpa using hcm
       subst hc0
       have hl1 : first.toList.length = 1 := by have := congrArg List.length hfm; simpa using this
       obtain ⟨z, hz⟩ : ∃ z, first = #[z] := by
         match first, hl1 with
         | ⟨[z]⟩, _ => exact ⟨z, rfl⟩
       subst hz
       have hze : evalA S.tm z = .c (.v (.iface t u)) := by simpa using hfm
       have hzr := eval_rel H z
       rw [hze] at hzr
       have hzv := hzr.plain
       exact pure_case H hK (v := .func (.method name) #[.iface t u] #[]) (by simp [execOp, hop, Instr.makeFunc, hzv]) (ARel.lit _) rfl
     · cases h
   · cases h
 case makeInterface t x =>
   have hx := eval_rel H x
   split at h
   · rename_i fs hu hxe
     cases h
     rw [hxe] at hx
     obtain ⟨cs, hxv, hcs⟩ := hx.agg_inv
     have hcs0 : cs = [] := hcs.nil_inv
     subst hcs0
     exact pure_case H hK (v := .iface t (.agg #[])) (by simp [execOp, hop, Instr.makeInterface, Sem.run_bind, run_underlying hu, hxv]) (ARel.lit _) rfl
   · cases h
 case fieldAddr t x f => exact fieldAddr_case H hop h hK
 case field t x f =>
   have hx := eval_rel H x
   unfold fieldA at h
   split at h
   · rename_i fs l hu hagg
     rw [hagg] at hx
     obtain ⟨cs, hxe, hrels⟩ := hx.agg_inv
     split at h
     · rename_i fl hfl
       simp only [Option.map_eq_some_iff] at h
       obtain ⟨y, hpart, rfl⟩ := h
       obtain ⟨v, hrun, hrel⟩ := run_part (P := P) hrels hpart
       exact pure_case H hK (v := v) (by simp [execOp, hop, Instr.field, run_underlying hu, hfl, hxe, asAgg, hrun]) hrel rfl
     · cases h
   · cases h
 case index t x i =>
   have hx := eval_rel H x
   have hi := eval_rel H i
   unfold indexA at h
   split at h
   · rename_i s k n hu hxa hia
     rw [hxa] at hx
     rw [hia] at hi
     cases h
     have hxe := hx.plain
     have hie := hi.plain
     have hlt := dec (hc (decide (0 ≤ n ∧ n < (s.data.toList.length : Int))) (by simp))
     refine pure_case H hK (v := .int .u8 (s.data.toList.getD n.toNat 0).toNat) ?_ (ARel.lit _) rfl
     have hn : n.toNat < s.size := by have h1 := hlt.2; simp only [Array.length_toList] at h1; show n.toNat < s.data.size; omega
     have hget : s[n.toNat]? = some (s.data.toList.getD n.toNat 0) := by
       rw [getElem?_pos s n.toNat hn]
       congr 1
       have hn' : n.toNat < s.data.size := hn
       rw [List.getD_eq_getElem?_getD, Array.getElem?_toList, getElem?_pos s.data _ hn']
       rfl
     simp [execOp, hop, Instr.index, hie, asIntOf, run_underlying hu, hxe, hlt.1, hget]
   · rename_i n e l k i' hu hxa hia
     rw [hxa] at hx
     rw [hia] at hi
     obtain ⟨cs, hxe, hrels⟩ := hx.agg_inv
     have hie := hi.plain
     split at h
     · rename_i sz hsz
       simp only [Option.map_eq_some_iff] at h
       obtain ⟨y, hpart, rfl⟩ := h
       obtain ⟨v, hrun, hrel⟩ := run_part (P := P) hrels hpart
       have hlt := dec (hc (decide (0 ≤ i' ∧ i' < (n : Int))) (by simp))
       refine pure_case H hK (v := v) ?_ hrel rfl
       simp [execOp, hop, Instr.index, hie, asIntOf, run_underlying hu, hxe, hlt.1, hlt.2, run_size hsz, hrun]
     · cases h
   · cases h
 case lookup t x i ok => exact lookup_case H hop h hK
 case extract x i =>
   have hx := eval_rel H x
   split at h
   · rename_i l htup
     rw [htup] at hx
     obtain ⟨cs, hxe, hrels⟩ := hx.tup_inv
     simp only [Option.map_eq_some_iff] at h
     obtain ⟨y, hy, rfl⟩ := h
     obtain ⟨v, hv, hrel⟩ := hrels.get hy
     exact pure_case H hK (v := v) (by simp [execOp, hop, Instr.extract, hxe, hv]) hrel rfl
   · cases h
 case call c =>
   have hargs := evals_rel H c.args.toList
   unfold callA at h
   split at h
   · rename_i b hb
     have one : ∀ {x : AV}, c.args.toList.map (evalA S.tm) = [x] → ∃ z, c.args = #[z] ∧ evalA S.tm z = x := by
       intro x hx
       have : c.args.toList.length = 1 := by have := congrArg List.length hx; simpa using this
       match hca : c.args, this with
       | ⟨[z]⟩, _ => exact ⟨z, rfl, by rw [hca] at hx; simpa using hx⟩
     have two : ∀ {x y : AV}, c.args.toList.map (evalA S.tm) = [x, y] → ∃ z z', c.args = #[z, z'] ∧ evalA S.tm z = x ∧ evalA S.tm z' = y := by
       intro x y hx
       have : c.args.toList.length = 2 := by have := congrArg List.length hx; simpa using this
       match hca : c.args, this with
       | ⟨[z, z']⟩, _ => exact ⟨z, z', rfl, by rw [hca] at hx; simpa using hx⟩
     unfold builtinA at h
     split at h
     · rename_i t x hts hxs
       obtain ⟨z, hz, rfl⟩ := one hxs
       exact len_case H hop hb hts hz h hK
     · rename_i x y hxs
       obtain ⟨z, z', hz, rfl, rfl⟩ := two hxs
       exact append_case H hC hs hnx hop hb rfl hz h hc hK
     · rename_i x y hxs
       obtain ⟨z, z', hz, rfl, rfl⟩ := two hxs
       exact copy_case H hop hb rfl hz h hc hK
     · rename_i x y hxs
       obtain ⟨z, z', hz, rfl, rfl⟩ := two hxs
       exact min_case H hop hb hz h hK
     · rename_i x y hxs
       obtain ⟨z, z', hz, rfl, rfl⟩ := two hxs
       exact max_case H hop hb hz h hK
     · rename_i t x hts hxs
       obtain ⟨z, hz, rfl⟩ := one hxs
       exact cap_case H hop hb hts hz h hK
     · rename_i t x hts hxs
       obtain ⟨z, hz, rfl⟩ := one hxs
       exact clear_case H hop hb hts hz h hK
     · cases h
   · rename_i f hf
     have hfr := eval_rel H f
     split at h
     · rename_i g first cap hfe
       rw [hfe] at hfr
       have hfv := hfr.plain
       cases hfc : (first.isEmpty && cap.isEmpty) with
       | false =>
         simp only [hfc, cond_false] at h
         cases hfc2 : (unitFirst first.toList && cap.isEmpty) with
         | false => simp [hfc2] at h
         | true =>
         simp only [hfc2, cond_true] at h
         simp only [Bool.and_eq_true, Array.isEmpty_iff] at hfc2
         obtain ⟨hu1, rfl⟩ := hfc2
         have hf1 : first = #[.agg #[]] := by
           unfold unitFirst at hu1
           split at hu1
           · rename_i cs hcs
             have : cs = #[] := by simpa using hu1
             subst this
             exact Array.ext' (by simpa using hcs)
           · cases hu1
         subst hf1
         cases hg : askΓ Γ g with
         | none => simp [hg] at h
         | some s =>
           simp only [hg, Option.bind_some] at h
           refine call_case hΓ H hs hnx hC hK hc hg h (hargs.cons (x := .agg []) (v := .agg #[]) (.agg [] #[] rfl (fun j hj => absurd hj (Nat.not_lt_zero j)))) ?_
           rw [show (Value.agg #[] :: List.map a.eval c.args.toList).toArray = #[Value.agg #[]] ++ c.args.map a.eval by rw [← map_toArray']; simp]
           simp [execOp, hop, resolve, hf, hfv, Deferred.ofValue, invoke]
       | true =>
       simp only [hfc, cond_true] at h
       simp only [Bool.and_eq_true, Array.isEmpty_iff] at hfc
       obtain ⟨rfl, rfl⟩ := hfc
       cases hg : askΓ Γ g with
       | none => simp [hg] at h
       | some s =>
         simp only [hg, Option.bind_some] at h
         refine call_case hΓ H hs hnx hC hK hc hg h hargs ?_
         rw [map_toArray']
         simp [execOp, hop, resolve, hf, hfv, Deferred.ofValue, invoke]
     · rename_i l first cap hfe
       rw [hfe] at hfr
       have hfv := hfr.plain
       cases hfc : (first.isEmpty && (cap.isEmpty && (P.funcs[yieldNo]?).isNone)) with
       | false => simp [hfc] at h
       | true =>
         simp only [hfc, cond_true] at h
         simp only [Bool.and_eq_true, Array.isEmpty_iff] at hfc
         obtain ⟨rfl, rfl, hno⟩ := hfc
         cases hg : Γ yieldNo with
         | none => simp [hg] at h
         | some s =>
           simp only [hg, Option.bind_some] at h
           refine yield_case hΓ H hs hnx hC hK hc hg hno h hargs ?_
           rw [map_toArray']
           simp [execOp, hop, resolve, hf, hfv, Deferred.ofValue, invoke]
     · rename_i g cap hfe
       rw [hfe] at hfr
       obtain ⟨cs, hfv, hcap⟩ := hfr.fn_inv
       cases hg : askΓ Γ g with
       | none => simp [hg] at h
       | some s =>
         simp only [hg, Option.bind_some] at h
         refine call_case hΓ H hs hnx hC hK hc hg h (hargs.append hcap) ?_
         rw [show (c.args.toList.map a.eval ++ cs).toArray = c.args.map a.eval ++ cs.toArray by rw [← map_toArray']; simp]
         simp [execOp, hop, resolve, hf, hfv, Deferred.ofValue, invoke]
     · cases h
   · rename_i recv name hrc
     split at h
     · rename_i t u hre
       have hrr := eval_rel H recv
       rw [hre] at hrr
       have hrv := hrr.plain
       cases hm : methodP P t name with
       | none => simp [hm] at h
       | some g =>
         simp only [hm] at h
         cases hg : askΓ Γ g with
         | none => simp [hg] at h
         | some s =>
           simp only [hg, Option.bind_some] at h
           refine call_case hΓ H hs hnx hC hK hc hg h (hargs.cons (rel_ofValue u)) ?_
           have hrm := run_methodP hm w (P.types.size + 99) u
           rw [show P.types.size + 99 + 1 = P.types.size + Made.depth from rfl] at hrm
           rw [show (u :: List.map a.eval c.args.toList).toArray = #[u] ++ c.args.map a.eval by rw [← map_toArray']; simp]
           have h0 : (#[Value.iface t u] ++ c.args.map a.eval)[0]? = some (Value.iface t u) := by simp [Array.getElem?_append]
           have h1 : (#[Value.iface t u] ++ c.args.map a.eval).extract 1 (#[Value.iface t u] ++ c.args.map a.eval).size = c.args.map a.eval := by
             apply Array.ext'
             simp
             exact List.take_of_length_le (by simp)
           simp only [execOp, hop, resolve, hrc, hrv, invoke, Sem.run_bind, Sem.run_pure, Result.andThen_ok, h0, h1, callMethod, run_program, hrm]
     · cases h
end
end Go.Vse
namespace Go.Vse
open Go.RowKit
namespace Tr
theorem sat_mono {α : Type} {Q Q' : α → Prop} (h : ∀ a, Q a → Q' a) : ∀ {t : Tr α}, t.sat Q → t.sat Q'
 | .ret a, hs => h a hs
 | .ite c t e, hs => ⟨fun hc => sat_mono h (hs.1 hc), fun hc => sat_mono h (hs.2 hc)⟩
 | .need p t, hs => ⟨hs.1, fun hp => sat_mono h (hs.2 hp)⟩
 | .both a b, hs => ⟨sat_mono h hs.1, sat_mono h hs.2⟩
 | .fail _, hs => hs.elim
theorem sat_bind {α β : Type} {Q : β → Prop} {f : α → Tr β} : ∀ {t : Tr α}, (t.bind f).sat Q → t.sat fun a => (f a).sat Q
 | .ret a, hs => hs
 | .ite c t e, hs => ⟨fun hc => sat_bind (hs.1 hc), fun hc => sat_bind (hs.2 hc)⟩
 | .need p t, hs => ⟨hs.1, fun hp => sat_bind (hs.2 hp)⟩
 | .both a b, hs => ⟨sat_bind hs.1, sat_bind hs.2⟩
 | .fail _, hs => hs.elim
theorem sat_needs {α : Type} {Q : α → Prop} : ∀ {l : List Bool} {t : Tr α}, (needs l t).sat Q → (∀ p ∈ l, p) ∧ t.sat Q
 | [], t, h => ⟨by simp, h⟩
 | p :: l, t, h => by
   obtain ⟨h1, h2⟩ := sat_needs (h.2 h.1)
   exact ⟨by intro q hq; rcases List.mem_cons.1 hq with rfl | hq; exact h.1; exact h1 q hq, h2⟩
end Tr
section
variable {P : Program} {Γ : FuncId → Option Spec} {all : List Oper} {base : Nat}
def StepA (P : Program) (Γ : FuncId → Option Spec) (all : List Oper) (base i : Nat) (o : Oper) (S S' : St) (d : Did) : Prop :=
 (wantedA all S.tm o = some false ∧ S' = S.apply o.dst { val := .c (.v undef) } ∧ d = ⟨i, [], []⟩) ∨
 (wantedA all S.tm o = some true ∧ ∃ r, valOp P Γ (base + i) o S.tm S.mem = some r ∧ (∀ p ∈ r.conds, p) ∧ S' = S.apply o.dst r ∧ d = ⟨i, r.reads, r.upd.map (·.1)⟩)
def Runs (P : Program) (Γ : FuncId → Option Spec) (all : List Oper) (base : Nat) : List Nat → St → St → List Did → Prop
 | [], S, S', ds => S' = S ∧ ds = []
 | i :: l, S, S', ds => ∃ o S1 d ds', all[i]? = some o ∧ StepA P Γ all base i o S S1 d ∧ Runs P Γ all base l S1 S' ds' ∧ ds = d :: ds'
theorem execOps_runs {Q : St × List Did → Prop} : ∀ (l : List Oper) (i : Nat) (S : St) (ds : List Did), (∀ j, l[j]? = all[i + j]?) → (execOps P Γ all base l i S ds).sat Q →
   ∃ S' ds', Runs P Γ all base (List.range' i l.length) S S' ds' ∧ Q (S', ds'.reverse ++ ds)
 | [], i, S, ds, _, h => ⟨S, [], ⟨rfl, rfl⟩, h⟩
 | o :: l, i, S, ds, hl, h => by
   have h0 : all[i]? = some o := by simpa using (hl 0).symm
   have hl' : ∀ j, l[j]? = all[i + 1 + j]? := fun j => by have := hl (j + 1); simpa [Nat.add_assoc, Nat.add_comm 1 j] using this
   unfold execOps at h
   split at h
   · exact h.elim
   · rename_i hw
     obtain ⟨S', ds', hr, hq⟩ := execOps_runs l (i + 1) _ _ hl' h
     exact ⟨S', _, ⟨o, _, _, ds', h0, .inl ⟨hw, rfl, rfl⟩, hr, rfl⟩, by simpa using hq⟩
   · rename_i hw
     split at h
     · exact h.elim
     · rename_i r hv
       obtain ⟨hc, h⟩ := Tr.sat_needs h
       cases hsrc : isSource all i with
       | false =>
         simp only [hsrc, cond_false] at h
         obtain ⟨S', ds', hr, hq⟩ := execOps_runs l (i + 1) _ _ hl' h
         exact ⟨S', _, ⟨o, _, _, ds', h0, .inr ⟨hw, r, hv, hc, rfl, rfl⟩, hr, rfl⟩, by simpa using hq⟩
       | true =>
         simp only [hsrc, cond_true] at h
         split at h
         · rename_i b hrv
           cases b with
           | true =>
             have h1 := h.1 rfl
             have he : ({ r with val := boolA true } : Eff) = r := by cases r; simp only at hrv; subst hrv; rfl
             rw [he] at h1
             obtain ⟨S', ds', hr, hq⟩ := execOps_runs l (i + 1) _ _ hl' h1
             exact ⟨S', _, ⟨o, _, _, ds', h0, .inr ⟨hw, r, hv, hc, rfl, rfl⟩, hr, rfl⟩, by simpa using hq⟩
           | false =>
             have h1 := h.2 rfl
             have he : ({ r with val := boolA false } : Eff) = r := by cases r; simp only at hrv; subst hrv; rfl
             rw [he] at h1
             obtain ⟨S', ds', hr, hq⟩ := execOps_runs l (i + 1) _ _ hl' h1
             exact ⟨S', _, ⟨o, _, _, ds', h0, .inr ⟨hw, r, hv, hc, rfl, rfl⟩, hr, rfl⟩, by simpa using hq⟩
         · exact h.elim
variable {C : Ctx} {B : Bmap} {S S' : St} {a : Act} {w : World}
theorem wanted_of {o : Oper} {b : Bool} (H : Holds C B S a w) (h : wantedA all S.tm o = some b) : Region.wanted o (yielded all.toArray a.tmps) = b := by
 unfold wantedA at h
 unfold Region.wanted
 split at h
 · rename_i hg; rw [hg]; simp at h; subst h; rfl
 · rename_i j want hg
   rw [hg]
   simp only []
   split at h
   · rename_i d hd
     split at h
     · rename_i c hc
       simp only [Option.some.injEq] at h
       subst h
       have ht : d < S.tm.length := by
         rcases Nat.lt_or_ge d S.tm.length with ht | ht
         · exact ht
         · rw [List.getD_eq_getElem?_getD, List.getElem?_eq_none ht] at hc; cases hc
       have hrel := H.tm d ht
       rw [hc] at hrel
       have hv := hrel.plain
       have hsz : d < a.tmps.size := by rw [H.size]; exact ht
       have hy : yielded all.toArray a.tmps j = some c := by
         unfold yielded
         have h1 : (all.toArray[j]?).bind (·.dst) = some d := by simpa using hd
         rw [h1]
         simp only [Option.bind_some]
         rw [Array.getElem?_eq_getElem hsz]
         have h2 : a.tmps[d] = .bool c := by simpa [Array.getD_eq_getD_getElem?, hsz] using hv
         rw [h2]
       rw [hy]
       cases c <;> cases want <;> rfl
     · rename_i vs hc
       simp only [Option.some.injEq] at h
       subst h
       have ht : d < S.tm.length := by
         rcases Nat.lt_or_ge d S.tm.length with ht | ht
         · exact ht
         · rw [List.getD_eq_getElem?_getD, List.getElem?_eq_none ht] at hc; cases hc
       have hrel := H.tm d ht
       rw [hc] at hrel
       have hv := hrel.plain
       have hsz : d < a.tmps.size := by rw [H.size]; exact ht
       have hy : yielded all.toArray a.tmps j = none := by
         unfold yielded
         have h1 : (all.toArray[j]?).bind (·.dst) = some d := by simpa using hd
         rw [h1]
         simp only [Option.bind_some]
         rw [Array.getElem?_eq_getElem hsz]
         have h2 : a.tmps[d] = .tuple vs := by simpa [Array.getD_eq_getD_getElem?, hsz] using hv
         rw [h2]
       rw [hy]
       rfl
     · cases h
   · cases h
abbrev FreeAt (B : Bmap) (base : Nat) (l : List Nat) : Prop := ∀ i ∈ l, B (base + i) = none
theorem valOp_noDefer {slot : Nat} {o : Oper} {tm : List AV} {m : Mem} {r : Eff} (h : valOp P Γ slot o tm m = some r) : ∀ c, o.op ≠ .defer c := by
 intro c hop
 unfold valOp at h
 simp only [hop] at h
 cases h
theorem stepA_sound (hΓ : ∀ f s, Γ f = some s → SpecAt C P f s) (hC : C.Ok) {i : Nat} {o : Oper} {d : Did} (ho : all[i]? = some o) (h : StepA P Γ all base i o S S' d)
  (H : Holds C B S a w) (hf : B (base + i) = none) (hnx : Between C S (base + i)) {K : Act → World → Prop} {Q : Exit → Act → World → Prop}
  (hK : ∀ a' w' B', Holds C B' S' a' w' → (∀ j, j ≠ base + i → B' j = B j) → K a' w') (ro : Option Nat) : wpOpIn (Fence.vse ro) 0 P all.toArray Q i K a w := by
 unfold wpOpIn
 have ho' : all.toArray[i]? = some o := by simpa using ho
 rw [ho']
 simp only []
 rcases h with ⟨hw, rfl, rfl⟩ | ⟨hw, r, hv, hc, rfl, rfl⟩
 ·rw [wanted_of H hw]
  simp only [Bool.false_eq_true, if_false]
  refine ⟨fun _ _ => trivial, hK _ _ B ?_ (fun _ _ => rfl)⟩
  rw [apply_pure _ _ _ rfl]
  exact H.put o.dst (ARel.lit _)
 ·rw [wanted_of H hw]
  simp only [if_true]
  exact Oper.wpIn_of_wpV ro 0 (valOp_noDefer hv) (valOp_sound hΓ hv hc H hf hnx hC hK)
theorem stepA_nx {i : Nat} {o : Oper} {d : Did} (h : StepA P Γ all base i o S S' d) : S'.nx = S.nx := by
 rcases h with ⟨_, rfl, _⟩ | ⟨_, r, _, _, rfl, _⟩ <;> rfl
theorem runs_sound (hΓ : ∀ f s, Γ f = some s → SpecAt C P f s) (hC : C.Ok) {Q : Exit → Act → World → Prop} : ∀ (l : List Nat) (S : St) (ds : List Did) (B : Bmap) (a : Act) (w : World),
  Runs P Γ all base l S S' ds → Holds C B S a w → FreeAt B base l → l.Nodup → (∀ i ∈ l, Between C S (base + i)) →
  (∀ a' w' B', Holds C B' S' a' w' → Q .normal a' w') → ∀ (ro : Option Nat), wpOpsIn (Fence.vse ro) 0 P all.toArray Q l a w
 | [], S, ds, B, a, w, hr, H, _, _, _, hQ, ro => by
  obtain ⟨rfl, rfl⟩ := hr
  exact hQ _ _ B H
 | i :: l, S, ds, B, a, w, hr, H, hf, hn, hb, hQ, ro => by
  obtain ⟨o, S1, d, ds', ho, hs, hr, rfl⟩ := hr
  rw [wpOpsIn_cons]
  refine stepA_sound hΓ hC ho hs H (hf i (by simp)) (hb i (by simp)) (fun a' w' B' H' hB => ?_) ro
  refine runs_sound hΓ hC l S1 ds' B' a' w' hr H' (fun j hj => ?_) (List.nodup_cons.1 hn).2 (fun j hj => by unfold Between; rw [stepA_nx hs]; exact hb j (by simp [hj])) hQ ro
  have hne : j ≠ i := by rintro rfl; exact (List.nodup_cons.1 hn).1 hj
  rw [hB _ (by omega)]
  exact hf j (by simp [hj])
end
end Go.Vse
namespace Go.Vse
open Go.RowKit
section
variable {P : Program} {Γ : FuncId → Option Spec} {all : List Oper} {base : Nat}
theorem evals_congr {tm tm' : List AV} : ∀ {l : List Operand}, (∀ x ∈ l, evalA tm' x = evalA tm x) → l.map (evalA tm') = l.map (evalA tm)
 | [], _ => rfl
 | x :: l, h => by rw [List.map_cons, List.map_cons, h x (by simp), evals_congr fun y hy => h y (by simp [hy])]
theorem viewSl_congr {m m' : Mem} {x : AV} {n sz : Nat} {el : Nat → List IV} {cs : List Bool} {rs : List Nat} (h : viewSl m x = some (n, sz, el, cs, rs)) (hm : ∀ s ∈ rs, m' s = m s) : viewSl m' x = some (n, sz, el, cs, rs) := by
 unfold viewSl at h ⊢
 split at h
 ·exact h
 ·exact h
 ·exact h
 ·rename_i b n0 sz0
  have hb : m' b = m b := by
   apply hm
   split at h
   ·rename_i n' sz' el' t _
    cases hb : Nat.beq sz0 sz' with
    | true => rw [hb] at h; simp only [cond_true, Option.some.injEq, Prod.mk.injEq] at h; obtain ⟨_, _, _, _, rfl⟩ := h; simp
    | false => rw [hb] at h; cases h
   ·cases h
  simp only [hb]
  exact h
 ·cases h
theorem appDst_congr {m m' : Mem} {e p : Nat} {x : AV} {n : Nat} {el : Nat → List IV} {cs : List Bool} {rs : List Nat} (h : appDst m e p x = some (n, el, cs, rs)) (hm : ∀ s ∈ rs, m' s = m s) : appDst m' e p x = some (n, el, cs, rs) := by
 unfold appDst at h ⊢
 split at h
 ·exact h
 ·rename_i b n0 sz0
  have hb : m' b = m b := by
   apply hm
   split at h
   ·rename_i n' sz' el' e' _
    cases hb : (Nat.beq sz0 p && Nat.beq sz' p && Nat.beq e e') with
    | true => rw [hb] at h; simp only [cond_true, Option.some.injEq, Prod.mk.injEq] at h; obtain ⟨_, _, _, rfl⟩ := h; simp
    | false => rw [hb] at h; cases h
   ·cases h
  simp only [hb]
  exact h
 ·cases h
theorem appSrc_congr {m m' : Mem} {t u e p by_ : Nat} {y : AV} {n : Nat} {el : Nat → List IV} {cs : List Bool} {rs : List Nat} (h : appSrc P m t u e p by_ y = some (n, el, cs, rs)) (hm : ∀ s ∈ rs, m' s = m s) : appSrc P m' t u e p by_ y = some (n, el, cs, rs) := by
 unfold appSrc at h ⊢
 cases htu : Nat.beq t u with
 | false => rw [htu] at h; exact h
 | true =>
  rw [htu] at h
  simp only [cond_true] at h ⊢
  cases hv : viewSl m y with
  | none => rw [hv] at h; cases h
  | some q =>
   obtain ⟨k, sz, el', cs', rs'⟩ := q
   rw [hv] at h
   have hrs : rs' = rs := by
    simp only at h
    cases hb : (Nat.beq sz p || Nat.beq k 0) with
    | true => rw [hb] at h; simp only [cond_true, Option.some.injEq, Prod.mk.injEq] at h; exact h.2.2.2
    | false => rw [hb] at h; cases h
   rw [viewSl_congr hv (by rw [hrs]; exact hm)]
   exact h
theorem appendA_congr {slot : Nat} {m m' : Mem} {ts : List TypeId} {x y : AV} {r : Eff} (h : appendA P slot m ts x y = some r) (hm : ∀ s ∈ r.reads, m' s = m s) : appendA P slot m' ts x y = some r := by
 unfold appendA at h ⊢
 split at h
 ·rename_i t u
  split at h
  ·rename_i e ht
   split at h
   ·rename_i p by_ z hp hby hz
    cases hzc : Nat.beq z.cells.size (p + 1) with
    | false => rw [hzc] at h; cases h
    | true =>
     rw [hzc] at h
     simp only [cond_true] at h
     split at h
     ·rename_i n el c1 r1 k el' c2 r2 hd hsr
      cases h
      have h1 := appDst_congr (m' := m') hd (fun s hs => hm s (by simp [hs]))
      have h2 := appSrc_congr (m' := m') hsr (fun s hs => hm s (by simp [hs]))
      simp only [ht, hp, hby, hz, hzc, cond_true, h1, h2]
     ·cases h
   ·cases h
  ·cases h
 ·cases h
theorem copyA_congr {m m' : Mem} {ts : List TypeId} {x y : AV} {r : Eff} (h : copyA P m ts x y = some r) (hm : ∀ s ∈ r.reads, m' s = m s) : copyA P m' ts x y = some r := by
 unfold copyA at h ⊢
 split at h
 ·rename_i t u b n sz
  split at h
  ·rename_i e ht
   split at h
   ·rename_i p n' sz' el e' k sz2 el' cs rs hp hb hv
    cases hall : (Nat.beq sz p && Nat.beq sz' p && Nat.beq sz2 p && (rs.all fun r => !Nat.beq r b)) with
    | false => rw [hall] at h; cases h
    | true =>
     rw [hall] at h
     simp only [cond_true, Option.some.injEq] at h
     subst h
     have hb' : m' b = m b := hm b (by simp)
     have hv' : (bif Nat.beq t u then viewSl m' y else none) = some (k, sz2, el', cs, rs) := by
      cases htu : Nat.beq t u with
      | false => rw [htu] at hv; cases hv
      | true =>
       rw [htu] at hv
       simp only [cond_true] at hv ⊢
       exact viewSl_congr hv fun s hs => hm s (by simp [hs])
     simp only [ht, hp, hb', hb, hv', hall, cond_true]
   ·cases h
  ·cases h
 ·cases h
theorem clearA_congr {m m' : Mem} {t : TypeId} {x : AV} {r : Eff} (h : clearA P m t x = some r) (hm : ∀ s ∈ r.reads, m' s = m s) : clearA P m' t x = some r := by
 unfold clearA at h ⊢
 split at h
 · rename_i e b k n sz hu
   have hb : m' b = m b := by
     apply hm
     split at h
     · rename_i p z n' sz' el e' h1 h2 h3
       cases hall : (Nat.beq p sz && (Nat.beq sz' sz && (Nat.ble k n' && (Nat.beq z.cells.size sz && z.cells.toList.all (·.oneCell'))))) with
       | false => rw [hall] at h; cases h
       | true => rw [hall] at h; simp only [cond_true, Option.some.injEq] at h; rw [← h]; simp
     · cases h
   rw [hb]
   exact h
 · cases h
theorem builtinA_congr {slot : Nat} {m m' : Mem} {b : Builtin} {ts : List TypeId} {xs : List AV} {r : Eff} (h : builtinA P slot m b ts xs = some r) (hm : ∀ s ∈ r.reads, m' s = m s) : builtinA P slot m' b ts xs = some r := by
 unfold builtinA at h ⊢
 split at h
 ·exact h
 ·exact appendA_congr h hm
 ·exact copyA_congr h hm
 ·exact h
 ·exact h
 ·exact h
 ·exact clearA_congr h hm
 ·cases h
theorem convMA_congr {m m' : Mem} {s d : TypeId} {x : AV} {r : Eff} (h : convMA P m s d x = some r) (hm : ∀ s ∈ r.reads, m' s = m s) : convMA P m' s d x = some r := by
 unfold convMA at h ⊢
 split at h
 ·rename_i e hs hd
  split at h
  ·rename_i n sz el cs rs he hv
   have hrs : r.reads = rs := by
    cases hb : (Nat.beq sz 1 || Nat.beq n 0) with
    | true => rw [hb] at h; simp only [cond_true, Option.some.injEq] at h; rw [← h]
    | false => rw [hb] at h; cases h
   rw [hrs] at hm
   simp only [hs, hd, he, viewSl_congr hv hm]
   exact h
  ·cases h
 ·exact h
theorem sliceA_congr {m m' : Mem} {t : TypeId} {x : AV} {lo hi : Option AV} {r : Eff} (h : sliceA P m t x lo hi = some r) (hm : ∀ s ∈ r.reads, m' s = m s) : sliceA P m' t x lo hi = some r := by
 unfold sliceA at h ⊢
 split at h
 ·exact h
 ·exact h
 ·exact h
 ·exact h
 ·rename_i n e b sz hu
  split at h
  ·rename_i _ p n' sz' el t' k h' hp hb
   have hb' : m' b = m b := by
    apply hm
    cases hc : (Nat.beq sz p && Nat.beq sz' p && Nat.beq n n' && !Nat.beq n 0) with
    | true => rw [hc] at h; simp only [cond_true, Option.some.injEq] at h; rw [← h]; simp
    | false => rw [hc] at h; cases h
   simp only [hp, hb', hb]
   exact h
  ·cases h
 ·rename_i n e b hu
  split at h
  ·rename_i _ p l t' k h' hp hb
   have hb' : m' b = m b := by
    apply hm
    split at h
    ·rename_i c _
     cases hc : (Nat.beq l.length (n * p) && !Nat.beq n 0 && l.all cellOk) with
     | true => rw [hc] at h; simp only [cond_true, Option.some.injEq] at h; rw [← h]; simp
     | false => rw [hc] at h; cases h
    ·cases h
   simp only [hp, hb', hb]
   exact h
  ·cases h
 ·cases h
theorem callA_congr (hΓ : ∀ f s, Γ f = some s → SpecLook s) {slot : Nat} {tm tm' : List AV} {m m' : Mem} {c : Call} {r : Eff} (hr : callA P Γ slot tm m c = some r) (h : ∀ x ∈ c.operands, evalA tm' x = evalA tm x) (hm : ∀ s ∈ r.reads, m' s = m s) :
  callA P Γ slot tm' m' c = some r := by
 unfold callA at hr ⊢
 have hargs : c.args.toList.map (evalA tm') = c.args.toList.map (evalA tm) := evals_congr fun x hx => h x (by simp [Call.operands]; exact .inr (by simpa using hx))
 rw [hargs]
 cases hc : c.callee with
 | builtin b => rw [hc] at hr; exact builtinA_congr hr hm
 | invoke recv name =>
  rw [hc] at hr
  have hf : evalA tm' recv = evalA tm recv := h recv (by simp [Call.operands, hc])
  simp only [hf] at hr ⊢
  split at hr
  ·rename_i t u _
   split at hr
   ·rename_i g _
    cases hs : askΓ Γ g with
    | none => simp [hs] at hr
    | some s => simp only [hs, Option.bind_some] at hr ⊢; exact hΓ g s (askΓ_some hs).2 slot m m' _ r hr hm
   ·cases hr
  ·cases hr
 | value f =>
  rw [hc] at hr
  have hf : evalA tm' f = evalA tm f := h f (by simp [Call.operands, hc])
  simp only [hf] at hr ⊢
  have key : ∀ (g : FuncId) (asL : List AV), ((askΓ Γ g).bind fun s => s slot m asL) = some r → ((askΓ Γ g).bind fun s => s slot m' asL) = some r := by
   intro g asL hg
   cases hs : askΓ Γ g with
   | none => simp [hs] at hg
   | some s => simp only [hs, Option.bind_some] at hg ⊢; exact hΓ g s (askΓ_some hs).2 slot m m' asL r hg hm
  have key2 : ∀ (g : FuncId) (asL : List AV), ((Γ g).bind fun s => s slot m asL) = some r → ((Γ g).bind fun s => s slot m' asL) = some r := by
   intro g asL hg
   cases hs : Γ g with
   | none => simp [hs] at hg
   | some s => simp only [hs, Option.bind_some] at hg ⊢; exact hΓ g s hs slot m m' asL r hg hm
  split at hr
  ·rename_i g first cap _
   cases hfc : (first.isEmpty && cap.isEmpty) with
   | false =>
    simp only [hfc, cond_false] at hr ⊢
    cases hfc2 : (unitFirst first.toList && cap.isEmpty) with
    | false => simp [hfc2] at hr
    | true =>
     simp only [hfc2, cond_true] at hr ⊢
     exact key _ _ hr
   | true => simp only [hfc, cond_true] at hr ⊢; exact key _ _ hr
  ·rename_i l first cap _
   cases hfc : (first.isEmpty && (cap.isEmpty && (P.funcs[yieldNo]?).isNone)) with
   | false => simp [hfc] at hr
   | true => simp only [hfc, cond_true] at hr ⊢; exact key2 _ _ hr
  ·exact key _ _ hr
  ·cases hr
theorem loadA_congr {m m' : Mem} {t : TypeId} {x : AV} {r : Eff} (h : loadA P m t x = some r) (hm : ∀ s ∈ r.reads, m' s = m s) : loadA P m' t x = some r := by
 unfold loadA at h ⊢
 split at h
 ·rename_i b off
  have hb : m' b = m b := by
   apply hm
   split at h
   ·split at h
    ·cases h; simp
    ·cases h
   ·cases h
  simp only [hb]
  exact h
 ·rename_i b k j sz
  have hb : m' b = m b := by
   apply hm
   split at h
   ·rename_i n sz' el t' _
    cases hs : Nat.beq sz sz' with
    | false => rw [hs] at h; cases h
    | true =>
     rw [hs] at h
     simp only [cond_true] at h
     split at h
     ·cases h; simp
     ·cases h
   ·cases h
  simp only [hb]
  exact h
 ·exact h
 ·exact h
 ·cases h
theorem storeB_congr {m m' : Mem} {t : TypeId} {x v : AV} {r : Eff} (h : storeB P m t x v = some r) (hm : ∀ s ∈ r.reads, m' s = m s) : storeB P m' t x v = some r := by
 unfold storeB at h ⊢
 split at h
 ·rename_i b off
  have hb : m' b = m b := by
   apply hm
   split at h
   ·rename_i l e n _ _
    dsimp only at h
    cases hc : (Nat.beq (cellsA v).length n && Nat.ble (off + n) l.length && (cellsA v).all cellOk) with
    | true => rw [hc] at h; simp only [cond_true, Option.some.injEq] at h; subst h; simp
    | false => rw [hc] at h; simp at h
   ·cases h
  simp only [hb]
  exact h
 ·rename_i b k j sz
  have hb : m' b = m b := by
   apply hm
   split at h
   ·rename_i n sz' el t' p _ _
    split at h
    ·rename_i c _
     cases hc : (Nat.beq sz sz' && Nat.beq c.length p && Nat.ble (j + p) sz && (cellsA v).all cellOk) with
     | true => rw [hc] at h; simp only [cond_true, Option.some.injEq] at h; subst h; simp
     | false => rw [hc] at h; simp at h
    ·cases h
   ·cases h
  simp only [hb]
  exact h
 ·cases h
theorem storeA_congr {m m' : Mem} {t : TypeId} {x v : AV} {r : Eff} (h : storeA P m t x v = some r) (hm : ∀ s ∈ r.reads, m' s = m s) : storeA P m' t x v = some r := by
 unfold storeA at h ⊢
 split at h
 ·rename_i b k j sz c n s
  split at h
  ·rename_i n' s' el ty hc
   cases hb : (Nat.beq s s' && !Nat.beq b c) with
   | false => rw [hb] at h; cases h
   | true =>
    rw [hb, cond_true] at h
    obtain ⟨r0, h0, rfl⟩ := Option.map_eq_some_iff.1 h
    have hcm : m' c = m c := hm c (by simp)
    rw [hcm, hc]
    simp only [hb, cond_true]
    rw [storeB_congr h0 fun s hs => ?_]
    ·rfl
    ·rw [mem_set_eq, mem_set_eq]
     split
     ·rfl
     ·exact hm s (by simp [hs])
  ·cases h
 ·exact storeB_congr h hm
theorem mapUpdateA_congr {m m' : Mem} {t : TypeId} {x k v : AV} {r : Eff} (h : mapUpdateA P m t x k v = some r) (hm : ∀ s ∈ r.reads, m' s = m s) : mapUpdateA P m' t x k v = some r := by
 unfold mapUpdateA at h ⊢
 split at h
 ·rename_i b n y
  have hb : m' b = m b := by
   apply hm
   split at h
   ·rename_i es _
    cases hc : (isIntMap P t && cellOk (.c y)) with
    | true => rw [hc] at h; simp only [cond_true, Option.some.injEq] at h; subst h; simp
    | false => rw [hc] at h; cases h
   ·cases h
  simp only [hb]
  exact h
 ·cases h
theorem entryA_congr {m m' : Mem} {x : AV} {r : Eff} (h : entryA m x = some r) (hm : ∀ s ∈ r.reads, m' s = m s) : entryA m' x = some r := by
 unfold entryA at h ⊢
 split at h
 ·rename_i b
  have hb : m' b = m b := by
   apply hm
   split at h
   ·split at h
    ·cases h; simp
    ·cases h
   ·cases h
  simp only [hb]
  exact h
 ·cases h
theorem valOp_congr (hΓ : ∀ f s, Γ f = some s → SpecLook s) {slot : Nat} {o : Oper} {tm tm' : List AV} {m m' : Mem} {r : Eff} (h : valOp P Γ slot o tm m = some r) (ht : ∀ x ∈ o.op.operands, evalA tm' x = evalA tm x) (hm : ∀ s ∈ r.reads, m' s = m s) :
  valOp P Γ slot o tm' m' = some r := by
 unfold valOp at h ⊢
 cases hop : o.op <;> simp only [hop, Op.operands] at h ht ⊢ <;> try (cases h; done)
 case move x => rw [ht x (by simp)]; exact h
 case assign x => rw [ht x (by simp)]; exact h
 case pick c x y => rw [ht c (by simp), ht x (by simp), ht y (by simp)]; exact h
 case alloc t => exact h
 case box t x => rw [ht x (by simp)]; exact h
 case build t ps =>
  have : (ps.toList.map fun (i, x) => (i, evalA tm' x)) = (ps.toList.map fun (i, x) => (i, evalA tm x)) := by
   apply List.map_congr_left
   intro p hp
   obtain ⟨i, x⟩ := p
   simp only [ht x (by simp; exact ⟨i, by simpa using hp⟩)]
  rw [this]; exact h
 case buildSlice t n ps =>
  have : (ps.toList.map fun (i, x) => (i, evalA tm' x)) = (ps.toList.map fun (i, x) => (i, evalA tm x)) := by
   apply List.map_congr_left
   intro p hp
   obtain ⟨i, x⟩ := p
   simp only [ht x (by simp; exact ⟨i, by simpa using hp⟩)]
  rw [this]; exact buildSliceB_congr h hm
 case makeMap t x =>
  have hx : x.map (evalA tm') = x.map (evalA tm) := by
   cases x with
   | none => rfl
   | some y => simp only [Option.map_some]; rw [ht y (by simp)]
  rw [hx]; exact h
 case mapUpdate t x k v => rw [ht x (by simp), ht k (by simp), ht v (by simp)]; exact mapUpdateA_congr h hm
 case range t x => rw [ht x (by simp)]; exact h
 case entry x => rw [ht x (by simp)]; exact entryA_congr h hm
 case load t x => rw [ht x (by simp)]; exact loadA_congr h hm
 case store t x y => rw [ht x (by simp), ht y (by simp)]; exact storeA_congr h hm
 case nilCheck x => rw [ht x (by simp)]; exact h
 case binOp op t x y yt => rw [ht x (by simp), ht y (by simp)]; exact h
 case unOp op t x => rw [ht x (by simp)]; exact h
 case convert s d x => rw [ht x (by simp)]; exact convMA_congr h hm
 case makeSlice t x y => rw [ht x (by simp), ht y (by simp)]; exact h
 case indexAddr t x y => rw [ht x (by simp), ht y (by simp)]; exact h
 case slice t x lo hi mx =>
  have hlo : lo.map (evalA tm') = lo.map (evalA tm) := by
   cases lo with
   | none => rfl
   | some y => simp only [Option.map_some]; rw [ht y (by simp)]
  have hhi : hi.map (evalA tm') = hi.map (evalA tm) := by
   cases hi with
   | none => rfl
   | some y => simp only [Option.map_some]; rw [ht y (by simp)]
  rw [ht x (by simp), hlo, hhi]
  cases hmx : mx.isNone with
  | false => rw [hmx] at h; cases h
  | true =>
   rw [hmx] at h
   simp only [cond_true] at h ⊢
   exact sliceA_congr h hm
 case makeFunc fn first cap =>
  have : cap.toList.map (evalA tm') = cap.toList.map (evalA tm) := evals_congr fun x hx => ht x (by simp; exact .inr (by simpa using hx))
  have hfst : first.toList.map (evalA tm') = first.toList.map (evalA tm) := evals_congr fun x hx => ht x (by simp; exact .inl (by simpa using hx))
  rw [this, hfst]; exact h
 case makeInterface t x => rw [ht x (by simp)]; exact h
 case fieldAddr t x f => rw [ht x (by simp)]; exact h
 case field t x f => rw [ht x (by simp)]; exact h
 case index t x i => rw [ht x (by simp), ht i (by simp)]; exact h
 case lookup t x i ok => rw [ht x (by simp), ht i (by simp)]; exact h
 case extract x i => rw [ht x (by simp)]; exact h
 case call c => exact callA_congr hΓ h ht hm
theorem evalA_put {tm : List AV} {d : Option Tmp} {v : AV} {x : Operand} (h : ∀ t, d = some t → x ≠ .tmp t) : evalA (putTm tm d v) x = evalA tm x := by
 cases d with
 | none => rfl
 | some t =>
  cases x with
  | tmp u =>
   have hne : t ≠ u := fun e => h t rfl (e ▸ rfl)
   simp [evalA, putTm, List.getD_eq_getElem?_getD, List.getElem?_set_ne hne]
  | _ => rfl
theorem applyUpd_out (m : Mem) : ∀ (l : List (Nat × Option Ent)) (s : Nat), s ∉ l.map (·.1) → applyUpd m l s = m s := by
 intro l
 induction l generalizing m with
 | nil => intro s _; rfl
 | cons p l ih =>
   intro s hs
   obtain ⟨k, e⟩ := p
   simp only [List.map_cons, List.mem_cons, not_or] at hs
   rw [applyUpd, ih _ s hs.2, mem_set_eq, if_neg hs.1]
theorem applyUpd_congr {m m' : Mem} : ∀ (l : List (Nat × Option Ent)) (s : Nat), (m s = m' s ∨ s ∈ l.map (·.1)) → applyUpd m l s = applyUpd m' l s := by
 intro l
 induction l generalizing m m' with
 | nil => intro s hs; rcases hs with h | h; exact h; simp at h
 | cons p l ih =>
   intro s hs
   obtain ⟨k, e⟩ := p
   refine ih s ?_
   rw [mem_set_eq, mem_set_eq]
   by_cases hk : s = k
   · simp [hk]
   · simp only [hk, if_false]
     rcases hs with h | h
     · exact .inl h
     · simp only [List.map_cons, List.mem_cons, hk, false_or] at h; exact .inr h
theorem applyUpd_comm (m : Mem) (l k : List (Nat × Option Ent)) (h : ∀ s ∈ l.map (·.1), s ∉ k.map (·.1)) : applyUpd (applyUpd m l) k = applyUpd (applyUpd m k) l := by
 funext s
 by_cases hl : s ∈ l.map (·.1)
 · have hk := h s hl
   rw [applyUpd_out _ k s hk]
   exact (applyUpd_congr l s (.inr hl))
 · rw [applyUpd_out _ l s hl]
   by_cases hk : s ∈ k.map (·.1)
   · exact applyUpd_congr k s (.inr hk)
   · rw [applyUpd_out _ k s hk, applyUpd_out _ k s hk, applyUpd_out _ l s hl]
theorem putTm_comm (tm : List AV) {x y : Option Tmp} (v u : AV) (h : ∀ d, x = some d → y ≠ some d) : putTm (putTm tm x v) y u = putTm (putTm tm y u) x v := by
 cases x with
 | none => rfl
 | some d =>
  cases y with
  | none => rfl
  | some e => exact (List.set_comm _ _ (fun he => h d rfl (he ▸ rfl)))
theorem apply_comm (S : St) {x y : Option Tmp} {r q : Eff} (h : ∀ d, x = some d → y ≠ some d) (hu : ∀ s ∈ r.upd.map (·.1), s ∉ q.upd.map (·.1)) :
   (S.apply x r).apply y q = (S.apply y q).apply x r := by
 simp only [St.apply, putTm_comm S.tm _ _ h, applyUpd_comm S.mem _ _ hu]
theorem wantedA_put {o : Oper} {tm : List AV} {d : Option Tmp} {v : AV} (h : ∀ t, d = some t → t ∉ o.looksAt all.toArray) : wantedA all (putTm tm d v) o = wantedA all tm o := by
 cases d with
 | none => rfl
 | some t =>
   unfold wantedA
   cases hg : o.guard with
   | none => rfl
   | some gw =>
     obtain ⟨g, want⟩ := gw
     simp only []
     cases ht : (all[g]?).bind (·.dst) with
     | none => rfl
     | some u =>
       have hne : t ≠ u := fun e => h t rfl (by
         subst e
         have : (all.toArray[g]?).bind (·.dst) = some t := by simpa using ht
         simp only [Oper.looksAt, hg, this]
         simp)
       simp [putTm, List.getD_eq_getElem?_getD, List.getElem?_set_ne hne]
theorem disjoint_spec {l m : List Nat} (h : disjoint l m = true) : ∀ s ∈ l, s ∉ m := by
 intro s hs hm
 unfold disjoint at h
 have := List.all_eq_true.1 h s hs
 simp only [Bool.not_eq_true', List.any_eq_false] at this
 exact this s hm (by simp)
theorem stepA_eff {i : Nat} {o : Oper} {S S' : St} {d : Did} (h : StepA P Γ all base i o S S' d) : ∃ r : Eff, S' = S.apply o.dst r ∧ d.writes = r.upd.map (·.1) ∧ d.idx = i := by
 rcases h with ⟨_, rfl, rfl⟩ | ⟨_, r, _, _, rfl, rfl⟩
 · exact ⟨_, rfl, rfl, rfl⟩
 · exact ⟨r, rfl, rfl, rfl⟩
theorem stepA_congr (hΓ : ∀ f s, Γ f = some s → SpecLook s) {i : Nat} {o : Oper} {S S' : St} {d : Did} (h : StepA P Γ all base i o S S' d) (S2 : St) (hw : wantedA all S2.tm o = wantedA all S.tm o) (ht : ∀ x ∈ o.op.operands, evalA S2.tm x = evalA S.tm x)
   (hm : ∀ s ∈ d.reads, S2.mem s = S.mem s) : ∃ r : Eff, S' = S.apply o.dst r ∧ StepA P Γ all base i o S2 (S2.apply o.dst r) d ∧ d.writes = r.upd.map (·.1) := by
 rcases h with ⟨h1, rfl, rfl⟩ | ⟨h1, r, hv, hc, rfl, rfl⟩
 · exact ⟨_, rfl, .inl ⟨by rw [hw]; exact h1, rfl, rfl⟩, rfl⟩
 · exact ⟨r, rfl, .inr ⟨by rw [hw]; exact h1, r, valOp_congr hΓ hv ht hm, hc, rfl, rfl⟩, rfl⟩
theorem looks_operand {o : Oper} {t : Tmp} (h : t ∉ o.looksAt all.toArray) {x : Operand} (hx : x ∈ o.op.operands) : x ≠ .tmp t := by
 rintro rfl
 exact h (List.mem_append_left _ (List.mem_filterMap.2 ⟨.tmp t, by simpa using hx, rfl⟩))
theorem stepA_swap (hΓ : ∀ f s, Γ f = some s → SpecLook s) {i j : Nat} {oi oj : Oper} {S S1 S2 : St} {di dj : Did} (hi : StepA P Γ all base i oi S S1 di) (hj : StepA P Γ all base j oj S1 S2 dj)
  (hap : Oper.apart all.toArray oi oj = true) (h1 : disjoint di.writes dj.reads = true) (h2 : disjoint di.writes dj.writes = true) (h3 : disjoint di.reads dj.writes = true) :
  ∃ S1', StepA P Γ all base j oj S S1' dj ∧ StepA P Γ all base i oi S1' S2 di := by
 obtain ⟨a1, a2, a3⟩ := Oper.apart_spec hap
 obtain ⟨ri, hS1, hwi, _⟩ := stepA_eff hi
 -- j from S
 obtain ⟨rj, hS2, hj', hwj⟩ := stepA_congr hΓ hj S (by rw [hS1]; exact (wantedA_put (all := all) (fun t ht => a1 t ht)).symm)
  (fun x hx => by rw [hS1]; exact (evalA_put fun t ht => looks_operand (a1 t ht) hx).symm)
  (fun s hs => by rw [hS1]; exact (applyUpd_out _ _ s (fun hin => disjoint_spec h1 s (by rw [hwi]; exact hin) hs)).symm)
 -- i behind j
 obtain ⟨ri', hS1', hi', hwi'⟩ := stepA_congr hΓ hi (S.apply oj.dst rj) (wantedA_put (all := all) (fun t ht => a3 t ht))
  (fun x hx => evalA_put fun t ht => looks_operand (a3 t ht) hx)
  (fun s hs => applyUpd_out _ _ s (fun hin => disjoint_spec h3 s hs (by rw [hwj]; exact hin)))
 refine ⟨_, hj', ?_⟩
 have : S2 = (S.apply oj.dst rj).apply oi.dst ri' := by
  rw [hS2, hS1']
  exact apply_comm S (fun d hd => a2 d hd) (fun s hs => fun hin => disjoint_spec h2 s (by rw [hwi']; exact hs) (by rw [hwj]; exact hin))
 rw [this]
 exact hi'
def PairOk (all : List Oper) (a b : Did) : Prop := apartD all a b = true
theorem apartAll_spec {a : Did} : ∀ {l : List Did}, apartAll all a l = true → ∀ b ∈ l, PairOk all a b
 | [], _, b, hb => by simp at hb
 | c :: l, h, b, hb => by
   simp only [apartAll, Bool.and_eq_true] at h
   rcases List.mem_cons.1 hb with rfl | hb
   · exact h.1
   · exact apartAll_spec h.2 b hb
theorem indepL_spec : ∀ {l : List Did}, indepL all l = true → l.Pairwise (PairOk all)
 | [], _ => .nil
 | a :: l, h => by
  simp only [indepL, Bool.and_eq_true] at h
  exact .cons (apartAll_spec h.1) (indepL_spec h.2)
theorem statA_spec {arr : Array Oper} {i : Nat} {oa : Oper} : ∀ {l : List Oper}, statA arr i oa l = true → ∀ ob ∈ l, stat1 arr i oa ob = true
 | [], _, ob, h => by cases h
 | o :: l, h, ob, hm => by
   simp only [statA, Bool.and_eq_true] at h
   rcases List.mem_cons.1 hm with rfl | hm
   · exact h.1
   · exact statA_spec h.2 ob hm
theorem statL_spec {arr : Array Oper} : ∀ {l : List Oper} {i : Nat}, statL arr i l = true → ∀ k m oa ob, k < m → l[k]? = some oa → l[m]? = some ob → stat1 arr (i + k) oa ob = true
 | [], i, _, k, m, oa, ob, _, h, _ => by simp at h
 | o :: l, i, h, k, m, oa, ob, hkm, hk, hm => by
   simp only [statL, Bool.and_eq_true] at h
   cases m with
   | zero => omega
   | succ m =>
     have hm : l[m]? = some ob := by simpa using hm
     cases k with
     | zero =>
       have : o = oa := by simpa using hk
       subst this
       exact statA_spec h.1 ob (List.mem_of_getElem? hm)
     | succ k =>
       have hk : l[k]? = some oa := by simpa using hk
       have := statL_spec h.2 k m oa ob (by omega) hk hm
       rw [show i + (k + 1) = i + 1 + k by omega]
       exact this
theorem disjoint_nil_right (l : List Nat) : disjoint l [] = true := by
 unfold disjoint
 rw [List.all_eq_true]
 intro x _
 rfl
theorem apartD_of {ops : List Oper} {a b : Did} (hs : statL ops.toArray 0 ops = true) (hm : memD ops a b = true) (h1 : a.idx < b.idx) (h2 : b.idx < ops.length) : apartD ops a b = true := by
 obtain ⟨ob, hb⟩ : ∃ ob, ops[b.idx]? = some ob := ⟨_, List.getElem?_eq_getElem h2⟩
 obtain ⟨oa, ha⟩ : ∃ oa, ops[a.idx]? = some oa := ⟨_, List.getElem?_eq_getElem (by omega)⟩
 have hst := statL_spec hs a.idx b.idx oa ob h1 ha hb
 rw [Nat.zero_add] at hst
 unfold apartD
 rw [ha, hb]
 simp only []
 unfold stat1 at hst
 unfold memD at hm
 rw [hb] at hm
 simp only [] at hm
 change ((orderedB ob a.idx || _) || _) = true
 cases hre : reachB ops 6 b.idx a.idx with
 | true => rw [Bool.or_true]
 | false =>
 rw [hre] at hm
 rw [Bool.or_false] at hm ⊢
 cases ho : orderedB ob a.idx with
 | true => rfl
 | false =>
  rw [ho] at hst hm
  simp only [Bool.false_or] at hst hm ⊢
  rw [hst]
  cases hw : (a.writes.isEmpty && b.writes.isEmpty) with
  | true =>
   simp only [Bool.and_eq_true, List.isEmpty_iff] at hw
   have e : ∀ l, disjoint [] l = true := fun _ => rfl
   simp [hw.1, hw.2, disjoint_nil_right, e]
  | false =>
   rw [hw] at hm
   simpa using hm
theorem apartAll_of {ops : List Oper} {a : Did} (hs : statL ops.toArray 0 ops = true) : ∀ (l : List Did) (i : Nat), idxOk i l = true → a.idx < i → i + l.length ≤ ops.length → memA ops a l = true → apartAll ops a l = true
 | [], _, _, _, _, _ => rfl
 | b :: l, i, h, hi, hl, hm => by
  simp only [idxOk, Bool.and_eq_true, Nat.beq_eq] at h
  simp only [memA, Bool.and_eq_true] at hm
  simp only [List.length_cons] at hl
  simp only [apartAll, Bool.and_eq_true]
  exact ⟨apartD_of hs hm.1 (by omega) (by omega), apartAll_of hs l (i + 1) h.2 (by omega) (by omega) hm.2⟩
theorem indepL_of {ops : List Oper} (hs : statL ops.toArray 0 ops = true) : ∀ (l : List Did) (i : Nat), idxOk i l = true → i + l.length ≤ ops.length → memL ops l = true → indepL ops l = true
 | [], _, _, _, _ => rfl
 | a :: l, i, h, hl, hm => by
  simp only [idxOk, Bool.and_eq_true, Nat.beq_eq] at h
  simp only [memL, Bool.and_eq_true] at hm
  simp only [List.length_cons] at hl
  simp only [indepL, Bool.and_eq_true]
  exact ⟨apartAll_of hs l (i + 1) h.2 (by omega) (by omega) hm.1, indepL_of hs l (i + 1) h.2 (by omega) hm.2⟩
theorem indep_spec {ops : List Oper} {ds : List Did} (h : indep ops ds = true) : edgesOk ops = true ∧ indepL ops ds.reverse = true := by
 unfold indep at h
 simp only [Bool.and_eq_true, Nat.ble_eq] at h
 obtain ⟨⟨⟨_, he⟩, hs⟩, ⟨hl, hi⟩, hm⟩ := h
 exact ⟨he, indepL_of hs _ 0 hi (by simpa using hl) hm⟩
theorem runs_front (hΓ : ∀ f s, Γ f = some s → SpecLook s) : ∀ {pre post : List Nat} {i : Nat} {S S' : St} {ds : List Did} {oi : Oper}, Runs P Γ all base (pre ++ i :: post) S S' ds → all[i]? = some oi → ds.Pairwise (PairOk all) →
  (∀ j ∈ pre, ∀ e ∈ oi.after, Region.binds .any e = true → e.on ≠ j) → (∀ j ∈ pre, reachB all 6 i j = false) →
  ∃ S1 d ds', StepA P Γ all base i oi S S1 d ∧ Runs P Γ all base (pre ++ post) S1 S' ds' ∧ ds'.Pairwise (PairOk all)
 | [], post, i, S, S', ds, oi, h, ho, hp, _, _ => by
  obtain ⟨o, S1, d, ds', ho', hs, hr, rfl⟩ := h
  rw [ho] at ho'
  cases ho'
  exact ⟨S1, d, ds', hs, hr, (List.pairwise_cons.1 hp).2⟩
 | j :: pre, post, i, S, S', ds, oi, h, ho, hp, hno, hre => by
  obtain ⟨oj, S1, dj, ds', hoj, hsj, hr, rfl⟩ := h
  obtain ⟨hpj, hp'⟩ := List.pairwise_cons.1 hp
  -- the records of the rest are those of before, but for i's
  have hmem : ∀ (pre : List Nat) (S1 S' : St) (ds : List Did), Runs P Γ all base (pre ++ i :: post) S1 S' ds → ds.Pairwise (PairOk all) →
    (∀ k ∈ pre, ∀ e ∈ oi.after, Region.binds .any e = true → e.on ≠ k) → (∀ k ∈ pre, reachB all 6 i k = false) → ∃ S2 d ds', StepA P Γ all base i oi S1 S2 d ∧ Runs P Γ all base (pre ++ post) S2 S' ds' ∧ d ∈ ds ∧ (∀ x ∈ ds', x ∈ ds) ∧ ds'.Pairwise (PairOk all) := by
   intro pre
   induction pre with
   | nil =>
    intro S1 S' ds h hp _ _
    obtain ⟨o, S2, d, ds', ho', hs, hr, rfl⟩ := h
    rw [ho] at ho'
    cases ho'
    exact ⟨S2, d, ds', hs, hr, by simp, fun x hx => by simp [hx], (List.pairwise_cons.1 hp).2⟩
   | cons k pre ih =>
    intro S1 S' ds h hp hno hre
    obtain ⟨ok, S3, dk, ds', hok, hsk, hr, rfl⟩ := h
    obtain ⟨hpk, hp'⟩ := List.pairwise_cons.1 hp
    obtain ⟨S4, d, ds2, hs, hr2, hd, hsub, hp2⟩ := ih S3 S' ds' hr hp' (fun x hx => hno x (by simp [hx])) (fun x hx => hre x (by simp [hx]))
    have hdi : d.idx = i := (stepA_eff hs).choose_spec.2.2
    have hdk : dk.idx = k := (stepA_eff hsk).choose_spec.2.2
    have hpair := hpk d hd
    unfold PairOk apartD at hpair
    rw [hdk, hdi, hok, ho] at hpair
    simp only [hre k (by simp), Bool.or_false] at hpair
    simp only [Bool.or_eq_true, Bool.and_eq_true] at hpair
    rcases hpair with hdep | ⟨⟨⟨hap, h1⟩, h2⟩, h3⟩
    ·exfalso
     obtain ⟨e, he, hb⟩ := List.any_eq_true.1 hdep
     simp only [Bool.and_eq_true, Nat.beq_eq] at hb
     exact hno k (by simp) e (by simpa using he) hb.1 hb.2
    ·obtain ⟨S5, hsi', hsk'⟩ := stepA_swap hΓ hsk hs hap h1 h2 h3
     exact ⟨S5, d, dk :: ds2, hsi', ⟨ok, S4, dk, ds2, hok, hsk', hr2, rfl⟩, by simp [hd], fun x hx => by
      rcases List.mem_cons.1 hx with rfl | hx
      ·simp
      ·simp [hsub x hx], List.pairwise_cons.2 ⟨fun x hx => hpk x (hsub x hx), hp2⟩⟩
  obtain ⟨S5, d, ds3, h1, h2, _, _, h3⟩ := hmem (j :: pre) S S' (dj :: ds') ⟨oj, S1, dj, ds', hoj, hsj, hr, rfl⟩ hp hno hre
  exact ⟨S5, d, ds3, h1, h2, h3⟩
theorem edgesOk_spec (h : edgesOk all = true) {i : Nat} {o : Oper} (ho : all[i]? = some o) : ∀ e ∈ o.after, Region.binds .any e = true → e.on < i := by
 intro e he hb
 unfold edgesOk at h
 have := List.all_eq_true.1 h (o, i) (by rw [List.mem_zipIdx_iff_getElem?]; simpa using ho)
 have := List.all_eq_true.1 this e (by simpa using he)
 simpa [hb] using this
theorem reach_out {l : List Nat} (hcl : ∀ k o, all[k]? = some o → k ∉ l → ∀ e ∈ o.after, Region.binds .any e = true → e.on ∉ l) : ∀ (n i : Nat) (oi : Oper), all[i]? = some oi → (∀ e ∈ oi.after, Region.binds .any e = true → e.on ∉ l) → ∀ j, reachB all n i j = true → j ∉ l
 | 0, _, _, _, _, _, h => by cases h
 | n + 1, i, oi, ho, hd, j, h => by
   unfold reachB at h
   rw [ho] at h
   obtain ⟨e, he, hb⟩ := List.any_eq_true.1 h
   simp only [Bool.and_eq_true, Bool.or_eq_true, Nat.beq_eq] at hb
   have he' : e ∈ oi.after := by simpa using he
   have hout := hd e he' hb.1
   rcases hb.2 with rfl | hr
   · exact hout
   · cases hx : all[e.on]? with
     | none =>
       cases n with
       | zero => cases hr
       | succ n => unfold reachB at hr; rw [hx] at hr; cases hr
     | some ox => exact reach_out hcl n e.on ox hx (hcl e.on ox hx hout) j hr
variable {C : Ctx}
theorem wpAny_runs (hΓ : ∀ f s, Γ f = some s → SpecAt C P f s) (hC : C.Ok) (he : edgesOk all = true) (ro : Option Nat) {Q : Exit → Act → World → Prop} {S' : St} : ∀ (fuel : Nat) (l : List Nat) (listed : Array Bool) (S : St) (ds : List Did) (B : Bmap) (a : Act) (w : World),
   Runs P Γ all base l S S' ds → ds.Pairwise (PairOk all) → l.Pairwise (· < ·) → l.length ≤ fuel → listed.size = all.length → (∀ i, i < all.length → (listed.getD i true = false ↔ i ∈ l)) → (∀ i ∈ l, i < all.length) →
   (∀ k o, all[k]? = some o → k ∉ l → ∀ e ∈ o.after, Region.binds .any e = true → e.on ∉ l) → Holds C B S a w → FreeAt B base l → (∀ i ∈ l, Between C S (base + i)) → (∀ a' w' B', Holds C B' S' a' w' → Q .normal a' w') → wpAnyIn (Fence.vse ro) 0 P .any all.toArray Q fuel listed a w := by
 intro fuel
 induction fuel with
 | zero =>
   intro l listed S ds B a w hr hp hsort hlen hsz hlis hlt hcl H hf hnx hQ
   obtain rfl : l = [] := List.eq_nil_of_length_eq_zero (by omega)
   obtain ⟨rfl, rfl⟩ := hr
   refine ⟨?_, hQ _ _ B H⟩
   rw [List.eq_nil_iff_forall_not_mem]
   intro i hi
   obtain ⟨h0, o, ho, _⟩ := mem_ready.1 hi
   have hi' : i < all.length := by have := (Array.getElem?_eq_some_iff.1 ho).1; simpa using this
   exact absurd ((hlis i hi').1 h0) (by simp)
 | succ fuel ih =>
   intro l listed S ds B a w hr hp hsort hlen hsz hlis hlt hcl H hf hnx hQ
   constructor
   · intro hnil
     cases l with
     | nil => obtain ⟨rfl, rfl⟩ := hr; exact hQ _ _ B H
     | cons i l =>
       exfalso
       have hi : i < all.length := hlt i (by simp)
       have ho : all[i]? = some all[i] := List.getElem?_eq_getElem hi
       have : i ∈ Region.ready .any all.toArray listed := by
         rw [mem_ready]
         refine ⟨(hlis i hi).2 (by simp), all[i], by simpa using hi, fun e hee hb => ?_⟩
         have hlt' := edgesOk_spec he ho e hee hb
         have hnot : e.on ∉ i :: l := by
           intro hm
           rcases List.mem_cons.1 hm with h | h
           · omega
           · have := (List.pairwise_cons.1 hsort).1 _ h; omega
         have h1 : ¬ listed.getD e.on true = false := fun h => hnot ((hlis e.on (by omega)).1 h)
         have hsz' : e.on < listed.size := by omega
         simp only [Array.getD_eq_getD_getElem?, Array.getElem?_eq_getElem hsz', Option.getD_some] at h1 ⊢
         simpa using h1
       rw [hnil] at this
       simp at this
   · intro i hi
     obtain ⟨h0, oi, ho, hdeps⟩ := mem_ready.1 hi
     have hil : i < all.length := by have := (Array.getElem?_eq_some_iff.1 ho).1; simpa using this
     have ho' : all[i]? = some oi := by simpa using ho
     have hmem : i ∈ l := (hlis i hil).1 h0
     obtain ⟨pre, post, rfl⟩ := List.append_of_mem hmem
     have hno : ∀ j ∈ pre, ∀ e ∈ oi.after, Region.binds .any e = true → e.on ≠ j := by
       intro j hj e hee hb hej
       have h1 := hdeps e hee hb
       have hjl : j < all.length := hlt j (by simp [hj])
       have h2 := (hlis j hjl).2 (by simp [hj])
       rw [hej] at h1
       have hsz' : j < listed.size := by omega
       simp only [Array.getD_eq_getD_getElem?, Array.getElem?_eq_getElem hsz', Option.getD_some] at h1 h2
       rw [h1] at h2; cases h2
     have hdn : ∀ e ∈ oi.after, Region.binds .any e = true → e.on ∉ pre ++ i :: post := by
       intro e hee hb hm
       have h1 := hdeps e hee hb
       have hjl : e.on < all.length := hlt e.on hm
       have h2 := (hlis e.on hjl).2 hm
       have hsz' : e.on < listed.size := by omega
       simp only [Array.getD_eq_getD_getElem?, Array.getElem?_eq_getElem hsz', Option.getD_some] at h1 h2
       rw [h1] at h2; cases h2
     have hre : ∀ j ∈ pre, reachB all 6 i j = false := by
       intro j hj
       cases hb : reachB all 6 i j with
       | false => rfl
       | true => exact absurd (show j ∈ pre ++ i :: post by simp [hj]) (reach_out hcl 6 i oi ho' hdn j hb)
     obtain ⟨S1, d, ds', hs, hr', hp'⟩ := runs_front (fun f s h => (hΓ f s h).look) hr ho' hp hno hre
     refine stepA_sound hΓ hC ho' hs H (hf i (by simp)) (hnx i (by simp)) (fun a' w' B' H' hB => ?_) ro
     have hnd : (pre ++ i :: post).Nodup := hsort.imp (fun h => Nat.ne_of_lt h)
     have hni : i ∉ pre ++ post := by
       intro hm
       rw [List.nodup_append] at hnd
       obtain ⟨_, h2, h3⟩ := hnd
       rcases List.mem_append.1 hm with h | h
       · exact h3 i h i (by simp) rfl
       · exact (List.nodup_cons.1 h2).1 h
     refine ih (pre ++ post) _ S1 ds' B' a' w' hr' hp' ?_ ?_ (by simpa using hsz) ?_ ?_ (fun k o hk hkl e hee hb hm => ?_) H' ?_ ?_ hQ
     rotate_left 4
     · have hm' : e.on ∈ pre ++ i :: post := by
         rcases List.mem_append.1 hm with h | h
         · simp [h]
         · simp [h]
       by_cases hki : k = i
       · subst hki
         rw [ho'] at hk
         cases hk
         exact hdn e hee hb hm'
       · refine hcl k o hk (fun hx => hkl ?_) e hee hb hm'
         rcases List.mem_append.1 hx with h | h
         · simp [h]
         · rcases List.mem_cons.1 h with h | h
           · exact absurd h hki
           · simp [h]
     rotate_left 2
     · exact hsort.sublist (List.Sublist.append (List.Sublist.refl pre) (List.sublist_cons_self i post))
     · simp at hlen ⊢; omega
     · intro k hk
       by_cases hki : i = k
       · subst hki
         have hsz' : i < listed.size := by omega
         simp only [Array.getD_eq_getD_getElem?, Array.getElem?_setIfInBounds_self_of_lt hsz', Option.getD_some]
         constructor
         · intro h; cases h
         · intro h; exact absurd h hni
       · rw [getD_set_ne true hki, hlis k hk]
         simp only [List.mem_append, List.mem_cons]
         constructor
         · rintro (h | rfl | h)
           · exact .inl h
           · exact absurd rfl hki
           · exact .inr h
         · rintro (h | h)
           · exact .inl h
           · exact .inr (.inr h)
     · intro k hk
       exact hlt k (by simp only [List.mem_append, List.mem_cons] at hk ⊢; rcases hk with h | h; exact .inl h; exact .inr (.inr h))
     · intro k hk
       have hne : k ≠ i := by rintro rfl; exact hni hk
       rw [hB _ (by omega)]
       exact hf k (by simp only [List.mem_append, List.mem_cons] at hk ⊢; rcases hk with h | h; exact .inl h; exact .inr (.inr h))
     · intro k hk
       unfold Between; rw [stepA_nx hs]
       exact hnx k (by simp only [List.mem_append, List.mem_cons] at hk ⊢; rcases hk with h | h; exact .inl h; exact .inr (.inr h))
end
end Go.Vse
namespace Go.Vse
open Go.RowKit
def Tr.leaves {α : Type} (φ : α → Prop) : Tr α → Prop
 | .ret a => φ a
 | .ite _ t e => t.leaves φ ∧ e.leaves φ
 | .need _ t => t.leaves φ
 | .both a b => a.leaves φ ∧ b.leaves φ
 | .fail _ => True
theorem Tr.leaves_mono {α : Type} {φ ψ : α → Prop} (h : ∀ a, φ a → ψ a) : ∀ {t : Tr α}, t.leaves φ → t.leaves ψ
 | .ret a, k => h a k
 | .ite _ t e, k => ⟨Tr.leaves_mono h k.1, Tr.leaves_mono h k.2⟩
 | .need _ t, k => Tr.leaves_mono (t := t) h k
 | .both a b, k => ⟨Tr.leaves_mono h k.1, Tr.leaves_mono h k.2⟩
 | .fail _, _ => trivial
theorem Tr.leaves_needs {α : Type} {φ : α → Prop} {t : Tr α} (h : t.leaves φ) : ∀ (l : List Bool), (Tr.needs l t).leaves φ
 | [] => h
 | _ :: l => Tr.leaves_needs h l
theorem Tr.bind_sat {α β : Type} {Q : β → Prop} {f : α → Tr β} : ∀ {t : Tr α}, (t.sat fun a => (f a).sat Q) → (t.bind f).sat Q
 | .ret a, h => h
 | .ite _ t e, h => ⟨fun hc => Tr.bind_sat (h.1 hc), fun hc => Tr.bind_sat (h.2 hc)⟩
 | .need _ t, h => ⟨h.1, fun hp => Tr.bind_sat (h.2 hp)⟩
 | .both a b, h => ⟨Tr.bind_sat h.1, Tr.bind_sat h.2⟩
 | .fail _, h => h.elim
theorem Tr.needs_bind {α β : Type} {f : α → Tr β} {t : Tr α} : ∀ (l : List Bool), (Tr.needs l t).bind f = Tr.needs l (t.bind f)
 | [] => rfl
 | p :: l => by simp only [Tr.needs, Tr.bind, Tr.needs_bind l]
theorem putTm_length (tm : List AV) (d : Option Tmp) (v : AV) : (putTm tm d v).length = tm.length := by
 cases d <;> simp [putTm]
theorem putTm_other {tm : List AV} {d : Option Tmp} {v : AV} {t : Tmp} (h : d ≠ some t) : (putTm tm d v).getD t .any = tm.getD t .any := by
 cases d with
 | none => rfl
 | some d =>
  have : d ≠ t := fun e => h (by rw [e])
  simp [putTm, List.getD_eq_getElem?_getD, List.getElem?_set_ne this]
section
variable {P : Program} {Γ : FuncId → Option Spec} {all : List Oper} {base : Nat}
def Fits (ops : List Oper) (S : St) (ds : List Did) (p : St × List Did) : Prop :=
 p.1.nx = S.nx ∧ p.1.tm.length = S.tm.length ∧ (∃ new, p.2 = new ++ ds ∧ ((∀ d ∈ new, d.writes = []) → p.1.mem = S.mem)) ∧ ∀ t, (∀ o ∈ ops, o.dst ≠ some t) → p.1.tm.getD t .any = S.tm.getD t .any
theorem Fits.step {o : Oper} {rest : List Oper} {S : St} {ds : List Did} {r : Eff} {d : Did} (hd : d.writes = r.upd.map (·.1)) {p : St × List Did} (h : Fits rest (S.apply o.dst r) (d :: ds) p) : Fits (o :: rest) S ds p := by
 obtain ⟨h1, h2, ⟨new, h3, h4⟩, h5⟩ := h
 refine ⟨h1, by rw [h2]; exact putTm_length _ _ _, ⟨new ++ [d], by simp [h3], fun hw => ?_⟩, fun t ht => ?_⟩
 · rw [h4 (fun x hx => hw x (by simp [hx]))]
   have : r.upd = [] := by
     have := hw d (by simp)
     rw [hd] at this
     simpa using this
   simp [St.apply, this, applyUpd]
 · rw [h5 t (fun o' ho' => ht o' (by simp [ho']))]
   exact putTm_other (ht o (by simp))
theorem execOps_fits : ∀ (ops : List Oper) (i : Nat) (S : St) (ds : List Did), (execOps P Γ all base ops i S ds).leaves (Fits ops S ds)
 | [], i, S, ds => ⟨rfl, rfl, ⟨[], rfl, fun _ => rfl⟩, fun _ _ => rfl⟩
 | o :: rest, i, S, ds => by
  unfold execOps
  split
  ·trivial
  ·exact Tr.leaves_mono (fun p hp => hp.step (by rfl)) (execOps_fits rest (i + 1) _ _)
  ·split
   ·trivial
   ·rename_i r hr
    refine Tr.leaves_needs ?_ _
    cases isSource all i with
    | true =>
     simp only [cond_true]
     split
     ·exact ⟨Tr.leaves_mono (fun p hp => hp.step (by rfl)) (execOps_fits rest (i + 1) _ _), Tr.leaves_mono (fun p hp => hp.step (by rfl)) (execOps_fits rest (i + 1) _ _)⟩
     ·trivial
    | false => exact Tr.leaves_mono (fun p hp => hp.step (by rfl)) (execOps_fits rest (i + 1) _ _)
def stepK (P : Program) (Γ : FuncId → Option Spec) (all : List Oper) (base : Nat) (o : Oper) (i : Nat) (S : St) (ds : List Did) (k : St → List Did → Tr (St × List Did)) : Tr (St × List Did) :=
 match wantedA all S.tm o with
 | none => .fail "guard"
 | some false => k (S.apply o.dst { val := .c (.v undef) }) ({ idx := i, reads := [], writes := [] } :: ds)
 | some true =>
   match valOp P Γ (base + i) o S.tm S.mem with
   | none => .fail o.pos
   | some r =>
     Tr.needs r.conds <|
       bif isSource all i then
         match r.val with
         | .c (.v (.bool b)) =>
           .ite b (k (S.apply o.dst { r with val := boolA true }) ({ idx := i, reads := r.reads, writes := r.upd.map (·.1) } :: ds))
             (k (S.apply o.dst { r with val := boolA false }) ({ idx := i, reads := r.reads, writes := r.upd.map (·.1) } :: ds))
         | _ => .fail "source"
       else k (S.apply o.dst r) ({ idx := i, reads := r.reads, writes := r.upd.map (·.1) } :: ds)
theorem execOps_cons (o : Oper) (rest : List Oper) (i : Nat) (S : St) (ds : List Did) : execOps P Γ all base (o :: rest) i S ds = stepK P Γ all base o i S ds fun S' ds' => execOps P Γ all base rest (i + 1) S' ds' := rfl
theorem stepK_bind (o : Oper) (i : Nat) (S : St) (ds : List Did) (k : St → List Did → Tr (St × List Did)) (f : St × List Did → Tr (St × List Did)) :
  (stepK P Γ all base o i S ds k).bind f = stepK P Γ all base o i S ds fun S' ds' => (k S' ds').bind f := by
 unfold stepK
 split
 ·rfl
 ·rfl
 ·split
  ·rfl
  ·rw [Tr.needs_bind]
   congr 1
   cases isSource all i with
   | true =>
    simp only [cond_true]
    split <;> rfl
   | false => rfl
theorem execOps_append : ∀ (ops rest : List Oper) (i : Nat) (S : St) (ds : List Did), execOps P Γ all base (ops ++ rest) i S ds = (execOps P Γ all base ops i S ds).bind fun p => execOps P Γ all base rest (i + ops.length) p.1 p.2
 | [], rest, i, S, ds => by simp [execOps, Tr.bind]
 | o :: ops, rest, i, S, ds => by
   rw [List.cons_append, execOps_cons, execOps_cons, stepK_bind]
   congr 1
   funext S' ds'
   rw [execOps_append ops rest (i + 1) S' ds', List.length_cons, Nat.add_assoc, Nat.add_comm 1]
end
def Less (v u : AV) : Prop := v = .any ∨ v = u
def LessL : List AV → List AV → Prop
 | [], [] => True
 | v :: l, u :: m => Less v u ∧ LessL l m
 | _, _ => False
theorem Less.trans {v u x : AV} (h : Less v u) (k : Less u x) : Less v x := by
 rcases h with h | h
 ·exact .inl h
 ·subst h; exact k
theorem LessL.trans : ∀ {l m n : List AV}, LessL l m → LessL m n → LessL l n
 | [], [], [], _, _ => trivial
 | _ :: _, _ :: _, _ :: _, h, k => ⟨h.1.trans k.1, h.2.trans k.2⟩
 | [], _ :: _, _, h, _ => h.elim
 | _ :: _, [], _, h, _ => h.elim
 | [], [], _ :: _, _, k => k.elim
 | _ :: _, _ :: _, [], _, k => k.elim
theorem LessL.refl : ∀ (l : List AV), LessL l l
 | [] => trivial
 | _ :: l => ⟨.inr rfl, LessL.refl l⟩
mutual
theorem mergeV_eq (c : Bool) (x y z : AV) (h : mergeV c x y = some z) : (c = true → z = x) ∧ (c = false → z = y) := by
 unfold mergeV at h
 split at h
 · cases h; exact ⟨fun hc => by subst hc; rfl, fun hc => by subst hc; rfl⟩
 · split at h
   · rename_i hk
     subst hk
     cases h; exact ⟨fun hc => by subst hc; rfl, fun hc => by subst hc; rfl⟩
   · cases h
 · cases h; exact ⟨fun hc => by subst hc; rfl, fun hc => by subst hc; rfl⟩
 · rename_i b o b' o'
   cases hb : (Nat.beq b b' && Nat.beq o o') with
   | false => rw [hb] at h; cases h
   | true =>
     rw [hb] at h
     rw [Bool.and_eq_true] at hb
     obtain rfl : b = b' := Nat.eq_of_beq_eq_true hb.1
     obtain rfl : o = o' := Nat.eq_of_beq_eq_true hb.2
     cases h; exact ⟨fun _ => rfl, fun _ => rfl⟩
 · rename_i l m
   cases hm : mergeVs c l m with
   | none => rw [hm] at h; cases h
   | some n =>
     rw [hm] at h
     cases h
     have := mergeVs_eq c l m n hm
     exact ⟨fun hc => by rw [this.1 hc], fun hc => by rw [this.2 hc]⟩
 · rename_i l m
   cases hm : mergeVs c l m with
   | none => rw [hm] at h; cases h
   | some n =>
     rw [hm] at h
     cases h
     have := mergeVs_eq c l m n hm
     exact ⟨fun hc => by rw [this.1 hc], fun hc => by rw [this.2 hc]⟩
 · cases h
 termination_by SizeOf.sizeOf x
theorem mergeVs_eq (c : Bool) (l m n : List AV) (h : mergeVs c l m = some n) : (c = true → n = l) ∧ (c = false → n = m) := by
 unfold mergeVs at h
 split at h
 · cases h; exact ⟨fun _ => rfl, fun _ => rfl⟩
 · rename_i x l y m
   split at h
   · rename_i z n' hz hn
     cases h
     have h1 := mergeV_eq c x y z hz
     have h2 := mergeVs_eq c l m n' hn
     exact ⟨fun hc => by rw [h1.1 hc, h2.1 hc], fun hc => by rw [h1.2 hc, h2.2 hc]⟩
   · cases h
 · cases h
 termination_by SizeOf.sizeOf l
end
theorem mergeAV_left (x y : AV) : Less (mergeAV true x y) x := by
 unfold mergeAV
 cases h : mergeV true x y with
 | none => exact .inl rfl
 | some z => exact .inr ((mergeV_eq true x y z h).1 rfl)
theorem mergeAV_right (x y : AV) : Less (mergeAV false x y) y := by
 unfold mergeAV
 cases h : mergeV false x y with
 | none => exact .inl rfl
 | some z => exact .inr ((mergeV_eq false x y z h).2 rfl)
theorem mergeL_left : ∀ {l m n : List AV}, mergeL true l m = some n → LessL n l
 | [], [], n, h => by cases h; trivial
 | x :: l, y :: m, n, h => by
   unfold mergeL at h
   cases hm : mergeL true l m with
   | none => rw [hm] at h; cases h
   | some n' => rw [hm] at h; cases h; exact ⟨mergeAV_left x y, mergeL_left hm⟩
 | [], _ :: _, _, h => by cases h
 | _ :: _, [], _, h => by cases h
theorem mergeL_right : ∀ {l m n : List AV}, mergeL false l m = some n → LessL n m
 | [], [], n, h => by cases h; trivial
 | x :: l, y :: m, n, h => by
   unfold mergeL at h
   cases hm : mergeL false l m with
   | none => rw [hm] at h; cases h
   | some n' => rw [hm] at h; cases h; exact ⟨mergeAV_right x y, mergeL_right hm⟩
 | [], _ :: _, _, h => by cases h
 | _ :: _, [], _, h => by cases h
theorem flat_sound {ops : List Oper} {draw : Bool} {dsts : List Tmp} {n0 : Nat} {φ : St × List Did → Prop} : ∀ {T : Tr (St × List Did)} {p : Bool} {vs : List AV}, flat ops draw dsts n0 T = some (p, vs) → p = true → T.leaves φ →
   T.sat fun q => φ q ∧ (∀ d ∈ q.2.take (q.2.length - n0), d.writes = []) ∧ (!draw || indep ops q.2) = true ∧ LessL vs (dsts.map fun t => q.1.tm.getD t .any)
 | .ret (S, ds), p, vs, h, hp, hl => by
   unfold flat at h
   cases hb : (((ds.take (ds.length - n0)).all fun d => d.writes.isEmpty) && (!draw || indep ops ds)) with
   | false => rw [hb] at h; cases h
   | true =>
     rw [hb] at h
     simp only [cond_true, Option.some.injEq, Prod.mk.injEq] at h
     obtain ⟨_, rfl⟩ := h
     rw [Bool.and_eq_true] at hb
     refine ⟨hl, fun d hd => ?_, hb.2, LessL.refl _⟩
     have := List.all_eq_true.1 hb.1 d hd
     simpa using this
 | .need c t, p, vs, h, hp, hl => by
   unfold flat at h
   split at h
   · rename_i q l hq
     simp only [Option.some.injEq, Prod.mk.injEq] at h
     obtain ⟨rfl, rfl⟩ := h
     rw [Bool.and_eq_true] at hp
     exact ⟨hp.1, fun _ => flat_sound hq hp.2 hl⟩
   · cases h
 | .ite c a b, p, vs, h, hp, hl => by
   unfold flat at h
   split at h
   · rename_i pa la pb lb ha hb
     split at h
     · rename_i n hn
       simp only [Option.some.injEq, Prod.mk.injEq] at h
       obtain ⟨rfl, rfl⟩ := h
       refine ⟨fun hc => ?_, fun hc => ?_⟩
       · subst hc
         exact Tr.sat_mono (fun q hq => ⟨hq.1, hq.2.1, hq.2.2.1, (mergeL_left hn).trans hq.2.2.2⟩) (flat_sound ha hp hl.1)
       · subst hc
         exact Tr.sat_mono (fun q hq => ⟨hq.1, hq.2.1, hq.2.2.1, (mergeL_right hn).trans hq.2.2.2⟩) (flat_sound hb hp hl.2)
     · cases h
   · cases h
 | .both _ _, p, vs, h, _, _ => by cases h
 | .fail _, p, vs, h, _, _ => by cases h
theorem putAll_length : ∀ (ts : List Tmp) (vs tm : List AV), (putAll tm ts vs).length = tm.length
 | [], vs, tm => by cases vs <;> rfl
 | t :: ts, [], tm => rfl
 | t :: ts, v :: vs, tm => by
   unfold putAll
   rw [putAll_length ts vs]
   simp
theorem putAll_less {f : Nat → AV} : ∀ (ts : List Tmp) (vs tm : List AV), LessL vs (ts.map f) → (∀ t, t ∈ ts ∨ Less (tm.getD t .any) (f t)) → ∀ t, Less ((putAll tm ts vs).getD t .any) (f t)
 | [], [], tm, _, h, t => (h t).resolve_left (by simp)
 | t0 :: ts, v :: vs, tm, hv, h, t => by
  unfold putAll
  refine putAll_less ts vs _ hv.2 (fun u => ?_) t
  by_cases hu : t0 = u
  ·subst hu
   by_cases hm : t0 ∈ ts
   ·exact .inl hm
   ·right
    by_cases hl : t0 < tm.length
    ·have : (tm.set t0 v).getD t0 .any = v := by simp [List.getD_eq_getElem?_getD, List.getElem?_set_self hl]
     rw [this]; exact hv.1
    ·left
     have hge : (tm.set t0 v).length ≤ t0 := by rw [List.length_set]; exact Nat.le_of_not_lt hl
     simp only [List.getD_eq_getElem?_getD, List.getElem?_eq_none hge, Option.getD_none]
  ·have : (tm.set t0 v).getD u .any = tm.getD u .any := by simp [List.getD_eq_getElem?_getD, List.getElem?_set_ne hu]
   rw [this]
   rcases h u with h | h
   ·rcases List.mem_cons.1 h with h | h
    ·exact absurd h.symm hu
    ·exact .inl h
   ·exact .inr h
 | [], _ :: _, _, hv, _, _ => hv.elim
 | _ :: _, [], _, hv, _, _ => hv.elim
theorem Holds.less {C : Ctx} {B : Bmap} {S : St} {a : Act} {w : World} (H : Holds C B S a w) {tm : List AV} (hl : tm.length = S.tm.length) (h : ∀ t, Less (tm.getD t .any) (S.tm.getD t .any)) : Holds C B { S with tm := tm } a w := by
 refine { H with size := by rw [H.size]; exact hl.symm, tm := fun t ht => ?_ }
 rcases h t with h | h
 ·show ARel _ _ _ (tm.getD t .any) _
  rw [h]; exact .any _
 ·show ARel _ _ _ (tm.getD t .any) _
  rw [h]; exact H.tm t (by rw [← hl]; exact ht)
section
variable {P : Program} {Γ : FuncId → Option Spec}
theorem regionG_sat {ops : List Oper} {draw : Bool} {S : St} {Q : St → Prop} (h : (execRegionG P Γ ops draw S).sat Q) :
   (execRegion P Γ ops draw S).sat fun S' => ∃ tm, tm.length = S'.tm.length ∧ (∀ t, Less (tm.getD t .any) (S'.tm.getD t .any)) ∧ Q { S' with tm := tm } := by
 unfold execRegionG at h
 unfold execRegion
 have h := Tr.sat_bind h
 have e : ops = ops.take (firstSource ops ops 0) ++ ops.drop (firstSource ops ops 0) := (List.take_append_drop _ _).symm
 generalize hi : firstSource ops ops 0 = i0 at h e
 have hlen : (ops.take i0).length ≤ i0 := by simp; omega
 refine Tr.bind_sat ?_
 have hsplit : execOps P Γ ops S.nx ops 0 (blanks S ops.length) [] = (execOps P Γ ops S.nx (ops.take i0) 0 (blanks S ops.length) []).bind fun p => execOps P Γ ops S.nx (ops.drop i0) (0 + (ops.take i0).length) p.1 p.2 := by
   rw [← execOps_append (all := ops), ← e]
 rw [hsplit]
 refine Tr.bind_sat (Tr.sat_mono ?_ h)
 rintro ⟨S1, ds1⟩ hq
 have hidx : execOps P Γ ops S.nx (ops.drop i0) (0 + (ops.take i0).length) S1 ds1 = execOps P Γ ops S.nx (ops.drop i0) i0 S1 ds1 := by
   by_cases hle : i0 ≤ ops.length
   · have : (ops.take i0).length = i0 := by simp; omega
     rw [this, Nat.zero_add]
   · have : ops.drop i0 = [] := List.drop_eq_nil_of_le (by omega)
     rw [this]; rfl
 simp only [hidx]
 dsimp only at hq
 have same : ∀ S' : St, Q S' → ∃ tm, tm.length = S'.tm.length ∧ (∀ t, Less (tm.getD t .any) (S'.tm.getD t .any)) ∧ Q { S' with tm := tm } := fun S' hS => ⟨S'.tm, rfl, fun _ => .inr rfl, hS⟩
 split at hq
 · rename_i c vs hf
   obtain ⟨hc, hQ⟩ := hq
   refine Tr.sat_mono ?_ (flat_sound hf hc (execOps_fits (P := P) (Γ := Γ) (all := ops) (base := S.nx) (ops.drop i0) i0 S1 ds1))
   rintro ⟨S', ds⟩ ⟨⟨h1, h2, ⟨new, h3, h4⟩, h5⟩, hw, hd, hv⟩
   simp only at h1 h2 h3 h4 h5 hw hd hv
   have hmem : S'.mem = S1.mem := h4 (fun d hdn => hw d (by rw [h3]; simp [hdn]))
   rw [hd]
   simp only [cond_true]
   have hless := putAll_less (f := fun t => S'.tm.getD t .any) _ vs S1.tm hv (fun t => by
     by_cases ht : t ∈ (ops.drop i0).filterMap (·.dst)
     · exact .inl ht
     · refine .inr (.inr (h5 t fun o ho hdst => ht ?_).symm)
       exact List.mem_filterMap.2 ⟨o, ho, hdst⟩)
   refine ⟨_, (putAll_length _ _ _).trans h2.symm, hless, ?_⟩
   have := hQ hc
   obtain ⟨tm1, mem1, nx1⟩ := S1
   obtain ⟨tm2, mem2, nx2⟩ := S'
   simp only at hmem h1 this ⊢
   subst hmem
   subst h1
   exact this
 · have hq := Tr.sat_bind hq
   refine Tr.sat_mono ?_ hq
   rintro ⟨S', ds⟩ hk
   unfold checked at hk
   simp only at hk ⊢
   cases hb : (!draw || indep ops ds) with
   | true =>
     rw [hb] at hk
     exact same _ hk
   | false =>
     rw [hb] at hk
     exact hk.elim
theorem regionN_sat {N : Nat} {ops : List Oper} {draw : Bool} {S : St} {Q : St → Prop} (h : (regionN P Γ N ops draw S).sat Q) :
  (execRegion P Γ ops draw S).sat fun S' => ∃ tm, tm.length = S'.tm.length ∧ (∀ t, Less (tm.getD t .any) (S'.tm.getD t .any)) ∧ Q { S' with tm := tm } := by
 unfold regionN at h
 cases hb : (Nat.ble 1000 N && ops.any (fun o => o.guard.isSome)) with
 | true => rw [hb] at h; exact regionG_sat h
 | false =>
  rw [hb] at h
  exact Tr.sat_mono (fun S' hS => ⟨S'.tm, rfl, fun _ => .inr rfl, hS⟩) h
end
end Go.Vse
namespace Go.Vse
open Go.RowKit
def Ex.toExit : Ex → Exit
 | .normal => .normal
 | .exit id => .exit id
 | .ret => .ret
theorem wpV_mono {F : Fence} {n : Nat} {P : Program} {c : Code} {Q Q' : Exit → Act → World → Prop} {a : Act} {w : World} (hq : ∀ e a w, Q e a w → Q' e a w) (h : c.wpIn F n P Q a w) : c.wpIn F n P Q' a w := wpIn_mono h hq
theorem wp_of_vse {n : Nat} {P : Program} {c : Code} {Q : Exit → Act → World → Prop} {a : Act} {w : World} (h : c.wpIn (Fence.vse none) n P Q a w) : c.wp P Q a w := wpIn_wide.1 h
def PostR (C : Ctx) (Q : Ex × St → Prop) (e : Exit) (a : Act) (w : World) : Prop :=
 ∃ ex S B, e = ex.toExit ∧ Holds C B S a w ∧ Q (ex, S)
section
variable {P : Program} {Γ : FuncId → Option Spec} {L : Nat → Option (St → Tr (Ex × St))} {C : Ctx}
theorem execRegion_sound {ro : Option Nat} (hm : P.follows .mixedOrders = true) (hΓ : ∀ f s, Γ f = some s → SpecAt C P f s) (hC : C.Ok) {id : Nat} {ops : Array Oper} {draw : Bool} {S : St} {Q : St → Prop}
   (h : (execRegion P Γ ops.toList draw S).sat Q) {B : Bmap} {a : Act} {w : World} (H : Holds C B S a w) {R : Exit → Act → World → Prop}
   (hR : ∀ S' a' w' B', Q S' → Holds C B' S' a' w' → R .normal a' w') : (Code.region id ops draw).wpIn (Fence.vse ro) 0 P R a w := by
 unfold execRegion at h
 have h1 := Tr.sat_bind h
 obtain ⟨S', ds, hruns, hq⟩ := execOps_runs (P := P) (Γ := Γ) (all := ops.toList) (base := S.nx) ops.toList 0 (blanks S ops.toList.length) [] (by simp) h1
 simp only [List.append_nil] at hq
 have hblank : Holds C B (blanks S ops.toList.length) a w := { H with fresh := fun s hs => H.fresh s (by simp only [blanks] at hs; omega), kle := by have := H.kle; simp only [blanks]; omega }
 have hfree : FreeAt B S.nx (List.range' 0 ops.toList.length) := fun i _ => H.fresh _ (by omega)
 have hnx : ∀ i ∈ List.range' 0 ops.toList.length, Between C (blanks S ops.toList.length) (S.nx + i) := by
   intro i hi
   simp only [List.mem_range'_1] at hi
   have := H.kle
   unfold Between
   simp only [blanks]; omega
 cases draw with
 | false =>
   simp only [Bool.not_false, Bool.true_or, cond_true] at hq
   refine wpIn_region ?_
   have hl : List.range ops.size = List.range' 0 ops.toList.length := by simp [List.range_eq_range']
   rw [hl]
   have := runs_sound hΓ hC (S' := S') (Q := R) (List.range' 0 ops.toList.length) _ ds B a w hruns hblank hfree (List.nodup_range') hnx (fun a' w' B' H' => hR S' a' w' B' hq H') ro
   simpa using this
 | true =>
   simp only [Bool.not_true, Bool.false_or] at hq
   cases hi : indep ops.toList ds.reverse with
   | false => rw [hi] at hq; exact hq.elim
   | true =>
     rw [hi] at hq
     simp only [cond_true] at hq
     obtain ⟨he, hind⟩ := indep_spec hi
     rw [List.reverse_reverse] at hind
     refine wpIn_region_any hm ?_
     have H2 : Holds C B (blanks S ops.toList.length) a { w with drawn := w.drawn + 1 } := hblank.move (w' := w.drew) (Below.refl _ w).drew
     have := wpAny_runs hΓ hC he ro (Q := R) (S' := S') ops.size (List.range' 0 ops.toList.length) (Array.replicate ops.size false) _ ds B a _ hruns (indepL_spec hind)
       (List.pairwise_lt_range') (by simp) (by simp) (fun i hi => by
         have hi' : i < ops.size := by simpa using hi
         simp [hi']) (fun i hi => by simpa [List.mem_range'_1] using hi) (fun k o hk hkl => absurd (show k ∈ List.range' 0 ops.toList.length by
           have := (List.getElem?_eq_some_iff.1 hk).1
           simpa [List.mem_range'_1] using this) hkl) H2 hfree hnx (fun a' w' B' H' => hR S' a' w' B' hq H')
     simpa using this
theorem bothL_sat {α : Type} {Q : α → Prop} : ∀ {l : List (Tr α)}, (bothL l).sat Q → ∀ t ∈ l, t.sat Q
 | [], h, t, ht => by cases ht
 | [t], h, t', ht => by
   obtain rfl := List.mem_singleton.1 ht
   exact h
 | t :: u :: l, h, t', ht => by
   rcases List.mem_cons.1 ht with rfl | ht
   · exact h.1
   · exact bothL_sat (l := u :: l) h.2 t' ht
theorem isNext_inv {o : Oper} {x : Operand} (h : isNext o = some x) : o.op = .next x false ∧ o.guard = none := by
 unfold isNext at h
 split at h
 ·rename_i y hop hg
  cases h
  exact ⟨hop, hg⟩
 ·cases h
theorem regionM_sound {ro : Option Nat} (hm : P.follows .mixedOrders = true) (hΓ : ∀ f s, Γ f = some s → SpecAt C P f s) (hC : C.Ok) {id : Nat} {ops : Array Oper} {draw : Bool} {N : Nat} {S : St} {Q : St → Prop}
   (hrest : ∀ {B : Bmap} {a : Act} {w : World}, (regionN P Γ N ops.toList draw S).sat Q → Holds C B S a w → ∀ {R : Exit → Act → World → Prop}, (∀ S' a' w' B', Q S' → Holds C B' S' a' w' → R .normal a' w') → (Code.region id ops draw).wpIn (Fence.vse ro) 0 P R a w)
   (h : (regionM P Γ N ops.toList draw S).sat Q) {B : Bmap} {a : Act} {w : World} (H : Holds C B S a w) {R : Exit → Act → World → Prop}
   (hR : ∀ S' a' w' B', Q S' → Holds C B' S' a' w' → R .normal a' w') : (Code.region id ops draw).wpIn (Fence.vse ro) 0 P R a w := by
 unfold regionM at h
 split at h
 · rename_i o rest hops
   split at h
   · rename_i x hnx
     obtain ⟨hop, hg⟩ := isNext_inv hnx
     cases hd : (draw || isSource ops.toList 0) with
     | true => rw [hd] at h; exact h.elim
     | false =>
       rw [hd] at h
       simp only [cond_false] at h
       simp only [Bool.or_eq_false_iff] at hd
       obtain ⟨rfl, _⟩ := hd
       split at h
       · rename_i rs hrs
         have hblank : Holds C B (blanks S ops.toList.length) a w := { H with fresh := fun s hs => H.fresh s (by simp only [blanks] at hs; omega), kle := by have := H.kle; simp only [blanks]; omega }
         have hlen : ops.toList.length = rest.length + 1 := by rw [hops]; rfl
         have hsz : ops.size = rest.length + 1 := by rw [← hlen]; simp
         refine wpIn_region ?_
         have hl : List.range ops.size = 0 :: List.range' 1 rest.length := by
           rw [hsz, List.range_eq_range', List.range'_succ]
         rw [hl, wpOpsIn_cons]
         have ho : ops[0]? = some o := by
           have : ops.toList[0]? = some o := by rw [hops]; rfl
           simpa using this
         have hnx0 : Between C (blanks S ops.toList.length) (S.nx + 0) := by
           have := H.kle
           unfold Between
           simp only [blanks]; omega
         have hf0 : B (S.nx + 0) = none := H.fresh _ (by omega)
         unfold wpOpIn
         rw [ho]
         simp only []
         have hw : Region.wanted o (yielded ops a.tmps) = true := by
           unfold Region.wanted
           rw [hg]
         rw [hw]
         simp only [if_true]
         refine Oper.wpIn_of_wpV ro 0 (fun c hc => by rw [hop] at hc; cases hc) (next_case (slot := S.nx + 0) hblank hop hrs fun r hr => ?_)
         intro a' w' B' H' hB
         have hs := bothL_sat h _ (List.mem_map.2 ⟨r, hr, rfl⟩)
         have h1 := Tr.sat_bind hs
         obtain ⟨S', ds, hruns, hq⟩ := execOps_runs (P := P) (Γ := Γ) (all := ops.toList) (base := S.nx) rest 1 _ [] (fun j => by rw [hops, Nat.add_comm 1 j]; rfl) h1
         have hq : Q S' := hq
         have := runs_sound hΓ hC (S' := S') (Q := R) (List.range' 1 rest.length) _ ds B' a' w' hruns H' (fun i hi => by
             simp only [List.mem_range'_1] at hi
             rw [hB _ (by omega)]
             exact H.fresh _ (by omega)) List.nodup_range' (fun i hi => by
             simp only [List.mem_range'_1] at hi
             have := H.kle
             unfold Between
             simp only [St.apply, blanks]
             omega) (fun a2 w2 B2 H2 => hR S' a2 w2 B2 hq H2) ro
         simpa using this
       · exact h.elim
   · exact hrest h H hR
 · exact hrest h H hR
def BlockOk (P : Program) (k : Nat) (id : Nat) (body : Code) (g : St → Tr (Ex × St)) : Prop :=
 ∀ (ro : Option Nat) (C : Ctx), C.Ok → C.k = k → ∀ (Q : Ex × St → Prop) (S : St) (B : Bmap) (a : Act) (w : World), (g S).sat Q → Holds C B S a w → (Code.block id body).wpIn (Fence.vse ro) 0 P (PostR C Q) a w
def BlocksOk (P : Program) (k : Nat) (L : Nat → Option (St → Tr (Ex × St))) : Code → Prop
 | .seq a b => BlocksOk P k L a ∧ BlocksOk P k L b
 | .cond _ a b => BlocksOk P k L a ∧ BlocksOk P k L b
 | .block id body =>
  match L id with
  | some g => BlockOk P k id body g
  | none => BlocksOk P k L body
 | .loop body => BlocksOk P k L body
 | .scope body => BlocksOk P k L body
 | _ => True
theorem blocksOk_none (k : Nat) : ∀ (c : Code), BlocksOk P k (fun _ => none) c
 | .seq a b => ⟨blocksOk_none k a, blocksOk_none k b⟩
 | .cond _ a b => ⟨blocksOk_none k a, blocksOk_none k b⟩
 | .block id body => blocksOk_none k body
 | .loop body => blocksOk_none k body
 | .scope body => blocksOk_none k body
 | .skip => trivial
 | .region .. => trivial
 | .rangeFunc .. => trivial
 | .exit _ => trivial
 | .label _ => trivial
 | .goto _ => trivial
 | .ret => trivial
 | .refuse _ => trivial
theorem loopN_rounds {ro : Option Nat} {f : St → Tr (Ex × St)} {c : Code} (hf : ∀ (Q : Ex × St → Prop) (S : St) (B : Bmap) (a : Act) (w : World), (f S).sat Q → Holds C B S a w → c.wpIn (Fence.vse ro) 0 P (PostR C Q) a w) :
  ∀ (n : Nat) (Q : Ex × St → Prop) (S : St) (B : Bmap) (a : Act) (w : World), (loopN f n S).sat Q → Holds C B S a w → Code.roundsIn (Fence.vse ro) 0 P c (PostR C Q) n a w
 | 0, Q, S, B, a, w, h, H => h.elim
 | n + 1, Q, S, B, a, w, h, H => by
  unfold loopN at h
  refine wpV_mono ?_ (hf _ S B a w (Tr.sat_bind h) H)
  rintro e a' w' ⟨ex, S', B', rfl, H', hq⟩
  cases ex with
  | normal => exact loopN_rounds hf n Q S' B' a' w' hq H'
  | exit id => exact ⟨.exit id, S', B', rfl, H', hq⟩
  | ret => exact ⟨.ret, S', B', rfl, H', hq⟩
theorem exec_sound {ro : Option Nat} (hm : P.follows .mixedOrders = true) (hΓ : ∀ f s, Γ f = some s → SpecAt C P f s) (hC : C.Ok) {N : Nat} : ∀ (c : Code), BlocksOk P C.k L c → ∀ (Q : Ex × St → Prop) (S : St) (B : Bmap) (a : Act) (w : World), (exec P Γ L N c S).sat Q →
  Holds C B S a w → c.wpIn (Fence.vse ro) 0 P (PostR C Q) a w
 | .skip, _, Q, S, B, a, w, h, H => wpIn_skip ⟨.normal, S, B, rfl, H, h⟩
 | .region id ops draw, _, Q, S, B, a, w, h, H => by
  unfold exec at h
  refine regionM_sound hm hΓ hC (fun hs H R hR => ?_) (Tr.sat_bind h) H ?_
  ·refine execRegion_sound hm hΓ hC (regionN_sat hs) H ?_
   rintro S' a' w' B' ⟨tm, hl, ht, hq⟩ H'
   exact hR _ a' w' B' hq (H'.less hl ht)
  ·intro S' a' w' B' hq H'
   exact ⟨.normal, S', B', rfl, H', hq⟩
 | .seq x y, hl, Q, S, B, a, w, h, H => by
  unfold exec at h
  refine wpIn_seq (wpV_mono ?_ (exec_sound hm hΓ hC x hl.1 _ S B a w (Tr.sat_bind h) H))
  rintro e a' w' ⟨ex, S', B', rfl, H', hq⟩
  cases ex with
  | normal => exact exec_sound hm hΓ hC y hl.2 Q S' B' a' w' hq H'
  | exit id => exact ⟨.exit id, S', B', rfl, H', hq⟩
  | ret => exact ⟨.ret, S', B', rfl, H', hq⟩
 | .cond c x y, hl, Q, S, B, a, w, h, H => by
  unfold exec at h
  split at h
  ·rename_i t ht
   have hr := eval_rel H c
   rw [ht] at hr
   have hv := hr.plain
   cases t with
   | true => exact wpIn_cond_true hv (exec_sound hm hΓ hC x hl.1 Q S B a w (h.1 rfl) H)
   | false => exact wpIn_cond_false hv (exec_sound hm hΓ hC y hl.2 Q S B a w (h.2 rfl) H)
  ·exact h.elim
 | .block id body, hl, Q, S, B, a, w, h, H => by
  unfold exec at h
  unfold BlocksOk at hl
  cases hg : L id with
  | some g =>
   rw [hg] at h hl
   exact hl ro C hC rfl Q S B a w h H
  | none =>
   rw [hg] at h hl
   simp only at h hl
   refine wpIn_block (wpV_mono ?_ (exec_sound hm hΓ hC body hl _ S B a w (Tr.sat_bind h) H))
   rintro e a' w' ⟨ex, S', B', rfl, H', hq⟩
   cases ex with
   | normal => exact ⟨.normal, S', B', rfl, H', hq⟩
   | ret => exact ⟨.ret, S', B', rfl, H', hq⟩
   | exit j =>
    simp only [Ex.toExit, Exit.inBlock]
    by_cases hj : j = id
    ·subst hj
     simp only [Nat.beq_refl, cond_true] at hq
     rw [if_pos rfl]
     exact ⟨.normal, S', B', rfl, H', hq⟩
    ·have hb : Nat.beq j id = false := by
      cases hb : Nat.beq j id
      ·rfl
      ·exact absurd (Nat.eq_of_beq_eq_true hb) hj
     simp only [hb, cond_false] at hq
     rw [if_neg hj]
     exact ⟨.exit j, S', B', rfl, H', hq⟩
 | .loop body, hl, Q, S, B, a, w, h, H => by
  unfold exec at h
  exact wpIn_loop_rounds (roundsN N) (loopN_rounds (fun Q S B a w h H => exec_sound hm hΓ hC body hl Q S B a w h H) (roundsN N) Q S B a w h H)
 | .scope body, hl, Q, S, B, a, w, h, H => by
  unfold exec at h
  refine wpIn_scope_straight (wpV_mono ?_ (exec_sound hm hΓ hC body hl Q S B a w h H))
  rintro e a' w' ⟨ex, S', B', rfl, H', hq⟩
  cases ex <;> exact ⟨_, S', B', rfl, H', hq⟩
 | .exit id, _, Q, S, B, a, w, h, H => wpIn_exit ⟨.exit id, S, B, rfl, H, h⟩
 | .ret, _, Q, S, B, a, w, h, H => wpIn_ret ⟨.ret, S, B, rfl, H, h⟩
 | .rangeFunc .., _, _, _, _, _, _, h, _ => h.elim
 | .label _, _, _, _, _, _, _, h, _ => h.elim
 | .goto _, _, _, _, _, _, _, h, _ => h.elim
 | .refuse _, _, _, _, _, _, _, h, _ => h.elim
def resSem (tmps : Array Value) : ResultVar → Sem Value
 | .tmp t => pure (tmps.getD t undef)
 | .cell a t => do loadVar t (← asAddr (tmps.getD a undef))
theorem results_eq (fn : Func) (tmps : Array Value) : results fn tmps = (do
  let vs ← fn.results.mapM (resSem tmps)
  pure (if h : vs.size = 1 then vs[0] else .tuple vs)) := rfl
theorem resultA_sound {S : St} {B : Bmap} {a : Act} {w : World} (H : Holds C B S a w) {r : ResultVar} {x : AV} (h : resultA P S r = some x) :
  ∃ v, (resSem a.tmps r).run P w = .ok v w ∧ ARel (ownOf C.A0 B S.mem) B w x v := by
 have key : ∀ t : Nat, ARel (ownOf C.A0 B S.mem) B w (S.tm.getD t .any) (a.tmps.getD t undef) := fun t => eval_rel H (.tmp t)
 unfold resultA at h
 cases r with
 | tmp t =>
  simp only [Option.some.injEq] at h
  subst h
  exact ⟨_, rfl, key t⟩
 | cell c t =>
  simp only at h
  split at h
  ·rename_i e he
   split at h
   ·rename_i hcs
    cases h
    obtain ⟨_, ad, v, hxe, hrun, hrel⟩ := loadA_run H (key c) he (by rw [hcs]; simp)
    exact ⟨v, by simp only [resSem, hxe, asAddr, Sem.run_bind, Sem.run_pure, Result.andThen_ok, hrun], hrel⟩
   ·cases h
  ·cases h
theorem resultsL_sound {S : St} {B : Bmap} {a : Act} {w : World} (H : Holds C B S a w) : ∀ {rs : List ResultVar} {xs : List AV}, rs.mapM (resultA P S) = some xs →
   ∃ vs : List Value, (rs.mapM (resSem a.tmps)).run P w = .ok vs w ∧ Rels (ownOf C.A0 B S.mem) B w xs vs
 | [], xs, h => by simp at h; subst h; exact ⟨[], by simp, .nil⟩
 | r :: rs, xs, h => by
   simp only [List.mapM_cons, Option.bind_eq_bind, Option.pure_def] at h
   cases h1 : resultA P S r with
   | none => simp [h1] at h
   | some x =>
     cases h2 : rs.mapM (resultA P S) with
     | none => simp [h1, h2] at h
     | some ys =>
       simp [h1, h2] at h
       subst h
       obtain ⟨v, hv, hr⟩ := resultA_sound H h1
       obtain ⟨vs, hvs, hrs⟩ := resultsL_sound H h2
       refine ⟨v :: vs, ?_, .cons hr hrs⟩
       simp only [List.mapM_cons, Sem.run_bind, hv, Result.andThen_ok, hvs, Sem.run_pure]
theorem resultsA_sound {fn : Func} {S : St} {B : Bmap} {a : Act} {w : World} (H : Holds C B S a w) {x : AV} (h : resultsA P S fn.results.toList = some x) :
  ∃ v, (results fn a.tmps).run P w = .ok v w ∧ ARel (ownOf C.A0 B S.mem) B w x v := by
 have hall : ∃ xs, fn.results.toList.mapM (resultA P S) = some xs ∧ ((fn.results.toList.length = 1 ∧ xs = [x]) ∨ (fn.results.toList.length ≠ 1 ∧ x = .tup xs)) := by
  unfold resultsA at h
  split at h
  ·rename_i r hr
   exact ⟨[x], by simp [hr, h], .inl ⟨by simp [hr], rfl⟩⟩
  ·rename_i rs hne
   simp only [Option.map_eq_some_iff] at h
   obtain ⟨xs, hxs, rfl⟩ := h
   refine ⟨xs, hxs, .inr ⟨fun hl => ?_, rfl⟩⟩
   match hrs : fn.results.toList, hl with
   | [r], _ => exact hne r hrs
 obtain ⟨xs, hxs, hcase⟩ := hall
 obtain ⟨vs, hvs, hrels⟩ := resultsL_sound H hxs
 have hlen : xs.length = fn.results.toList.length := by
  have : ∀ {rs : List ResultVar} {xs : List AV}, rs.mapM (resultA P S) = some xs → xs.length = rs.length := by
   intro rs
   induction rs with
   | nil => intro xs h; simp at h; subst h; rfl
   | cons r rs ih =>
    intro xs h
    simp only [List.mapM_cons, Option.bind_eq_bind, Option.pure_def] at h
    cases h1 : resultA P S r with
    | none => simp [h1] at h
    | some x =>
     cases h2 : rs.mapM (resultA P S) with
     | none => simp [h1, h2] at h
     | some ys => simp [h1, h2] at h; subst h; simp [ih h2]
  exact this hxs
 have hrun : (results fn a.tmps).run P w = .ok (if h : vs.toArray.size = 1 then vs.toArray[0] else .tuple vs.toArray) w := by
  rw [results_eq, Array.mapM_eq_mapM_toList]
  simp only [Sem.run_bind, Sem.run_map, hvs, Result.andThen_ok, Sem.run_pure]
 rcases hcase with ⟨h1, rfl⟩ | ⟨h1, rfl⟩
 ·obtain ⟨v, cs', rfl, hr, hnil⟩ := hrels.head
  obtain rfl := hnil.nil_inv
  exact ⟨v, by rw [hrun]; rfl, hr⟩
 ·have hv1 : vs.length ≠ 1 := by rw [hrels.1, hlen]; exact h1
  exact ⟨_, by rw [hrun, dif_neg (by simpa using hv1)], ARel.tup_mk hrels⟩
theorem calls_of_exec (hm : P.follows .mixedOrders = true) (hΓ : ∀ f s, Γ f = some s → SpecOk P f s) {f : FuncId} {fn : Func} {c : Code} (hf : P.funcs[f]? = some fn) (hb : fn.body = some c) (hl : BlocksOk P 0 L c) {N : Nat}
   {args : List AV} {Q : AV → Prop} (h : (execFn P Γ L N fn args).sat fun r => Vse.noPtr r = true ∧ Q r) {A : Nat → Prop} {w : World} {vs : List Value}
   (hA : ∀ b, A b → b < w.heap.size) (hargs : Rels A (fun _ => none) w args vs) :
   Calls P f vs.toArray w fun e w' => ∃ r v, Q r ∧ Vse.noPtr r = true ∧ e = .returned v ∧ ARel A (fun _ => none) w' r v ∧ Below w.heap.size w w' := by
 refine calls_of_wp hf hb ?_
 unfold execFn at h
 rw [hb] at h
 simp only at h
 have hown : ∀ b, ownOf A (fun _ => none) (start args fn.ntmps).mem b ↔ A b := fun b => by
   constructor
   · intro h
     rcases h with h | ⟨s, e, h1, _⟩
     · exact h
     · cases h1
   · exact fun h => Or.inl h
 have hweak : ∀ {x : AV} {v : Value}, ARel A (fun _ => none) w x v → ARel (ownOf A (fun _ => none) (start args fn.ntmps).mem) (fun _ => none) w x v :=
   fun h => h.trans (Trans.refl _ _) (fun b _ hb => (hown b).1 hb) (fun _ _ h => h)
 have hlen : vs.length = args.length := hargs.1
 have H : Holds ⟨A, fun _ => False, w, 0, fun _ => none⟩ (fun _ => none) (start args fn.ntmps) { tmps := vs.toArray ++ Array.replicate (fn.ntmps - vs.toArray.size) undef, defers := [] } w := by
   refine { defers := rfl, size := by simp [start, hlen], tm := ?_, mem := fun s e he => (by cases he), inj := fun _ _ _ _ _ h => (by cases h), kept := Kept.refl _ _, old := fun s β h => (by cases h), fresh := fun _ _ => rfl, base := fun _ _ => rfl, kle := Nat.zero_le _ }
   intro t ht
   by_cases hlt : t < args.length
   · have := hweak (hargs.2 t hlt)
     have hlt' : t < vs.length := by omega
     simpa [start, List.getD_eq_getElem?_getD, Array.getD_eq_getD_getElem?, List.getElem?_append_left hlt, Array.getElem?_append, hlt, hlt'] using this
   · have ht' : t - args.length < fn.ntmps - args.length := by simp only [start, List.length_append, List.length_replicate] at ht; omega
     have hlt' : ¬ t < vs.length := by omega
     have e1 : (start args fn.ntmps).tm.getD t .any = .c (.v undef) := by
       simp [start, List.getD_eq_getElem?_getD, List.getElem?_append_right (Nat.le_of_not_lt hlt), List.getElem?_replicate, ht']
     have e2 : (vs.toArray ++ Array.replicate (fn.ntmps - vs.toArray.size) undef).getD t undef = undef := by
       simp [Array.getD_eq_getD_getElem?, Array.getElem?_append, hlt', Array.getElem?_replicate, hlen, ht', hlt]
     show ARel _ _ _ _ _
     rw [e1]
     simp only [] at e2 ⊢
     rw [e2]
     exact ARel.lit _
 refine Code.wp_mono ?_ (wp_of_vse <| exec_sound hm (specsAt hΓ _) (C := ⟨A, fun _ => False, w, 0, fun _ => none⟩) ⟨hA, fun _ h => h.elim, fun _ _ h => h⟩ c hl _ _ _ _ _ (Tr.sat_bind h) H)
 rintro e a' w' ⟨ex, S', B', rfl, H', hq⟩
 have key : (match resultsA P S' fn.results.toList with | some v => Tr.needs (viewA S'.mem v).2 (.ret (viewA S'.mem v).1) | none => Tr.fail "results").sat (fun r => Vse.noPtr r = true ∧ Q r) →
     a'.defers = [] ∧ ∃ v, (results fn a'.tmps).run P w' = .ok v w' ∧ ∃ r v', Q r ∧ Vse.noPtr r = true ∧ Ending.returned v = .returned v' ∧ ARel A (fun _ => none) w' r v' ∧ Below w.heap.size w w' := by
   intro hs
   cases hr : resultsA P S' fn.results.toList with
   | none => rw [hr] at hs; exact hs.elim
   | some x =>
     rw [hr] at hs
     obtain ⟨hcs, hn, hQ⟩ := Tr.sat_needs hs
     obtain ⟨v, hrun, hrel⟩ := resultsA_sound H' hr
     have hview := viewA_rel H' (A := A) (fun b hb => .inl hb) x v hrel (fun b hb => by
       rintro ⟨s, _, e, _, h2⟩
       rcases (H'.old s b h2).1 with h3 | h3
       · exact absurd (hA b hb) (Nat.not_lt.2 h3)
       · exact h3) hcs
     exact ⟨H'.defers, v, hrun, _, v, hQ, hn, rfl, hview.noPtr hn _, H'.kept.below⟩
 cases ex with
 | normal => exact key hq
 | ret => exact key hq
 | exit id => exact hq.elim
end
end Go.Vse
namespace Go.Vse
open Go.RowKit
mutual
def renA (f : Nat → Nat) : AV → AV
 | .ptr b off => .ptr (f b) off
 | .eptr b k j sz => .eptr (f b) k j sz
 | .msl b n sz => .msl (f b) n sz
 | .ssl b k n sz => .ssl (f b) k n sz
 | .omap b => .omap (f b)
 | .agg l => .agg (renL f l)
 | .tup l => .tup (renL f l)
 | .fn g l => .fn g (renL f l)
 | x => x
def renL (f : Nat → Nat) : List AV → List AV
 | [] => []
 | x :: l => renA f x :: renL f l
end
def renE (f : Nat → Nat) : Ent → Ent
 | .cells l t => .cells (renL f l) t
 | .arr n sz el t => .arr n sz el t
 | .mapE es => .mapE es
 | .itE es seen => .itE es seen
mutual
/-- all slots that a value names -/
def namesA : AV → List Nat
 | .ptr b _ => [b]
 | .eptr b _ _ _ => [b]
 | .msl b _ _ => [b]
 | .ssl b _ _ _ => [b]
 | .omap b => [b]
 | .agg l => namesL l
 | .tup l => namesL l
 | .fn _ l => namesL l
 | _ => []
def namesL : List AV → List Nat
 | [] => []
 | x :: l => namesA x ++ namesL l
end
def namesE : Ent → List Nat
 | .cells l _ => namesL l
 | .arr _ _ _ _ => []
 | .mapE _ => []
 | .itE _ _ => []
def pos : List Nat → Nat → Nat
 | [], _ => 0
 | x :: l, s => bif Nat.beq x s then 0 else pos l s + 1
def memB (ids : List Nat) (s : Nat) : Bool := Nat.blt (pos ids s) ids.length
def nodupB : List Nat → Bool
 | [] => true
 | x :: l => !memB l x && nodupB l
def addAll (acc : List Nat) : List Nat → List Nat
 | [] => acc
 | x :: l => addAll (bif memB acc x then acc else acc ++ [x]) l
def growIds (m : Mem) (acc : List Nat) : List Nat → List Nat
 | [] => acc
 | s :: l => growIds m (match m s with | some e => addAll acc (namesE e) | none => acc) l
def reach (m : Mem) : Nat → List Nat → List Nat
 | 0, acc => acc
 | n + 1, acc => reach m n (growIds m acc acc)
def closedB (m : Mem) (ids : List Nat) : Bool := ids.all fun s => match m s with | some e => (namesE e).all (memB ids) | none => true
theorem beq_false {a b : Nat} (h : a ≠ b) : Nat.beq a b = false := by
 cases hb : Nat.beq a b
 ·rfl
 ·exact absurd (Nat.eq_of_beq_eq_true hb) h
theorem memB_pos {ids : List Nat} {s : Nat} (h : memB ids s = true) : pos ids s < ids.length ∧ ids.getD (pos ids s) 0 = s := by
 have h' : pos ids s < ids.length := by unfold memB at h; simpa [Nat.blt_eq] using h
 refine ⟨h', ?_⟩
 clear h
 induction ids with
 | nil => simp at h'
 | cons x l ih =>
  by_cases hx : x = s
  ·subst hx; simp [pos]
  ·have hb := beq_false hx
   simp only [pos, hb, cond_false, List.length_cons] at h' ⊢
   simpa using ih (by omega)
theorem memB_iff {ids : List Nat} {s : Nat} : memB ids s = true ↔ s ∈ ids := by
 constructor
 ·intro h
  obtain ⟨h1, h2⟩ := memB_pos h
  rw [← h2, List.getD_eq_getElem?_getD, List.getElem?_eq_getElem h1]
  exact List.getElem_mem h1
 ·intro h
  unfold memB
  rw [Nat.blt_eq]
  induction ids with
  | nil => simp at h
  | cons x l ih =>
   by_cases hx : x = s
   ·subst hx; simp [pos]
   ·have hb := beq_false hx
    simp only [pos, hb, cond_false, List.length_cons]
    have := ih (by simpa [Ne.symm hx] using h)
    omega
theorem nodupB_nodup {ids : List Nat} (h : nodupB ids = true) : ids.Nodup := by
 induction ids with
 | nil => exact List.nodup_nil
 | cons x l ih =>
  simp only [nodupB, Bool.and_eq_true, Bool.not_eq_true'] at h
  refine List.nodup_cons.2 ⟨fun hx => ?_, ih h.2⟩
  rw [memB_iff.2 hx] at h
  cases h.1
theorem pos_getD {ids : List Nat} (hn : ids.Nodup) {i : Nat} (hi : i < ids.length) : pos ids (ids.getD i 0) = i := by
 have hm : memB ids (ids.getD i 0) = true := memB_iff.2 (by rw [List.getD_eq_getElem?_getD, List.getElem?_eq_getElem hi]; exact List.getElem_mem hi)
 obtain ⟨h1, h2⟩ := memB_pos hm
 have e1 : ids[pos ids (ids.getD i 0)]? = ids[i]? := by
  rw [List.getD_eq_getElem?_getD, List.getElem?_eq_getElem h1] at h2
  rw [List.getElem?_eq_getElem h1, List.getElem?_eq_getElem hi]
  simp only [Option.getD_some] at h2
  rw [h2, List.getD_eq_getElem?_getD, List.getElem?_eq_getElem hi]
  rfl
 exact (List.getElem?_inj h1 hn).1 e1
theorem renL_length (f : Nat → Nat) (l : List AV) : (renL f l).length = l.length := by
 induction l with
 | nil => rfl
 | cons x l ih => simp [renL, ih]
section
variable {A A' : Nat → Prop} {B B2 : Bmap} {w : World} {f : Nat → Nat}
mutual
theorem renA_rel (hA : ∀ b, A' b → A b) : ∀ (x : AV) (v : Value), ARel A B w x v → (∀ s ∈ namesA x, ∀ β, B s = some β → B2 (f s) = some β) → ARel A' B2 w (renA f x) v
 | .c x, v, h, _ => by
   cases h with
   | c _ _ h => exact .c _ _ (h.trans (Trans.refl _ _) (fun b _ h => hA b h))
 | .ptr b off, v, h, hB => by
   obtain ⟨β, hβ, rfl⟩ := h.ptr_inv
   exact .ptr _ _ β (hB b (by simp [namesA]) β hβ)
 | .eptr b k j sz, v, h, hB => by
   cases h with
   | eptr _ _ _ _ β hβ => exact .eptr _ _ _ _ β (hB b (by simp [namesA]) β hβ)
 | .ssl b k n sz, v, h, hB => by
   cases h with
   | ssl _ _ _ _ cap β hβ hn h0 hc => exact .ssl _ k n sz cap β (hB b (by simp [namesA]) β hβ) hn h0 hc
 | .msl b n sz, v, h, hB => by
   cases h with
   | msl _ _ _ cap β hβ h1 h2 h3 => exact .msl _ _ _ cap β (hB b (by simp [namesA]) β hβ) h1 h2 h3
   | mnil => exact .mnil _ _
 | .agg l, v, h, hB => by
   obtain ⟨cs, rfl, hr⟩ := h.agg_inv
   exact ARel.agg_mk (renL_rel hA l cs hr (by simpa [namesA] using hB))
 | .tup l, v, h, hB => by
   obtain ⟨cs, rfl, hr⟩ := h.tup_inv
   exact ARel.tup_mk (renL_rel hA l cs hr (by simpa [namesA] using hB))
 | .fn g l, v, h, hB => by
   obtain ⟨cs, rfl, hr⟩ := h.fn_inv
   exact ARel.fn_mk (renL_rel hA l cs hr (by simpa [namesA] using hB))
 | .iptr l, v, h, _ => by
   cases h with
   | iptr _ b off h1 h2 h3 => exact .iptr _ b off (fun h => h1 (hA b h)) h2 fun j hj => ⟨(h3 j hj).1, (h3 j hj).2.trans (Trans.refl _ _) (fun b _ h => hA b h)⟩
 | .omap b, v, h, hB => by
   cases h with
   | omap _ β hβ => exact .omap _ β (hB b (by simp [namesA]) β hβ)
 | .any, v, _, _ => .any v
theorem renL_rel (hA : ∀ b, A' b → A b) : ∀ (l : List AV) (cs : List Value), Rels A B w l cs → (∀ s ∈ namesL l, ∀ β, B s = some β → B2 (f s) = some β) → Rels A' B2 w (renL f l) cs
 | [], cs, h, _ => by obtain rfl := h.nil_inv; exact .nil
 | x :: l, cs, h, hB => by
   obtain ⟨v, cs', rfl, h1, h2⟩ := h.head
   exact .cons (renA_rel hA x v h1 fun s hs => hB s (by simp [namesL, hs])) (renL_rel hA l cs' h2 fun s hs => hB s (by simp [namesL, hs]))
end
theorem rels_of_arr {l : List AV} {cs : Array Value} (hs : cs.size = l.length) (h : ∀ j, j < l.length → ARel A B w (l.getD j .any) (cs.getD j undef)) : Rels A B w l cs.toList :=
 ⟨by simpa using hs, fun j hj => by simpa [Array.getD_eq_getD_getElem?, List.getD_eq_getElem?_getD] using h j hj⟩
theorem arr_of_rels {l : List AV} {cs : Array Value} (h : Rels A B w l cs.toList) : cs.size = l.length ∧ ∀ j, j < l.length → ARel A B w (l.getD j .any) (cs.getD j undef) :=
 ⟨by simpa using h.1, fun j hj => by simpa [Array.getD_eq_getD_getElem?, List.getD_eq_getElem?_getD] using h.2 j hj⟩
theorem renE_rel (hA : ∀ b, A' b → A b) {e : Ent} {o : Option Obj} (h : EntRel A B w e o) (hB : ∀ s ∈ namesE e, ∀ β, B s = some β → B2 (f s) = some β) : EntRel A' B2 w (renE f e) o := by
 cases h with
 | cells l t cs hs h =>
  have := renL_rel (A' := A') (B2 := B2) (f := f) hA l cs.toList (rels_of_arr hs h) (by simpa [namesE] using hB)
  exact .cells _ t cs (arr_of_rels this).1 (arr_of_rels this).2
 | arr n sz el t cs hs hl h => exact .arr n sz el t cs hs hl fun k j hk hj => ⟨(h k j hk hj).1, (h k j hk hj).2.trans (Trans.refl _ _) (fun b _ h => hA b h)⟩
 | mapE es entries clock hk hv => exact .mapE es entries clock hk fun i hi => (hv i hi).trans (Trans.refl _ _) (fun b _ h => hA b h)
 | itE es seen b h hs => exact .itE es seen b (h.trans (Trans.refl _ _) (fun b _ h => hA b h)) hs
theorem renE_none0 {e : Ent} (h : e.none0) : (renE f e).none0 := by
 cases e with
 | cells l t => exact h.elim
 | arr n sz el t => exact h
 | mapE es => exact h.elim
 | itE es seen => exact h.elim
end
def maskL : List Bool → List AV → List AV
 | b :: bs, x :: l => (bif b then x else .any) :: maskL bs l
 | [], l => l
 | _ :: _, [] => []
theorem maskL_rel {A : Nat → Prop} {B : Bmap} {w : World} : ∀ (bs : List Bool) (l : List AV) (cs : List Value), Rels A B w l cs → Rels A B w (maskL bs l) cs
 | [], l, cs, h => h
 | b :: bs, [], cs, h => h
 | b :: bs, x :: l, cs, h => by
  obtain ⟨v, cs', rfl, h1, h2⟩ := h.head
  refine .cons ?_ (maskL_rel bs l cs' h2)
  cases b
  ·exact .any v
  ·exact h1
def memOf (l : List (Option Ent)) : Mem := fun s => l.getD s none
def canonSt (ids : List Nat) (S : St) : St :=
 { tm := renL (pos ids) S.tm, mem := memOf (ids.map fun s => (S.mem s).map (renE (pos ids))), nx := ids.length }
def prefixB : Nat → Nat → List Nat → Bool
 | _, 0, _ => true
 | i, k + 1, x :: l => Nat.beq x i && prefixB (i + 1) k l
 | _, _ + 1, [] => false
theorem prefixB_spec : ∀ (k i : Nat) (l : List Nat), prefixB i k l = true → k ≤ l.length ∧ ∀ j, j < k → l.getD j 0 = i + j
 | 0, i, l, _ => ⟨Nat.zero_le _, fun j hj => by omega⟩
 | k + 1, i, [], h => by simp [prefixB] at h
 | k + 1, i, x :: l, h => by
   simp only [prefixB, Bool.and_eq_true, Nat.beq_eq] at h
   obtain ⟨rfl, h⟩ := h
   obtain ⟨h1, h2⟩ := prefixB_spec k (x + 1) l h
   refine ⟨by simpa using h1, fun j hj => ?_⟩
   cases j with
   | zero => simp
   | succ j =>
     have := h2 j (by omega)
     simp only [List.getD_cons_succ]
     omega
def canonOk (k : Nat) (ids : List Nat) (S : St) : Bool := nodupB ids && closedB S.mem ids && (namesL S.tm).all (memB ids) && prefixB 0 k ids
def Bmap.at (B : Bmap) (ids : List Nat) : Bmap := fun i => if i < ids.length then B (ids.getD i 0) else none
section
variable {C : Ctx} {B : Bmap} {S : St} {a : Act} {w : World}
theorem memOf_map {ids : List Nat} {g : Nat → Option Ent} {s : Nat} {e : Ent} (h : memOf (ids.map g) s = some e) : s < ids.length ∧ g (ids.getD s 0) = some e := by
 unfold memOf at h
 rw [List.getD_eq_getElem?_getD, List.getElem?_map] at h
 by_cases hs : s < ids.length
 ·rw [List.getElem?_eq_getElem hs] at h
  refine ⟨hs, ?_⟩
  rw [List.getD_eq_getElem?_getD, List.getElem?_eq_getElem hs]
  simpa using h
 ·rw [List.getElem?_eq_none (by omega)] at h
  simp at h
theorem at_pos {ids : List Nat} {s β : Nat} (h : memB ids s = true) (hB : B s = some β) : B.at ids (pos ids s) = some β := by
 obtain ⟨h1, h2⟩ := memB_pos h
 simp only [Bmap.at, h1, if_true]
 rw [h2]; exact hB
theorem Holds.canon (H : Holds C B S a w) {ids : List Nat} (h : canonOk C.k ids S = true) : Holds C (B.at ids) (canonSt ids S) a w := by
 simp only [canonOk, Bool.and_eq_true] at h
 obtain ⟨⟨⟨hn, hcl⟩, htm⟩, hpre⟩ := h
 have hnd := nodupB_nodup hn
 obtain ⟨hkl, hpre⟩ := prefixB_spec C.k 0 ids hpre
 have hA : ∀ b, ownOf C.A0 (B.at ids) (canonSt ids S).mem b → ownOf C.A0 B S.mem b := by
  rintro b (h | ⟨s, e, h1, h2⟩)
  ·exact .inl h
  ·obtain ⟨hs, hg⟩ := memOf_map h1
   simp only [Option.map_eq_some_iff] at hg
   obtain ⟨e', he', _⟩ := hg
   simp only [Bmap.at, hs, if_true] at h2
   exact .inr ⟨_, e', he', h2⟩
 have hT : Rels (ownOf C.A0 (B.at ids) (canonSt ids S).mem) (B.at ids) w (canonSt ids S).tm a.tmps.toList :=
  renL_rel hA S.tm a.tmps.toList (rels_of_arr H.size H.tm) fun s hs β hβ => at_pos (List.all_eq_true.1 htm s hs) hβ
 refine { defers := H.defers, size := (arr_of_rels hT).1, tm := (arr_of_rels hT).2, mem := ?_, inj := ?_, kept := H.kept, old := ?_, fresh := ?_, base := ?_, kle := hkl }
 ·intro s e he
  obtain ⟨hs, hg⟩ := memOf_map he
  simp only [Option.map_eq_some_iff] at hg
  obtain ⟨e', he', rfl⟩ := hg
  have hmem : ids.getD s 0 ∈ ids := by rw [List.getD_eq_getElem?_getD, List.getElem?_eq_getElem hs]; exact List.getElem_mem hs
  have hBs : B.at ids s = B (ids.getD s 0) := by simp [Bmap.at, hs]
  rcases H.mem _ _ he' with ⟨β, h1, h2⟩ | ⟨h1, h2⟩
  ·refine .inl ⟨β, by rw [hBs]; exact h1, renE_rel hA h2 fun t ht γ hγ => at_pos ?_ hγ⟩
   have := List.all_eq_true.1 hcl _ hmem
   rw [he'] at this
   exact List.all_eq_true.1 this t ht
  ·exact .inr ⟨by rw [hBs]; exact h1, renE_none0 h2⟩
 ·intro s s' e e' β h1 h2 h3 h4
  obtain ⟨hs, hg⟩ := memOf_map h1
  obtain ⟨hs', hg'⟩ := memOf_map h2
  simp only [Option.map_eq_some_iff] at hg hg'
  obtain ⟨e1, he1, _⟩ := hg
  obtain ⟨e2, he2, _⟩ := hg'
  simp only [Bmap.at, hs, hs', if_true] at h3 h4
  have := H.inj _ _ _ _ β he1 he2 h3 h4
  rw [← pos_getD hnd hs, ← pos_getD hnd hs', this]
 ·intro s β h
  unfold Bmap.at at h
  by_cases hs : s < ids.length
  ·simp only [hs, if_true] at h; exact H.old _ _ h
  ·simp [hs] at h
 ·intro s hs
  have : ¬ s < ids.length := Nat.not_lt.2 hs
  simp [Bmap.at, this]
 ·intro s hs
  have h1 : s < ids.length := by omega
  have h2 := hpre s hs
  simp only [Bmap.at, h1, if_true]
  rw [h2, Nat.zero_add]
  exact H.base s hs
theorem Holds.mask (H : Holds C B S a w) (bs : List Bool) : Holds C B { S with tm := maskL bs S.tm } a w := by
 have hT := maskL_rel bs S.tm a.tmps.toList (rels_of_arr H.size H.tm)
 exact { H with size := (arr_of_rels hT).1, tm := (arr_of_rels hT).2 }
def Sees (v v' : AV) : Prop := ∀ (A : Nat → Prop) (B : Bmap) (w : World) (u : Value), ARel A B w v u → ARel A B w v' u
theorem Sees.refl (v : AV) : Sees v v := fun _ _ _ _ h => h
theorem Sees.of_eq {v v' : AV} (h : v = v') : Sees v v' := h ▸ Sees.refl v
theorem Sees.trans {v v' v2 : AV} (h : Sees v v') (k : Sees v' v2) : Sees v v2 := fun A B w u hu => k A B w u (h A B w u hu)
theorem Sees.sl {n sz : Nat} {el el' : Nat → List IV} (h : ∀ k, k < n → el k = el' k) : Sees (.c (.sl n sz el)) (.c (.sl n sz el')) := by
 intro A B w u hu
 cases hu with
 | c _ _ hi =>
   cases hi with
   | nil => exact .c _ _ (.nil _ _)
   | zero => exact .c _ _ (.zero _ _ _)
   | sl _ _ _ b off cap h1 h2 h3 h4 h5 h6 =>
     exact .c _ _ (.sl n sz el' b off cap h1 h2 h3 (fun k hk => h k hk ▸ h4 k hk) h5 fun k j hk hj => by rw [← h k hk]; exact h6 k j hk hj)
theorem Sees.nil (sz : Nat) (el : Nat → List IV) : Sees (.c (.v (.slice none 0 0))) (.c (.sl 0 sz el)) := by
 intro A B w u hu
 rw [hu.plain]
 exact .c _ _ (.nil _ _)
inductive SeesL : List AV → List AV → Prop
 | nil : SeesL [] []
 | cons {x y : AV} {l m : List AV} : Sees x y → SeesL l m → SeesL (x :: l) (y :: m)
theorem SeesL.refl : ∀ (l : List AV), SeesL l l
 | [] => .nil
 | x :: l => .cons (Sees.refl x) (SeesL.refl l)
theorem SeesL.rels {l m : List AV} (h : SeesL l m) {A : Nat → Prop} {B : Bmap} {w : World} : ∀ {cs : List Value}, Rels A B w l cs → Rels A B w m cs := by
 induction h with
 | nil => exact fun h => h
 | cons h _ ih =>
  intro cs hr
  obtain ⟨v, cs', rfl, h1, h2⟩ := hr.head
  exact .cons (h _ _ _ _ h1) (ih h2)
theorem Sees.agg {l m : List AV} (h : SeesL l m) : Sees (.agg l) (.agg m) := fun A B w u hu => by
 obtain ⟨cs, rfl, hr⟩ := hu.agg_inv
 exact ARel.agg_mk (h.rels hr)
theorem Sees.tup {l m : List AV} (h : SeesL l m) : Sees (.tup l) (.tup m) := fun A B w u hu => by
 obtain ⟨cs, rfl, hr⟩ := hu.tup_inv
 exact ARel.tup_mk (h.rels hr)
theorem SeesL.len {l m : List AV} (h : SeesL l m) : l.length = m.length := by
 induction h with
 | nil => rfl
 | cons _ _ ih => simp [ih]
theorem SeesL.getD {l m : List AV} (h : SeesL l m) : ∀ i, Sees (l.getD i .any) (m.getD i .any) := by
 induction h with
 | nil => exact fun _ => Sees.refl _
 | cons h _ ih =>
  intro i
  cases i with
  | zero => exact h
  | succ i => exact ih i
inductive EntEqv : Option Ent → Option Ent → Prop
 | refl (e : Option Ent) : EntEqv e e
 | arr (n sz : Nat) (el el' : Nat → List IV) (t : TypeId) : (∀ k, k < n → el k = el' k) → EntEqv (some (.arr n sz el t)) (some (.arr n sz el' t))
 | cells (l m : List AV) (t : TypeId) : SeesL l m → EntEqv (some (.cells l t)) (some (.cells m t))
 | drop (e : Option Ent) : EntEqv e none
theorem Holds.eqv (H : Holds C B S a w) {m : Mem} (h : ∀ s, EntEqv (S.mem s) (m s)) : Holds C B { S with mem := m } a w := by
 have hl : ∀ s e, m s = some e → ∃ e', S.mem s = some e' := by
   intro s e he
   have := h s
   rw [he] at this
   generalize S.mem s = q at this
   cases this with
   | refl => exact ⟨_, rfl⟩
   | arr n sz el el' t _ => exact ⟨_, rfl⟩
   | cells l m t _ => exact ⟨_, rfl⟩
 have hA : ∀ b, ownOf C.A0 B m b → ownOf C.A0 B S.mem b := by
   rintro b (h | ⟨s, e, h1, h2⟩)
   · exact .inl h
   · obtain ⟨e', he'⟩ := hl s e h1
     exact .inr ⟨s, e', he', h2⟩
 refine { defers := H.defers, size := H.size, tm := fun t ht => (H.tm t ht).trans (Trans.refl _ _) (fun b _ h => hA b h) (fun _ _ h => h), mem := ?_, inj := ?_, kept := H.kept, old := H.old, fresh := H.fresh, base := H.base, kle := H.kle }
 · intro s e he
   have he : m s = some e := he
   obtain ⟨e', he'⟩ := hl s e he
   have hq := h s
   rw [he, he'] at hq
   rcases H.mem s e' he' with ⟨β, h1, h2⟩ | ⟨h1, h2⟩
   · refine .inl ⟨β, h1, ?_⟩
     have h3 := h2.trans (A' := ownOf C.A0 B m) (B' := B) (Trans.refl _ _) (fun b _ h => hA b h) (fun _ _ h => h)
     cases hq with
     | refl => exact h3
     | arr n sz el el' t heq =>
       generalize w.heap[β]? = o at h3
       cases h3 with
       | arr _ _ _ _ cs hs hl hh =>
         exact .arr n sz el' t cs hs (fun k hk => heq k hk ▸ hl k hk) fun k j hk hj => by rw [← heq k hk]; exact hh k j hk hj
     | cells l l' t hll =>
       generalize w.heap[β]? = o at h3
       cases h3 with
       | cells _ _ cs hsz hh =>
         exact .cells l' t cs (by rw [← hll.len]; exact hsz) fun i hi => hll.getD i _ _ _ _ (hh i (by rw [hll.len]; exact hi))
   · refine .inr ⟨h1, ?_⟩
     cases hq with
     | refl => exact h2
     | arr n sz el el' t heq => exact h2
     | cells l l' t hll => exact h2
 · intro s s' e e' β h1 h2 h3 h4
   obtain ⟨e1, h5⟩ := hl s e h1
   obtain ⟨e2, h6⟩ := hl s' e' h2
   exact H.inj s s' e1 e2 β h5 h6 h3 h4
theorem Holds.more (H : Holds C B S a w) (n : Nat) : Holds C B (blanks S n) a w :=
 { H with fresh := fun s hs => H.fresh s (by simp only [blanks] at hs; omega), kle := by have := H.kle; simp only [blanks]; omega }
theorem Holds.lift (H : Holds C B S a w) {t : Nat} (ht : S.tm.getD t .any = .c (.v (.slice none 0 0))) (htl : t < S.tm.length) (sz : Nat) (el : Nat → List IV) (e : TypeId) :
  Holds C B { tm := S.tm.set t (.msl S.nx 0 sz), mem := S.mem.set S.nx (some (.arr 0 sz el e)), nx := S.nx + 1 } a w := by
 have hs : B S.nx = none := H.fresh _ (Nat.le_refl _)
 have H1 : Holds C B { S with mem := S.mem.set S.nx (some (.arr 0 sz el e)), nx := S.nx + 1 } a w := (H.more 1).setNil (slot := S.nx) hs rfl
 have hv : a.tmps.getD t undef = .slice none 0 0 := by
  have := H.tm t htl
  rw [ht] at this
  exact this.plain
 refine { H1 with size := by simpa using H1.size, tm := fun i hi => ?_ }
 have hi' : i < S.tm.length := by simpa using hi
 by_cases hit : i = t
 ·subst hit
  rw [hv]
  simp only [List.getD_eq_getElem?_getD, List.getElem?_set_self hi', Option.getD_some]
  exact .mnil _ _
 ·have := H1.tm i hi'
  simpa [List.getD_eq_getElem?_getD, List.getElem?_set_ne (Ne.symm hit)] using this
theorem Holds.liftCell (H : Holds C B S a w) {s j : Nat} {l : List AV} {ty : TypeId} (hm : S.mem s = some (.cells l ty)) (hj : l.getD j .any = .c (.v (.slice none 0 0))) (hjl : j < l.length) (sz : Nat) (el : Nat → List IV) (e : TypeId) :
  Holds C B { tm := S.tm, mem := (S.mem.set s (some (.cells (l.set j (.msl S.nx 0 sz)) ty))).set S.nx (some (.arr 0 sz el e)), nx := S.nx + 1 } a w := by
 have hs : B S.nx = none := H.fresh _ (Nat.le_refl _)
 obtain ⟨β, hβ, hent⟩ : ∃ β, B s = some β ∧ EntRel (ownOf C.A0 B S.mem) B w _ w.heap[β]? := (H.mem s _ hm).resolve_right (fun h => h.2)
 have hown : ∀ b, ownOf C.A0 B (S.mem.set s (some (.cells (l.set j (.msl S.nx 0 sz)) ty))) b → ownOf C.A0 B S.mem b := by
  rintro b (h | ⟨q, e', h1, h2⟩)
  ·exact .inl h
  ·rw [mem_set_eq] at h1
   by_cases hq : q = s
   ·subst hq; exact .inr ⟨q, _, hm, h2⟩
   ·simp only [hq, if_false] at h1; exact .inr ⟨q, e', h1, h2⟩
 have H1 : Holds C B { S with mem := S.mem.set s (some (.cells (l.set j (.msl S.nx 0 sz)) ty)) } a w := by
  refine { defers := H.defers, size := H.size, tm := fun t ht => (H.tm t ht).trans (Trans.refl _ _) (fun b _ h => hown b h) (fun _ _ h => h), mem := ?_, inj := ?_, kept := H.kept, old := H.old, fresh := H.fresh, base := H.base, kle := H.kle }
  ·intro q e' he'
   simp only [mem_set_eq] at he'
   by_cases hq : q = s
   ·subst hq
    simp only [if_true, Option.some.injEq] at he'
    subst he'
    refine .inl ⟨β, hβ, ?_⟩
    generalize w.heap[β]? = o at hent
    cases hent with
    | cells _ _ cs hsz h =>
     refine .cells _ _ cs (by simpa using hsz) fun i hi => ?_
     have hi' : i < l.length := by simpa using hi
     by_cases hij : i = j
     ·subst hij
      have h0 := h i hi'
      rw [hj] at h0
      rw [h0.plain]
      simp only [List.getD_eq_getElem?_getD, List.getElem?_set_self hi', Option.getD_some]
      exact .mnil _ _
     ·have h0 := (h i hi').trans (A' := ownOf C.A0 B (S.mem.set q (some (.cells (l.set j (.msl S.nx 0 sz)) ty)))) (B' := B) (Trans.refl _ _) (fun b _ h => hown b h) (fun _ _ h => h)
      simpa [List.getD_eq_getElem?_getD, List.getElem?_set_ne (Ne.symm hij)] using h0
   ·simp only [hq, if_false] at he'
    rcases H.mem q e' he' with ⟨γ, h1, h2⟩ | h
    ·exact .inl ⟨γ, h1, h2.trans (Trans.refl _ _) (fun b _ h => hown b h) (fun _ _ h => h)⟩
    ·exact .inr h
  ·intro q q' e1 e2 γ m1 m2 h1 h2
   have live : ∀ q e, (S.mem.set s (some (.cells (l.set j (.msl S.nx 0 sz)) ty))) q = some e → ∃ e', S.mem q = some e' := by
    intro q e he
    rw [mem_set_eq] at he
    by_cases hq : q = s
    ·subst hq; exact ⟨_, hm⟩
    ·simp only [hq, if_false] at he; exact ⟨e, he⟩
   obtain ⟨e3, m3⟩ := live q e1 m1
   obtain ⟨e4, m4⟩ := live q' e2 m2
   exact H.inj q q' e3 e4 γ m3 m4 h1 h2
 exact (H1.more 1).setNil (slot := S.nx) hs rfl
end
end Go.Vse
namespace Go.Vse
open Go.RowKit
def Weak (k : Nat) (S S2 : St) : Prop := ∀ (C : Ctx) (B : Bmap) (a : Act) (w : World), C.k = k → Holds C B S a w → ∃ B2, Holds C B2 S2 a w
theorem Weak.refl (k : Nat) (S : St) : Weak k S S := fun C B a w _ H => ⟨B, H⟩
theorem Weak.trans {k : Nat} {S S2 S3 : St} (h : Weak k S S2) (h' : Weak k S2 S3) : Weak k S S3 := fun C B a w hk H => by
 obtain ⟨B2, H2⟩ := h C B a w hk H
 exact h' C B2 a w hk H2
theorem Weak.canon {k : Nat} {S : St} (ids : List Nat) (h : canonOk k ids S = true) : Weak k S (canonSt ids S) := fun C B a w hk H => ⟨_, H.canon (by rw [hk]; exact h)⟩
theorem Weak.mask {k : Nat} {S : St} (bs : List Bool) : Weak k S { S with tm := maskL bs S.tm } := fun C B a w hk H => ⟨B, H.mask bs⟩
theorem Weak.eqv {k : Nat} {S S2 : St} (ht : S.tm = S2.tm) (hn : S.nx = S2.nx) (h : ∀ s, EntEqv (S.mem s) (S2.mem s)) : Weak k S S2 := fun C B a w hk H => by
 obtain ⟨tm, mem, nx⟩ := S2
 subst ht
 subst hn
 exact ⟨B, H.eqv h⟩
theorem Weak.lift {k : Nat} {S : St} (t : Nat) (ht : S.tm.getD t .any = .c (.v (.slice none 0 0))) (htl : t < S.tm.length) (sz : Nat) (el : Nat → List IV) (e : TypeId) :
  Weak k S { tm := S.tm.set t (.msl S.nx 0 sz), mem := S.mem.set S.nx (some (.arr 0 sz el e)), nx := S.nx + 1 } := fun C B a w hk H => ⟨B, H.lift ht htl sz el e⟩
theorem Weak.liftCell {k : Nat} {S : St} (s j : Nat) {l : List AV} {ty : TypeId} (hm : S.mem s = some (.cells l ty)) (hj : l.getD j .any = .c (.v (.slice none 0 0))) (hjl : j < l.length) (sz : Nat) (el : Nat → List IV) (e : TypeId) :
  Weak k S { tm := S.tm, mem := (S.mem.set s (some (.cells (l.set j (.msl S.nx 0 sz)) ty))).set S.nx (some (.arr 0 sz el e)), nx := S.nx + 1 } := fun C B a w hk H => ⟨B, H.liftCell hm hj hjl sz el e⟩
structure Norm where
 /-- how many temporaries there are, and which are of use -/
 nt : Nat
 live : List Nat
 lifts : List (Nat × Nat × TypeId) := []
 cells : List (Nat × Nat × Nat × TypeId) := []
 fuel : Nat := 3
def setAll : List AV → List Nat → List AV → List AV
 | tm, t :: l, v :: vs => setAll (tm.set t v) l vs
 | tm, _, _ => tm
def tmOf (n : Nat) (live : List Nat) (vals : List AV) : List AV := setAll (List.replicate n .any) live vals
def valsAt (tm : List AV) (live : List Nat) : List AV := live.map fun t => tm.getD t .any
theorem setAll_spec (f : Nat → AV) : ∀ (live : List Nat) (tm : List AV), (∀ t, tm.getD t .any = .any ∨ tm.getD t .any = f t) → (setAll tm live (live.map f)).length = tm.length ∧ ∀ t, (setAll tm live (live.map f)).getD t .any = .any ∨ (setAll tm live (live.map f)).getD t .any = f t
 | [], tm, h => ⟨rfl, h⟩
 | t :: live, tm, h => by
  simp only [List.map_cons, setAll]
  obtain ⟨h1, h2⟩ := setAll_spec f live (tm.set t (f t)) (fun i => by
   by_cases hit : t = i
   ·subst hit
    by_cases hl : t < tm.length
    ·right; simp [List.getD_eq_getElem?_getD, List.getElem?_set_self hl]
    ·left; simp [List.getD_eq_getElem?_getD, List.getElem?_eq_none (show (tm.set t (f t)).length ≤ t by simp; omega)]
   ·have := h i
    simpa [List.getD_eq_getElem?_getD, List.getElem?_set_ne hit] using this)
  exact ⟨by simpa using h1, h2⟩
theorem tmOf_spec (n : Nat) (live : List Nat) (tm : List AV) : (tmOf n live (valsAt tm live)).length = n ∧ ∀ t, (tmOf n live (valsAt tm live)).getD t .any = .any ∨ (tmOf n live (valsAt tm live)).getD t .any = tm.getD t .any := by
 have := setAll_spec (fun t => tm.getD t .any) live (List.replicate n .any) (fun t => .inl (by
  rw [List.getD_eq_getElem?_getD, List.getElem?_replicate]
  split <;> rfl))
 exact ⟨by simpa [tmOf, valsAt] using this.1, this.2⟩
theorem Weak.sub {k : Nat} {S : St} {tm : List AV} (hl : tm.length = S.tm.length) (h : ∀ t, tm.getD t .any = .any ∨ tm.getD t .any = S.tm.getD t .any) : Weak k S { S with tm := tm } := fun C B a w hk H => by
 refine ⟨B, { H with size := by rw [H.size]; exact hl.symm, tm := fun t ht => ?_ }⟩
 rcases h t with h | h
 ·show ARel _ _ _ (tm.getD t .any) _
  rw [h]; exact .any _
 ·show ARel _ _ _ (tm.getD t .any) _
  rw [h]; exact H.tm t (by rw [← hl]; exact ht)
theorem Weak.live {k : Nat} {S : St} (live : List Nat) : Weak k S { S with tm := tmOf S.tm.length live (valsAt S.tm live) } :=
 Weak.sub (tmOf_spec _ _ _).1 (tmOf_spec _ _ _).2
def liftTm (S : St) (p : Nat × Nat × TypeId) : St :=
 match S.tm.getD p.1 .any with
 | .c (.v (.slice none 0 0)) => bif Nat.blt p.1 S.tm.length then { tm := S.tm.set p.1 (.msl S.nx 0 p.2.1), mem := S.mem.set S.nx (some (.arr 0 p.2.1 (fun _ => []) p.2.2)), nx := S.nx + 1 } else S
 | _ => S
def liftCe (k : Nat) (S : St) (p : Nat × Nat × Nat × TypeId) : St :=
 match S.mem p.1 with
 | some (.cells l ty) =>
  match l.getD p.2.1 .any with
  | .c (.v (.slice none 0 0)) => bif Nat.blt p.2.1 l.length then { tm := S.tm, mem := (S.mem.set p.1 (some (.cells (l.set p.2.1 (.msl S.nx 0 p.2.2.1)) ty))).set S.nx (some (.arr 0 p.2.2.1 (fun _ => []) p.2.2.2)), nx := S.nx + 1 } else S
  | .msl b n sz =>
   match S.mem b with
   | some e => bif Nat.blt b k && !Nat.beq p.1 b && Nat.blt p.1 k then { tm := S.tm, mem := ((S.mem.set b none).set S.nx (some e)).set p.1 (some (.cells (l.set p.2.1 (.msl S.nx n sz)) ty)), nx := S.nx + 1 } else S
   | none => S
  | _ => S
 | _ => S
theorem Holds.setCell {C : Ctx} {B : Bmap} {S : St} {a : Act} {w : World} (H : Holds C B S a w) {s j : Nat} {l : List AV} {ty : TypeId} {x : AV} (hm : S.mem s = some (.cells l ty))
  (hx : ∀ v, ARel (ownOf C.A0 B S.mem) B w (l.getD j .any) v → ARel (ownOf C.A0 B S.mem) B w x v) : Holds C B { S with mem := S.mem.set s (some (.cells (l.set j x) ty)) } a w := by
 obtain ⟨β, hβ, hent⟩ : ∃ β, B s = some β ∧ EntRel (ownOf C.A0 B S.mem) B w _ w.heap[β]? := (H.mem s _ hm).resolve_right (fun h => h.2)
 have live : ∀ q e, (S.mem.set s (some (.cells (l.set j x) ty))) q = some e → ∃ e', S.mem q = some e' := by
  intro q e he
  rw [mem_set_eq] at he
  by_cases hq : q = s
  ·subst hq; exact ⟨_, hm⟩
  ·simp only [hq, if_false] at he; exact ⟨e, he⟩
 have hown : ∀ b, ownOf C.A0 B (S.mem.set s (some (.cells (l.set j x) ty))) b → ownOf C.A0 B S.mem b := by
  rintro b (h | ⟨q, e', h1, h2⟩)
  ·exact .inl h
  ·obtain ⟨e, he⟩ := live q e' h1
   exact .inr ⟨q, e, he, h2⟩
 refine { defers := H.defers, size := H.size, tm := fun t ht => (H.tm t ht).trans (Trans.refl _ _) (fun b _ h => hown b h) (fun _ _ h => h), mem := ?_, inj := ?_, kept := H.kept, old := H.old, fresh := H.fresh, base := H.base, kle := H.kle }
 ·intro q e' he'
  simp only [mem_set_eq] at he'
  by_cases hq : q = s
  ·subst hq
   simp only [if_true, Option.some.injEq] at he'
   subst he'
   refine .inl ⟨β, hβ, ?_⟩
   generalize w.heap[β]? = o at hent
   cases hent with
   | cells _ _ cs hsz h =>
    refine .cells _ _ cs (by simpa using hsz) fun i hi => ?_
    have hi' : i < l.length := by simpa using hi
    by_cases hij : i = j
    ·subst hij
     have h0 := (hx _ (h i hi')).trans (A' := ownOf C.A0 B (S.mem.set q (some (.cells (l.set i x) ty)))) (B' := B) (Trans.refl _ _) (fun b _ h => hown b h) (fun _ _ h => h)
     simpa only [List.getD_eq_getElem?_getD, List.getElem?_set_self hi', Option.getD_some] using h0
    ·have h0 := (h i hi').trans (A' := ownOf C.A0 B (S.mem.set q (some (.cells (l.set j x) ty)))) (B' := B) (Trans.refl _ _) (fun b _ h => hown b h) (fun _ _ h => h)
     simpa [List.getD_eq_getElem?_getD, List.getElem?_set_ne (Ne.symm hij)] using h0
  ·simp only [hq, if_false] at he'
   rcases H.mem q e' he' with ⟨γ, h1, h2⟩ | h
   ·exact .inl ⟨γ, h1, h2.trans (Trans.refl _ _) (fun b _ h => hown b h) (fun _ _ h => h)⟩
   ·exact .inr h
 ·intro q q' e1 e2 γ m1 m2 h1 h2
  obtain ⟨e3, m3⟩ := live q e1 m1
  obtain ⟨e4, m4⟩ := live q' e2 m2
  exact H.inj q q' e3 e4 γ m3 m4 h1 h2
theorem Weak.moveCell {k : Nat} {S : St} {s j b n sz : Nat} {l : List AV} {ty : TypeId} {e : Ent} (hm : S.mem s = some (.cells l ty)) (hj : l.getD j .any = .msl b n sz) (he : S.mem b = some e) (hsb : s ≠ b) (hsk : s < k) :
   Weak k S { tm := S.tm, mem := ((S.mem.set b none).set S.nx (some e)).set s (some (.cells (l.set j (.msl S.nx n sz)) ty)), nx := S.nx + 1 } := fun C B a w hk H => by
 have hs : B S.nx = none := H.fresh _ (Nat.le_refl _)
 have hsn : s ≠ S.nx := by have := H.kle; omega
 have hbt : Between C { S with nx := S.nx + 1 } S.nx := ⟨H.kle, Nat.lt_succ_self _⟩
 have hms : ((S.mem.set b none).set S.nx (some e)) s = some (.cells l ty) := by
   rw [mem_set_eq, if_neg hsn, mem_set_eq, if_neg hsb]; exact hm
 rcases H.mem b e he with ⟨β, hβ, _⟩ | ⟨hb, hn⟩
 · have H1 := (H.more 1).rename (slot := S.nx) (b := b) (e := e) he hβ hs hbt
   refine ⟨_, H1.setCell (x := .msl S.nx n sz) hms fun v hv => ?_⟩
   rw [hj] at hv
   cases hv with
   | msl _ _ _ cap γ hγ h1 h2 h3 =>
     have : setB B S.nx β b = some β := by
       simp only [setB]
       split
       · rfl
       · exact hβ
     rw [this] at hγ
     cases hγ
     exact .msl _ _ _ cap β (by simp [setB]) h1 h2 h3
   | mnil => exact .mnil _ _
 · have H1 := ((H.more 1).drop b).setNil (slot := S.nx) hs hn
   refine ⟨_, H1.setCell (x := .msl S.nx n sz) hms fun v hv => ?_⟩
   rw [hj] at hv
   cases hv with
   | msl _ _ _ cap γ hγ h1 h2 h3 => rw [hb] at hγ; cases hγ
   | mnil => exact .mnil _ _
theorem liftTm_weak (k : Nat) (S : St) (p : Nat × Nat × TypeId) : Weak k S (liftTm S p) := by
 unfold liftTm
 split
 ·rename_i h
  cases hb : Nat.blt p.1 S.tm.length with
  | true => exact Weak.lift p.1 h (by simpa [Nat.blt_eq] using hb) _ _ _
  | false => exact Weak.refl k S
 ·exact Weak.refl k S
theorem liftCe_weak (k : Nat) (S : St) (p : Nat × Nat × Nat × TypeId) : Weak k S (liftCe k S p) := by
 unfold liftCe
 split
 · rename_i l ty hm
   split
   · rename_i h
     cases hb : Nat.blt p.2.1 l.length with
     | true => exact Weak.liftCell p.1 p.2.1 hm h (by simpa [Nat.blt_eq] using hb) _ _ _
     | false => exact Weak.refl k S
   · rename_i b n sz h
     split
     · rename_i e he
       cases hb : (Nat.blt b k && !Nat.beq p.1 b && Nat.blt p.1 k) with
       | true =>
         simp only [Bool.and_eq_true, Nat.blt_eq, Bool.not_eq_true'] at hb
         exact Weak.moveCell hm h he (fun hh => by have := hb.1.2; rw [hh, Nat.beq_refl] at this; cases this) hb.2
       | false => exact Weak.refl k S
     · exact Weak.refl k S
   · exact Weak.refl k S
 · exact Weak.refl k S
def liftAll (S : St) : List (Nat × Nat × TypeId) → St
 | [] => S
 | p :: l => liftAll (liftTm S p) l
def liftCells (k : Nat) (S : St) : List (Nat × Nat × Nat × TypeId) → St
 | [] => S
 | p :: l => liftCells k (liftCe k S p) l
theorem liftAll_weak (k : Nat) : ∀ (l : List (Nat × Nat × TypeId)) (S : St), Weak k S (liftAll S l)
 | [], S => Weak.refl k S
 | p :: l, S => (liftTm_weak k S p).trans (liftAll_weak k l _)
theorem liftCells_weak (k : Nat) : ∀ (l : List (Nat × Nat × Nat × TypeId)) (S : St), Weak k S (liftCells k S l)
 | [], S => Weak.refl k S
 | p :: l, S => (liftCe_weak k S p).trans (liftCells_weak k l _)
def normIds (k : Nat) (fuel : Nat) (S : St) : List Nat := reach S.mem fuel (addAll (List.range k) (namesL S.tm))
def norm (k : Nat) (n : Norm) (S : St) : Option (List AV × List (Option Ent)) :=
 bif Nat.beq S.tm.length n.nt then
  let S1 := liftCells k (liftAll { S with tm := tmOf n.nt n.live (valsAt S.tm n.live) } n.lifts) n.cells
  let ids := normIds k n.fuel S1
  bif canonOk k ids S1 && Nat.beq S1.tm.length n.nt then some (valsAt (renL (pos ids) S1.tm) n.live, ids.map fun s => (S1.mem s).map (renE (pos ids))) else none
 else none
def mkSt (n : Norm) (q : List AV × List (Option Ent)) : St := { tm := tmOf n.nt n.live q.1, mem := memOf q.2, nx := q.2.length }
theorem norm_weak {k : Nat} {n : Norm} {S : St} {q : List AV × List (Option Ent)} (h : norm k n S = some q) : Weak k S (mkSt n q) := by
 unfold norm at h
 cases hb0 : Nat.beq S.tm.length n.nt with
 | false => rw [hb0] at h; cases h
 | true =>
  rw [hb0] at h
  have hnt : S.tm.length = n.nt := by simpa using hb0
  simp only [cond_true] at h
  cases hb : (canonOk k (normIds k n.fuel (liftCells k (liftAll { S with tm := tmOf n.nt n.live (valsAt S.tm n.live) } n.lifts) n.cells)) (liftCells k (liftAll { S with tm := tmOf n.nt n.live (valsAt S.tm n.live) } n.lifts) n.cells) && Nat.beq (liftCells k (liftAll { S with tm := tmOf n.nt n.live (valsAt S.tm n.live) } n.lifts) n.cells).tm.length n.nt) with
  | false => rw [hb] at h; cases h
  | true =>
   rw [hb] at h
   simp only [cond_true, Option.some.injEq] at h
   subst h
   simp only [Bool.and_eq_true, Nat.beq_eq] at hb
   have h0 := Weak.live (k := k) (S := S) n.live
   rw [hnt] at h0
   have h1 := (h0.trans (liftAll_weak k n.lifts _)).trans (liftCells_weak k n.cells _)
   have h2 := h1.trans (Weak.canon _ hb.1)
   refine h2.trans ?_
   have h3 := Weak.live (k := k) (S := canonSt (normIds k n.fuel (liftCells k (liftAll { S with tm := tmOf n.nt n.live (valsAt S.tm n.live) } n.lifts) n.cells)) (liftCells k (liftAll { S with tm := tmOf n.nt n.live (valsAt S.tm n.live) } n.lifts) n.cells)) n.live
   have hlen : (canonSt (normIds k n.fuel (liftCells k (liftAll { S with tm := tmOf n.nt n.live (valsAt S.tm n.live) } n.lifts) n.cells)) (liftCells k (liftAll { S with tm := tmOf n.nt n.live (valsAt S.tm n.live) } n.lifts) n.cells)).tm.length = n.nt := by
    unfold canonSt
    rw [renL_length]
    exact hb.2
   rw [hlen] at h3
   unfold mkSt
   simpa [canonSt] using h3
inductive EntsEqv : List (Option Ent) → List (Option Ent) → Prop
 | nil : EntsEqv [] []
 | cons {e e' : Option Ent} {l l' : List (Option Ent)} : EntEqv e e' → EntsEqv l l' → EntsEqv (e :: l) (e' :: l')
theorem EntsEqv.refl : ∀ (l : List (Option Ent)), EntsEqv l l
 | [] => .nil
 | e :: l => .cons (.refl e) (EntsEqv.refl l)
theorem EntsEqv.len {l l' : List (Option Ent)} (h : EntsEqv l l') : l.length = l'.length ∧ ∀ s, EntEqv (l.getD s none) (l'.getD s none) := by
 induction h with
 | nil => exact ⟨rfl, fun s => .refl _⟩
 | cons h _ ih =>
  refine ⟨by simp [ih.1], fun s => ?_⟩
  cases s with
  | zero => simpa using h
  | succ s => simpa using ih.2 s
theorem EntsEqv.weak {k : Nat} {n : Norm} {vs : List AV} {l l' : List (Option Ent)} (h : EntsEqv l l') : Weak k (mkSt n (vs, l)) (mkSt n (vs, l')) :=
 Weak.eqv rfl h.len.1 h.len.2
section
variable {P : Program} {Γ : FuncId → Option Spec} {L : Nat → Option (St → Tr (Ex × St))} {N k id : Nat} {body : Code}
def RunsN (P : Program) (Γ : FuncId → Option Spec) (L : Nat → Option (St → Tr (Ex × St))) (N k id : Nat) (body : Code) (Q : Ex × St → Prop) : Nat → St → Prop
 | 0, _ => False
 | n + 1, S => (exec P Γ L N body S).sat fun p =>
  match p.1 with
  | .normal => ∃ S2, Weak k p.2 S2 ∧ RunsN P Γ L N k id body Q n S2
  | .exit j => ∃ S2, Weak k p.2 S2 ∧ Q (bif Nat.beq j id then .normal else .exit j, S2)
  | .ret => ∃ S2, Weak k p.2 S2 ∧ Q (.ret, S2)
theorem runsN_rounds {ro : Option Nat} (hm : P.follows .mixedOrders = true) (hΓ : ∀ f s, Γ f = some s → SpecOk P f s) {C : Ctx} (hC : C.Ok) (hk : C.k = k) (hl : BlocksOk P k L body) {Q : Ex × St → Prop} :
  ∀ (n : Nat) (S : St) (B : Bmap) (a : Act) (w : World), RunsN P Γ L N k id body Q n S → Holds C B S a w → Code.roundsIn (Fence.vse ro) 0 P body (Exit.inBlock id (PostR C Q)) n a w
 | 0, S, B, a, w, h, H => h.elim
 | n + 1, S, B, a, w, h, H => by
  unfold RunsN at h
  refine wpV_mono ?_ (exec_sound hm (specsAt hΓ _) hC body (by rw [hk]; exact hl) _ S B a w h H)
  rintro e a' w' ⟨ex, S', B', rfl, H', hq⟩
  cases ex with
  | normal =>
   obtain ⟨S2, hw, hr⟩ := hq
   obtain ⟨B2, H2⟩ := hw C B' a' w' hk H'
   exact runsN_rounds hm hΓ hC hk hl n S2 B2 a' w' hr H2
  | exit j =>
   obtain ⟨S2, hw, hr⟩ := hq
   obtain ⟨B2, H2⟩ := hw C B' a' w' hk H'
   show Exit.inBlock id (PostR C Q) (.exit j) a' w'
   unfold Exit.inBlock
   by_cases hj : j = id
   ·subst hj
    simp only [Nat.beq_refl, cond_true] at hr
    simp only [if_pos rfl]
    exact ⟨.normal, S2, B2, rfl, H2, hr⟩
   ·rw [beq_false hj] at hr
    simp only [cond_false] at hr
    simp only [if_neg hj]
    exact ⟨.exit j, S2, B2, rfl, H2, hr⟩
  | ret =>
   obtain ⟨S2, hw, hr⟩ := hq
   obtain ⟨B2, H2⟩ := hw C B' a' w' hk H'
   exact ⟨.ret, S2, B2, rfl, H2, hr⟩
theorem blockOk_loop (hm : P.follows .mixedOrders = true) (hΓ : ∀ f s, Γ f = some s → SpecOk P f s) (hl : BlocksOk P k L body) {g : St → Tr (Ex × St)}
  (h : ∀ (Q : Ex × St → Prop) (S : St), (g S).sat Q → ∃ n S2, Weak k S S2 ∧ RunsN P Γ L N k id body Q n S2) : BlockOk P k id (.loop body) g := by
 intro ro C hC hk Q S B a w hg H
 obtain ⟨n, S2, hw, hr⟩ := h Q S hg
 obtain ⟨B2, H2⟩ := hw C B a w hk H
 exact wpIn_block (wpIn_loop_rounds n (runsN_rounds hm hΓ hC hk hl n S2 B2 a w hr H2))
def blocksOf (d : Nat → Bool) : Code → List (Nat × Code)
 | .seq a b => blocksOf d a ++ blocksOf d b
 | .cond _ a b => blocksOf d a ++ blocksOf d b
 | .block id body => bif d id then [(id, body)] else blocksOf d body
 | .loop body => blocksOf d body
 | .scope body => blocksOf d body
 | _ => []
def loopOf (id : Nat) : Code → Code
 | .seq a b => match loopOf id a with | .skip => loopOf id b | c => c
 | .cond _ a b => match loopOf id a with | .skip => loopOf id b | c => c
 | .block j body => bif Nat.beq j id then (match body with | .loop b => b | _ => .skip) else loopOf id body
 | .loop body => loopOf id body
 | .scope body => loopOf id body
 | _ => .skip
def codeOf (fn : Func) : Code := fn.body.getD .skip
theorem blocksOk_of {P : Program} {k : Nat} {L : Nat → Option (St → Tr (Ex × St))} {d : Nat → Bool} (hd : ∀ id, d id = (L id).isSome) : ∀ (c : Code), (∀ p ∈ blocksOf d c, ∀ g, L p.1 = some g → BlockOk P k p.1 p.2 g) → BlocksOk P k L c
 | .seq a b, h => ⟨blocksOk_of hd a fun p hp => h p (by simp [blocksOf, hp]), blocksOk_of hd b fun p hp => h p (by simp [blocksOf, hp])⟩
 | .cond _ a b, h => ⟨blocksOk_of hd a fun p hp => h p (by simp [blocksOf, hp]), blocksOk_of hd b fun p hp => h p (by simp [blocksOf, hp])⟩
 | .block id body, h => by
  unfold BlocksOk
  cases hg : L id with
  | some g => exact h (id, body) (by simp [blocksOf, hd, hg]) g hg
  | none => exact blocksOk_of hd body fun p hp => h p (by simpa [blocksOf, hd, hg] using hp)
 | .loop body, h => blocksOk_of hd body h
 | .scope body, h => blocksOk_of hd body h
 | .skip, _ => trivial
 | .region .., _ => trivial
 | .rangeFunc .., _ => trivial
 | .exit _, _ => trivial
 | .label _, _ => trivial
 | .goto _, _ => trivial
 | .ret, _ => trivial
 | .refuse _, _ => trivial
theorem SeesL.setAll : ∀ (live : List Nat) {vs vs' tm tm' : List AV}, SeesL vs vs' → tm.length = tm'.length → (∀ t, Sees (tm.getD t .any) (tm'.getD t .any)) →
  (Vse.setAll tm live vs).length = (Vse.setAll tm' live vs').length ∧ ∀ t, Sees ((Vse.setAll tm live vs).getD t .any) ((Vse.setAll tm' live vs').getD t .any)
 | [], vs, vs', tm, tm', h, hl, ht => by
  cases h <;> exact ⟨hl, ht⟩
 | t0 :: live, vs, vs', tm, tm', h, hl, ht => by
  cases h with
  | nil => exact ⟨hl, ht⟩
  | cons h1 h2 =>
   rename_i x y l m
   unfold Vse.setAll
   refine SeesL.setAll live h2 (by simpa using hl) fun t => ?_
   by_cases hit : t0 = t
   ·subst hit
    by_cases hlt : t0 < tm.length
    ·have e1 : (tm.set t0 x).getD t0 .any = x := by simp [List.getD_eq_getElem?_getD, List.getElem?_set_self hlt]
     have e2 : (tm'.set t0 y).getD t0 .any = y := by simp [List.getD_eq_getElem?_getD, List.getElem?_set_self (show t0 < tm'.length by omega)]
     rw [e1, e2]; exact h1
    ·have e1 : (tm.set t0 x).getD t0 .any = .any := by
      have hge : (tm.set t0 x).length ≤ t0 := by rw [List.length_set]; omega
      simp only [List.getD_eq_getElem?_getD, List.getElem?_eq_none hge, Option.getD_none]
     have e2 : (tm'.set t0 y).getD t0 .any = .any := by
      have hge : (tm'.set t0 y).length ≤ t0 := by rw [List.length_set]; omega
      simp only [List.getD_eq_getElem?_getD, List.getElem?_eq_none hge, Option.getD_none]
     rw [e1, e2]; exact Sees.refl _
   ·have e1 : (tm.set t0 x).getD t .any = tm.getD t .any := by simp [List.getD_eq_getElem?_getD, List.getElem?_set_ne hit]
    have e2 : (tm'.set t0 y).getD t .any = tm'.getD t .any := by simp [List.getD_eq_getElem?_getD, List.getElem?_set_ne hit]
    rw [e1, e2]; exact ht t
theorem SeesL.weak {k : Nat} {n : Norm} {vs vs' : List AV} {l : List (Option Ent)} (h : SeesL vs vs') : Weak k (mkSt n (vs, l)) (mkSt n (vs', l)) := fun C B a w hk H => by
 have hs := SeesL.setAll n.live h (tm := List.replicate n.nt .any) (tm' := List.replicate n.nt .any) rfl (fun _ => Sees.refl _)
 refine ⟨B, { H with size := by rw [H.size]; exact hs.1, tm := fun t ht => ?_ }⟩
 exact hs.2 t _ _ _ _ (H.tm t (by have := hs.1; unfold mkSt tmOf at ht ⊢; simp only at ht ⊢; omega))
structure LoopSt (X R : Type) where
 nIn : Norm
 nOut : Norm
 /-- what the head says, and what is taken from it -/
 head : X → List AV × List (Option Ent)
 take : List AV × List (Option Ent) → Option (X × List Bool)
 out : R → Ex × (List AV × List (Option Ent))
 takeR : Ex × (List AV × List (Option Ent)) → Option (R × List Bool)
 res : X → R
 pre : X → Bool
 /-- the ways in which it ends, apart -/
 split : R → Tr R := .ret
namespace LoopSt
variable {X R : Type} (l : LoopSt X R)
def g (k : Nat) (S : St) : Tr (Ex × St) :=
 match norm k l.nIn S with
 | some q =>
  match l.take q with
  | some (x, cs) => Tr.needs cs (.need (l.pre x) ((l.split (l.res x)).bind fun r => .ret ((l.out r).1, mkSt l.nOut (l.out r).2)))
  | none => .fail "head"
 | none => .fail "norm"
def finR (k : Nat) (e : Ex) (S : St) : Tr (X ⊕ R) :=
 match norm k l.nOut S with
 | some q =>
  match l.takeR (e, q) with
  | some (r, cs) => Tr.needs cs (.ret (.inr r))
  | none => .fail "out"
 | none => .fail "normOut"
def fin (k id : Nat) (p : Ex × St) : Tr (X ⊕ R) :=
 match p.1 with
 | .normal =>
  match norm k l.nIn p.2 with
  | some q =>
   match l.take q with
   | some (x, cs) => Tr.needs cs (.ret (.inl x))
   | none => .fail "next"
  | none => .fail "normNext"
 | .exit j => l.finR k (bif Nat.beq j id then .normal else .exit j) p.2
 | .ret => l.finR k .ret p.2
structure Good : Prop where
 take : ∀ q x cs, l.take q = some (x, cs) → (∀ p ∈ cs, p) → q.1 = (l.head x).1 ∧ EntsEqv q.2 (l.head x).2
 takeR : ∀ e q r cs, l.takeR (e, q) = some (r, cs) → (∀ p ∈ cs, p) → e = (l.out r).1 ∧ q.1 = (l.out r).2.1 ∧ EntsEqv q.2 (l.out r).2.2
 split : ∀ r (Q : R → Prop), (l.split r).sat Q → Q r
structure Good2 : Prop where
 take : ∀ q x cs, l.take q = some (x, cs) → (∀ p ∈ cs, p) → SeesL q.1 (l.head x).1 ∧ EntsEqv q.2 (l.head x).2
 takeR : ∀ e q r cs, l.takeR (e, q) = some (r, cs) → (∀ p ∈ cs, p) → e = (l.out r).1 ∧ SeesL q.1 (l.out r).2.1 ∧ EntsEqv q.2 (l.out r).2.2
 split : ∀ r (Q : R → Prop), (l.split r).sat Q → Q r
theorem Good.two {l : LoopSt X R} (h : l.Good) : l.Good2 where
 take := fun q x cs hq hc => ⟨by rw [(h.take q x cs hq hc).1]; exact SeesL.refl _, (h.take q x cs hq hc).2⟩
 takeR := fun e q r cs hq hc => ⟨(h.takeR e q r cs hq hc).1, by rw [(h.takeR e q r cs hq hc).2.1]; exact SeesL.refl _, (h.takeR e q r cs hq hc).2.2⟩
 split := h.split
end LoopSt
def RunsX {X R : Type} (step : X → Tr (X ⊕ R)) (Q : R → Prop) : Nat → X → Prop
 | 0, _ => False
 | n + 1, x => (step x).sat fun
  | .inl x' => RunsX step Q n x'
  | .inr r => Q r
theorem LoopSt.finR_spec {X R : Type} {l : LoopSt X R} (hg : l.Good2) {e : Ex} {S : St} {Q : X ⊕ R → Prop} (h : (l.finR k e S).sat Q) :
  ∃ r, Q (.inr r) ∧ e = (l.out r).1 ∧ Weak k S (mkSt l.nOut (l.out r).2) := by
 unfold LoopSt.finR at h
 split at h
 ·rename_i q hq
  split at h
  ·rename_i r cs hr
   obtain ⟨hc, h⟩ := Tr.sat_needs h
   obtain ⟨h1, h2, h3⟩ := hg.takeR e q r cs hr hc
   refine ⟨r, h, h1, (norm_weak hq).trans ?_⟩
   exact (EntsEqv.weak (k := k) (n := l.nOut) (vs := q.1) h3).trans (SeesL.weak h2)
  ·exact h.elim
 ·exact h.elim
theorem LoopSt.runs {X R : Type} {l : LoopSt X R} (hg : l.Good2) {step : X → Tr (X ⊕ R)} (hs : ∀ x, (exec P Γ L N body (mkSt l.nIn (l.head x))).bind (l.fin k id) = step x) {Q : R → Prop} {Q2 : Ex × St → Prop}
  (hQ : ∀ r, Q r → Q2 ((l.out r).1, mkSt l.nOut (l.out r).2)) : ∀ (n : Nat) (x : X), RunsX step Q n x → RunsN P Γ L N k id body Q2 n (mkSt l.nIn (l.head x))
 | 0, x, h => h.elim
 | n + 1, x, h => by
  unfold RunsX at h
  rw [← hs x] at h
  unfold RunsN
  refine Tr.sat_mono ?_ (Tr.sat_bind h)
  rintro ⟨e, S⟩ hq
  cases e with
  | normal =>
   simp only [LoopSt.fin] at hq ⊢
   split at hq
   ·rename_i q hn
    split at hq
    ·rename_i x' cs ht
     obtain ⟨hc, hq⟩ := Tr.sat_needs hq
     obtain ⟨h1, h2⟩ := hg.take q x' cs ht hc
     refine ⟨mkSt l.nIn (l.head x'), (norm_weak hn).trans ?_, LoopSt.runs hg hs hQ n x' hq⟩
     exact (EntsEqv.weak (k := k) (n := l.nIn) (vs := q.1) h2).trans (SeesL.weak h1)
    ·exact hq.elim
   ·exact hq.elim
  | exit j =>
   simp only [LoopSt.fin] at hq ⊢
   obtain ⟨r, h1, h2, h3⟩ := LoopSt.finR_spec hg hq
   exact ⟨_, h3, by rw [h2]; exact hQ r h1⟩
  | ret =>
   simp only [LoopSt.fin] at hq ⊢
   obtain ⟨r, h1, h2, h3⟩ := LoopSt.finR_spec hg hq
   exact ⟨_, h3, by rw [h2]; exact hQ r h1⟩
theorem LoopSt.ok2 {X R : Type} (hm : P.follows .mixedOrders = true) (hΓ : ∀ f s, Γ f = some s → SpecOk P f s) (hl : BlocksOk P k L body) {l : LoopSt X R} (hg : l.Good2) {step : X → Tr (X ⊕ R)}
   (hs : ∀ x, (exec P Γ L N body (mkSt l.nIn (l.head x))).bind (l.fin k id) = step x) (hr : ∀ x, l.pre x = true → ∃ n, RunsX step (· = l.res x) n x) : BlockOk P k id (.loop body) (l.g k) := by
 refine blockOk_loop (N := N) hm hΓ hl fun Q S h => ?_
 unfold LoopSt.g at h
 split at h
 · rename_i q hq
   split at h
   · rename_i x cs ht
     obtain ⟨hc, hp, h⟩ := Tr.sat_needs h
     obtain ⟨h1, h2⟩ := hg.take q x cs ht hc
     obtain ⟨n, hn⟩ := hr x hp
     refine ⟨n, mkSt l.nIn (l.head x), (norm_weak hq).trans ?_, LoopSt.runs hg hs (fun r hr => ?_) n x hn⟩
     · exact (EntsEqv.weak (k := k) (n := l.nIn) (vs := q.1) h2).trans (SeesL.weak h1)
     · subst hr
       exact hg.split _ _ (Tr.sat_bind (h hp))
   · exact h.elim
 · exact h.elim
theorem LoopSt.ok {X R : Type} (hm : P.follows .mixedOrders = true) (hΓ : ∀ f s, Γ f = some s → SpecOk P f s) (hl : BlocksOk P k L body) {l : LoopSt X R} (hg : l.Good) {step : X → Tr (X ⊕ R)}
   (hs : ∀ x, (exec P Γ L N body (mkSt l.nIn (l.head x))).bind (l.fin k id) = step x) (hr : ∀ x, l.pre x = true → ∃ n, RunsX step (· = l.res x) n x) : BlockOk P k id (.loop body) (l.g k) :=
 LoopSt.ok2 hm hΓ hl hg.two hs hr
end
end Go.Vse
namespace Go.Vse
open Go.RowKit
structure MemOut where
 val : AV
 outs : List (Option Ent)
 new : Option Ent := none
 conds : List Bool := []
abbrev MSpec := List (Option Ent) → List AV → Option MemOut
def zipUpd : List Nat → List (Option Ent) → List (Nat × Option Ent)
 | x :: ids, e :: es => (x, e) :: zipUpd ids es
 | _, _ => []
def backOf (ids : List Nat) (slot i : Nat) : Nat := bif Nat.blt i ids.length then ids.getD i 0 else slot
def argIds (m : Mem) (args : List AV) : List Nat := reach m 3 (addAll [] (namesL args))
def memSpec (K : MSpec) : Spec := fun slot m args =>
 let ids := argIds m args
 bif nodupB ids && closedB m ids && (namesL args).all (memB ids) && (ids.all fun s => (m s).isSome) && !memB ids slot then
  match K (ids.map fun s => (m s).map (renE (pos ids))) (renL (pos ids) args) with
  | some o =>
   bif Nat.beq o.outs.length ids.length then
    some { val := renA (backOf ids slot) o.val, upd := zipUpd ids (o.outs.map fun e => e.map (renE (backOf ids slot))) ++ [(slot, o.new.map (renE (backOf ids slot)))], conds := o.conds, reads := ids }
   else none
  | none => none
 else none
abbrev act0 : Act := { tmps := #[], defers := [] }
abbrev memSt (m : List (Option Ent)) (nx : Nat) : St := { tm := [], mem := memOf m, nx := nx }
structure MemOk (P : Program) (f : FuncId) (K : MSpec) : Prop where
 sound : ∀ ents args o (C : Ctx) (B : Bmap) (w : World) (vs : List Value), K ents args = some o → C.Ok → C.k = ents.length → Holds C B (memSt ents ents.length) act0 w →
  Rels (ownOf C.A0 B (memOf ents)) B w args vs → (∀ p ∈ o.conds, p) →
  CallsTo P f vs.toArray w fun e w' => ∃ v B', e = .returned v ∧ Holds C B' (memSt (o.outs ++ [o.new]) (ents.length + 1)) act0 w' ∧ ARel (ownOf C.A0 B' (memOf (o.outs ++ [o.new]))) B' w' o.val v
theorem sub_addAll : ∀ (l acc : List Nat) (x : Nat), x ∈ acc → x ∈ addAll acc l
 | [], acc, x, h => h
 | y :: l, acc, x, h => by
  simp only [addAll]
  refine sub_addAll l _ x ?_
  cases memB acc y
  ·exact List.mem_append_left _ h
  ·exact h
theorem sub_growIds (m : Mem) : ∀ (l acc : List Nat) (x : Nat), x ∈ acc → x ∈ growIds m acc l
 | [], acc, x, h => h
 | s :: l, acc, x, h => by
  simp only [growIds]
  refine sub_growIds m l _ x ?_
  cases m s with
  | none => exact h
  | some e => exact sub_addAll _ _ x h
theorem sub_reach (m : Mem) : ∀ (n : Nat) (acc : List Nat) (x : Nat), x ∈ acc → x ∈ reach m n acc
 | 0, acc, x, h => h
 | n + 1, acc, x, h => sub_reach m n _ x (sub_growIds m acc acc x h)
theorem growIds_congr {m m' : Mem} : ∀ (l acc : List Nat), (∀ s ∈ l, m' s = m s) → growIds m' acc l = growIds m acc l
 | [], acc, h => rfl
 | s :: l, acc, h => by
  simp only [growIds]
  rw [h s (by simp)]
  exact growIds_congr l _ fun t ht => h t (by simp [ht])
theorem reach_congr {m m' : Mem} : ∀ (n : Nat) (acc : List Nat), (∀ s ∈ reach m n acc, m' s = m s) → reach m' n acc = reach m n acc
 | 0, acc, h => rfl
 | n + 1, acc, h => by
  simp only [reach] at h ⊢
  rw [growIds_congr acc acc fun s hs => h s (sub_reach m n _ s (sub_growIds m acc acc s hs))]
  exact reach_congr n _ h
theorem getElem?_mem_ids {ids : List Nat} {i : Nat} (hi : i < ids.length) : ids.getD i 0 ∈ ids := by
 rw [List.getD_eq_getElem?_getD, List.getElem?_eq_getElem hi]; exact List.getElem_mem hi
theorem zipUpd_apply : ∀ (ids : List Nat) (es : List (Option Ent)) (m : Mem) (j : Nat), ids.Nodup → es.length = ids.length →
   applyUpd m (zipUpd ids es) j = if j ∈ ids then es.getD (pos ids j) none else m j
 | [], es, m, j, _, _ => by simp [zipUpd, applyUpd]
 | x :: ids, [], m, j, _, h => by simp at h
 | x :: ids, e :: es, m, j, hn, h => by
   obtain ⟨hx, hn⟩ := List.nodup_cons.1 hn
   simp only [zipUpd, applyUpd]
   rw [zipUpd_apply ids es _ j hn (by simpa using h)]
   by_cases hj : j ∈ ids
   · have hne : x ≠ j := by rintro rfl; exact hx hj
     simp [hj, pos, beq_false hne]
   · by_cases hxj : j = x
     · subst hxj
       simp [hj, pos, mem_set_eq]
     · simp [hj, hxj, mem_set_eq]
theorem applyUpd_append (m : Mem) : ∀ (l k : List (Nat × Option Ent)), applyUpd m (l ++ k) = applyUpd (applyUpd m l) k := by
 intro l
 induction l generalizing m with
 | nil => intro k; rfl
 | cons p l ih => intro k; obtain ⟨s, e⟩ := p; simp only [List.cons_append, applyUpd]; exact ih _ k
theorem memOf_append_left {l : List (Option Ent)} {e : Option Ent} {i : Nat} (hi : i < l.length) : memOf (l ++ [e]) i = l.getD i none := by
 simp [memOf, List.getD_eq_getElem?_getD, List.getElem?_append_left hi]
theorem memOf_append_right {l : List (Option Ent)} {e : Option Ent} : memOf (l ++ [e]) l.length = e := by
 simp [memOf, List.getD_eq_getElem?_getD]
theorem memOf_append_none {l : List (Option Ent)} {e : Option Ent} {i : Nat} (hi : l.length < i) : memOf (l ++ [e]) i = none := by
 simp [memOf, List.getD_eq_getElem?_getD, List.getElem?_eq_none (show (l ++ [e]).length ≤ i by simp; omega)]
theorem memSpec_look (K : MSpec) : SpecLook (memSpec K) := by
 intro slot m m' args r hr hk
 unfold memSpec at hr ⊢
 simp only [] at hr ⊢
 have hreads : r.reads = argIds m args := by
   cases hb : (nodupB (argIds m args) && closedB m (argIds m args) && (namesL args).all (memB (argIds m args)) && ((argIds m args).all fun s => (m s).isSome) && !memB (argIds m args) slot) with
   | false => rw [hb] at hr; cases hr
   | true =>
     rw [hb] at hr
     simp only [cond_true] at hr
     split at hr
     · rename_i o ho
       cases hl : Nat.beq o.outs.length (argIds m args).length with
       | false => rw [hl] at hr; cases hr
       | true => rw [hl] at hr; simp only [cond_true, Option.some.injEq] at hr; rw [← hr]
     · cases hr
 rw [hreads] at hk
 have hids : argIds m' args = argIds m args := reach_congr 3 _ hk
 have hmap : ((argIds m args).map fun s => (m' s).map (renE (pos (argIds m args)))) = (argIds m args).map fun s => (m s).map (renE (pos (argIds m args))) :=
   List.map_congr_left fun s hs => by rw [hk s hs]
 have hclosed : closedB m' (argIds m args) = closedB m (argIds m args) := by
   unfold closedB
   rw [Bool.eq_iff_iff, List.all_eq_true, List.all_eq_true]
   constructor
   · intro h s hs; have := h s hs; rw [hk s hs] at this; exact this
   · intro h s hs; have := h s hs; rw [hk s hs]; exact this
 have hsome : ((argIds m args).all fun s => (m' s).isSome) = (argIds m args).all fun s => (m s).isSome := by
   rw [Bool.eq_iff_iff, List.all_eq_true, List.all_eq_true]
   constructor
   · intro h s hs; have := h s hs; rw [hk s hs] at this; exact this
   · intro h s hs; have := h s hs; rw [hk s hs]; exact this
 rw [hids, hmap, hclosed, hsome]
 exact hr
theorem memSpec_sound {K : MSpec} {D : Array Value → World → (Ending → World → Prop) → Prop} (hD : ∀ {vs : Array Value} {w : World} {R R' : Ending → World → Prop}, D vs w R → (∀ e w', R e w' → R' e w') → D vs w R')
   {C : Ctx} {I : World → Prop} (h : ∀ ents args o (C' : Ctx) (B : Bmap) (w : World) (vs : List Value), K ents args = some o → C'.Ok → C'.k = ents.length → C'.w0 = w → (∀ b, C.A0 b → C'.A0 b) → I w → Holds C' B (memSt ents ents.length) act0 w →
     Rels (ownOf C'.A0 B (memOf ents)) B w args vs → (∀ p ∈ o.conds, p) →
     D vs.toArray w fun e w' => ∃ v B', e = .returned v ∧ Holds C' B' (memSt (o.outs ++ [o.new]) (ents.length + 1)) act0 w' ∧ ARel (ownOf C'.A0 B' (memOf (o.outs ++ [o.new]))) B' w' o.val v)
   (slot : Nat) (args : List AV) (r : Eff) (B : Bmap) (S : St) (a : Act) (w : World) (vs : List Value) (hr : memSpec K slot S.mem args = some r) (hC : C.Ok) (H : Holds C B S a w) (hI : I w) (hs : B slot = none) (hnx : Between C S slot) (hc : ∀ p ∈ r.conds, p)
   (hv : Rels (ownOf C.A0 B S.mem) B w args vs) : D vs.toArray w fun e w' => ∃ v B', e = .returned v ∧ Holds C B' { S with mem := applyUpd S.mem r.upd } a w' ∧
     ARel (ownOf C.A0 B' (applyUpd S.mem r.upd)) B' w' r.val v ∧ ∀ j, j ≠ slot → B' j = B j := by
 unfold memSpec at hr
 simp only [] at hr
 generalize hids : argIds S.mem args = ids at hr
 cases hb : (nodupB ids && closedB S.mem ids && (namesL args).all (memB ids) && (ids.all fun s => (S.mem s).isSome) && !memB ids slot) with
 | false => rw [hb] at hr; cases hr
 | true =>
 rw [hb] at hr
 simp only [cond_true] at hr
 simp only [Bool.and_eq_true, Bool.not_eq_true'] at hb
 obtain ⟨⟨⟨⟨hnd, hcl⟩, hnames⟩, hlive⟩, hslot⟩ := hb
 have hnd := nodupB_nodup hnd
 have hslot : slot ∉ ids := fun h => by rw [memB_iff.2 h] at hslot; cases hslot
 have hlive : ∀ s ∈ ids, ∃ e, S.mem s = some e := fun s hs => Option.isSome_iff_exists.1 (List.all_eq_true.1 hlive s hs)
 split at hr
 case h_2 => cases hr
 rename_i o ho
 cases hl : Nat.beq o.outs.length ids.length with
 | false => rw [hl] at hr; cases hr
 | true =>
 rw [hl] at hr
 simp only [cond_true, Option.some.injEq] at hr
 subst hr
 have hlen : o.outs.length = ids.length := by simpa using hl
 -- the frame of the call
 let ents : List (Option Ent) := ids.map fun s => (S.mem s).map (renE (pos ids))
 have hel : ents.length = ids.length := by simp [ents]
 let X' : Nat → Prop := viewed B S.mem ids
 let A0' : Nat → Prop := fun b => ownOf C.A0 B S.mem b ∧ ¬ X' b
 let C' : Ctx := ⟨A0', X', w, ids.length, B.at ids⟩
 have hXown : ∀ b, X' b → ownOf C.A0 B S.mem b := fun b ⟨s, _, e, h1, h2⟩ => .inr ⟨s, e, h1, h2⟩
 have hC' : C'.Ok := ⟨fun b hb => own_lt hC H b hb.1, fun b hb => own_lt hC H b (hXown b hb), fun b hb hx => hb.2 hx⟩
 have hA : ∀ b, ownOf A0' (B.at ids) (memOf ents) b → ownOf C.A0 B S.mem b := by
   rintro b (h | ⟨s, e, h1, h2⟩)
   · exact h.1
   · obtain ⟨hs, hg⟩ := memOf_map h1
     simp only [Option.map_eq_some_iff] at hg
     obtain ⟨e', he', _⟩ := hg
     simp only [Bmap.at, hs, if_true] at h2
     exact .inr ⟨_, e', he', h2⟩
 have H0 : Holds C' (B.at ids) (memSt ents ents.length) act0 w := by
   refine { defers := rfl, size := rfl, tm := fun t ht => absurd ht (Nat.not_lt_zero t), mem := ?_, inj := ?_, kept := Kept.refl _ _, old := ?_, fresh := ?_, base := fun s _ => rfl, kle := by simp [memSt, hel, C'] }
   · intro s e he
     obtain ⟨hs, hg⟩ := memOf_map he
     simp only [Option.map_eq_some_iff] at hg
     obtain ⟨e', he', rfl⟩ := hg
     have hBs : B.at ids s = B (ids.getD s 0) := by simp [Bmap.at, hs]
     rcases H.mem _ _ he' with ⟨β, h1, h2⟩ | ⟨h1, h2⟩
     · refine .inl ⟨β, by rw [hBs]; exact h1, renE_rel hA h2 fun t ht γ hγ => at_pos ?_ hγ⟩
       have := List.all_eq_true.1 hcl _ (getElem?_mem_ids hs)
       rw [he'] at this
       exact List.all_eq_true.1 this t ht
     · exact .inr ⟨by rw [hBs]; exact h1, renE_none0 h2⟩
   · intro s s' e e' β h1 h2 h3 h4
     obtain ⟨hs, hg⟩ := memOf_map h1
     obtain ⟨hs', hg'⟩ := memOf_map h2
     simp only [Option.map_eq_some_iff] at hg hg'
     obtain ⟨e1, he1, _⟩ := hg
     obtain ⟨e2, he2, _⟩ := hg'
     simp only [Bmap.at, hs, hs', if_true] at h3 h4
     have := H.inj _ _ _ _ β he1 he2 h3 h4
     rw [← pos_getD hnd hs, ← pos_getD hnd hs', this]
   · intro s β h
     unfold Bmap.at at h
     by_cases hs : s < ids.length
     · simp only [hs, if_true] at h
       obtain ⟨e, he⟩ := hlive _ (getElem?_mem_ids hs)
       exact ⟨.inr ⟨_, getElem?_mem_ids hs, e, he, h⟩, (H.old _ _ h).2⟩
     · simp [hs] at h
   · intro s hs
     have : ¬ s < ids.length := by simp only [memSt, hel] at hs; omega
     simp [Bmap.at, this]
 have hargs : Rels (ownOf C'.A0 (B.at ids) (memOf ents)) (B.at ids) w (renL (pos ids) args) vs :=
   renL_rel hA args vs hv fun s hs β hβ => at_pos (List.all_eq_true.1 hnames s hs) hβ
 have hXold : ∀ b, X' b → C.w0.heap.size ≤ b ∨ C.X b := fun b ⟨s, _, e, _, h2⟩ => (H.old s b h2).1
 have hA0X : ∀ b, C.A0 b → ¬ X' b := fun b hb hx => by
   rcases hXold b hx with h | h
   · exact absurd (hC.a0 b hb) (Nat.not_lt.2 h)
   · exact hC.disj b hb h
 refine hD (h ents _ o C' (B.at ids) w vs ho hC' hel.symm rfl (fun b hb => ⟨.inl hb, hA0X b hb⟩) hI H0 hargs hc) ?_
 rintro e w' ⟨v, B', rfl, H', hrel⟩
 rw [hel] at H'
 -- what has become of it
 let B2 : Bmap := fun j => if j = slot then B' ids.length else B j
 let outs2 := o.outs.map fun e => e.map (renE (backOf ids slot))
 let mem2 : Mem := applyUpd S.mem (zipUpd ids outs2 ++ [(slot, o.new.map (renE (backOf ids slot)))])
 have hm2 : ∀ j, mem2 j = if j = slot then o.new.map (renE (backOf ids slot)) else if j ∈ ids then outs2.getD (pos ids j) none else S.mem j := by
   intro j
   show applyUpd _ _ j = _
   rw [applyUpd_append]
   simp only [applyUpd, mem_set_eq]
   by_cases hj : j = slot
   · simp [hj]
   · simp only [hj, if_false]
     exact zipUpd_apply ids outs2 S.mem j hnd (by simp [outs2, hlen])
 have hbase : ∀ i, i < ids.length → B' i = B (ids.getD i 0) := fun i hi => by
   have := H'.base i hi
   simpa [C', Bmap.at, hi] using this
 have hback : ∀ i β, B' i = some β → B2 (backOf ids slot i) = some β := by
   intro i β hi
   rcases Nat.lt_trichotomy i ids.length with h | h | h
   · have hne : ids.getD i 0 ≠ slot := fun he => hslot (he ▸ getElem?_mem_ids h)
     have hbt : Nat.blt i ids.length = true := by rw [Nat.blt_eq]; exact h
     simp only [backOf, hbt, cond_true, B2, hne, if_false]
     rw [← hbase i h]; exact hi
   · subst h
     have hbt : Nat.blt ids.length ids.length = false := by
       cases hb : Nat.blt ids.length ids.length
       · rfl
       · rw [Nat.blt_eq] at hb; omega
     simp only [backOf, hbt, cond_false, B2, if_true]; exact hi
   · have := H'.fresh i (by simp only [memSt]; omega)
     rw [this] at hi; cases hi
 have hBB : ∀ s β, B s = some β → B2 s = some β := by
   intro s β h
   have : s ≠ slot := by rintro rfl; rw [hs] at h; cases h
   simp only [B2, this, if_false]; exact h
 have hidx : ∀ j, j ∈ ids → pos ids j < ids.length ∧ ids.getD (pos ids j) 0 = j := fun j hj => memB_pos (memB_iff.2 hj)
 -- a live slot is the call's, or is as it was
 have hcase : ∀ j e, mem2 j = some e → (∃ i e', (if i = ids.length then j = slot else i < ids.length ∧ j = ids.getD i 0) ∧ memOf (o.outs ++ [o.new]) i = some e' ∧ e = renE (backOf ids slot) e' ∧ B2 j = B' i) ∨
     (j ≠ slot ∧ j ∉ ids ∧ S.mem j = some e ∧ B2 j = B j) := by
   intro j e he
   rw [hm2] at he
   by_cases hj : j = slot
   · simp only [hj, if_true, Option.map_eq_some_iff] at he
     obtain ⟨e', he', rfl⟩ := he
     exact .inl ⟨ids.length, e', by simp [hj], by rw [← hlen, memOf_append_right]; exact he', rfl, by simp [B2, hj]⟩
   · simp only [hj, if_false] at he
     by_cases hji : j ∈ ids
     · obtain ⟨h1, h2⟩ := hidx j hji
       simp only [hji, if_true, outs2] at he
       rw [List.getD_eq_getElem?_getD, List.getElem?_map] at he
       have h3 : pos ids j < o.outs.length := by omega
       rw [List.getElem?_eq_getElem h3] at he
       simp only [Option.map_some, Option.getD_some, Option.map_eq_some_iff] at he
       obtain ⟨e', he', rfl⟩ := he
       refine .inl ⟨pos ids j, e', ?_, ?_, rfl, ?_⟩
       · rw [if_neg (by omega)]; exact ⟨h1, h2.symm⟩
       · rw [memOf_append_left h3, List.getD_eq_getElem?_getD, List.getElem?_eq_getElem h3]; exact he'
       · simp only [B2, hj, if_false]; rw [hbase _ h1, h2]
     · simp only [hji, if_false] at he
       exact .inr ⟨hj, hji, he, by simp [B2, hj]⟩
 have hnotX : ∀ j e b, S.mem j = some e → B j = some b → j ∉ ids → ¬ X' b := fun j e b h1 h2 h3 ⟨s, h4, e', h5, h6⟩ => h3 (H.inj j s e e' b h1 h5 h2 h6 ▸ h4)
 have hown1 : ∀ b, b < w.heap.size → ownOf C.A0 B2 mem2 b → ownOf C.A0 B S.mem b := by
   rintro b hb (h | ⟨j, e, h1, h2⟩)
   · exact .inl h
   · rcases hcase j e h1 with ⟨i, e', _, _, _, h6⟩ | ⟨_, _, h5, h6⟩
     · rw [h6] at h2
       rcases (H'.old i b h2).1 with h | h
       · exact absurd hb (Nat.not_lt.2 h)
       · exact hXown b h
     · rw [h6] at h2; exact .inr ⟨j, e, h5, h2⟩
 have hown2 : ∀ b, ownOf C.A0 B2 mem2 b → ownOf C'.A0 B' (memOf (o.outs ++ [o.new])) b := by
   rintro b (h | ⟨j, e, h1, h2⟩)
   · exact .inl ⟨.inl h, hA0X b h⟩
   · rcases hcase j e h1 with ⟨i, e', _, h4, _, h6⟩ | ⟨_, h4, h5, h6⟩
     · rw [h6] at h2; exact .inr ⟨i, e', h4, h2⟩
     · rw [h6] at h2; exact .inl ⟨.inr ⟨j, e, h5, h2⟩, hnotX j e b h5 h2 h4⟩
 have hk : Kept X' w w' := H'.kept
 have ht : Trans (ownOf C.A0 B S.mem) w w' := ⟨hk.size, fun b hb hn => hk.block b hb fun hx => hn (hXown b hx), fun b _ D t fz hD => hk.rows b D t fz hD⟩
 refine ⟨v, B2, rfl, ?_, renA_rel hown2 o.val v hrel fun s _ β hβ => hback s β hβ, fun j hj => by simp [B2, hj]⟩
 refine { defers := H.defers, size := H.size, tm := fun t h => (H.tm t h).trans ht hown1 hBB, mem := ?_, inj := ?_, kept := ?_, old := ?_, fresh := ?_, base := ?_, kle := H.kle }
 · intro j e he
   have he : mem2 j = some e := he
   show (∃ β, B2 j = some β ∧ EntRel (ownOf C.A0 B2 mem2) B2 w' e w'.heap[β]?) ∨ _
   rcases hcase j e he with ⟨i, e', _, h4, rfl, h6⟩ | ⟨h3, h4, h5, h6⟩
   · rw [h6]
     rcases H'.mem i e' h4 with ⟨β, h7, h8⟩ | ⟨h7, h8⟩
     · exact .inl ⟨β, h7, renE_rel hown2 h8 fun s _ γ hγ => hback s γ hγ⟩
     · exact .inr ⟨h7, renE_none0 h8⟩
   · rw [h6]
     rcases H.mem j e h5 with ⟨β, h7, h8⟩ | ⟨h7, h8⟩
     · refine .inl ⟨β, h7, ?_⟩
       rw [hk.block β (H.old j β h7).2 (hnotX j e β h5 h7 h4)]
       exact h8.trans ht hown1 hBB
     · exact .inr ⟨h7, h8⟩
 · intro j j' e e' β m1 m2 h1 h2
   have m1 : mem2 j = some e := m1
   have m2 : mem2 j' = some e' := m2
   rcases hcase j e m1 with ⟨i, e1, a1, a2, _, a4⟩ | ⟨a1, a2, a3, a4⟩ <;> rcases hcase j' e' m2 with ⟨i', e2, b1, b2, _, b4⟩ | ⟨b1, b2, b3, b4⟩
   · rw [a4] at h1
     rw [b4] at h2
     obtain rfl := H'.inj i i' e1 e2 β a2 b2 h1 h2
     by_cases hi : i = ids.length
     · simp only [hi, if_true] at a1 b1; rw [a1, b1]
     · simp only [hi, if_false] at a1 b1; rw [a1.2, b1.2]
   · rw [a4] at h1
     rw [b4] at h2
     exfalso
     rcases (H'.old i β h1).1 with h | h
     · exact absurd (H.old j' β h2).2 (Nat.not_lt.2 h)
     · exact hnotX j' e' β b3 h2 b2 h
   · rw [a4] at h1
     rw [b4] at h2
     exfalso
     rcases (H'.old i' β h2).1 with h | h
     · exact absurd (H.old j β h1).2 (Nat.not_lt.2 h)
     · exact hnotX j e β a3 h1 a2 h
   · rw [a4] at h1
     rw [b4] at h2
     exact H.inj j j' e e' β a3 b3 h1 h2
 · refine H.kept.trans hk fun i hi hx => ?_
   rcases hXold i hx with h | h
   · exact absurd hi (Nat.not_lt.2 h)
   · exact h
 · intro s β h
   by_cases hsl : s = slot
   · simp only [B2, hsl, if_true] at h
     obtain ⟨h1, h2⟩ := H'.old _ β h
     refine ⟨?_, h2⟩
     rcases h1 with h1 | h1
     · exact .inl (Nat.le_trans H.kept.size h1)
     · exact hXold β h1
   · simp only [B2, hsl, if_false] at h
     exact ⟨(H.old s β h).1, Nat.lt_of_lt_of_le (H.old s β h).2 hk.size⟩
 · intro s hsn
   have hne : s ≠ slot := by rintro rfl; exact absurd hsn (Nat.not_le.2 hnx.2)
   simp only [B2, hne, if_false]
   exact H.fresh s hsn
 · intro s hsk
   have hne : s ≠ slot := by rintro rfl; exact absurd hsk (Nat.not_lt.2 hnx.1)
   simp only [B2, hne, if_false]
   exact H.base s hsk
theorem MemOk.spec {P : Program} {f : FuncId} {K : MSpec} (h : MemOk P f K) : SpecOk P f (memSpec K) where
 look := memSpec_look K
 sound := fun slot args r C B S a w vs hr hC H hs hnx hc hv =>
  memSpec_sound (D := fun vs w R => CallsTo P f vs w R) (fun h hr => h.mono hr) (I := fun _ => True) (fun ents args o C' B w vs ho hC' hk _ _ _ H hr hc => h.sound ents args o C' B w vs ho hC' hk H hr hc)
   slot args r B S a w vs hr hC H trivial hs hnx hc hv
end Go.Vse
namespace Go.Vse
open Go.RowKit
def startM (ents : List (Option Ent)) (args : List AV) (nt : Nat) : St := { tm := args ++ List.replicate (nt - args.length) (.c (.v undef)), mem := memOf ents, nx := ents.length }
def dropAll (S : St) (ids : List Nat) : St := { S with mem := applyUpd S.mem (ids.map fun b => (b, none)) }
def packM (k : Nat) (S : St) (v : AV) : Option MemOut :=
 let ids := reach S.mem 3 (addAll (List.range k) (namesA v))
 bif nodupB ids && closedB S.mem ids && (namesA v).all (memB ids) && prefixB 0 k ids && Nat.ble ids.length (k + 1) then
  some { val := renA (pos ids) v, outs := (List.range k).map fun i => (S.mem i).map (renE (pos ids)), new := (match ids[k]? with | some s => (S.mem s).map (renE (pos ids)) | none => none) }
 else none
def finishM (P : Program) (fn : Func) (k : Nat) (frz : Bool) (S : St) : Tr MemOut :=
 match resultsA P S fn.results.toList with
 | none => .fail "results"
 | some v =>
  bif frz then
   match packM k (dropAll S (idsA v)) (viewA S.mem v).1 with
   | some o => Tr.needs (viewA S.mem v).2 (.ret o)
   | none => .fail "pack"
  else
   match packM k S v with
   | some o => .ret o
   | none => .fail "pack"
def execM (P : Program) (Γ : FuncId → Option Spec) (L : Nat → Option (St → Tr (Ex × St))) (N : Nat) (frz : Bool) (fn : Func) (ents : List (Option Ent)) (args : List AV) : Tr MemOut :=
 match fn.body with
 | none => .fail "body"
 | some c => (exec P Γ L N c (startM ents args fn.ntmps)).bind fun (e, S) =>
  match e with
  | .exit _ => .fail "exit"
  | _ => finishM P fn ents.length frz S
section
variable {P : Program} {Γ : FuncId → Option Spec} {L : Nat → Option (St → Tr (Ex × St))} {C : Ctx} {B : Bmap} {S : St} {a : Act} {w : World}
theorem freeze (hC : C.Ok) (H : Holds C B S a w) {x : AV} {v : Value} (h : ARel (ownOf C.A0 B S.mem) B w x v) (hc : ∀ p ∈ (viewA S.mem x).2, p) :
  Holds C B (dropAll S (idsA x)) a w ∧ ARel (ownOf C.A0 B (dropAll S (idsA x)).mem) B w (viewA S.mem x).1 v := by
 refine ⟨Holds.drops _ S H, viewA_rel H (fun b hb => ?_) x v h (fun b hb => ?_) hc⟩
 ·rcases hb with hb | ⟨t, e, h1, h2⟩
  ·exact .inl hb
  ·obtain ⟨_, h4⟩ := drops_get (idsA x) S.mem t e h1
   exact .inr ⟨t, e, h4, h2⟩
 ·rintro ⟨t, ht, e, h1, h2⟩
  rcases hb with hb | ⟨t', e', h3, h4⟩
  ·rcases (H.old t b h2).1 with h3 | h3
   ·exact absurd (hC.a0 b hb) (Nat.not_lt.2 h3)
   ·exact hC.disj b hb h3
  ·obtain ⟨h5, h6⟩ := drops_get (idsA x) S.mem t' e' h3
   exact h5 (H.inj t' t e' e b h6 h1 h4 h2 ▸ ht)
theorem packM_sound {k : Nat} (hk : C.k = k) (H : Holds C B S a w) {x : AV} {v : Value} (h : ARel (ownOf C.A0 B S.mem) B w x v) {o : MemOut} (hp : packM k S x = some o) :
   ∃ B', Holds C B' (memSt (o.outs ++ [o.new]) (k + 1)) act0 w ∧ ARel (ownOf C.A0 B' (memOf (o.outs ++ [o.new]))) B' w o.val v ∧ o.outs.length = k := by
 unfold packM at hp
 simp only [] at hp
 generalize hids : reach S.mem 3 (addAll (List.range k) (namesA x)) = ids at hp
 cases hb : (nodupB ids && closedB S.mem ids && (namesA x).all (memB ids) && prefixB 0 k ids && Nat.ble ids.length (k + 1)) with
 | false => rw [hb] at hp; cases hp
 | true =>
   rw [hb] at hp
   simp only [cond_true, Option.some.injEq] at hp
   subst hp
   simp only [Bool.and_eq_true, Nat.ble_eq] at hb
   obtain ⟨⟨⟨⟨hnd, hcl⟩, hnames⟩, hpre⟩, hle⟩ := hb
   have hkl := (prefixB_spec k 0 ids hpre).1
   have hget := (prefixB_spec k 0 ids hpre).2
   -- the state with the value as its one temporary
   have H1 : Holds C B { S with tm := [x] } { tmps := #[v], defers := [] } w :=
     { H with
       defers := rfl
       size := rfl
       tm := fun t ht => by
         have h0 : t < 1 := ht
         obtain rfl : t = 0 := by omega
         exact h }
   have hok : canonOk C.k ids { S with tm := [x] } = true := by
     simp only [canonOk, Bool.and_eq_true]
     refine ⟨⟨⟨hnd, hcl⟩, ?_⟩, by rw [hk]; exact hpre⟩
     show (namesL [x]).all (memB ids) = true
     simp only [namesL, List.append_nil]
     exact hnames
   have H2 := H1.canon hok
   -- the entries in order
   have hmem : ∀ s, memOf (((List.range k).map fun i => (S.mem i).map (renE (pos ids))) ++ [match ids[k]? with | some s => (S.mem s).map (renE (pos ids)) | none => none]) s = (canonSt ids { S with tm := [x] }).mem s := by
     intro s
     show _ = memOf (ids.map fun s => (S.mem s).map (renE (pos ids))) s
     have hlen : ((List.range k).map fun i => (S.mem i).map (renE (pos ids))).length = k := by simp
     rcases Nat.lt_trichotomy s k with hs | hs | hs
     · rw [memOf_append_left (by rw [hlen]; exact hs)]
       have h1 : s < ids.length := by omega
       have h2 := hget s hs
       rw [List.getD_eq_getElem?_getD, List.getElem?_eq_getElem h1] at h2
       simp only [Option.getD_some, Nat.zero_add] at h2
       simp only [memOf, List.getD_eq_getElem?_getD, List.getElem?_map, List.getElem?_range hs, List.getElem?_eq_getElem h1, Option.map_some, Option.getD_some, h2]
     · subst hs
       have := memOf_append_right (l := (List.range s).map fun i => (S.mem i).map (renE (pos ids))) (e := match ids[s]? with | some s => (S.mem s).map (renE (pos ids)) | none => none)
       rw [hlen] at this
       rw [this]
       simp only [memOf, List.getD_eq_getElem?_getD, List.getElem?_map]
       cases ids[s]? <;> rfl
     · rw [memOf_append_none (by rw [hlen]; exact hs)]
       simp only [memOf, List.getD_eq_getElem?_getD, List.getElem?_map, List.getElem?_eq_none (show ids.length ≤ s by omega)]
       rfl
   have hmem' := funext hmem
   refine ⟨B.at ids, ?_, ?_, by simp⟩
   · refine { defers := rfl, size := rfl, tm := fun t ht => absurd ht (Nat.not_lt_zero t), mem := ?_, inj := ?_, kept := H2.kept, old := H2.old, fresh := fun s hs => H2.fresh s (by simp only [canonSt, memSt] at hs ⊢; omega), base := H2.base, kle := by simp only [memSt]; omega }
     · simp only [memSt, hmem']; exact H2.mem
     · simp only [memSt, hmem']; exact H2.inj
   · rw [hmem']
     have := H2.tm 0 (by simp [canonSt, renL])
     simpa [canonSt, renL] using this
theorem finishM_sound {fn : Func} {k : Nat} {frz : Bool} (hC : C.Ok) (hk : C.k = k) (H : Holds C B S a w) {Q : MemOut → Prop} (h : (finishM P fn k frz S).sat Q) :
  ∃ v B' o, (results fn a.tmps).run P w = .ok v w ∧ Q o ∧ Holds C B' (memSt (o.outs ++ [o.new]) (k + 1)) act0 w ∧ ARel (ownOf C.A0 B' (memOf (o.outs ++ [o.new]))) B' w o.val v ∧ o.outs.length = k := by
 unfold finishM at h
 split at h
 ·exact h.elim
 ·rename_i x hx
  obtain ⟨v, hrun, hrel⟩ := resultsA_sound H hx
  cases frz with
  | true =>
   simp only [cond_true] at h
   split at h
   ·rename_i o ho
    obtain ⟨hc, h⟩ := Tr.sat_needs h
    obtain ⟨H2, hrel2⟩ := freeze hC H hrel hc
    obtain ⟨B', h1, h2, h3⟩ := packM_sound hk H2 hrel2 ho
    exact ⟨v, B', o, hrun, h, h1, h2, h3⟩
   ·exact h.elim
  | false =>
   simp only [cond_false] at h
   split at h
   ·rename_i o ho
    obtain ⟨B', h1, h2, h3⟩ := packM_sound hk H hrel ho
    exact ⟨v, B', o, hrun, h, h1, h2, h3⟩
   ·exact h.elim
theorem memOk_of_exec {L : Nat → Nat → Option (St → Tr (Ex × St))} (hm : P.follows .mixedOrders = true) (hΓ : ∀ f s, Γ f = some s → SpecOk P f s) {f : FuncId} {fn : Func} {c : Code} (hf : P.funcs[f]? = some fn) (hb : fn.body = some c)
   (hcall : ∀ args w, (callFunc f args).run P w = .ok (.enter f args) w) {K : MSpec} {N : Nat} {frz : Bool}
   (hl : ∀ ents args o, K ents args = some o → BlocksOk P ents.length (L ents.length) c)
   (h : ∀ ents args o, K ents args = some o → (∀ p ∈ o.conds, p) → (execM P Γ (L ents.length) N frz fn ents args).sat fun o' => Sees o'.val o.val ∧ EntsEqv (o'.outs ++ [o'.new]) (o.outs ++ [o.new])) : MemOk P f K where
 sound := by
   intro ents args o C B w vs ho hC hk H hargs hconds
   refine CallsTo.enter hf ⟨hcall _ _, calls_of_wp hf hb ?_⟩
   have hs := h ents args o ho hconds
   unfold execM at hs
   rw [hb] at hs
   simp only at hs
   have hlen : vs.length = args.length := hargs.1
   have H1 : Holds C B (startM ents args fn.ntmps) { tmps := vs.toArray ++ Array.replicate (fn.ntmps - vs.toArray.size) undef, defers := [] } w := by
     refine { H with defers := rfl, size := by simp [startM, hlen], tm := ?_ }
     intro t ht
     by_cases hlt : t < args.length
     · have := hargs.2 t hlt
       have hlt' : t < vs.length := by omega
       simpa [startM, List.getD_eq_getElem?_getD, Array.getD_eq_getD_getElem?, List.getElem?_append_left hlt, Array.getElem?_append, hlt, hlt'] using this
     · have ht' : t - args.length < fn.ntmps - args.length := by simp only [startM, List.length_append, List.length_replicate] at ht; omega
       have hlt' : ¬ t < vs.length := by omega
       have e1 : (startM ents args fn.ntmps).tm.getD t .any = .c (.v undef) := by
         simp [startM, List.getD_eq_getElem?_getD, List.getElem?_append_right (Nat.le_of_not_lt hlt), List.getElem?_replicate, ht']
       have e2 : (vs.toArray ++ Array.replicate (fn.ntmps - vs.toArray.size) undef).getD t undef = undef := by
         simp [Array.getD_eq_getD_getElem?, Array.getElem?_append, hlt', Array.getElem?_replicate, hlen, ht', hlt]
       show ARel _ _ _ _ _
       rw [e1]
       simp only [] at e2 ⊢
       rw [e2]
       exact ARel.lit _
   refine Code.wp_mono ?_ (wp_of_vse <| exec_sound hm (specsAt hΓ _) hC c (by rw [hk]; exact hl ents args o ho) _ _ _ _ _ (Tr.sat_bind hs) H1)
   rintro e a' w' ⟨ex, S', B', rfl, H', hq⟩
   have key : (finishM P fn ents.length frz S').sat (fun o' => Sees o'.val o.val ∧ EntsEqv (o'.outs ++ [o'.new]) (o.outs ++ [o.new])) →
       a'.defers = [] ∧ ∃ v, (results fn a'.tmps).run P w' = .ok v w' ∧ ∃ v' B', Ending.returned v = .returned v' ∧ Holds C B' (memSt (o.outs ++ [o.new]) (ents.length + 1)) act0 w' ∧ ARel (ownOf C.A0 B' (memOf (o.outs ++ [o.new]))) B' w' o.val v' := by
     intro hfin
     obtain ⟨v, B2, o', hrun, ⟨hsee, heqv⟩, H2, hrel, hol⟩ := finishM_sound hC hk H' hfin
     refine ⟨H'.defers, v, hrun, v, B2, rfl, ?_⟩
     have hm2 : ∀ s, EntEqv (memOf (o'.outs ++ [o'.new]) s) (memOf (o.outs ++ [o.new]) s) := heqv.len.2
     have hA : ∀ b, ownOf C.A0 B2 (memOf (o.outs ++ [o.new])) b → ownOf C.A0 B2 (memOf (o'.outs ++ [o'.new])) b := by
       rintro b (h | ⟨s, e, h1, h2⟩)
       · exact .inl h
       · have := hm2 s
         rw [h1] at this
         generalize hq : memOf (o'.outs ++ [o'.new]) s = q at this
         cases this with
         | refl => exact .inr ⟨s, e, hq, h2⟩
         | arr n sz el el' t _ => exact .inr ⟨s, _, hq, h2⟩
         | cells l m t _ => exact .inr ⟨s, _, hq, h2⟩
     exact ⟨H2.eqv hm2, hsee _ _ _ _ (hrel.trans (Trans.refl _ _) (fun b _ h => hA b h) (fun _ _ h => h))⟩
   cases ex with
   | normal => exact key hq
   | ret => exact key hq
   | exit id => exact hq.elim
theorem pureOk_of_exec (hm : P.follows .mixedOrders = true) (hΓ : ∀ f s, Γ f = some s → SpecOk P f s) {f : FuncId} {fn : Func} {c : Code} (hf : P.funcs[f]? = some fn) (hb : fn.body = some c)
  (hcall : ∀ args w, (callFunc f args).run P w = .ok (.enter f args) w) {K : List AV → Option (AV × List Bool)} {N : Nat} (hl : BlocksOk P 0 L c)
  (hn : ∀ args v cs, K args = some (v, cs) → Vse.noPtr v = true)
  (h : ∀ args v cs, K args = some (v, cs) → (∀ p ∈ cs, p) → (execFn P Γ L N fn args).sat fun r => Vse.noPtr r = true ∧ Sees r v) : PureOk P f K where
 sound := fun args v cs hk => ⟨hn args v cs hk, fun A w vs hA hc hargs => by
  refine CallsTo.enter hf ⟨hcall _ _, (calls_of_exec hm hΓ hf hb hl (h args v cs hk hc) hA hargs).mono ?_⟩
  rintro e w' ⟨r, u, hsee, _, rfl, hrel, hb⟩
  exact ⟨u, rfl, hsee _ _ _ _ hrel, hb⟩⟩
end
end Go.Vse
namespace Go.Vse
open Go.RowKit
def Tr.run {α : Type} : Tr α → Option α
 | .ret a => some a
 | .ite c t e => bif c then t.run else e.run
 | .need p t => bif p then t.run else none
 | .both _ _ => none
 | .fail _ => none
theorem Tr.run_sat {α : Type} : ∀ {t : Tr α} {a : α}, t.run = some a → t.sat (· = a)
 | .ret a, b, h => by simpa [Tr.run, Tr.sat] using h
 | .ite c t e, b, h => by
   cases c with
   | true => exact ⟨fun _ => Tr.run_sat (by simpa [Tr.run] using h), fun h => by cases h⟩
   | false => exact ⟨fun h => (by cases h), fun _ => Tr.run_sat (by simpa [Tr.run] using h)⟩
 | .need p t, b, h => by
   cases p with
   | true => exact ⟨rfl, fun _ => Tr.run_sat (by simpa [Tr.run] using h)⟩
   | false => simp [Tr.run] at h
 | .both _ _, b, h => by simp [Tr.run] at h
 | .fail _, b, h => by simp [Tr.run] at h
theorem sat_need {α : Type} {p : Bool} {t : Tr α} {Q : α → Prop} (h : p = true) (k : t.sat Q) : (Tr.need p t).sat Q := ⟨h, fun _ => k⟩
theorem sat_ite {α : Type} {c : Bool} {t e : Tr α} {Q : α → Prop} (h : c = true → t.sat Q) (k : c = false → e.sat Q) : (Tr.ite c t e).sat Q := ⟨h, k⟩
theorem sat_ret {α : Type} {a : α} {Q : α → Prop} (h : Q a) : (Tr.ret a).sat Q := h
abbrev noL : Nat → Option (St → Tr (Ex × St)) := fun _ => none
def concPure (P : Program) (Γ : FuncId → Option Spec) (N : Nat) (fn : Func) (args : List AV) : Option (AV × List Bool) :=
 match (execFn P Γ noL N fn args).run with
 | some v => bif noPtr v then some (v, []) else none
 | none => none
def concMem (P : Program) (Γ : FuncId → Option Spec) (N : Nat) (fn : Func) : MSpec := fun ents args => (execM P Γ noL N true fn ents args).run
mutual
/-- no pointer into one's own -/
def freeA : AV → Bool
 | .ptr _ _ => false
 | .eptr _ _ _ _ => false
 | .ssl _ _ _ _ => false
 | .agg l => freeL l
 | .tup l => freeL l
 | .fn _ l => freeL l
 | _ => true
def freeL : List AV → Bool
 | [] => true
 | x :: l => freeA x && freeL l
end
def concS (P : Program) (Γ : FuncId → Option Spec) (N : Nat) (fn : Func) : Spec := fun slot m args =>
 bif freeL args then pureSpec (concPure P Γ N fn) slot m args else memSpec (concMem P Γ N fn) slot m args
def okName (fn : Func) : Bool := !(fn.name == "runtime.NumGoroutine")
def concΓ (P : Program) (base : FuncId → Option Spec) (N : Nat) : Nat → FuncId → Option Spec
 | 0 => base
 | d + 1 => fun f =>
  match base f with
  | some s => some s
  | none =>
   match P.funcs[f]? with
   | some fn =>
    match fn.body with
    | some _ => bif okName fn then some (concS P (concΓ P base N d) N fn) else none
    | none => none
   | none => none
theorem callFunc_enter {P : Program} {f : FuncId} {fn : Func} {c : Code} (hf : P.funcs[f]? = some fn) (hb : fn.body = some c) (hn : okName fn = true) (args : Array Value) (w : World) : (callFunc f args).run P w = .ok (.enter f args) w := by
 have hn' : (fn.name == "runtime.NumGoroutine") = false := by simpa [okName] using hn
 unfold callFunc
 rw [Sem.run_bind, run_program, Result.andThen_ok]
 simp only [hf, hn', hb, Bool.false_eq_true, if_false, Option.isNone_some]
 rfl
section
variable {P : Program} {Γ : FuncId → Option Spec} {N : Nat}
theorem concPure_ok (hm : P.follows .mixedOrders = true) (hΓ : ∀ f s, Γ f = some s → SpecOk P f s) {f : FuncId} {fn : Func} {c : Code} (hf : P.funcs[f]? = some fn) (hb : fn.body = some c) (hn : okName fn = true) : PureOk P f (concPure P Γ N fn) := by
 have hk : ∀ args v cs, concPure P Γ N fn args = some (v, cs) → Vse.noPtr v = true ∧ (execFn P Γ noL N fn args).run = some v := by
  intro args v cs h
  unfold concPure at h
  split at h
  ·rename_i u hu
   cases hp : Vse.noPtr u with
   | false => rw [hp] at h; cases h
   | true =>
    rw [hp] at h
    simp only [cond_true, Option.some.injEq, Prod.mk.injEq] at h
    obtain ⟨rfl, _⟩ := h
    exact ⟨hp, hu⟩
  ·cases h
 refine pureOk_of_exec hm hΓ hf hb (callFunc_enter hf hb hn) (L := noL) (N := N) (blocksOk_none 0 c) (fun args v cs h => (hk args v cs h).1) fun args v cs h _ => ?_
 refine Tr.sat_mono ?_ (Tr.run_sat (hk args v cs h).2)
 rintro r rfl
 exact ⟨(hk args r cs h).1, Sees.refl r⟩
theorem concMem_ok (hm : P.follows .mixedOrders = true) (hΓ : ∀ f s, Γ f = some s → SpecOk P f s) {f : FuncId} {fn : Func} {c : Code} (hf : P.funcs[f]? = some fn) (hb : fn.body = some c) (hn : okName fn = true) : MemOk P f (concMem P Γ N fn) := by
 refine memOk_of_exec (L := fun _ => noL) hm hΓ hf hb (callFunc_enter hf hb hn) (N := N) (frz := true) (fun ents args o _ => blocksOk_none ents.length c) fun ents args o h _ => ?_
 refine Tr.sat_mono ?_ (Tr.run_sat h)
 rintro r rfl
 exact ⟨Sees.refl _, EntsEqv.refl _⟩
theorem SpecOk.pick {f : FuncId} {s t : Spec} (p : List AV → Bool) (hs : SpecOk P f s) (ht : SpecOk P f t) : SpecOk P f (fun slot m args => bif p args then s slot m args else t slot m args) where
 look := fun slot m m' args r h hk => by
  cases hp : p args with
  | true => simp only [hp, cond_true] at h ⊢; exact hs.look slot m m' args r h hk
  | false => simp only [hp, cond_false] at h ⊢; exact ht.look slot m m' args r h hk
 sound := fun slot args r C B S a w vs h => by
  cases hp : p args with
  | true => simp only [hp, cond_true] at h; exact hs.sound slot args r C B S a w vs h
  | false => simp only [hp, cond_false] at h; exact ht.sound slot args r C B S a w vs h
theorem concS_ok (hm : P.follows .mixedOrders = true) (hΓ : ∀ f s, Γ f = some s → SpecOk P f s) {f : FuncId} {fn : Func} {c : Code} (hf : P.funcs[f]? = some fn) (hb : fn.body = some c) (hn : okName fn = true) : SpecOk P f (concS P Γ N fn) :=
 SpecOk.pick freeL (concPure_ok hm hΓ hf hb hn).spec (concMem_ok hm hΓ hf hb hn).spec
theorem concΓ_ok (hm : P.follows .mixedOrders = true) {base : FuncId → Option Spec} (hΓ : ∀ f s, base f = some s → SpecOk P f s) : ∀ (d : Nat) (f : FuncId) (s : Spec), concΓ P base N d f = some s → SpecOk P f s
 | 0, f, s, h => hΓ f s h
 | d + 1, f, s, h => by
  unfold concΓ at h
  split at h
  ·rename_i s' hs'
   cases h
   exact hΓ f _ hs'
  ·split at h
   ·rename_i fn hf
    split at h
    ·rename_i c hb
     cases hn : okName fn with
     | false => rw [hn] at h; cases h
     | true =>
      rw [hn] at h
      simp only [cond_true, Option.some.injEq] at h
      subst h
      exact concS_ok hm (concΓ_ok hm hΓ d) hf hb hn
    ·cases h
   ·cases h
end
end Go.Vse
namespace Go.Vse
open Go.RowKit
structure ExtOk (P : Program) (f : FuncId) (e : Array Value → Sem Value) : Prop where
 ex : ∃ fn, P.funcs[f]? = some fn ∧ (fn.name == "runtime.NumGoroutine") = false ∧ fn.body.isNone = true ∧ Extern.findNext fn = none ∧ Extern.find fn = some e
theorem ExtOk.run {P : Program} {f : FuncId} {e : Array Value → Sem Value} (h : ExtOk P f e) (args : Array Value) (w : World) {v : Value} {w' : World} (hr : (e args).run P w = .ok v w') : (callFunc f args).run P w = .ok (.value v) w' := by
 obtain ⟨fn, h1, h2, h3, h4, h5⟩ := h.ex
 rw [run_callFunc_extern h1 h2 h3 h4 h5, hr]
 rfl
def cmpPure : List AV → Option (AV × List Bool)
 | [.c (.v (.string a)), .c (.v (.string b))] => some (intA .i64 (Lib.compareBytes a.data.toList b.data.toList), [])
 | _ => none
theorem cmp_ok {P : Program} {f : FuncId} (h : ExtOk P f Extern.BytealgCompare.compare) : PureOk P f cmpPure where
 sound := by
  intro args v cs hk
  unfold cmpPure at hk
  split at hk
  ·rename_i a b
   simp only [Option.some.injEq, Prod.mk.injEq] at hk
   obtain ⟨rfl, rfl⟩ := hk
   refine ⟨rfl, fun A w vs hA _ hargs => ?_⟩
   obtain ⟨va, vs, rfl, h1, hargs⟩ := hargs.head
   obtain ⟨vb, vs, rfl, h2, hargs⟩ := hargs.head
   obtain rfl := hargs.nil_inv
   obtain rfl := h1.plain
   obtain rfl := h2.plain
   exact CallsTo.value h.ex.choose_spec.1 ⟨_, w, h.run _ w (Lib.run_compareString a b w), _, rfl, ARel.lit _, Below.refl _ _⟩
  ·cases hk
def addPure : List AV → Option (AV × List Bool)
 | [.c (.v (.int _ x)), .c (.v (.int _ y)), .c (.v (.int _ c))] =>
  some (.tup [intA .u64 (((x.toNat + y.toNat + c.toNat) % Extern.MathBitsCarry.m64 : Nat) : Int), intA .u64 (((x.toNat + y.toNat + c.toNat) / Extern.MathBitsCarry.m64 : Nat) : Int)], [decide (c.toNat ≤ 1)])
 | _ => none
def addExt (args : Array Value) : Sem Value := do
 let (x, y, c) ← Extern.MathBitsCarry.three "Add64" args
 pure (Extern.MathBitsCarry.pair ((x + y + c) % Extern.MathBitsCarry.m64) ((x + y + c) / Extern.MathBitsCarry.m64))
theorem add_ok {P : Program} {f : FuncId} (h : ExtOk P f addExt) : PureOk P f addPure where
 sound := by
  intro args v cs hk
  unfold addPure at hk
  split at hk
  ·rename_i kx x ky y kc c
   simp only [Option.some.injEq, Prod.mk.injEq] at hk
   obtain ⟨rfl, rfl⟩ := hk
   refine ⟨rfl, fun A w vs hA hc hargs => ?_⟩
   have hc := dec (hc (decide (c.toNat ≤ 1)) (by simp))
   obtain ⟨va, vs, rfl, h1, hargs⟩ := hargs.head
   obtain ⟨vb, vs, rfl, h2, hargs⟩ := hargs.head
   obtain ⟨vc, vs, rfl, h3, hargs⟩ := hargs.head
   obtain rfl := hargs.nil_inv
   obtain rfl := h1.plain
   obtain rfl := h2.plain
   obtain rfl := h3.plain
   have hn : ¬ c.toNat > 1 := by omega
   refine CallsTo.value h.ex.choose_spec.1 ⟨_, w, h.run _ w (v := Extern.MathBitsCarry.pair ((x.toNat + y.toNat + c.toNat) % Extern.MathBitsCarry.m64) ((x.toNat + y.toNat + c.toNat) / Extern.MathBitsCarry.m64)) ?_, _, rfl, ?_, Below.refl _ _⟩
   ·have h3 : (Extern.MathBitsCarry.three "Add64" #[.int kx x, .int ky y, .int kc c]).run P w = .ok (x.toNat, y.toNat, c.toNat) w := by
     change Sem.run P (if c.toNat > 1 then _ else _) w = _
     rw [if_neg hn]
     rfl
    unfold addExt
    rw [Sem.run_bind]
    refine (congrArg (fun r => Result.andThen r _) h3).trans ?_
    rfl
   ·exact ARel.tup_mk (cs := [_, _]) (.cons (ARel.lit _) (.cons (ARel.lit _) .nil))
  ·cases hk
end Go.Vse
