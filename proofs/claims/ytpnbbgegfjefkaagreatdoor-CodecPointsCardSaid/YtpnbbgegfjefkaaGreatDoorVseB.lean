/- Helpers for the proof: no statement of its own. -/
import Derived.Test.YtpnbbgegfjefkaaGreatDoorVseA
import Derived.Lib.Strings
import Derived.Lib.AppendStr
import Derived.Laws.BytesArg
set_option linter.unusedVariables false
set_option linter.unusedSimpArgs false
set_option linter.unnecessarySimpa false
set_option linter.deprecated false
namespace Go.Vse
open Go.RowKit
section
variable {P : Program} {C : Ctx} {B : Bmap} {S : St} {a : Act} {w : World} {o : Oper} {r : Eff} {slot : Nat}
  {K : Act → World → Prop} {Q : Exit → Act → World → Prop}
abbrev Cont (C : Ctx) (B : Bmap) (slot : Nat) (S' : St) (K : Act → World → Prop) : Prop :=
 ∀ a' w' B', Holds C B' S' a' w' → (∀ j, j ≠ slot → B' j = B j) → K a' w'
theorem fin_case (hK : Cont C B slot (S.apply o.dst r) K) {v : Value} {w' : World} {B' : Bmap} (hrun : (execOp a.eval o).run P w = .ok (.value v) w')
  (H' : Holds C B' { S with mem := applyUpd S.mem r.upd } a w') (hrel : ARel (ownOf C.A0 B' (applyUpd S.mem r.upd)) B' w' r.val v) (hB : ∀ j, j ≠ slot → B' j = B j) : o.wpV P a w K Q := by
 unfold Oper.wpV
 rw [hrun]
 exact hK _ _ B' (H'.put o.dst hrel) hB
theorem run_bytes {t n : Nat} (h : bytesP P t = some n) {s : Nat} (hs : sizeP P t = some s) {z : Value} (hz : zeroP P t = some z) : ∃ i, P.info? t = some i ∧ i.bytes = n ∧ i.size = s ∧ i.zero = some z := by
 unfold bytesP at h
 unfold sizeP at hs
 unfold zeroP at hz
 cases hi : P.info? t with
 | none => simp [hi] at h
 | some i => simp [hi] at h hs hz; exact ⟨i, rfl, h, hs, hz⟩
theorem wrap_i64_id {n : Int} (h0 : 0 ≤ n) (h1 : n ≤ 9223372036854775807) : IntKind.i64.wrap n = n := IntWalk.i64_in n ⟨by omega, h1⟩
theorem run_makeSlice {t e p by_ : Nat} {n : Int} {z : Value} (hu : P.underlying t = some (.slice e)) (hs : sizeP P e = some (p + 1)) (hb : bytesP P e = some by_) (hz : zeroP P e = some z)
  (h0 : 0 ≤ n) (h1 : n ≤ 9223372036854775807) (h2 : (by_ : Int) * n ≤ 140737488355328) :
  (Instr.makeSlice t (.int .i64 n) (.int .i64 n)).run P w = .ok (.slice (some ⟨w.heap.size, 0, none⟩) n.toNat n.toNat) (w.alloc (.cells ((Array.range (n.toNat * (p + 1))).map (fun i => z.cells[i % z.cells.size]!)) e)) := by
 obtain ⟨i, hi, hib, his, hiz⟩ := run_bytes hb hs hz
 have hw := wrap_i64_id h0 h1
 have hl : (n < 0 || (by_ : Int) * n > 2 ^ 48) = false := by simp; omega
 unfold Instr.makeSlice
 simp only [Sem.run_bind, run_underlying hu, Result.andThen_ok, asInt, asIntOf, Sem.run_pure, typeInfo, run_program, hi, hib, hw, hl]
 have h00 : ¬ n < 0 := by omega
 by_cases hn : n.toNat * (p + 1) = 0
 ·have hr : Array.range 0 = #[] := rfl
  simp [h00, sizeOf, typeInfo, hi, his, hn, newRow, hr]
 ·have hne : n.toNat ≠ 0 := by rintro h; rw [h] at hn; simp at hn
  simp [h00, sizeOf, typeInfo, hi, his, hne, newRow, zeroValue, hiz]
  intro h; exact absurd h hn
theorem getD_map_v {l : List Value} {j : Nat} (hj : j < l.length) : (l.map IV.v).getD j (.v undef) = .v l[j] := by simp [List.getD_eq_getElem?_getD, hj]
theorem zeros_rel {A : Nat → Prop} {n p : Nat} {z : Value} {e : TypeId} {cs : Array Value} (hzs : z.cells.size = p + 1) (hok : z.cells.toList.all (·.oneCell') = true) (hsz : cs.size = n * (p + 1))
   (hcs : ∀ i, i < n * (p + 1) → cs.getD i undef = z.cells.toList.getD (i % (p + 1)) undef) :
   EntRel A B w (.arr n (p + 1) (fun _ => z.cells.toList.map .v) e) (some (.cells cs e (0, 0))) := by
 refine .arr n (p + 1) _ e cs (by omega) (fun k hk => by simpa using hzs) fun k j hk hj => ?_
 have hlt := mul_add_lt hk hj
 rw [hcs _ hlt]
 have hm : (k * (p + 1) + j) % (p + 1) = j := by rw [Nat.mul_comm, Nat.mul_add_mod, Nat.mod_eq_of_lt hj]
 rw [hm]
 have hjl : j < z.cells.toList.length := by simpa [hzs] using hj
 rw [getD_map_v hjl]
 have hv : z.cells.toList.getD j undef = z.cells.toList[j] := by rw [List.getD_eq_getElem?_getD, List.getElem?_eq_getElem hjl]; rfl
 rw [hv]
 exact ⟨List.all_eq_true.1 hok _ (List.getElem_mem hjl), .v _⟩
theorem makeSlice_case (hC : C.Ok) (H : Holds C B S a w) (hs : B slot = none) (hnx : Between C S slot) {t : TypeId} {x y : Operand} (hop : o.op = .makeSlice t x y)
   (h : makeSliceA P slot t (evalA S.tm x) (evalA S.tm y) = some r) (hc : ∀ p ∈ r.conds, p) (hK : Cont C B slot (S.apply o.dst r) K) : o.wpV P a w K Q := by
 have hx := eval_rel H x
 have hy := eval_rel H y
 unfold makeSliceA at h
 split at h
 · rename_i e n k hu hxe hye
   rw [hxe] at hx
   rw [hye] at hy
   split at h
   · rename_i p by_ z hsz hby hz
     cases hb : (Nat.beq z.cells.size (p + 1) && z.cells.toList.all (·.oneCell')) with
     | false => rw [hb] at h; cases h
     | true =>
       rw [hb] at h
       simp only [cond_true, Option.some.injEq] at h
       subst h
       simp only [Bool.and_eq_true, Nat.beq_eq] at hb
       have hnk : n = k := dec (hc _ (by simp))
       have h0 : 0 ≤ n := dec (hc _ (by simp))
       have h1 : n ≤ 9223372036854775807 := dec (hc _ (by simp))
       have h2 : (by_ : Int) * n ≤ 140737488355328 := dec (hc _ (by simp))
       subst hnk
       have hrun := run_makeSlice (w := w) hu hsz hby hz h0 h1 h2
       have hent := zeros_rel (A := ownOf C.A0 B S.mem) (B := B) (w := w) (n := n.toNat) (p := p) (z := z) (e := e) (cs := (Array.range (n.toNat * (p + 1))).map (fun i => z.cells[i % z.cells.size]!)) hb.1 hb.2 (by simp) (fun i hi => by
         have hz0 : i % z.cells.size < z.cells.size := Nat.mod_lt _ (by omega)
         simp [Array.getD_eq_getD_getElem?, hi, List.getD_eq_getElem?_getD, hb.1 ▸ hz0, hz0, hb.1])
       refine fin_case hK (w' := w.alloc (.cells ((Array.range (n.toNat * (p + 1))).map (fun i => z.cells[i % z.cells.size]!)) e)) (v := .slice (some ⟨w.heap.size, 0, none⟩) n.toNat n.toNat) (B' := setB B slot w.heap.size) ?_ (H.alloc hC hs hnx hent) ?_ (fun j hj => by simp [setB, hj])
       · simp only [execOp, hop, hx.plain, hy.plain, Sem.run_bind, hrun, Result.andThen_ok, Sem.run_pure]
       · refine .msl slot n.toNat (p + 1) n.toNat w.heap.size (by simp [setB]) (Nat.le_refl _) (by unfold maxLen; omega) ⟨_, e, (0, 0), by show (w.heap.push _)[w.heap.size]? = _; simp; rfl, by simp⟩
   · cases h
 · cases h
end
end Go.Vse
namespace Go.Vse
open Go.RowKit
section
variable {P : Program} {C : Ctx} {B : Bmap} {S : St} {a : Act} {w : World} {o : Oper} {r : Eff} {slot : Nat}
  {K : Act → World → Prop} {Q : Exit → Act → World → Prop}
theorem pure_fin (H : Holds C B S a w) (hK : Cont C B slot (S.apply o.dst r) K) {v : Value} (hrun : (execOp a.eval o).run P w = .ok (.value v) w)
  (hrel : ARel (ownOf C.A0 B S.mem) B w r.val v) (hu : r.upd = []) : o.wpV P a w K Q := by
 refine fin_case hK (B' := B) hrun ?_ ?_ (fun _ _ => rfl)
 ·rw [hu]; exact H
 ·rw [hu]; exact hrel
theorem addr_add' (β off n : Nat) : (⟨β, off, none⟩ : Addr).add n = ⟨β, off + n, none⟩ := Addr.add_mid β off n
theorem iptr_of_sl {A : Nat → Prop} {n sz : Nat} {el : Nat → List IV} {b off : Nat} (hA : ¬ A b) (hb : b < w.heap.size) {k : Nat} (hl : (el k).length = sz)
  (h : ∀ j, j < sz → (w.cell? ⟨b, off + (k * sz + j), none⟩).isSome = true ∧ IRel A w ((el k).getD j (.v undef)) (cellD w ⟨b, off + (k * sz + j), none⟩)) :
  ARel A B w (.iptr (el k)) (.pointer (some ⟨b, off + k * sz, none⟩)) := by
 refine .iptr _ b (off + k * sz) hA hb fun j hj => ?_
 rw [hl] at hj
 have := h j hj
 rw [Nat.add_assoc]
 exact this
theorem indexAddr_case (H : Holds C B S a w) {t : TypeId} {x y : Operand} (hop : o.op = .indexAddr t x y)
  (h : indexAddrA P S.mem t (evalA S.tm x) (evalA S.tm y) = some r) (hc : ∀ p ∈ r.conds, p)
  (hK : Cont C B slot (S.apply o.dst r) K) : o.wpV P a w K Q := by
 have hx := eval_rel H x
 have hy := eval_rel H y
 unfold indexAddrA at h
 split at h
 ·rename_i e ki i hu hye
  rw [hye] at hy
  have hyv := hy.plain
  split at h
  ·rename_i b n sz p hxe hp
   cases hz : Nat.beq p sz with
   | false => simp [hz] at h
   | true =>
   simp only [hz, cond_true, Option.some.injEq] at h
   subst h
   have hi := dec (hc (decide (0 ≤ i ∧ i < (n : Int))) (by simp))
   obtain rfl : p = sz := by simpa using hz
   rw [hxe] at hx
   generalize hvx : a.eval x = vx at hx
   cases hx with
   | msl _ _ _ cap β hβ hn hm hcc =>
    refine pure_fin H hK (v := .pointer (some ⟨β, i.toNat * p + 0, none⟩)) ?_ (.eptr b i.toNat 0 p β hβ) rfl
    simp [execOp, hop, Instr.indexAt, hyv, hvx, asIntOf, run_underlying hu, hi.1, hi.2, run_size hp, addr_add']
   | mnil => omega
  ·rename_i n sz el p hxe hp
   cases hz : Nat.beq p sz with
   | false => simp [hz] at h
   | true =>
    simp only [hz, cond_true, Option.some.injEq] at h
    subst h
    have hi := dec (hc (decide (0 ≤ i ∧ i < (n : Int))) (by simp))
    obtain rfl : p = sz := by simpa using hz
    rw [hxe] at hx
    generalize hvx : a.eval x = vx at hx
    cases hx with
    | c _ _ hi2 =>
     cases hi2 with
     | nil => omega
     | zero => omega
     | sl _ _ _ b off cap hA hb hn hl hs hh =>
      have hik : i.toNat < n := by omega
      refine pure_fin H hK (v := .pointer (some ⟨b, off + i.toNat * p, none⟩)) ?_ (iptr_of_sl (n := n) hA hb (hl _ hik) fun j hj => ⟨(hs _ j hik hj).1, hh _ j hik hj⟩) rfl
      simp [execOp, hop, Instr.indexAt, hyv, hvx, asIntOf, run_underlying hu, hi.1, hi.2, run_size hp, addr_add']
  ·rename_i b k n sz p hxe hp
   cases hz : Nat.beq p sz with
   | false => simp [hz] at h
   | true =>
    simp only [hz, cond_true, Option.some.injEq] at h
    subst h
    have hi := dec (hc (decide (0 ≤ i ∧ i < (n : Int))) (by simp))
    obtain rfl : p = sz := by simpa using hz
    rw [hxe] at hx
    generalize hvx : a.eval x = vx at hx
    cases hx with
    | ssl _ _ _ _ cap β hβ hn h0 hcc =>
     refine pure_fin H hK (v := .pointer (some ⟨β, (k + i.toNat) * p + 0, none⟩)) ?_ (.eptr b (k + i.toNat) 0 p β hβ) rfl
     have e : (k + i.toNat) * p + 0 = k * p + i.toNat * p := by rw [Nat.add_mul, Nat.add_zero]
     rw [e]
     simp [execOp, hop, Instr.indexAt, hyv, hvx, asIntOf, run_underlying hu, hi.1, hi.2, run_size hp, addr_add']
  ·cases h
 ·rename_i n e ki i hu hye
  rw [hye] at hy
  have hyv := hy.plain
  split at h
  ·rename_i b sz p hxe hp
   cases hz : Nat.beq sz p with
   | false => simp [hz] at h
   | true =>
    simp only [hz, cond_true, Option.some.injEq] at h
    subst h
    obtain rfl : sz = p := by simpa using hz
    have hi := dec (hc (decide (0 ≤ i ∧ i < (n : Int))) (by simp))
    rw [hxe] at hx
    generalize hvx : a.eval x = vx at hx
    cases hx with
    | eptr _ _ _ _ β hβ =>
     refine pure_fin H hK (v := .pointer (some ⟨β, i.toNat * sz + 0, none⟩)) ?_ (.eptr b i.toNat 0 sz β hβ) rfl
     simp [execOp, hop, Instr.indexAt, hyv, hvx, asIntOf, run_underlying hu, hi.1, hi.2, run_size hp, addr_add', Instr.sureAddr]
  ·rename_i b off p hxe hp
   cases h
   have hi := dec (hc (decide (0 ≤ i ∧ i < (n : Int))) (by simp))
   rw [hxe] at hx
   obtain ⟨β, hβ, hvx⟩ := hx.ptr_inv
   refine pure_fin H hK (v := .pointer (some ⟨β, off + i.toNat * p, none⟩)) ?_ (.ptr b _ β hβ) rfl
   simp [execOp, hop, Instr.indexAt, hyv, hvx, asIntOf, run_underlying hu, hi.1, hi.2, run_size hp, addr_add', Instr.sureAddr]
  ·cases h
 ·cases h
theorem rels_ivs {A : Nat → Prop} {l : List IV} {cs : List Value} (hl : cs.length = l.length) (h : ∀ j, j < l.length → IRel A w (l.getD j (.v undef)) (cs.getD j undef)) : Rels A B w (ivs l) cs :=
 ⟨by simpa [ivs] using hl, fun j hj => by
  have hj' : j < l.length := by simpa [ivs] using hj
  have := h j hj'
  simp only [ivs, List.getD_eq_getElem?_getD, List.getElem?_map, List.getElem?_eq_getElem hj', Option.map_some, Option.getD_some] at this ⊢
  exact .c _ _ this⟩
theorem run_loadVar_cells {A : Nat → Prop} {t : Nat} {l : List IV} {b off j : Nat} (h : ∀ i, i < l.length → (w.cell? ⟨b, off + i, none⟩).isSome = true ∧ IRel A w (l.getD i (.v undef)) (cellD w ⟨b, off + i, none⟩)) {x : AV}
   (hp : partA P t (ivs l) j = some x) : ∃ v, (loadVar t ⟨b, off + j, none⟩).run P w = .ok v w ∧ ARel A B w x v := by
 obtain ⟨d, hu, hp⟩ := partA_cases hp
 have hr : Rels A B w (ivs l) ((List.range l.length).map fun i => cellD w ⟨b, off + i, none⟩) :=
   rels_ivs (by simp) fun i hi => by
     have := (h i hi).2
     simpa [List.getD_eq_getElem?_getD, hi] using this
 unfold loadVar
 rw [Sem.run_bind, run_isAgg' hu, Result.andThen_ok]
 rcases hp with ⟨hag, n, hs, hle, rfl⟩ | ⟨hag, hx⟩
 · have hle' : j + n ≤ l.length := by simpa [ivs] using hle
   refine ⟨.agg ((((List.range l.length).map fun i => cellD w ⟨b, off + i, none⟩).drop j).take n).toArray, ?_, ARel.agg_mk ((hr.drop j).take n)⟩
   have hload := run_loadCells_list (P := P) w ⟨b, off + j, none⟩ ((((List.range l.length).map fun i => cellD w ⟨b, off + i, none⟩).drop j).take n) (fun i v hv => by
     rw [addr_add']
     have hin : i < n := by have := (List.getElem?_eq_some_iff.1 hv).1; simp at this; omega
     simp only [List.getElem?_take, hin, if_true, List.getElem?_drop, List.getElem?_map, Option.map_eq_some_iff] at hv
     obtain ⟨k, hk, rfl⟩ := hv
     obtain ⟨hk1, rfl⟩ := List.getElem?_eq_some_iff.1 hk
     simp only [List.getElem_range]
     rw [Nat.add_assoc]
     exact cell_of_cellD (h _ (by omega)).1)
   have hlen : ((((List.range l.length).map fun i => cellD w ⟨b, off + i, none⟩).drop j).take n).length = n := by simp; omega
   rw [hlen] at hload
   simp only [hag, if_true, Sem.run_bind, run_size hs, Result.andThen_ok, hload, Sem.run_pure]
 · obtain ⟨v, hv, hrel⟩ := hr.get hx
   refine ⟨v, ?_, hrel⟩
   simp only [List.getElem?_map, Option.map_eq_some_iff] at hv
   obtain ⟨k, hk, rfl⟩ := hv
   obtain ⟨hk1, rfl⟩ := List.getElem?_eq_some_iff.1 hk
   simp only [List.getElem_range]
   simp only [List.length_range] at hk1
   have := cell_of_cellD (h j hk1).1
   simp [hag, this]
theorem loadA_run (H : Holds C B S a w) {t : TypeId} {x : AV} {vx : Value} (hx : ARel (ownOf C.A0 B S.mem) B w x vx) (h : loadA P S.mem t x = some r) (hc : ∀ p ∈ r.conds, p) :
   r.upd = [] ∧ ∃ ad v, vx = .pointer (some ad) ∧ (loadVar t ad).run P w = .ok v w ∧ ARel (ownOf C.A0 B S.mem) B w r.val v := by
 unfold loadA at h
 split at h
 · rename_i b off
   obtain ⟨β, hβ, hxe⟩ := hx.ptr_inv
   split at h
   · rename_i l ty hm
     obtain ⟨γ, hγ, hent⟩ : ∃ β, B b = some β ∧ EntRel (ownOf C.A0 B S.mem) B w _ w.heap[β]? := (H.mem b _ hm).resolve_right (fun h => h.2)
     rw [hβ] at hγ
     cases hγ
     split at h
     · rename_i v hpart
       cases h
       generalize hob : w.heap[β]? = ob at hent
       cases hent with
       | cells _ _ cs hsz hrels =>
         obtain ⟨u, hrun, hrel⟩ := run_loadVar_part (P := P) (l := l) hob ⟨by simpa using hsz, fun j hj => by simpa [Array.getD_eq_getD_getElem?, List.getD_eq_getElem?_getD] using hrels j hj⟩ hpart
         exact ⟨rfl, _, u, hxe, hrun, hrel⟩
     · cases h
   · cases h
 · rename_i b k j sz
   split at h
   · rename_i n sz' el ty hm
     cases hb : Nat.beq sz sz' with
     | false => simp [hb] at h
     | true =>
       simp only [hb, cond_true] at h
       obtain rfl : sz = sz' := by simpa using hb
       split at h
       · rename_i v hpart
         cases h
         have hk := dec (hc (decide (k < n)) (by simp))
         cases hx with
         | eptr _ _ _ _ β hβ =>
           rcases H.mem b _ hm with ⟨γ, hγ, hent⟩ | ⟨hno, _⟩
           · rw [hβ] at hγ
             cases hγ
             obtain ⟨cs, hcs, hsz, hsl⟩ := arr_rel hent
             rcases hsl n (Nat.le_refl _) with ⟨b', off', he, _, hl, hall⟩
             · simp only [Option.some.injEq, Addr.mk.injEq, and_true] at he
               obtain ⟨rfl, rfl⟩ := he
               obtain ⟨u, hrun, hrel⟩ := run_loadVar_cells (P := P) (B := B) (b := β) (off := k * sz) (l := el k) (fun i hi => by
                 have hi' : i < sz := by rw [hl k hk] at hi; exact hi
                 have := hall k i hk hi'
                 simp only [Nat.zero_add] at this
                 exact ⟨this.1, this.2.2⟩) hpart
               exact ⟨rfl, _, u, rfl, hrun, hrel⟩
           · rw [hβ] at hno; cases hno
       · cases h
   · cases h
 · rename_i l
   split at h
   · rename_i v hpart
     cases h
     cases hx with
     | iptr _ b off hA hb hall =>
       obtain ⟨u, hrun, hrel⟩ := run_loadVar_cells (P := P) (B := B) (b := b) (off := off) (j := 0) hall hpart
       exact ⟨rfl, _, u, rfl, hrun, hrel⟩
   · cases h
 · cases h
theorem load_case (H : Holds C B S a w) {t : TypeId} {x : Operand} (hop : o.op = .load t x)
  (h : loadA P S.mem t (evalA S.tm x) = some r) (hc : ∀ p ∈ r.conds, p) (hK : Cont C B slot (S.apply o.dst r) K) : o.wpV P a w K Q := by
 obtain ⟨hu, ad, v, hxe, hrun, hrel⟩ := loadA_run H (eval_rel H x) h hc
 exact pure_fin H hK (v := v) (by simp [execOp, hop, Instr.loadAt, hxe, Instr.sureAddr, hrun]) hrel hu
theorem mapM_toIV : ∀ {l : List AV} {c : List IV}, l.mapM toIV = some c → l = ivs c
 | [], c, h => by simp at h; subst h; rfl
 | x :: l, c, h => by
   simp only [List.mapM_cons, Option.bind_eq_bind, Option.pure_def] at h
   cases x with
   | c i =>
     cases hl : l.mapM toIV with
     | none => simp [toIV, hl] at h
     | some d => simp [toIV, hl] at h; subst h; rw [mapM_toIV hl]; rfl
   | _ => simp [toIV] at h
theorem irel_of_ivs {A : Nat → Prop} {c : List IV} {cs : List Value} (h : Rels A B w (ivs c) cs) : cs.length = c.length ∧ ∀ j, j < c.length → IRel A w (c.getD j (.v undef)) (cs.getD j undef) := by
 refine ⟨by simpa [ivs] using h.1, fun j hj => ?_⟩
 have := h.2 j (by simpa [ivs] using hj)
 simp only [ivs, List.getD_eq_getElem?_getD, List.getElem?_map, List.getElem?_eq_getElem hj, Option.map_some, Option.getD_some] at this ⊢
 cases this with
 | c _ _ h => exact h
theorem store_case (H : Holds C B S a w) {t : TypeId} {x y : Operand} (hop : o.op = .store t x y)
   (h : storeA P S.mem t (evalA S.tm x) (evalA S.tm y) = some r) (hc : ∀ p ∈ r.conds, p) (hK : Cont C B slot (S.apply o.dst r) K) : o.wpV P a w K Q := by
 have hx := eval_rel H x
 have hy := eval_rel H y
 have fin : ∀ (ad : Addr) (w' : World), a.eval x = .pointer (some ad) → (storeVar t ad (a.eval y)).run P w = .ok () w' → r.val = .c (.v undef) → Holds C B { S with mem := applyUpd S.mem r.upd } a w' → o.wpV P a w K Q := by
   intro ad w' hxe hrun hv H'
   unfold Oper.wpV
   rw [show (execOp a.eval o).run P w = .ok .skip w' by simp [execOp, hop, Instr.storeAt, hxe, Instr.sureAddr, hrun]]
   exact hK _ _ B (H'.put o.dst (by rw [hv]; exact ARel.lit _)) (fun _ _ => rfl)
 unfold storeA at h
 split at h
 · rename_i b off hptr
   rw [hptr] at hx
   obtain ⟨β, hβ, hxe⟩ := hx.ptr_inv
   split at h
   · rename_i l ty n hm hsz
     obtain ⟨γ, hγ, hent⟩ : ∃ β, B b = some β ∧ EntRel (ownOf C.A0 B S.mem) B w _ w.heap[β]? := (H.mem b _ hm).resolve_right (fun h => h.2)
     rw [hβ] at hγ
     cases hγ
     dsimp only at h
     cases hb : (Nat.beq (cellsA (evalA S.tm y)).length n && Nat.ble (off + n) l.length && (cellsA (evalA S.tm y)).all cellOk) with
     | false => rw [hb] at h; cases h
     | true =>
       rw [hb] at h
       simp only [cond_true, Option.some.injEq] at h
       subst h
       simp only [Bool.and_eq_true, Nat.beq_eq, Nat.ble_eq] at hb
       obtain ⟨⟨hn, hle⟩, hok⟩ := hb
       have hcells := rel_cells hy (.inl hok)
       generalize hob : w.heap[β]? = ob at hent
       cases hent with
       | cells _ _ cs hcs hrels =>
         have hrels' : Rels (ownOf C.A0 B S.mem) B w l cs.toList := ⟨by simpa using hcs, fun j hj => by simpa [Array.getD_eq_getD_getElem?, List.getD_eq_getElem?_getD] using hrels j hj⟩
         have hvn : (a.eval y).cells.size = n := by have := hcells.1; simpa [hn] using this
         have hrun := run_storeVar_part (P := P) (w := w) (t := t) hsz hob (off := off) hvn (by omega) (rels_oneCell hcells hok)
         have hnew : Rels (ownOf C.A0 B S.mem) B w (l.take off ++ cellsA (evalA S.tm y) ++ l.drop (off + n)) (cs.toList.take off ++ (a.eval y).cells.toList ++ cs.toList.drop (off + n)) := ((hrels'.take off).append hcells).append (hrels'.drop (off + n))
         exact fin _ _ hxe hrun rfl (H.setRow hm hβ hob (by simp; omega) (.cells _ _ _ (by simpa using hnew.1) fun j hj => by simpa [Array.getD_eq_getD_getElem?, List.getD_eq_getElem?_getD] using hnew.2 j hj))
   · cases h
 · rename_i b k j sz hptr
   rw [hptr] at hx
   split at h
   · rename_i n sz' el ty p hm hsz
     split at h
     · rename_i c hcm
       cases hb : (Nat.beq sz sz' && Nat.beq c.length p && Nat.ble (j + p) sz && (cellsA (evalA S.tm y)).all cellOk) with
       | false => rw [hb] at h; cases h
       | true =>
         rw [hb] at h
         simp only [cond_true, Option.some.injEq] at h
         subst h
         simp only [Bool.and_eq_true, Nat.beq_eq, Nat.ble_eq] at hb
         obtain ⟨⟨⟨rfl, hcp⟩, hjp⟩, hok⟩ := hb
         have hk := dec (hc (decide (k < n)) (by simp))
         generalize hvx : a.eval x = vx at hx
         cases hx with
         | eptr _ _ _ _ β hβ =>
           rcases H.mem b _ hm with ⟨γ, hγ, hent⟩ | ⟨hno, _⟩
           · rw [hβ] at hγ
             cases hγ
             generalize hob : w.heap[β]? = ob at hent
             cases hent with
             | arr _ _ _ _ cs hcs hlen hrels =>
               have hcells := rel_cells hy (.inl hok)
               rw [mapM_toIV hcm] at hcells
               obtain ⟨hcl, hcr⟩ := irel_of_ivs hcells
               have hvn : (a.eval y).cells.size = p := by simpa [hcp] using hcl
               have hlt : k * sz + (j + p) ≤ n * sz := by
                 calc k * sz + (j + p) ≤ k * sz + sz := by omega
                   _ = (k + 1) * sz := by rw [Nat.add_mul, Nat.one_mul]
                   _ ≤ n * sz := Nat.mul_le_mul_right _ hk
               have h1 : ∀ x ∈ (a.eval y).cells.toList, x.oneCell' = true := by
                 rw [mapM_toIV hcm] at hok
                 exact rels_oneCell hcells hok
               have hrun := run_storeVar_part (P := P) (w := w) (t := t) hsz hob (off := k * sz + j) hvn (by omega) h1
               refine fin _ _ hvx hrun rfl (H.setRow hm hβ hob (by simp; omega) (.arr n sz _ ty _ (by simp; omega) (fun i hi => ?_) fun i q hi hq => ?_))
               · unfold spliceE
                 split
                 · rename_i hik; subst hik; simp [hlen i hi]; omega
                 · exact hlen i hi
               · have hil := hlen i hi
                 have hq2 : i * sz + q < cs.size := Nat.lt_of_lt_of_le (mul_add_lt hi hq) hcs
                 -- the cell behind the store
                 have hcell : ((cs.toList.take (k * sz + j) ++ (a.eval y).cells.toList ++ cs.toList.drop (k * sz + j + p)).toArray).getD (i * sz + q) undef =
                     if k * sz + j ≤ i * sz + q ∧ i * sz + q < k * sz + j + p then (a.eval y).cells.toList.getD (i * sz + q - (k * sz + j)) undef else cs.getD (i * sz + q) undef := by
                   simp only [Array.getD_eq_getD_getElem?, List.getElem?_toArray, List.getD_eq_getElem?_getD, List.append_assoc]
                   have htl : (cs.toList.take (k * sz + j)).length = k * sz + j := by simp; omega
                   have hvl : (a.eval y).cells.toList.length = p := by simpa using hvn
                   by_cases ha1 : i * sz + q < k * sz + j
                   · rw [List.getElem?_append_left (by omega), List.getElem?_take, if_pos ha1, if_neg (by omega)]
                     simp
                   · rw [List.getElem?_append_right (by omega), htl]
                     by_cases ha2 : i * sz + q < k * sz + j + p
                     · rw [List.getElem?_append_left (by omega), if_pos ⟨by omega, ha2⟩]
                     · rw [List.getElem?_append_right (by omega), hvl, List.getElem?_drop, if_neg (by omega)]
                       rw [show k * sz + j + p + (i * sz + q - (k * sz + j) - p) = i * sz + q by omega]
                       simp
                 rw [hcell]
                 by_cases hik : i = k
                 · subst hik
                   simp only [spliceE, if_true]
                   by_cases hin : i * sz + j ≤ i * sz + q ∧ i * sz + q < i * sz + j + p
                   · rw [if_pos hin]
                     have hqj : q - j < c.length := by omega
                     have e1 : i * sz + q - (i * sz + j) = q - j := by omega
                     rw [e1]
                     have e2 : ((el i).take j ++ c ++ (el i).drop (j + c.length)).getD q (.v undef) = c.getD (q - j) (.v undef) := by
                       have htl : ((el i).take j).length = j := by simp; omega
                       rw [List.getD_eq_getElem?_getD, List.append_assoc, List.getElem?_append_right (by omega), htl, List.getElem?_append_left hqj, ← List.getD_eq_getElem?_getD]
                     rw [e2]
                     refine ⟨h1 _ ?_, hcr _ hqj⟩
                     have hlt2 : q - j < (a.eval y).cells.toList.length := by omega
                     rw [List.getD_eq_getElem?_getD, List.getElem?_eq_getElem hlt2]
                     exact List.getElem_mem hlt2
                   · rw [if_neg hin]
                     have e2 : ((el i).take j ++ c ++ (el i).drop (j + c.length)).getD q (.v undef) = (el i).getD q (.v undef) := by
                       have htl : ((el i).take j).length = j := by simp; omega
                       simp only [List.getD_eq_getElem?_getD, List.append_assoc]
                       by_cases hqj : q < j
                       · rw [List.getElem?_append_left (by omega), List.getElem?_take, if_pos hqj]
                       · rw [List.getElem?_append_right (by omega), htl, List.getElem?_append_right (by omega), List.getElem?_drop]
                         rw [show j + c.length + (q - j - c.length) = q by omega]
                     rw [e2]
                     exact hrels i q hi hq
                 · simp only [spliceE, hik, if_false]
                   have hout : ¬ (k * sz + j ≤ i * sz + q ∧ i * sz + q < k * sz + j + p) := by
                     rintro ⟨h2, h3⟩
                     rcases Nat.lt_or_gt_of_ne hik with hlt' | hgt'
                     · have : (i + 1) * sz ≤ k * sz := Nat.mul_le_mul_right _ hlt'
                       rw [Nat.add_mul, Nat.one_mul] at this
                       omega
                     · have : (k + 1) * sz ≤ i * sz := Nat.mul_le_mul_right _ hgt'
                       rw [Nat.add_mul, Nat.one_mul] at this
                       omega
                   rw [if_neg hout]
                   exact hrels i q hi hq
           · rw [hβ] at hno; cases hno
     · cases h
   · cases h
 · cases h
theorem fieldAddr_case (H : Holds C B S a w) {t : TypeId} {x : Operand} {f : Nat} (hop : o.op = .fieldAddr t x f)
  (h : fieldAddrA P t (evalA S.tm x) f = some r) (hK : Cont C B slot (S.apply o.dst r) K) : o.wpV P a w K Q := by
 have hx := eval_rel H x
 unfold fieldAddrA at h
 split at h
 ·rename_i fs hu
  split at h
  ·rename_i fl hfl
   split at h
   ·rename_i m hsz
    have fin : ∀ (β off : Nat), a.eval x = .pointer (some ⟨β, off, none⟩) → (execOp a.eval o).run P w = .ok (.value (.pointer (some ⟨β, off + fl.offset, none⟩))) w := by
     intro β off hxe
     simp [execOp, hop, Instr.fieldAt, run_underlying hu, hfl, hxe, Instr.sureAddr, fieldPlace, run_size hsz, addr_add']
    split at h
    ·rename_i b off hptr
     cases h
     rw [hptr] at hx
     obtain ⟨β, hβ, hxe⟩ := hx.ptr_inv
     exact pure_fin H hK (fin β off hxe) (.ptr _ _ _ hβ) rfl
    ·rename_i b k j sz hptr
     cases h
     rw [hptr] at hx
     generalize hvx : a.eval x = vx at hx
     cases hx with
     | eptr _ _ _ _ β hβ =>
      refine pure_fin H hK (fin β _ hvx) ?_ rfl
      rw [Nat.add_assoc]
      exact .eptr b k _ sz β hβ
    ·rename_i l hptr
     rw [hptr] at hx
     cases hb : Nat.blt fl.offset l.length with
     | false => simp [hb] at h
     | true =>
      simp only [hb, cond_true, Option.some.injEq] at h
      subst h
      generalize hvx : a.eval x = vx at hx
      cases hx with
      | iptr _ b off hA hbw hall =>
       refine pure_fin H hK (fin b off hvx) (.iptr _ b _ hA hbw fun j hj => ?_) rfl
       have hj' : fl.offset + j < l.length := by simp at hj; omega
       have := hall (fl.offset + j) hj'
       rw [Nat.add_assoc]
       have e : (l.drop fl.offset).getD j (.v undef) = l.getD (fl.offset + j) (.v undef) := by simp [List.getD_eq_getElem?_getD, List.getElem?_drop]
       rw [e]
       exact this
    ·cases h
   ·cases h
  ·cases h
 ·cases h
end
end Go.Vse
namespace Go.Vse
open Go.RowKit
section
variable {P : Program} {C : Ctx} {B : Bmap} {S : St} {a : Act} {w : World} {o : Oper} {r : Eff} {slot : Nat}
  {K : Act → World → Prop} {Q : Exit → Act → World → Prop}
theorem extract_list (s : ByteArray) (l h : Nat) (hl : l ≤ h) (hh : h ≤ s.data.toList.length) : s.extract l h = ⟨⟨(s.data.toList.take h).drop l⟩⟩ := by
 apply ByteArray.ext
 rw [ByteArray.data_extract]
 apply Array.ext'
 rw [Array.toList_extract, List.extract_eq_take_drop, ← List.drop_take]
theorem boundsSome {k : IntKind} {i : Int} {y : Nat} {c : BoundsCode} (h0 : 0 ≤ i) (h1 : i ≤ (y : Int)) : (Instr.sliceBound (.int k i) y c).run P w = .ok i.toNat w := by
 simp [Instr.sliceBound, asIntOf, h0, h1]
theorem slice_case (H : Holds C B S a w) (hC : C.Ok) {t : TypeId} {x : Operand} {lo hi mx : Option Operand} (hop : o.op = .slice t x lo hi mx) (hmx : mx = none)
   (h : sliceA P S.mem t (evalA S.tm x) (lo.map (evalA S.tm)) (hi.map (evalA S.tm)) = some r) (hc : ∀ p ∈ r.conds, p) (hK : Cont C B slot (S.apply o.dst r) K) : o.wpV P a w K Q := by
 subst hmx
 have hx := eval_rel H x
 have hrun0 : ∀ v w', (Instr.sliceAt t (a.eval x) (lo.map a.eval) (hi.map a.eval) none).run P w = .ok v w' → (execOp a.eval o).run P w = .ok (.value v) w' := by
   intro v w' hr
   simp [execOp, hop, hr]
 have hlo : ∀ {k : IntKind} {i : Int}, lo.map (evalA S.tm) = some (.c (.v (.int k i))) → lo.map a.eval = some (.int k i) := by
   intro k i hl
   cases lo with
   | none => cases hl
   | some z =>
     simp only [Option.map_some, Option.some.injEq] at hl ⊢
     have := eval_rel H z
     rw [hl] at this
     exact this.plain
 have hlo0 : lo.map (evalA S.tm) = none → lo.map a.eval = none := by intro hl; cases lo with | none => rfl | some z => cases hl
 have hhi : ∀ {k : IntKind} {i : Int}, hi.map (evalA S.tm) = some (.c (.v (.int k i))) → hi.map a.eval = some (.int k i) := by
   intro k i hl
   cases hi with
   | none => cases hl
   | some z =>
     simp only [Option.map_some, Option.some.injEq] at hl ⊢
     have := eval_rel H z
     rw [hl] at this
     exact this.plain
 have hhi0 : hi.map (evalA S.tm) = none → hi.map a.eval = none := by intro hl; cases hi with | none => rfl | some z => cases hl
 unfold sliceA at h
 split at h
 · -- a string
   rename_i s hu hxe
   rw [hxe] at hx
   have hxv := hx.plain
   have hsz : s.size = s.data.toList.length := by simp
   have fin : ∀ l h' : Nat, l ≤ h' → h' ≤ s.data.toList.length → (Instr.sliceBounds false s.size s.size (lo.map a.eval) (hi.map a.eval) none).run P w = .ok (l, h', s.size) w →
       (execOp a.eval o).run P w = .ok (.value (.string ⟨⟨(s.data.toList.take h').drop l⟩⟩)) w := by
     intro l h' h1 h2 hb
     apply hrun0
     simp only [Instr.sliceAt, Sem.run_bind, run_underlying hu, Result.andThen_ok, Instr.slice, hxv]
     simp [hb, extract_list s l h' h1 h2]
   split at h
   · rename_i hl hh
     cases h
     have := fin 0 s.data.toList.length (Nat.zero_le _) (Nat.le_refl _) (by simp only [Instr.sliceBounds, hlo0 hl, hhi0 hh, hsz]; rfl)
     refine pure_fin H hK (v := .string s) ?_ (ARel.lit _) rfl
     rw [this]
     simp only [List.take_length, List.drop_zero]
   · rename_i k l hl hh
     cases h
     have hb := dec (hc (decide (0 ≤ l ∧ l ≤ (s.data.toList.length : Int))) (by simp))
     have := fin l.toNat s.data.toList.length (by omega) (Nat.le_refl _) (by
       simp only [Instr.sliceBounds, hlo hl, hhi0 hh, Sem.run_bind, Sem.run_pure, Result.andThen_ok, hsz]
       rw [boundsSome hb.1 hb.2]; rfl)
     refine pure_fin H hK this ?_ rfl
     simp only [List.take_length]
     exact ARel.lit _
   · rename_i k h' hl hh
     cases h
     have hb := dec (hc (decide (0 ≤ h' ∧ h' ≤ (s.data.toList.length : Int))) (by simp))
     have := fin 0 h'.toNat (Nat.zero_le _) (by omega) (by
       simp only [Instr.sliceBounds, hlo0 hl, hhi hh, Sem.run_bind, Sem.run_pure, Result.andThen_ok, hsz]
       rw [boundsSome hb.1 hb.2]; rfl)
     refine pure_fin H hK this ?_ rfl
     exact ARel.lit _
   · rename_i k l k' h' hl hh
     cases h
     have hb := dec (hc (decide (0 ≤ l ∧ l ≤ h' ∧ h' ≤ (s.data.toList.length : Int))) (by simp))
     have := fin l.toNat h'.toNat (by omega) (by omega) (by
       simp only [Instr.sliceBounds, hlo hl, hhi hh, Sem.run_bind, Sem.run_pure, Result.andThen_ok, hsz]
       rw [boundsSome (by omega) hb.2.2]
       simp only [Result.andThen_ok]
       rw [boundsSome hb.1 (by omega)]; rfl)
     exact pure_fin H hK this (ARel.lit _) rfl
   · cases h
 · -- one's own slice, from its head
   rename_i e b n sz hu hxe
   rw [hxe] at hx
   split at h
   · rename_i p k h' hp hl hh
     cases h
     have hb := dec (hc (decide (0 ≤ h' ∧ h' ≤ (n : Int))) (by simp))
     have fin : ∀ (ad : Option Addr) (cap : Nat), a.eval x = .slice ad n cap → n ≤ cap → (ad = none ∨ ∃ β, ad = some ⟨β, 0, none⟩) → (execOp a.eval o).run P w = .ok (.value (.slice ad h'.toNat cap)) w := by
       intro ad cap hvx hn had
       apply hrun0
       simp only [Instr.sliceAt, Sem.run_bind, run_underlying hu, Result.andThen_ok, Instr.slice, hvx, Instr.sliceBounds, hlo0 hl, hhi hh, Sem.run_pure, if_true]
       rw [boundsSome (y := cap) hb.1 (by omega)]
       simp only [Result.andThen_ok, Sem.run_pure, run_size hp, Nat.sub_zero]
       rcases had with rfl | ⟨β, rfl⟩
       · simp
       · by_cases hc0 : cap = 0
         · simp [hc0]
         · simp [hc0, addr_add']
     generalize hvx : a.eval x = vx at hx
     cases hx with
     | msl _ _ _ cap β hβ hn hm hcc =>
       exact pure_fin H hK (fin _ cap hvx hn (.inr ⟨β, rfl⟩)) (.msl b h'.toNat sz cap β hβ (by omega) hm hcc) rfl
     | mnil =>
       have := fin none 0 hvx (Nat.le_refl _) (.inl rfl)
       have hz : h'.toNat = 0 := by omega
       rw [hz] at this
       refine pure_fin H hK this ?_ rfl
       simp only [hz]
       exact .mnil b sz
   · rename_i p k l hp hl hh
     cases hps : Nat.beq p sz with
     | false => simp [hps] at h
     | true =>
       simp only [hps, cond_true, Option.some.injEq] at h
       obtain rfl : p = sz := by simpa using hps
       subst h
       have hb := dec (hc (decide (0 ≤ l ∧ l < (n : Int))) (by simp))
       generalize hvx : a.eval x = vx at hx
       cases hx with
       | mnil => omega
       | msl _ _ _ cap β hβ hn hm hcc =>
         have hcl : cap ≠ l.toNat := by omega
         have hrun : (execOp a.eval o).run P w = .ok (.value (.slice (some ⟨β, l.toNat * p, none⟩) (n - l.toNat) (cap - l.toNat))) w := by
           apply hrun0
           simp only [Instr.sliceAt, Sem.run_bind, run_underlying hu, Result.andThen_ok, Instr.slice, hvx, Instr.sliceBounds, hlo hl, hhi0 hh, Sem.run_pure]
           rw [boundsSome (y := n) hb.1 (by omega)]
           simp only [Result.andThen_ok, Sem.run_pure, run_size hp]
           simp [hcl, addr_add']
         obtain ⟨Cc, tt, fz, hcell, hsize⟩ := hcc
         refine pure_fin H hK hrun (.ssl b l.toNat (n - l.toNat) p (cap - l.toNat) β hβ (by omega) (by omega) ⟨Cc, tt, fz, hcell, ?_⟩) rfl
         rw [hsize, show l.toNat + (n - l.toNat) = n by omega]
         exact Nat.mul_le_mul_right _ hn
   · cases h
 · -- a slice that is read
   rename_i e n sz el hu hxe
   rw [hxe] at hx
   split at h
   · rename_i p hp
     cases hps : Nat.beq p sz with
     | false => simp [hps] at h
     | true =>
       simp only [hps, cond_true] at h
       obtain rfl : p = sz := by simpa using hps
       have shift : ∀ (ad : Option Addr) (cap l m : Nat), IRel (ownOf C.A0 B S.mem) w (.sl n p el) (.slice ad n cap) → l + m ≤ n → ∀ (ad' : Option Addr), ad' = (if cap = l then ad else ad.map (·.add (l * p))) →
           IRel (ownOf C.A0 B S.mem) w (.sl m p fun k => el (k + l)) (.slice ad' m (cap - l)) := by
         intro ad cap l m hr hlm ad' had
         cases hr with
         | nil =>
           obtain ⟨rfl, rfl⟩ : l = 0 ∧ m = 0 := by omega
           simp at had
           subst had
           exact .nil _ _
         | zero =>
           obtain ⟨rfl, rfl⟩ : l = 0 ∧ m = 0 := by omega
           simp at had
           subst had
           exact .zero _ _ _
         | sl _ _ _ b off _ hA hbw hn hl hs hh =>
           by_cases hcl : cap = l
           · have hm0 : m = 0 := by omega
             subst hm0
             rw [if_pos hcl] at had
             subst had
             exact .sl 0 p _ b off _ hA hbw (Nat.zero_le _) (fun k hk => by omega) (fun k j hk => by omega) (fun k j hk => by omega)
           · rw [if_neg hcl] at had
             simp only [Option.map_some, addr_add'] at had
             subst had
             refine .sl m p _ b (off + l * p) _ hA hbw (by omega) (fun k hk => hl _ (by omega)) (fun k j hk hj => ?_) (fun k j hk hj => ?_)
             · have := hs (k + l) j (by omega) hj
               rw [show off + l * p + (k * p + j) = off + ((k + l) * p + j) by rw [Nat.add_mul]; omega]
               exact this
             · have := hh (k + l) j (by omega) hj
               rw [show off + l * p + (k * p + j) = off + ((k + l) * p + j) by rw [Nat.add_mul]; omega]
               exact this
       have form : ∃ ad cap, a.eval x = .slice ad n cap ∧ n ≤ cap ∧ IRel (ownOf C.A0 B S.mem) w (.sl n p el) (.slice ad n cap) := by
         generalize a.eval x = vx at hx
         cases hx with
         | c _ _ hi =>
           cases hi with
           | nil => exact ⟨none, 0, rfl, Nat.le_refl _, .nil _ _⟩
           | zero => exact ⟨_, 0, rfl, Nat.le_refl _, .zero _ _ _⟩
           | sl _ _ _ b off cap hA hb hn hl hs hh => exact ⟨_, cap, rfl, hn, .sl _ _ _ b off cap hA hb hn hl hs hh⟩
       obtain ⟨ad, cap, hvx, hn, hir⟩ := form
       have fin : ∀ l m : Nat, l + m ≤ n → (Instr.sliceBounds true n cap (lo.map a.eval) (hi.map a.eval) none).run P w = .ok (l, l + m, cap) w →
           (execOp a.eval o).run P w = .ok (.value (.slice (if cap = l then ad else ad.map (·.add (l * p))) m (cap - l))) w := by
         intro l m hlm hb
         apply hrun0
         simp only [Instr.sliceAt, Sem.run_bind, run_underlying hu, Result.andThen_ok, Instr.slice, hvx, hb, run_size hp, Sem.run_pure]
         rw [show l + m - l = m by omega]
       split at h
       · rename_i k h' hl hh
         cases h
         have hb := dec (hc (decide (0 ≤ h' ∧ h' ≤ (n : Int))) (by simp))
         have := fin 0 h'.toNat (by omega) (by
           simp only [Instr.sliceBounds, hlo0 hl, hhi hh, Sem.run_bind, Sem.run_pure, Result.andThen_ok, if_true]
           rw [boundsSome hb.1 (by omega)]; simp)
         exact pure_fin H hK this (.c _ _ (shift ad cap 0 h'.toNat hir (by omega) _ rfl)) rfl
       · rename_i k l hl hh
         cases h
         have hb := dec (hc (decide (0 ≤ l ∧ l ≤ (n : Int))) (by simp))
         have := fin l.toNat (n - l.toNat) (by omega) (by
           simp only [Instr.sliceBounds, hlo hl, hhi0 hh, Sem.run_bind, Sem.run_pure, Result.andThen_ok]
           rw [boundsSome hb.1 hb.2]
           simp only [Result.andThen_ok]
           rw [show l.toNat + (n - l.toNat) = n by omega])
         exact pure_fin H hK this (.c _ _ (shift ad cap l.toNat _ hir (by omega) _ rfl)) rfl
       · rename_i k l k' h' hl hh
         cases h
         have hb := dec (hc (decide (0 ≤ l ∧ l ≤ h' ∧ h' ≤ (n : Int))) (by simp))
         have := fin l.toNat (h'.toNat - l.toNat) (by omega) (by
           simp only [Instr.sliceBounds, hlo hl, hhi hh, Sem.run_bind, Sem.run_pure, Result.andThen_ok, if_true]
           rw [boundsSome (by omega) (by omega)]
           simp only [Result.andThen_ok]
           rw [boundsSome hb.1 (by omega)]
           simp only [Result.andThen_ok]
           rw [show l.toNat + (h'.toNat - l.toNat) = h'.toNat by omega])
         exact pure_fin H hK this (.c _ _ (shift ad cap l.toNat _ hir (by omega) _ rfl)) rfl
       · cases h
   · cases h
 · -- nil
   rename_i e hu hxe
   rw [hxe] at hx
   have hxv := hx.plain
   split at h
   · rename_i _ _ _ _ k h' hp hl hh
     cases h
     have hb := dec (hc (decide (0 ≤ h' ∧ h' ≤ 0)) (by simp))
     obtain rfl : h' = 0 := by omega
     refine pure_fin H hK (v := .slice none 0 0) (hrun0 _ _ ?_) (ARel.lit _) rfl
     simp only [Instr.sliceAt, Sem.run_bind, run_underlying hu, Result.andThen_ok, Instr.slice, hxv, Instr.sliceBounds, hlo0 hl, hhi hh, Sem.run_pure, if_true]
     rw [boundsSome (y := 0) (by omega) (by omega)]
     simp [run_size hp]
   · cases h
 · -- an array of one's own, which is one's own no more
   rename_i n e b sz hu hxe
   rw [hxe] at hx
   split at h
   · rename_i p n' sz' el ty k h' hp hm hl hh
     cases hb0 : (Nat.beq sz p && Nat.beq sz' p && Nat.beq n n' && !Nat.beq n 0) with
     | false => rw [hb0] at h; cases h
     | true =>
       rw [hb0] at h
       simp only [cond_true, Option.some.injEq] at h
       subst h
       simp only [Bool.and_eq_true, Nat.beq_eq, Bool.not_eq_true'] at hb0
       obtain ⟨⟨⟨rfl, rfl⟩, rfl⟩, hn0⟩ := hb0
       have hne : n ≠ 0 := by rintro rfl; cases hn0
       have hb := dec (hc (decide (0 ≤ h' ∧ h' ≤ (n : Int))) (by simp))
       generalize hvx : a.eval x = vx at hx
       cases hx with
       | eptr _ _ _ _ β hβ =>
         rcases H.mem b _ hm with ⟨γ, hγ, hent⟩ | ⟨hno, _⟩
         · rw [hβ] at hγ
           cases hγ
           obtain ⟨cs, hcs, hsz, hsl⟩ := arr_rel hent
           have hd := H.drop b
           have hA : ∀ i, i < w.heap.size → ownOf C.A0 B (S.mem.set b none) i → ownOf C.A0 B S.mem i := by
             intro i _ h
             rcases h with h | ⟨j, e2, h1, h2⟩
             · exact .inl h
             · rw [mem_set_eq] at h1
               by_cases hj : j = b
               · simp [hj] at h1
               · simp only [hj, if_false] at h1; exact .inr ⟨j, e2, h1, h2⟩
           have hnot : ¬ ownOf C.A0 B (S.mem.set b none) β := by
             rintro (h | ⟨j, e2, h1, h2⟩)
             · rcases (H.old b β hβ).1 with h3 | h3
               · exact absurd (hC.a0 β h) (Nat.not_lt.2 h3)
               · exact hC.disj β h h3
             · rw [mem_set_eq] at h1
               by_cases hj : j = b
               · simp [hj] at h1
               · simp only [hj, if_false] at h1
                 exact hj (H.inj j b _ _ β h1 hm h2 hβ)
           refine fin_case hK (B' := B) (v := .slice (some ⟨β, 0 * sz' + 0, none⟩) h'.toNat n) (w' := w) ?_ hd ?_ (fun _ _ => rfl)
           · apply hrun0
             simp only [Instr.sliceAt, Sem.run_bind, run_underlying hu, Result.andThen_ok, hvx, Instr.sureAddr, Sem.run_pure, Instr.sliceBounds, hlo0 hl, hhi hh]
             rw [boundsSome (y := n) hb.1 (by omega)]
             simp [run_size hp, hne, addr_add']
           · rcases hsl h'.toNat (by omega) with ⟨b', off', he, hbw, hl2, hall⟩
             · simp only [Option.some.injEq, Addr.mk.injEq, and_true] at he
               obtain ⟨rfl, rfl⟩ := he
               refine .c _ _ (.sl _ _ _ β (0 * sz' + 0) n hnot (lt_of_heap hcs) (by omega) hl2 (fun k j hk hj => ?_) (fun k j hk hj => ?_))
               · have := hall k j hk hj
                 simp only [Nat.zero_mul, Nat.zero_add] at this ⊢
                 exact ⟨this.1, this.2.1⟩
               · have := (hall k j hk hj).2.2.trans (Trans.refl _ _) hA
                 simp only [Nat.zero_mul, Nat.zero_add] at this ⊢
                 exact this
         · rw [hβ] at hno; cases hno
   · cases h
 · -- an array in cells of one's own, which is one's own no more
   rename_i n e b hu hxe
   rw [hxe] at hx
   obtain ⟨β, hβ, hvx⟩ := hx.ptr_inv
   split at h
   · rename_i p l ty k h' hp hm hl hh
     split at h
     · rename_i c hcm
       cases hb0 : (Nat.beq l.length (n * p) && !Nat.beq n 0 && l.all cellOk) with
       | false => rw [hb0] at h; cases h
       | true =>
         rw [hb0] at h
         simp only [cond_true, Option.some.injEq] at h
         subst h
         simp only [Bool.and_eq_true, Nat.beq_eq, Bool.not_eq_true'] at hb0
         obtain ⟨⟨hlen, hn0⟩, hok⟩ := hb0
         have hne : n ≠ 0 := by rintro rfl; cases hn0
         have hb := dec (hc (decide (0 ≤ h' ∧ h' ≤ (n : Int))) (by simp))
         rcases H.mem b _ hm with ⟨γ, hγ, hent⟩ | ⟨_, hno⟩
         · rw [hβ] at hγ
           cases hγ
           have hd := H.drop b
           have hA : ∀ i, i < w.heap.size → ownOf C.A0 B (S.mem.set b none) i → ownOf C.A0 B S.mem i := by
             intro i _ h
             rcases h with h | ⟨j, e2, h1, h2⟩
             · exact .inl h
             · rw [mem_set_eq] at h1
               by_cases hj : j = b
               · simp [hj] at h1
               · simp only [hj, if_false] at h1; exact .inr ⟨j, e2, h1, h2⟩
           have hnot : ¬ ownOf C.A0 B (S.mem.set b none) β := by
             rintro (h | ⟨j, e2, h1, h2⟩)
             · rcases (H.old b β hβ).1 with h3 | h3
               · exact absurd (hC.a0 β h) (Nat.not_lt.2 h3)
               · exact hC.disj β h h3
             · rw [mem_set_eq] at h1
               by_cases hj : j = b
               · simp [hj] at h1
               · simp only [hj, if_false] at h1
                 exact hj (H.inj j b _ _ β h1 hm h2 hβ)
           generalize hob : w.heap[β]? = ob at hent
           cases hent with
           | cells _ _ cs hcs hrels =>
             have hr : Rels (ownOf C.A0 B S.mem) B w l cs.toList := ⟨by simpa using hcs, fun j hj => by simpa [Array.getD_eq_getD_getElem?, List.getD_eq_getElem?_getD] using hrels j hj⟩
             have h1 := rels_oneCell hr hok
             rw [mapM_toIV hcm] at hr
             obtain ⟨hcl, hcr⟩ := irel_of_ivs hr
             have hcn : c.length = n * p := by
               have := hlen
               rw [mapM_toIV hcm] at this
               simpa [ivs] using this
             have hcsz : cs.size = n * p := by simpa [hcn] using hcl
             refine fin_case hK (B' := B) (v := .slice (some ⟨β, 0, none⟩) h'.toNat n) (w' := w) ?_ hd ?_ (fun _ _ => rfl)
             · apply hrun0
               simp only [Instr.sliceAt, Sem.run_bind, run_underlying hu, Result.andThen_ok, hvx, Instr.sureAddr, Sem.run_pure, Instr.sliceBounds, hlo0 hl, hhi hh]
               rw [boundsSome (y := n) hb.1 (by omega)]
               simp [run_size hp, hne, addr_add']
             · refine .c _ _ (.sl _ _ _ β 0 n hnot (lt_of_heap hob) (by omega) (fun k hk => ?_) (fun k j hk hj => ?_) (fun k j hk hj => ?_))
               · have : k * p + p ≤ n * p := by
                   calc k * p + p = (k + 1) * p := by rw [Nat.add_mul, Nat.one_mul]
                     _ ≤ n * p := Nat.mul_le_mul_right _ (by omega)
                 simp
                 omega
               · have hlt : k * p + j < n * p := mul_add_lt (by omega) hj
                 rw [Nat.zero_add, cellD_row hob]
                 refine ⟨cell_row hob (by omega), h1 _ ?_⟩
                 rw [Array.getD_eq_getD_getElem?, Array.getElem?_eq_getElem (show k * p + j < cs.size by omega)]
                 simp
               · have hlt : k * p + j < n * p := mul_add_lt (by omega) hj
                 have := (hcr (k * p + j) (by omega)).trans (Trans.refl _ _) hA
                 rw [Nat.zero_add, cellD_row hob]
                 have e1 : ((c.drop (k * p)).take p).getD j (.v undef) = c.getD (k * p + j) (.v undef) := by
                   simp [List.getD_eq_getElem?_getD, List.getElem?_take, hj, List.getElem?_drop]
                 rw [e1]
                 have e2 : cs.toList.getD (k * p + j) undef = cs.getD (k * p + j) undef := by simp [Array.getD_eq_getD_getElem?, List.getD_eq_getElem?_getD]
                 rw [e2] at this
                 exact this
         · exact hno.elim
     · cases h
   · cases h
 · cases h
end
end Go.Vse
namespace Go.Vse
open Go.RowKit
section
variable {P : Program} {C : Ctx} {B : Bmap} {S : St} {a : Act} {w : World} {o : Oper} {r : Eff} {slot : Nat}
  {K : Act → World → Prop} {Q : Exit → Act → World → Prop}
structure SrcOk1 (P : Program) (w : World) (u : TypeId) (size : Nat) (x : Value) (m : Nat) (news : List Value) : Prop where
 ty : ∃ d, P.underlying u = some d ∧ (∀ k, d ≠ .int k)
 len : (Builtin.lenOf x).run P w = .ok m w
 first : (Builtin.firstCells size m x).run P w = .ok news.toArray w
 first' : (Builtin.firstCells size m x).run P w.drew = .ok news.toArray w.drew
 size : news.length = m * size
structure SrcZ (P : Program) (w : World) (u e : TypeId) (i : TypeInfo) (x : Value) (m : Nat) (news : List Value) : Prop where
 ty : ∃ k, P.underlying u = some (.int k)
 val : ∃ k n, x = .int k n ∧ 0 ≤ n ∧ n ≤ 9223372036854775807 ∧ n.toNat = m
 fits : m * i.bytes ≤ 140737488355328
 zero : ∃ z, i.zero = some z ∧ news = (Builtin.zeroCells z.cells m).toList ∧ z.cells.size = i.size
 size : news.length = m * i.size
def SrcOk (P : Program) (w : World) (u e : TypeId) (i : TypeInfo) (x : Value) (m : Nat) (news : List Value) : Prop := SrcOk1 P w u i.size x m news ∨ SrcZ P w u e i x m news
theorem notInt {d : TypeDesc} (hd : ∀ k, d ≠ .int k) : (match d with | .int _ => true | _ => false) = false := by
 cases d <;> first | rfl | exact absurd rfl (hd _)
section
variable {t u ty e : TypeId} {i : TypeInfo} {z : Value} {x : Value} {m : Nat} {news : List Value}
theorem wrap63 {n : Int} (h0 : 0 ≤ n) (h1 : n ≤ 9223372036854775807) : IntKind.i64.wrap n = n := by
 unfold IntKind.wrap
 simp [IntKind.signed, IntKind.bits]
 omega
theorem run_asInt (k : IntKind) (n : Int) : (asInt (.int k n)).run P w = .ok n w := by simp [asInt, asIntOf]
theorem SrcOk.size (hs : SrcOk P w u e i x m news) : news.length = m * i.size := by
 rcases hs with h | h
 ·exact h.size
 ·exact h.size
theorem run_append_none (ht : P.underlying t = some (.slice e)) (hi : P.info? e = some i) (hs : SrcOk P w u e i x m news) (hm : m = 0) {ad : Option Addr} {n cap : Nat} (hn : n ≤ cap)
  (had : ad = none ∨ ∃ g : Nat, ad = some ⟨g, 0, none⟩) :
  (Builtin.append_ #[t, u] ty #[.slice ad n cap, x]).run P w = .ok (.slice ad n cap) w := by
 subst hm
 rcases hs with hs | hs
 ·obtain ⟨d, hu, hd⟩ := hs.ty
  have hz := notInt hd
  have hne : news = [] := List.eq_nil_of_length_eq_zero (by simpa using hs.size)
  have hf := hs.first
  rw [hne] at hf
  rcases had with rfl | ⟨g, rfl⟩
  ·simp [Builtin.append_, run_underlying ht, run_underlying hu, sizeOf, typeInfo, hi, hz, hs.len, hn, hf]
  ·simp [Builtin.append_, run_underlying ht, run_underlying hu, sizeOf, typeInfo, hi, hz, hs.len, hn, hf, storeCells]
 ·obtain ⟨k, hu⟩ := hs.ty
  obtain ⟨k', n', rfl, h0, h1, h2⟩ := hs.val
  have hw := wrap63 h0 h1
  obtain rfl : n' = 0 := by omega
  rcases had with rfl | ⟨g, rfl⟩
  ·simp [Builtin.append_, run_underlying ht, run_underlying hu, sizeOf, typeInfo, hi, run_asInt, hw, hn]
  ·simp [Builtin.append_, run_underlying ht, run_underlying hu, sizeOf, typeInfo, hi, run_asInt, hw, hn, storeCells]
theorem run_append_in (ht : P.underlying t = some (.slice e)) (hi : P.info? e = some i) (hs : SrcOk P w u e i x m news) {g n cap : Nat} {cur : Array Value} (hg : w.heap[g]? = some (.cells cur e (0, 0)))
  (h1 : ∀ v ∈ news, v.oneCell' = true) (hroom : n + m ≤ cap) (hfit : n * i.size + news.length ≤ cur.size) :
  (Builtin.append_ #[t, u] ty #[.slice (some ⟨g, 0, none⟩) n cap, x]).run P w =
   .ok (.slice (some ⟨g, 0, none⟩) (n + m) cap) (w.setRow g (cur.toList.take (n * i.size) ++ news ++ cur.toList.drop (n * i.size + news.length)).toArray) := by
 have hst := run_storeCells_at P g (n * i.size) e news 0 cur w hg (by simpa using hfit) h1
 simp only [Nat.add_zero] at hst
 rcases hs with hs | hs
 ·obtain ⟨d, hu, hd⟩ := hs.ty
  have hz := notInt hd
  simp [Builtin.append_, run_underlying ht, run_underlying hu, sizeOf, typeInfo, hi, hz, hs.len, hroom, hs.first, Addr.add_lit, hst]
 ·obtain ⟨k, hu⟩ := hs.ty
  obtain ⟨k', n', rfl, h0, h1, h2⟩ := hs.val
  obtain ⟨z, hz0, hz1, hz2⟩ := hs.zero
  have hw := wrap63 h0 h1
  have hfits := hs.fits
  have hn0 : ¬ (n' < 0) := by omega
  have hb : ¬ (281474976710656 < n' * (i.bytes : Int)) := by
   have : n' = (m : Int) := by omega
   rw [this]
   omega
  by_cases hmz : m * i.size = 0
  ·have hne : news = [] := List.eq_nil_of_length_eq_zero (by rw [hs.size]; exact hmz)
   rw [hne] at hst ⊢
   simp [Builtin.append_, run_underlying ht, run_underlying hu, sizeOf, typeInfo, hi, run_asInt, hw, hn0, hb, h2, hroom, hmz, Addr.add_lit, hst]
  ·simp [Builtin.append_, run_underlying ht, run_underlying hu, sizeOf, typeInfo, hi, run_asInt, hw, hn0, hb, h2, hroom, hmz, zeroValue, hz0, Addr.add_lit, ← hz1, hst]
theorem run_append_new (ht : P.underlying t = some (.slice e)) (hi : P.info? e = some i) (hz0 : i.zero = some z) (hs : SrcOk P w u e i x m news) {ad : Option Addr} {n cap : Nat} {olds : List Value}
   (hold : (Builtin.firstCells i.size n (.slice ad n cap)).run P w.drew = .ok olds.toArray w.drew) (hg : cap < n + m) (h63 : n + m ≤ 9223372036854775807) (hb : (n + m) * i.bytes ≤ 140737488355328) :
   (Builtin.append_ #[t, u] ty #[.slice ad n cap, x]).run P w =
     .ok (.slice (some ⟨w.heap.size, 0, none⟩) (n + m) (grownCap w (n + m) cap e))
       (w.drew.alloc (.cells (olds.toArray ++ news.toArray ++ Builtin.zeroCells z.cells (grownCap w (n + m) cap e - (n + m))) e)) := by
 have hn : ¬ (n + m ≤ cap) := by omega
 have h63' : ¬ (9223372036854775807 < ((n : Int) + (m : Int))) := by omega
 have h48' : ¬ (281474976710656 < Builtin.nextslicecap (n + m) cap * i.bytes) := by have := growslice_fits hg hb; omega
 have h0 : ¬ ((n : Int) + (m : Int) > 9223372036854775807) := by omega
 rcases hs with hs | hs
 · obtain ⟨d, hu, hd⟩ := hs.ty
   have hz := notInt hd
   simp [Builtin.append_, run_underlying ht, run_underlying hu, sizeOf, typeInfo, zeroValue, hi, hz0, hz, hs.len, hn, h63', h48', Question.forced, hs.first', hold, newRow, grownCap]
   congr 2
   apply Array.ext'
   simp [List.append_assoc]
 · obtain ⟨k, hu⟩ := hs.ty
   obtain ⟨k', n', rfl, h0', h1, h2⟩ := hs.val
   obtain ⟨z', hz0', hz1, hz2⟩ := hs.zero
   rw [hz0] at hz0'
   cases hz0'
   have hw := wrap63 h0' h1
   have hfits := hs.fits
   have hn0 : ¬ (n' < 0) := by omega
   have hbb : ¬ (281474976710656 < n' * (i.bytes : Int)) := by
     have : n' = (m : Int) := by omega
     rw [this]
     omega
   have hmx : ¬ (9223372036854775807 < ((n : Int) + max n' 0)) := by omega
   by_cases hmz : m * i.size = 0
   · have hne : news = [] := List.eq_nil_of_length_eq_zero (by rw [hs.size]; exact hmz)
     rw [hne]
     simp [Builtin.append_, run_underlying ht, run_underlying hu, sizeOf, typeInfo, zeroValue, hi, hz0, run_asInt, hw, hn0, hbb, h2, hn, h63', hmx, h48', Question.forced, hmz, hold, newRow, grownCap]
   · simp [Builtin.append_, run_underlying ht, run_underlying hu, sizeOf, typeInfo, zeroValue, hi, hz0, run_asInt, hw, hn0, hbb, h2, hn, h63', hmx, h48', Question.forced, hmz, hold, newRow, grownCap, hz1]
end
def RowRel (A : Nat → Prop) (w : World) (n sz : Nat) (el : Nat → List IV) (xs : List Value) : Prop :=
 xs.length = n * sz ∧ (∀ k, k < n → (el k).length = sz) ∧
  ∀ k j, k < n → j < sz → (xs.getD (k * sz + j) undef).oneCell' = true ∧ IRel A w ((el k).getD j (.v undef)) (xs.getD (k * sz + j) undef)
theorem RowRel.oneCell {A : Nat → Prop} {n sz : Nat} {el : Nat → List IV} {xs : List Value} (h : RowRel A w n sz el xs) : ∀ v ∈ xs, v.oneCell' = true := by
 intro v hv
 obtain ⟨i, hi, rfl⟩ := List.mem_iff_getElem.1 hv
 have hi' : i < n * sz := by rw [← h.1]; exact hi
 have hsz : 0 < sz := by rcases Nat.eq_zero_or_pos sz with h0 | h0; · subst h0; simp at hi'
                         exact h0
 have := (h.2.2 (i / sz) (i % sz) (Nat.div_lt_of_lt_mul (by rwa [Nat.mul_comm])) (Nat.mod_lt _ hsz)).1
 rw [Nat.div_add_mod' i sz] at this
 simpa [List.getD_eq_getElem?_getD, hi] using this
theorem SlRel.row {A : Nat → Prop} {n sz : Nat} {el : Nat → List IV} {ad : Option Addr} (h : SlRel A w n sz el ad) : RowRel A w n sz el (slCells w n sz ad) := by
 refine ⟨h.length, ?_, ?_⟩
 ·rcases h with rfl | ⟨b, off, _, _, hl, _⟩
  ·intro k hk; omega
  ·exact hl
 ·intro k j hk hj
  rcases h with rfl | ⟨b, off, rfl, _, hl, hh⟩
  ·omega
  ·have hlt := mul_add_lt hk hj
   have e : (slCells w n sz (some ⟨b, off, none⟩)).getD (k * sz + j) undef = cellD w ⟨b, off + (k * sz + j), none⟩ := by
    simp [slCells, List.getD_eq_getElem?_getD, hlt, addr_add']
   rw [e]
   exact (hh k j hk hj).2
theorem RowRel.join {A : Nat → Prop} {n m sz : Nat} {el el' : Nat → List IV} {xs ys : List Value} (h : RowRel A w n sz el xs) (k : RowRel A w m sz el' ys) : RowRel A w (n + m) sz (joinE n el el') (xs ++ ys) := by
 refine ⟨by rw [List.length_append, h.1, k.1, Nat.add_mul], fun i hi => ?_, fun i j hi hj => ?_⟩
 ·unfold joinE
  split
  ·exact h.2.1 i ‹_›
  ·exact k.2.1 _ (by omega)
 ·unfold joinE
  by_cases hin : i < n
  ·rw [if_pos hin]
   have hlt : i * sz + j < xs.length := by rw [h.1]; exact mul_add_lt hin hj
   have e : (xs ++ ys).getD (i * sz + j) undef = xs.getD (i * sz + j) undef := by
    simp only [List.getD_eq_getElem?_getD, List.getElem?_append_left hlt]
   rw [e]
   exact h.2.2 i j hin hj
  ·rw [if_neg hin]
   have hge : xs.length ≤ i * sz + j := by rw [h.1]; have := Nat.mul_le_mul_right sz (Nat.le_of_not_lt hin); omega
   have e : (xs ++ ys).getD (i * sz + j) undef = ys.getD ((i - n) * sz + j) undef := by
    simp only [List.getD_eq_getElem?_getD, List.getElem?_append_right hge, h.1]
    congr 2
    rw [Nat.sub_mul]
    have := Nat.mul_le_mul_right sz (Nat.le_of_not_lt hin)
    omega
   rw [e]
   exact k.2.2 _ j (by omega) hj
theorem RowRel.ent {A : Nat → Prop} {n sz : Nat} {el : Nat → List IV} {xs : List Value} (h : RowRel A w n sz el xs) {cs : Array Value} (hcs : cs.toList.take (n * sz) = xs) (t : TypeId) :
  EntRel A B w (.arr n sz el t) (some (.cells cs t (0, 0))) := by
 have hlen : n * sz ≤ cs.size := by
  have := h.1
  rw [← hcs] at this
  simp at this
  omega
 refine .arr n sz el t cs hlen h.2.1 fun k j hk hj => ?_
 have hlt := mul_add_lt hk hj
 have e : cs.getD (k * sz + j) undef = xs.getD (k * sz + j) undef := by
  rw [← hcs]
  simp [Array.getD_eq_getD_getElem?, List.getD_eq_getElem?_getD, List.getElem?_take, hlt]
 rw [e]
 exact h.2.2 k j hk hj
theorem RowRel.trans {A A' : Nat → Prop} {w' : World} (ht : Trans A w w') (hA : ∀ b, b < w.heap.size → A' b → A b) {n sz : Nat} {el : Nat → List IV} {xs : List Value} (h : RowRel A w n sz el xs) : RowRel A' w' n sz el xs :=
 ⟨h.1, h.2.1, fun k j hk hj => ⟨(h.2.2 k j hk hj).1, (h.2.2 k j hk hj).2.trans ht hA⟩⟩
theorem arr_row {A : Nat → Prop} {n k sz : Nat} {el : Nat → List IV} {t : TypeId} {cs : Array Value} (h : EntRel A B w (.arr n sz el t) (some (.cells cs t (0, 0)))) (hk : k ≤ n) : RowRel A w k sz el (cs.toList.take (k * sz)) := by
 cases h with
 | arr _ _ _ _ _ hs hl hh =>
  have hks : k * sz ≤ n * sz := Nat.mul_le_mul_right _ hk
  refine ⟨by simp; omega, fun i hi => hl i (by omega), fun i j hi hj => ?_⟩
  have hlt := mul_add_lt hi hj
  have e : (cs.toList.take (k * sz)).getD (i * sz + j) undef = cs.getD (i * sz + j) undef := by
   simp [Array.getD_eq_getD_getElem?, List.getD_eq_getElem?_getD, List.getElem?_take, hlt]
  rw [e]
  exact hh i j (by omega) hj
theorem own_drop (b : Nat) : ∀ i, ownOf C.A0 B (S.mem.set b none) i → ownOf C.A0 B S.mem i := by
 intro i h
 rcases h with h | ⟨j, e2, h1, h2⟩
 ·exact .inl h
 ·rw [mem_set_eq] at h1
  by_cases hj : j = b
  ·simp [hj] at h1
  ·simp only [hj, if_false] at h1; exact .inr ⟨j, e2, h1, h2⟩
theorem Holds.setNil (H : Holds C B S a w) (hs : B slot = none) {e : Ent} (he : e.none0) : Holds C B { S with mem := S.mem.set slot (some e) } a w := by
 have hA : ∀ b, b < w.heap.size → ownOf C.A0 B (S.mem.set slot (some e)) b → ownOf C.A0 B S.mem b := by
  intro b _ h
  rcases h with h | ⟨j, e2, h1, h2⟩
  ·exact .inl h
  ·rw [mem_set_eq] at h1
   by_cases hj : j = slot
   ·subst hj; rw [hs] at h2; cases h2
   ·simp only [hj, if_false] at h1; exact .inr ⟨j, e2, h1, h2⟩
 refine { defers := H.defers, size := H.size, tm := fun t h => (H.tm t h).trans (Trans.refl _ _) hA (fun _ _ h => h), mem := ?_, inj := ?_, kept := H.kept, old := H.old, fresh := H.fresh, base := H.base, kle := H.kle }
 ·intro j e' hj
  simp only [mem_set_eq] at hj
  by_cases hjs : j = slot
  ·subst hjs
   simp only [if_true, Option.some.injEq] at hj
   subst hj
   exact .inr ⟨hs, he⟩
  ·simp only [hjs, if_false] at hj
   rcases H.mem j e' hj with ⟨β, h1, h3⟩ | h
   ·exact .inl ⟨β, h1, h3.trans (Trans.refl _ _) hA (fun _ _ h => h)⟩
   ·exact .inr h
 ·intro j j' e1 e2 β m1 m2 h1 h2
  simp only [mem_set_eq] at m1 m2
  by_cases hj : j = slot
  ·subst hj; rw [hs] at h1; cases h1
  ·by_cases hj' : j' = slot
   ·subst hj'; rw [hs] at h2; cases h2
   ·simp only [hj, hj', if_false] at m1 m2; exact H.inj j j' e1 e2 β m1 m2 h1 h2
theorem Holds.rename (H : Holds C B S a w) {b β : Nat} {e : Ent} (hm : S.mem b = some e) (hβ : B b = some β) (hs : B slot = none) (hnx : Between C S slot) :
  Holds C (setB B slot β) { S with mem := (S.mem.set b none).set slot (some e) } a w := by
 have hbs : slot ≠ b := by rintro rfl; rw [hs] at hβ; cases hβ
 have hB : ∀ j γ, B j = some γ → setB B slot β j = some γ := by
  intro j γ hj
  unfold setB
  split
  ·rename_i h; subst h; rw [hs] at hj; cases hj
  ·exact hj
 have hA : ∀ i, i < w.heap.size → ownOf C.A0 (setB B slot β) ((S.mem.set b none).set slot (some e)) i → ownOf C.A0 B S.mem i := by
  intro i _ h
  rcases h with h | ⟨j, e2, h1, h2⟩
  ·exact .inl h
  ·rw [mem_set_eq] at h1
   unfold setB at h2
   by_cases hj : j = slot
   ·simp only [hj, if_true, Option.some.injEq] at h2
    subst h2
    exact .inr ⟨b, e, hm, hβ⟩
   ·simp only [hj, if_false] at h1 h2
    rw [mem_set_eq] at h1
    by_cases hj2 : j = b
    ·simp [hj2] at h1
    ·simp only [hj2, if_false] at h1; exact .inr ⟨j, e2, h1, h2⟩
 have live : ∀ j e2, ((S.mem.set b none).set slot (some e)) j = some e2 → (j = slot ∧ e2 = e) ∨ (j ≠ slot ∧ j ≠ b ∧ S.mem j = some e2) := by
  intro j e2 hj
  rw [mem_set_eq] at hj
  by_cases h1 : j = slot
  ·simp only [h1, if_true, Option.some.injEq] at hj; exact .inl ⟨h1, hj.symm⟩
  ·simp only [h1, if_false] at hj
   rw [mem_set_eq] at hj
   by_cases h2 : j = b
   ·simp [h2] at hj
   ·simp only [h2, if_false] at hj; exact .inr ⟨h1, h2, hj⟩
 refine { defers := H.defers, size := H.size, tm := fun t h => (H.tm t h).trans (Trans.refl _ _) hA hB, mem := ?_, inj := ?_, kept := H.kept, old := ?_, fresh := ?_, base := ?_, kle := H.kle }
 ·intro j e' hj
  rcases live j e' hj with ⟨rfl, rfl⟩ | ⟨h1, h2, h3⟩
  ·rcases H.mem b _ hm with ⟨γ, hγ, hent⟩ | ⟨hno, _⟩
   ·rw [hβ] at hγ
    cases hγ
    exact .inl ⟨β, by simp [setB], hent.trans (Trans.refl _ _) hA hB⟩
   ·rw [hβ] at hno; cases hno
  ·rcases H.mem j e' h3 with ⟨γ, hγ, hent⟩ | ⟨hno, hn⟩
   ·exact .inl ⟨γ, hB _ _ hγ, hent.trans (Trans.refl _ _) hA hB⟩
   ·exact .inr ⟨by simp [setB, h1, hno], hn⟩
 ·intro j j' e1 e2 γ m1 m2 h1 h2
  rcases live j e1 m1 with ⟨rfl, rfl⟩ | ⟨a1, a2, a3⟩ <;> rcases live j' e2 m2 with ⟨rfl, rfl⟩ | ⟨b1, b2, b3⟩
  ·rfl
  ·simp only [setB, if_true, Option.some.injEq] at h1
   subst h1
   simp only [setB, b1, if_false] at h2
   exact absurd (H.inj j' b _ _ β b3 hm h2 hβ) b2
  ·simp only [setB, if_true, Option.some.injEq] at h2
   subst h2
   simp only [setB, a1, if_false] at h1
   exact absurd (H.inj j b _ _ β a3 hm h1 hβ) a2
  ·simp only [setB, a1, if_false] at h1
   simp only [setB, b1, if_false] at h2
   exact H.inj j j' _ _ γ a3 b3 h1 h2
 ·intro j γ h
  unfold setB at h
  by_cases hj : j = slot
  ·simp only [hj, if_true, Option.some.injEq] at h; subst h; exact H.old b _ hβ
  ·simp only [hj, if_false] at h; exact H.old j γ h
 ·intro j hj
  have : j ≠ slot := by rintro rfl; exact absurd hj (Nat.not_le.2 hnx.2)
  simp only [setB, this, if_false]
  exact H.fresh j hj
 ·intro j hj
  have : j ≠ slot := by rintro rfl; exact absurd hj (Nat.not_lt.2 hnx.1)
  simp only [setB, this, if_false]
  exact H.base j hj
end
end Go.Vse
namespace Go.Vse
open Go.RowKit
section
variable {P : Program} {C : Ctx} {B : Bmap} {S : St} {a : Act} {w : World} {o : Oper} {r : Eff} {slot : Nat}
  {K : Act → World → Prop} {Q : Exit → Act → World → Prop}
theorem srcOk_sl {A : Nat → Prop} {u e : TypeId} (hu : P.underlying u = some (.slice e)) {size k cap : Nat} {el : Nat → List IV} {ad : Option Addr} (h : SlRel A w k size el ad) :
   SrcOk1 P w u size (.slice ad k cap) k (slCells w k size ad) := by
 refine ⟨⟨_, hu, fun k h => by cases h⟩, by simp [Builtin.lenOf], ?_, ?_, h.length⟩
 · cases ad with
   | none => simp [Builtin.firstCells, slCells]
   | some ad => exact run_firstCells_some (P := P) w size k ad k cap _ h.length h.news.1
 · cases ad with
   | none => simp [Builtin.firstCells, slCells]
   | some ad => exact run_firstCells_some (P := P) w.drew size k ad k cap _ h.length h.news.1
theorem SlRel.zero {A : Nat → Prop} {sz sz' : Nat} {el : Nat → List IV} {ad : Option Addr} (h : SlRel A w 0 sz el ad) : SlRel A w 0 sz' el ad := by
 rcases h with _ | ⟨b, off, rfl, hb, _, _⟩
 · exact .inl rfl
 · exact .inr ⟨b, off, rfl, hb, fun k hk => by omega, fun k j hk => by omega⟩
theorem zeroCells_getD (z : Array Value) (m k j : Nat) (hk : k < m) (hj : j < z.size) : (Builtin.zeroCells z m).toList.getD (k * z.size + j) undef = z.toList.getD j undef := by
 have hlt : k * z.size + j < m * z.size := mul_add_lt hk hj
 have hm : (k * z.size + j) % z.size = j := by rw [Nat.mul_comm, Nat.mul_add_mod, Nat.mod_eq_of_lt hj]
 simp [Builtin.zeroCells, List.getD_eq_getElem?_getD, hlt, hm, hj]
theorem src_of {t u e p by_ : Nat} {i : TypeInfo} (hti : P.info? e = some i) (his : i.size = p) (hib : i.bytes = by_) {ya : AV} {vy : Value} {k : Nat} {el : Nat → List IV} {cs : List Bool} {rs : List Nat} (ht : P.underlying t = some (.slice e)) (H : Holds C B S a w)
   (h : appSrc P S.mem t u e p by_ ya = some (k, el, cs, rs)) (hc : ∀ p ∈ cs, p) (hy : ARel (ownOf C.A0 B S.mem) B w ya vy) :
   ∃ news, SrcOk P w u e i vy k news ∧ RowRel (ownOf C.A0 B S.mem) w k p el news := by
 unfold appSrc at h
 cases htu : Nat.beq t u with
 | true =>
   obtain rfl : t = u := by simpa using htu
   simp only [htu, cond_true] at h
   split at h
   · rename_i k' sz el' cs' rs' hv
     cases hsz : (Nat.beq sz p || Nat.beq k' 0) with
     | false => rw [hsz] at h; cases h
     | true =>
       rw [hsz] at h
       simp only [cond_true, Option.some.injEq, Prod.mk.injEq] at h
       obtain ⟨rfl, rfl, rfl, rfl⟩ := h
       obtain ⟨ad, cap, rfl, hn, hsl⟩ := viewSl_rel H hy hv hc
       have hsl' : SlRel (ownOf C.A0 B S.mem) w k' p el' ad := by
         simp only [Bool.or_eq_true, Nat.beq_eq] at hsz
         rcases hsz with rfl | rfl
         · exact hsl
         · exact hsl.zero
       exact ⟨_, .inl (by rw [his]; exact srcOk_sl ht hsl'), hsl'.row⟩
   · cases h
 | false =>
   simp only [htu, cond_false] at h
   split at h
   · rename_i s hu he
     cases hp : (Nat.beq p 1 && Nat.beq by_ 1) with
     | false => rw [hp] at h; cases h
     | true =>
       rw [hp] at h
       simp only [cond_true, Option.some.injEq, Prod.mk.injEq] at h
       obtain ⟨rfl, rfl, rfl, rfl⟩ := h
       simp only [Bool.and_eq_true, Nat.beq_eq] at hp
       obtain ⟨rfl, rfl⟩ := hp
       obtain rfl := hy.plain
       have hsz : s.data.toList.length = s.size := by simp
       refine ⟨Lib.strCells s, .inl (his ▸ ⟨⟨_, hu, fun k h => by cases h⟩, by simp [Builtin.lenOf], by rw [hsz]; exact Lib.run_firstCells_string w 1 s, by rw [hsz]; exact Lib.run_firstCells_string w.drew 1 s, by rw [Lib.strCells_length]; simp⟩), by rw [Lib.strCells_length]; simp, fun k _ => rfl, fun k j hk hj => ?_⟩
       · obtain rfl : j = 0 := by omega
         have hk' : k < s.data.size := by simpa using hk
         have e1 : (Lib.strCells s).getD (k * 1 + 0) undef = .int .u8 ((s.data.toList.getD k 0).toNat : Nat) := by
           simp only [Lib.strCells, List.getD_eq_getElem?_getD, Nat.mul_one, Nat.add_zero, List.getElem?_map, Array.getElem?_toList, Array.getElem?_eq_getElem hk', Option.map_some, Option.getD_some]
         rw [e1]
         exact ⟨rfl, .v _⟩
   · rename_i n hu
     split at h
     · rename_i z hz
       cases hp : (Nat.beq z.cells.size p && z.cells.toList.all (·.oneCell')) with
       | false => rw [hp] at h; cases h
       | true =>
         rw [hp] at h
         simp only [cond_true, Option.some.injEq, Prod.mk.injEq] at h
         obtain ⟨rfl, rfl, rfl, rfl⟩ := h
         simp only [Bool.and_eq_true, Nat.beq_eq] at hp
         obtain ⟨hp, hall⟩ := hp
         obtain rfl := hy.plain
         have h0 : 0 ≤ n := dec (hc (decide (0 ≤ n)) (by simp))
         have h1 : n ≤ 9223372036854775807 := dec (hc (decide (n ≤ 9223372036854775807)) (by simp))
         have h2 : n.toNat * by_ ≤ 140737488355328 := dec (hc (decide (n.toNat * by_ ≤ 140737488355328)) (by simp))
         have hzi : i.zero = some z := by
           unfold zeroP at hz
           rw [hti] at hz
           simpa using hz
         have hlen : (Builtin.zeroCells z.cells n.toNat).toList.length = n.toNat * p := by simp [Builtin.zeroCells, hp]
         refine ⟨(Builtin.zeroCells z.cells n.toNat).toList, .inr ⟨⟨_, hu⟩, ⟨_, _, rfl, h0, h1, rfl⟩, by rw [hib]; exact h2, ⟨z, hzi, rfl, by rw [his, hp]⟩, by rw [his, hlen]⟩, hlen, fun k _ => by simp [hp], fun k j hk hj => ?_⟩
         have hj' : j < z.cells.size := by rw [hp]; exact hj
         have e1 := zeroCells_getD z.cells n.toNat k j hk hj'
         rw [hp] at e1
         rw [e1]
         have e2 : (z.cells.toList.map IV.v).getD j (.v undef) = .v (z.cells.toList.getD j undef) := by
           simp [List.getD_eq_getElem?_getD, hj']
         rw [e2]
         refine ⟨?_, .v _⟩
         have hm : z.cells.toList.getD j undef ∈ z.cells.toList := by
           rw [List.getD_eq_getElem?_getD, List.getElem?_eq_getElem (by simpa using hj')]
           exact List.getElem_mem _
         exact List.all_eq_true.1 hall _ hm
     · cases h
   · cases h
theorem wp_value {v : Value} {w' : World} (hrun : (execOp a.eval o).run P w = .ok (.value v) w') (hk : K (a.put o.dst v) w') : o.wpV P a w K Q := by
 unfold Oper.wpV
 rw [hrun]
 exact hk
theorem append_case (H : Holds C B S a w) (hC : C.Ok) (hs : B slot = none) (hnx : Between C S slot) {c : Call} {zx zy : Operand} (hop : o.op = .call c) (hb : c.callee = .builtin .append) {ts : List TypeId} (hts : c.argTypes.toList = ts) (hxs : c.args = #[zx, zy])
   (h : appendA P slot S.mem ts (evalA S.tm zx) (evalA S.tm zy) = some r) (hc : ∀ p ∈ r.conds, p) (hK : Cont C B slot (S.apply o.dst r) K) : o.wpV P a w K Q := by
 have hx := eval_rel H zx
 have hy := eval_rel H zy
 unfold appendA at h
 split at h
 · rename_i t u
   have hty : c.argTypes = #[t, u] := Array.ext' (by simpa using hts)
   have hexec : ∀ v w', (Builtin.append_ #[t, u] o.type #[a.eval zx, a.eval zy]).run P w = .ok v w' → (execOp a.eval o).run P w = .ok (.value v) w' := by
     intro v w' hr
     simp [execOp, hop, resolve, hb, hxs, hty, invoke, builtin, hr]
   split at h
   · rename_i e ht
     split at h
     · rename_i p by_ z hsz hby hz
       cases hzc : Nat.beq z.cells.size (p + 1) with
       | false => rw [hzc] at h; cases h
       | true =>
       rw [hzc] at h
       simp only [cond_true] at h
       have hzc : z.cells.size = p + 1 := by simpa using hzc
       split at h
       · rename_i n el c1 r1 k el' c2 r2 hdst hsrc
         cases h
         have h63 : n + k ≤ 9223372036854775807 := dec (hc _ (by simp))
         have hbytes : (n + k) * by_ ≤ 140737488355328 := dec (hc _ (by simp))
         have hc1 : ∀ p ∈ c1, p := fun q hq => hc q (by simp [hq])
         have hc2 : ∀ p ∈ c2, p := fun q hq => hc q (by simp [hq])
         obtain ⟨i, hi, hib, his, hiz⟩ := run_bytes hby hsz hz
         have his : i.size = p + 1 := his
         obtain ⟨news, hso, hrow⟩ := src_of hi his hib ht H hsrc hc2 hy
         subst hib
         -- a new block
         have fresh : ∀ (ad : Option Addr) (cap : Nat) (olds : List Value) (S2 : St), a.eval zx = .slice ad n cap → cap < n + k → (Builtin.firstCells i.size n (.slice ad n cap)).run P w.drew = .ok olds.toArray w.drew →
             RowRel (ownOf C.A0 B S.mem) w n (p + 1) el olds → Holds C B S2 a w → (∀ b, ownOf C.A0 B S2.mem b → ownOf C.A0 B S.mem b) → S2.nx = S.nx →
             ({ S2 with mem := S2.mem.set slot (some (.arr (n + k) (p + 1) (joinE n el el') e)), tm := putTm S2.tm o.dst (.msl slot (n + k) (p + 1)) } : St) =
               S.apply o.dst { val := .msl slot (n + k) (p + 1), upd := r1.map (fun b => (b, none)) ++ [(slot, some (.arr (n + k) (p + 1) (joinE n el el') e))] } → o.wpV P a w K Q := by
           intro ad cap olds S2 hzx hcap hold hor H2 hA2 hnx2 hS
           have hrun := run_append_new (P := P) (w := w) (ty := o.type) ht hi hiz hso (ad := ad) (cap := cap) hold hcap h63 hbytes
           have H3 := H2.move (w' := w.drew) (Below.refl _ w).drew
           have hge := grownCap_ge w (n + k) cap e
           have hcm := grownCap_le_maxLen w (n + k) cap e (by unfold maxLen; omega)
           have hj := (hor.join hrow).trans (w' := w.drew) (A' := ownOf C.A0 B S2.mem) (Trans.of_below (Below.refl _ w).drew) (fun b _ h => hA2 b h)
           have hlen : (olds.toArray ++ news.toArray ++ Builtin.zeroCells z.cells (grownCap w (n + k) cap e - (n + k))).size = grownCap w (n + k) cap e * (p + 1) := by
             simp only [Array.size_append, List.size_toArray, size_zeroCells, hzc, hor.1, hrow.1, ← Nat.add_mul]
             congr 1
             omega
           have hent := hj.ent (B := B) (cs := olds.toArray ++ news.toArray ++ Builtin.zeroCells z.cells (grownCap w (n + k) cap e - (n + k))) (by
             simp only [Array.toList_append]
             rw [List.take_left' (by simp [hor.1, hrow.1, Nat.add_mul])]) e
           have H4 := H3.alloc hC hs (by unfold Between; rw [hnx2]; exact hnx) hent
           have H5 := H4.put (x := .msl slot (n + k) (p + 1)) (v := .slice (some ⟨w.heap.size, 0, none⟩) (n + k) (grownCap w (n + k) cap e)) o.dst
             (.msl slot _ _ _ w.heap.size (by simp [setB]) hge hcm ⟨_, e, (0, 0), heap_alloc_new w.drew _, hlen⟩)
           refine wp_value (hexec _ _ (by rw [hzx]; exact hrun)) (hK _ _ (setB B slot w.heap.size) ?_ (fun j hj => by simp [setB, hj]))
           have : S.apply o.dst { val := .msl slot (n + k) (p + 1), upd := r1.map (fun b => (b, none)) ++ [(slot, some (.arr (n + k) (p + 1) (joinE n el el') e))],
                                  conds := c1 ++ c2 ++ [decide (n + k ≤ 9223372036854775807), decide ((n + k) * i.bytes ≤ 140737488355328)], reads := r1 ++ r2 } =
               { S2 with mem := S2.mem.set slot (some (.arr (n + k) (p + 1) (joinE n el el') e)), tm := putTm S2.tm o.dst (.msl slot (n + k) (p + 1)) } := hS.symm
           rw [this]
           exact H5
         -- nothing to nothing
         have nil : ∀ (S2 : St), a.eval zx = .slice none 0 0 → n = 0 → k = 0 → Holds C B S2 a w → S2.nx = S.nx →
             ({ S2 with mem := S2.mem.set slot (some (.arr (n + k) (p + 1) (joinE n el el') e)), tm := putTm S2.tm o.dst (.msl slot (n + k) (p + 1)) } : St) =
               S.apply o.dst { val := .msl slot (n + k) (p + 1), upd := r1.map (fun b => (b, none)) ++ [(slot, some (.arr (n + k) (p + 1) (joinE n el el') e))] } → o.wpV P a w K Q := by
           intro S2 hzx hn0 hk0 H2 hnx2 hS
           subst hn0
           subst hk0
           have hrun := run_append_none (P := P) (w := w) (ty := o.type) ht hi hso rfl (ad := none) (n := 0) (cap := 0) (Nat.le_refl _) (.inl rfl)
           have H4 := H2.setNil hs (e := .arr (0 + 0) (p + 1) (joinE 0 el el') e) rfl
           have H5 := H4.put (x := .msl slot (0 + 0) (p + 1)) (v := .slice none 0 0) o.dst (.mnil slot _)
           refine wp_value (hexec _ _ (by rw [hzx]; exact hrun)) (hK _ _ B ?_ (fun j hj => rfl))
           have : S.apply o.dst { val := .msl slot (0 + 0) (p + 1), upd := r1.map (fun b => (b, none)) ++ [(slot, some (.arr (0 + 0) (p + 1) (joinE 0 el el') e))],
                                  conds := c1 ++ c2 ++ [decide (0 + 0 ≤ 9223372036854775807), decide ((0 + 0) * i.bytes ≤ 140737488355328)], reads := r1 ++ r2 } =
               { S2 with mem := S2.mem.set slot (some (.arr (0 + 0) (p + 1) (joinE 0 el el') e)), tm := putTm S2.tm o.dst (.msl slot (0 + 0) (p + 1)) } := hS.symm
           rw [this]
           exact H5
         have nilrow : RowRel (ownOf C.A0 B S.mem) w 0 (p + 1) el [] := ⟨by simp, fun k hk => by omega, fun k j hk => by omega⟩
         unfold appDst at hdst
         split at hdst
         · rename_i hzx
           cases hdst
           rw [hzx] at hx
           have hvx := hx.plain
           by_cases hk0 : k = 0
           · exact nil S hvx rfl hk0 H rfl rfl
           · exact fresh none 0 [] S hvx (by omega) (by simp [Builtin.firstCells]) nilrow H (fun _ h => h) rfl rfl
         · rename_i b n' sz hzx
           rw [hzx] at hx
           split at hdst
           · rename_i m sz' el2 e' hm
             cases hall : (Nat.beq sz (p + 1) && Nat.beq sz' (p + 1) && Nat.beq e e') with
             | false => rw [hall] at hdst; cases hdst
             | true =>
               rw [hall] at hdst
               simp only [cond_true, Option.some.injEq, Prod.mk.injEq] at hdst
               obtain ⟨rfl, rfl, rfl, rfl⟩ := hdst
               simp only [Bool.and_eq_true, Nat.beq_eq] at hall
               obtain ⟨⟨rfl, rfl⟩, rfl⟩ := hall
               have hle : n' ≤ m := dec (hc1 _ (by simp))
               generalize hvx : a.eval zx = vx at hx
               cases hx with
               | mnil =>
                 have Hd := H.drop b
                 by_cases hk0 : k = 0
                 · exact nil _ hvx rfl hk0 Hd rfl rfl
                 · exact fresh none 0 [] _ hvx (by omega) (by simp [Builtin.firstCells]) nilrow Hd (own_drop b) rfl rfl
               | msl _ _ _ cap β hβ hn hmx hcc =>
                 rcases H.mem b _ hm with ⟨γ, hγ, hent⟩ | ⟨hno, _⟩
                 · rw [hβ] at hγ
                   cases hγ
                   generalize hob : w.heap[β]? = ob at hent
                   obtain ⟨cs, t', rfl⟩ := hent.isCells
                   have ht' : t' = e := by cases hent; rfl
                   subst ht'
                   have hor := arr_row hent hle
                   obtain ⟨C', t2, fz, hcc, hcs⟩ := hcc
                   rw [hob] at hcc
                   simp only [Option.some.injEq, Obj.cells.injEq] at hcc
                   obtain ⟨rfl, rfl, rfl⟩ := hcc
                   by_cases hroom : n' + k ≤ cap
                   · have hnew : news.length = k * (p + 1) := hrow.1
                     have hmul : (n' + k) * (p + 1) ≤ cap * (p + 1) := Nat.mul_le_mul_right _ hroom
                     have hfit : n' * i.size + news.length ≤ cs.size := by rw [his, hnew, hcs, ← Nat.add_mul]; exact hmul
                     have hrun := run_append_in (P := P) (w := w) (ty := o.type) ht hi hso hob hrow.oneCell hroom hfit
                     have hent2 : EntRel (ownOf C.A0 B S.mem) B w (.arr (n' + k) (p + 1) (joinE n' el2 el') t') (some (.cells (cs.toList.take (n' * i.size) ++ news ++ cs.toList.drop (n' * i.size + news.length)).toArray t' (0, 0))) := by
                       refine (hor.join hrow).ent ?_ t'
                       rw [his]
                       rw [List.take_left' (by rw [List.length_append, hor.1, hrow.1, Nat.add_mul])]
                     have H2 := H.setRow hm hβ hob (by simp; rw [his] at hfit ⊢; omega) hent2
                     have H3 := H2.rename (slot := slot) (e := .arr (n' + k) (p + 1) (joinE n' el2 el') t') (by show (S.mem.set b _) b = _; rw [mem_set_eq, if_pos rfl]) hβ hs hnx
                     have hbs : b ≠ slot := by rintro rfl; rw [hs] at hβ; cases hβ
                     refine wp_value (hexec _ _ (by rw [hvx]; exact hrun)) (hK _ _ (setB B slot β) ?_ (fun j hj => by simp [setB, hj]))
                     have H4 := H3.put (x := .msl slot (n' + k) (p + 1)) (v := .slice (some ⟨β, 0, none⟩) (n' + k) cap) o.dst
                       (.msl slot _ _ _ β (by simp [setB]) hroom hmx ⟨_, t', (0, 0), setRow_heap w β cs _ t' (0, 0) hob, by simp; rw [his] at hfit ⊢; omega⟩)
                     have hmem : ((S.mem.set b (some (.arr (n' + k) (p + 1) (joinE n' el2 el') t'))).set b none).set slot (some (.arr (n' + k) (p + 1) (joinE n' el2 el') t')) =
                         (S.mem.set b none).set slot (some (.arr (n' + k) (p + 1) (joinE n' el2 el') t')) := by
                       funext j
                       simp only [mem_set_eq]
                       by_cases h1 : j = slot <;> by_cases h2 : j = b <;> simp [h1, h2]
                     simp only [hmem] at H4
                     exact H4
                   · refine fresh (some ⟨β, 0, none⟩) cap (cs.toList.take (n' * (p + 1))) _ hvx (by omega) ?_ hor (H.drop b) (own_drop b) rfl rfl
                     rw [his]
                     refine run_firstCells_some (P := P) w.drew (p + 1) n' ⟨β, 0, none⟩ n' cap _ hor.1 fun j u hu => ?_
                     rw [addr_add']
                     show w.cell? _ = _
                     simp only [World.cell?, hob, Nat.zero_add]
                     rw [List.getElem?_take] at hu
                     split at hu
                     · simpa using hu
                     · cases hu
                 · rw [hβ] at hno; cases hno
           · cases hdst
         · cases hdst
       · cases h
     · cases h
   · cases h
 · cases h
end
end Go.Vse
namespace Go.Vse
open Go.RowKit
section
variable {P : Program} {C : Ctx} {B : Bmap} {S : St} {a : Act} {w : World} {o : Oper} {r : Eff} {slot : Nat}
  {K : Act → World → Prop} {Q : Exit → Act → World → Prop}
theorem SlRel.mono {A : Nat → Prop} {n k sz : Nat} {el : Nat → List IV} {ad : Option Addr} (h : SlRel A w n sz el ad) (hk : k ≤ n) : SlRel A w k sz el ad := by
 rcases h with rfl | ⟨b, off, rfl, hb, hl, hh⟩
 ·exact .inl (by omega)
 ·exact .inr ⟨b, off, rfl, hb, fun i hi => hl i (by omega), fun i j hi hj => hh i j (by omega) hj⟩
theorem RowRel.dropE {A : Nat → Prop} {n c sz : Nat} {el : Nat → List IV} {xs : List Value} (h : RowRel A w n sz el xs) (hc : c ≤ n) : RowRel A w (n - c) sz (fun i => el (i + c)) (xs.drop (c * sz)) := by
 refine ⟨by rw [List.length_drop, h.1, Nat.sub_mul], fun k hk => h.2.1 _ (by omega), fun k j hk hj => ?_⟩
 have e : (xs.drop (c * sz)).getD (k * sz + j) undef = xs.getD ((k + c) * sz + j) undef := by
  simp only [List.getD_eq_getElem?_getD, List.getElem?_drop]
  rw [show c * sz + (k * sz + j) = (k + c) * sz + j by rw [Nat.add_mul]; omega]
 rw [e]
 exact h.2.2 (k + c) j (by omega) hj
theorem copy_case (H : Holds C B S a w) {c : Call} {zx zy : Operand} (hop : o.op = .call c) (hb : c.callee = .builtin .copy) {ts : List TypeId} (hts : c.argTypes.toList = ts) (hxs : c.args = #[zx, zy])
   (h : copyA P S.mem ts (evalA S.tm zx) (evalA S.tm zy) = some r) (hc : ∀ p ∈ r.conds, p) (hK : Cont C B slot (S.apply o.dst r) K) : o.wpV P a w K Q := by
 have hx := eval_rel H zx
 have hy := eval_rel H zy
 unfold copyA at h
 split at h
 · rename_i t u b n sz hxe
   rw [hxe] at hx
   have hty : c.argTypes = #[t, u] := Array.ext' (by simpa using hts)
   have hexec : ∀ v w', (Builtin.copy_ #[t, u] o.type #[a.eval zx, a.eval zy]).run P w = .ok v w' → (execOp a.eval o).run P w = .ok (.value v) w' := by
     intro v w' hr
     simp [execOp, hop, resolve, hb, hxs, hty, invoke, builtin, hr]
   split at h
   · rename_i e hu
     split at h
     · rename_i p n' sz' el ty k sz2 el' cs rs hp hm hv
       cases htu : Nat.beq t u with
       | false => rw [htu] at hv; cases hv
       | true =>
       rw [htu] at hv
       simp only [cond_true] at hv
       cases hall : (Nat.beq sz p && Nat.beq sz' p && Nat.beq sz2 p && (rs.all fun r => !Nat.beq r b)) with
       | false => rw [hall] at h; cases h
       | true =>
         rw [hall] at h
         simp only [cond_true, Option.some.injEq] at h
         subst h
         simp only [Bool.and_eq_true, Nat.beq_eq] at hall
         obtain ⟨⟨⟨rfl, rfl⟩, rfl⟩, _⟩ := hall
         have hle : n ≤ n' := dec (hc _ (by simp))
         obtain ⟨ad, cap2, hvy, hn2, hsl⟩ := viewSl_rel H hy hv (fun q hq => hc q (by simp [hq]))
         have hsl' := hsl.mono (Nat.min_le_left k n)
         have hrow := hsl'.row
         have hfirst : (Builtin.firstCells sz2 (min k n) (.slice ad k cap2)).run P w = .ok (slCells w (min k n) sz2 ad).toArray w := by
           cases ad with
           | none => simp [Builtin.firstCells, slCells]
           | some ad => exact run_firstCells_some (P := P) w sz2 (min k n) ad k cap2 _ hsl'.length hsl'.news.1
         generalize hvx : a.eval zx = vx at hx
         cases hx with
         | mnil =>
           have hm0 : min k 0 = 0 := by omega
           have hsame : (fun i => if i < min k 0 then el' i else el i) = el := by funext i; simp
           have hcells : slCells w (min k 0) sz2 ad = [] := List.eq_nil_of_length_eq_zero (by rw [hsl'.length, hm0, Nat.zero_mul])
           rw [hcells, hm0] at hfirst
           refine fin_case hK (B' := B) (v := goInt ((min k 0 : Nat) : Int)) (w' := w) (hexec _ _ ?_) ?_ (ARel.lit _) (fun _ _ => rfl)
           · rw [hvx, hvy]
             simp [Builtin.copy_, run_underlying hu, Builtin.lenOf, run_size hp, hfirst]
           · have : applyUpd S.mem [(b, some (.arr n' sz2 (fun i => if i < min k 0 then el' i else el i) ty))] = S.mem := by
               funext j
               simp only [applyUpd, mem_set_eq]
               by_cases hj : j = b
               · subst hj; rw [if_pos rfl, hsame, hm]
               · rw [if_neg hj]
             rw [this]
             exact H
         | msl _ _ _ cap β hβ hn hmx hcc =>
           rcases H.mem b _ hm with ⟨γ, hγ, hent⟩ | ⟨hno, _⟩
           · rw [hβ] at hγ
             cases hγ
             generalize hob : w.heap[β]? = ob at hent
             obtain ⟨cs0, t', rfl⟩ := hent.isCells
             have ht' : t' = ty := by cases hent; rfl
             subst ht'
             have hor := arr_row hent (Nat.le_refl _)
             have hsz : n' * sz2 ≤ cs0.size := by cases hent; assumption
             have hlen : (slCells w (min k n) sz2 ad).length = min k n * sz2 := hsl'.length
             have hmn : min k n * sz2 ≤ n' * sz2 := Nat.mul_le_mul_right _ (by omega)
             have hst := run_storeCells_at P β 0 t' (slCells w (min k n) sz2 ad) 0 cs0 w hob (by rw [hlen]; omega) hrow.oneCell
             simp only [Nat.add_zero, Nat.zero_add, List.take_zero, List.nil_append] at hst
             have hrun : (Builtin.copy_ #[t, u] o.type #[a.eval zx, a.eval zy]).run P w = .ok (goInt ((min k n : Nat) : Int)) (w.setRow β (slCells w (min k n) sz2 ad ++ cs0.toList.drop (slCells w (min k n) sz2 ad).length).toArray) := by
               rw [hvx, hvy]
               simp [Builtin.copy_, run_underlying hu, Builtin.lenOf, run_size hp, hfirst, hst]
             have hj := hrow.join (hor.dropE (c := min k n) (by omega))
             rw [show min k n + (n' - min k n) = n' by omega] at hj
             have hfun : joinE (min k n) el' (fun i => el (i + min k n)) = fun i => if i < min k n then el' i else el i := by
               funext i
               unfold joinE
               by_cases hi : i < min k n
               · rw [if_pos hi, if_pos hi]
               · rw [if_neg hi, if_neg hi]
                 show el (i - min k n + min k n) = el i
                 rw [show i - min k n + min k n = i by omega]
             rw [hfun] at hj
             have hent2 := hj.ent (B := B) (cs := (slCells w (min k n) sz2 ad ++ cs0.toList.drop (slCells w (min k n) sz2 ad).length).toArray) (by
               simp only []
               rw [hlen, List.take_append, hlen, List.take_of_length_le (by rw [hlen]; exact hmn), List.drop_take]) t'
             have H2 := H.setRow hm hβ hob (by simp; rw [hlen]; omega) hent2
             exact fin_case hK (B' := B) (v := goInt ((min k n : Nat) : Int)) (hexec _ _ hrun) H2 (ARel.lit _) (fun _ _ => rfl)
           · rw [hβ] at hno; cases hno
     · cases h
   · cases h
 · cases h
theorem isBytes_get {n : Nat} {el : Nat → List IV} (h : isBytes n el = true) (k : Nat) (hk : k < n) : ∃ b : UInt8, el k = [.v (.int .u8 (b.toNat : Nat))] := by
 have h1 := List.all_eq_true.1 h k (by simpa using hk)
 unfold isByte at h1
 split at h1
 ·rename_i x hx
  simp only [Bool.and_eq_true, decide_eq_true_eq] at h1
  refine ⟨UInt8.ofNat x.toNat, ?_⟩
  have e : ((UInt8.ofNat x.toNat).toNat : Int) = x := by
   simp only [UInt8.toNat_ofNat']
   omega
  rw [e, hx]
 ·cases h1
theorem bytes_of_rel {A : Nat → Prop} {n : Nat} {el : Nat → List IV} {xs : List Value} (h : RowRel A w n 1 el xs) (hb : isBytes n el) :
  xs = ((bytesOf n el).map fun b => (b.toNat : Int)).map (Value.int .u8) := by
 apply List.ext_getElem?
 intro i
 by_cases hi : i < n
 ·have hil : i < xs.length := by rw [h.1]; omega
  obtain ⟨b, hel⟩ := isBytes_get hb i hi
  have hr := (h.2.2 i 0 hi (by omega)).2
  rw [hel] at hr
  simp only [List.getD_cons_zero, Nat.mul_one, Nat.add_zero] at hr
  have hx : xs.getD i undef = .int .u8 (b.toNat : Nat) := by
   generalize xs.getD i undef = q at hr
   cases hr; rfl
  have hx' : xs[i]? = some (.int .u8 (b.toNat : Nat)) := by
   rw [List.getD_eq_getElem?_getD, List.getElem?_eq_getElem hil] at hx
   rw [List.getElem?_eq_getElem hil]
   simpa using hx
  rw [hx']
  simp [bytesOf, hi, hel, byteOf]
 ·rw [List.getElem?_eq_none (by rw [h.1]; omega), List.getElem?_eq_none (by simp [bytesOf]; omega)]
theorem convMA_case (H : Holds C B S a w) {s d : TypeId} {x : Operand} (hop : o.op = .convert s d x)
   (h : convMA P S.mem s d (evalA S.tm x) = some r) (hc : ∀ p ∈ r.conds, p) (hK : Cont C B slot (S.apply o.dst r) K) : o.wpV P a w K Q := by
 have hx := eval_rel H x
 unfold convMA at h
 split at h
 · rename_i e hs hd
   split at h
   · rename_i n sz el cs rs he hv
     cases hsz : (Nat.beq sz 1 || Nat.beq n 0) with
     | false => rw [hsz] at h; cases h
     | true =>
       rw [hsz] at h
       simp only [cond_true, Option.some.injEq] at h
       subst h
       obtain ⟨ad, cap, hvx, hn, hsl⟩ := viewSl_rel H hx hv (fun q hq => hc q (by simp [hq]))
       have hib : isBytes n el := hc _ (by simp)
       have hsl' : SlRel (ownOf C.A0 B S.mem) w n 1 el ad := by
         simp only [Bool.or_eq_true, Nat.beq_eq] at hsz
         rcases hsz with rfl | rfl
         · exact hsl
         · exact hsl.zero
       refine pure_fin H hK (v := .string ⟨⟨bytesOf n el⟩⟩) ?_ (ARel.lit _) rfl
       have hcells := bytes_of_rel hsl'.row hib
       have hconv : (convert s d (a.eval x)).run P w = .ok (.string ⟨⟨bytesOf n el⟩⟩) w := by
         rw [hvx, run_convert_bytes_string w s d e ad n cap hs he hd]
         cases ad with
         | none =>
           have : n = 0 := by rcases hsl' with h | ⟨_, _, h, _⟩ <;> first | exact h | cases h
           subst this
           simp [Conv.bytesToString, bytesOf]
           rfl
         | some ad =>
           have hload : (loadCells ad n).run P w = .ok (((bytesOf n el).map fun b => (b.toNat : Int)).map (Value.int .u8)).toArray w := by
             have := run_loadCells_list (P := P) w ad (slCells w n 1 (some ad)) hsl'.news.1
             rw [hsl'.length, Nat.mul_one, hcells] at this
             exact this
           rw [run_bytesToString w ad n cap _ hload, foldl_push_bytes]
           congr 2
           apply ByteArray.ext
           simp only [ByteArray.empty, ByteArray.emptyWithCapacity]
           apply Array.ext'
           show (#[] : Array UInt8).toList ++ _ = _
           simp [Function.comp_def]
           rfl
       simp [execOp, hop, hconv]
   · cases h
 · obtain ⟨hu, v, hrun, hrel⟩ := convA_sound h hx
   exact pure_fin H hK (v := v) (by simp [execOp, hop, hrun]) hrel hu
theorem cap_case (H : Holds C B S a w) {c : Call} {z : Operand} (hop : o.op = .call c) (hb : c.callee = .builtin .cap) {t : TypeId} (hts : c.argTypes.toList = [t]) (hxs : c.args = #[z])
  (h : capA P t (evalA S.tm z) = some r) (hK : Cont C B slot (S.apply o.dst r) K) : o.wpV P a w K Q := by
 have hx := eval_rel H z
 have hty : c.argTypes = #[t] := Array.ext' (by simpa using hts)
 unfold capA at h
 split at h
 ·rename_i e hu hxe
  rw [hxe] at hx
  cases h
  have hv : (Builtin.cap_ #[t] o.type #[a.eval z]).run P w = .ok (goInt 0) w := by
   rw [hx.plain]
   simp [Builtin.cap_, run_underlying hu]
  refine pure_fin H hK (v := goInt 0) ?_ (ARel.lit _) rfl
  simp [execOp, hop, resolve, hb, hxs, hty, invoke, builtin, hv]
 ·cases h
theorem len_case (H : Holds C B S a w) {c : Call} {z : Operand} (hop : o.op = .call c) (hb : c.callee = .builtin .len) {t : TypeId} (hts : c.argTypes.toList = [t]) (hxs : c.args = #[z])
  (h : lenA P t (evalA S.tm z) = some r) (hK : Cont C B slot (S.apply o.dst r) K) : o.wpV P a w K Q := by
 have hx := eval_rel H z
 have hty : c.argTypes = #[t] := Array.ext' (by simpa using hts)
 have hbase : ∀ v : Value, (Builtin.len_ #[t] o.type #[a.eval z]).run P w = .ok v w → (execOp a.eval o).run P w = .ok (.value v) w := by
  intro v hv
  simp [execOp, hop, resolve, hb, hxs, hty, invoke, builtin, hv]
 unfold lenA at h
 split at h
 ·rename_i s hu hxe
  rw [hxe] at hx
  cases h
  refine pure_fin H hK (v := goInt s.size) (hbase _ ?_) (ARel.lit _) rfl
  rw [hx.plain]
  simp [Builtin.len_, run_underlying hu]
 ·rename_i e n sz el hu hxe
  rw [hxe] at hx
  cases h
  refine pure_fin H hK (v := goInt n) (hbase _ ?_) (ARel.lit _) rfl
  generalize a.eval z = vz at hx
  cases hx with
  | c _ _ hi => cases hi <;> simp [Builtin.len_, run_underlying hu]
 ·rename_i e hu hxe
  rw [hxe] at hx
  cases h
  refine pure_fin H hK (v := goInt 0) (hbase _ ?_) (ARel.lit _) rfl
  rw [hx.plain]
  simp [Builtin.len_, run_underlying hu]
 ·rename_i e b n sz hu hxe
  rw [hxe] at hx
  cases h
  refine pure_fin H hK (v := goInt n) (hbase _ ?_) (ARel.lit _) rfl
  generalize a.eval z = vz at hx
  cases hx <;> simp [Builtin.len_, run_underlying hu]
 ·rename_i e b k n sz hu hxe
  rw [hxe] at hx
  cases h
  refine pure_fin H hK (v := goInt n) (hbase _ ?_) (ARel.lit _) rfl
  generalize a.eval z = vz at hx
  cases hx <;> simp [Builtin.len_, run_underlying hu]
 ·rename_i n e hu
  cases h
  refine pure_fin H hK (v := goInt n) (hbase _ ?_) (ARel.lit _) rfl
  simp [Builtin.len_, run_underlying hu]
 ·cases h
theorem min_case (H : Holds C B S a w) {c : Call} {zx zy : Operand} (hop : o.op = .call c) (hb : c.callee = .builtin .min) (hxs : c.args = #[zx, zy])
  (h : minA (evalA S.tm zx) (evalA S.tm zy) = some r) (hK : Cont C B slot (S.apply o.dst r) K) : o.wpV P a w K Q := by
 have hx := eval_rel H zx
 have hy := eval_rel H zy
 unfold minA at h
 split at h
 ·rename_i k i k' j hxe hye
  rw [hxe] at hx
  rw [hye] at hy
  cases h
  refine pure_fin H hK (v := .int k (if j < i then j else i)) ?_ (ARel.lit _) rfl
  simp [execOp, hop, resolve, hb, hxs, invoke, builtin, hx.plain, hy.plain, Builtin.min_, Builtin.min2]
 ·cases h
theorem max_case (H : Holds C B S a w) {c : Call} {zx zy : Operand} (hop : o.op = .call c) (hb : c.callee = .builtin .max) (hxs : c.args = #[zx, zy])
  (h : maxA (evalA S.tm zx) (evalA S.tm zy) = some r) (hK : Cont C B slot (S.apply o.dst r) K) : o.wpV P a w K Q := by
 have hx := eval_rel H zx
 have hy := eval_rel H zy
 unfold maxA at h
 split at h
 ·rename_i k i k' j hxe hye
  rw [hxe] at hx
  rw [hye] at hy
  cases h
  refine pure_fin H hK (v := .int k (if j > i then j else i)) ?_ (ARel.lit _) rfl
  simp [execOp, hop, resolve, hb, hxs, invoke, builtin, hx.plain, hy.plain, Builtin.max_, Builtin.max2]
 ·cases h
theorem zeroCells_one {z : Value} {n : Nat} (h : z.cells.toList.all (·.oneCell') = true) : ∀ v ∈ (Builtin.zeroCells z.cells n).toList, v.oneCell' = true := by
 intro v hv
 simp only [Builtin.zeroCells, Array.toList_map, List.mem_map] at hv
 obtain ⟨i, hi, rfl⟩ := hv
 have hi : i < n * z.cells.size := by simpa using hi
 have hlt : i % z.cells.size < z.cells.size := Nat.mod_lt _ (by
   rcases Nat.eq_zero_or_pos z.cells.size with h0 | h0
   · rw [h0, Nat.mul_zero] at hi; omega
   · exact h0)
 rw [getElem!_pos z.cells _ hlt]
 exact List.all_eq_true.1 h _ (by simpa using Array.getElem_mem hlt)
theorem clear_case (H : Holds C B S a w) {c : Call} {z : Operand} (hop : o.op = .call c) (hb : c.callee = .builtin .clear) {t : TypeId} (hts : c.argTypes.toList = [t]) (hxs : c.args = #[z])
   (h : clearA P S.mem t (evalA S.tm z) = some r) (hK : Cont C B slot (S.apply o.dst r) K) : o.wpV P a w K Q := by
 have hx := eval_rel H z
 have hty : c.argTypes = #[t] := Array.ext' (by simpa using hts)
 have hbase : ∀ (v : Value) (w' : World), (Builtin.clear_ #[t] o.type #[a.eval z]).run P w = .ok v w' → (execOp a.eval o).run P w = .ok (.value v) w' := by
   intro v w' hv
   simp [execOp, hop, resolve, hb, hxs, hty, invoke, builtin, hv]
 unfold clearA at h
 split at h
 · rename_i e b k n sz hu hxe
   rw [hxe] at hx
   split at h
   · rename_i p zv n' sz' el e' hp hz hm
     cases hall : (Nat.beq p sz && (Nat.beq sz' sz && (Nat.ble k n' && (Nat.beq zv.cells.size sz && zv.cells.toList.all (·.oneCell'))))) with
     | false => rw [hall] at h; cases h
     | true =>
       rw [hall] at h
       simp only [cond_true, Option.some.injEq] at h
       subst h
       simp only [Bool.and_eq_true, Nat.beq_eq, Nat.ble_eq] at hall
       obtain ⟨rfl, rfl, hkn, hzs, hone⟩ := hall
       generalize hvx : a.eval z = vz at hx
       cases hx with
       | ssl _ _ _ _ cap β hβ hn h0 hcc =>
         obtain ⟨Cc, tt, fz, hcell, hsize⟩ := hcc
         rcases H.mem b _ hm with ⟨γ, hγ, hent⟩ | ⟨hno, _⟩
         · rw [hβ] at hγ
           cases hγ
           rw [hcell] at hent
           cases hent with
           | arr _ _ _ _ cs hcs hlen hrel =>
             have hzl : (Builtin.zeroCells zv.cells n).toList.length = n * sz' := by simp [Builtin.zeroCells, hzs]
             have hst := run_storeCells_at P β (k * sz') e' (Builtin.zeroCells zv.cells n).toList 0 Cc w hcell (by rw [hzl, Nat.add_zero]; rw [Nat.add_mul] at hsize; omega) (zeroCells_one hone)
             have hn0 : n ≠ 0 := by omega
             have hrun : (Builtin.clear_ #[t] o.type #[a.eval z]).run P w = .ok (.tuple #[]) (w.setRow β (Cc.toList.take (k * sz' + 0) ++ (Builtin.zeroCells zv.cells n).toList ++ Cc.toList.drop (k * sz' + 0 + (Builtin.zeroCells zv.cells n).toList.length)).toArray) := by
               rw [hvx]
               cases n with
               | zero => exact absurd rfl hn0
               | succ n => simp [Builtin.clear_, Sem.run_bind, run_underlying hu, run_zero hz, hst]
             have hz2 : (Builtin.zeroCells zv.cells n).toList.length = n * sz' := hzl
             generalize (Builtin.zeroCells zv.cells n).toList = zs at hrun hz2
             rw [Nat.add_mul] at hsize
             have hcl : Cc.toList.length = Cc.size := by simp
             have hsz2 : (Cc.toList.take (k * sz' + 0) ++ zs ++ Cc.toList.drop (k * sz' + 0 + zs.length)).toArray.size = Cc.size := by
               simp only [List.size_toArray, List.length_append, List.length_take, List.length_drop, hz2, hcl]
               omega
             have hget : ∀ i, i < k * sz' → (Cc.toList.take (k * sz' + 0) ++ zs ++ Cc.toList.drop (k * sz' + 0 + zs.length)).toArray.getD i undef = Cc.getD i undef := by
               intro i hi
               have h1 : i < (Cc.toList.take (k * sz')).length := by rw [List.length_take, hcl]; omega
               simp only [Array.getD_eq_getD_getElem?, List.getElem?_toArray, Nat.add_zero]
               rw [List.append_assoc, List.getElem?_append_left h1, List.getElem?_take_of_lt hi]
               simp
             have hent2 : EntRel (ownOf C.A0 B S.mem) B w (.arr k sz' el e') (some (.cells (Cc.toList.take (k * sz' + 0) ++ zs ++ Cc.toList.drop (k * sz' + 0 + zs.length)).toArray e' (0, 0))) := by
               refine .arr k sz' el e' _ (by rw [hsz2]; omega) (fun i hi => hlen i (by omega)) fun i j hi hj => ?_
               rw [hget _ (mul_add_lt hi hj)]
               exact hrel i j (by omega) hj
             have H2 := H.setRow hm hβ hcell hsz2 hent2
             exact fin_case hK (B' := B) (v := .tuple #[]) (hbase _ _ hrun) H2 (.tup [] #[] rfl (fun j hj => absurd hj (Nat.not_lt_zero j))) (fun _ _ => rfl)
         · rw [hβ] at hno; cases hno
   · cases h
 · cases h
theorem zeroLike_eq {x y : Value} (h : zeroLike x y = true) : x = y := by
 unfold zeroLike at h
 split at h <;> first | rfl | cases h
theorem allocArr_case (H : Holds C B S a w) (hC : C.Ok) (hs : B slot = none) (hnx : Between C S slot) {t : TypeId} (hop : o.op = .alloc t) {n p : Nat} {ze z : Value} (hz : zeroP P t = some z) (hzc : ze.cells.size = p + 1)
   (h : allocArr slot t n (p + 1) ze z = some r) (hK : Cont C B slot (S.apply o.dst r) K) : o.wpV P a w K Q := by
 unfold allocArr at h
 cases hall : (Nat.beq z.cells.toList.length (n * (p + 1)) && ze.cells.toList.all (·.oneCell') && (List.range (n * (p + 1))).all (fun j => zeroLike (z.cells.toList.getD j undef) (ze.cells.toList.getD (j % (p + 1)) undef))) with
 | false => rw [hall] at h; cases h
 | true =>
   rw [hall] at h
   simp only [cond_true, Option.some.injEq] at h
   subst h
   simp only [Bool.and_eq_true, Nat.beq_eq] at hall
   obtain ⟨⟨hlen, hok⟩, hsame⟩ := hall
   have hent := zeros_rel (A := ownOf C.A0 B S.mem) (B := B) (w := w) (n := n) (p := p) (z := ze) (e := t) (cs := z.cells) hzc hok (by simpa using hlen) (fun i hi => by
     have := List.all_eq_true.1 hsame i (by simpa using hi)
     have := zeroLike_eq this
     simpa [Array.getD_eq_getD_getElem?, List.getD_eq_getElem?_getD] using this)
   refine fin_case hK (w' := w.alloc (.cells z.cells t)) (v := .pointer (some ⟨w.heap.size, 0, none⟩)) (B' := setB B slot w.heap.size) ?_ (H.alloc hC hs hnx hent) ?_ (fun j hj => by simp [setB, hj])
   · simp [execOp, hop, Instr.alloc, run_zero hz, newVar, newRow]
   · have := ARel.eptr (A := ownOf C.A0 (setB B slot w.heap.size) (applyUpd S.mem [(slot, some (.arr n (p + 1) (fun _ => ze.cells.toList.map .v) t))])) (B := setB B slot w.heap.size) (w := w.alloc (.cells z.cells t)) slot 0 0 (p + 1) w.heap.size (by simp [setB])
     simpa using this
theorem buildSlice_gen (H : Holds C B S a w) (hC : C.Ok) (hs : B slot = none) (hnx : Between C S slot) {t : TypeId} {n : Nat} {ps : Array (Nat × Operand)} (hop : o.op = .buildSlice t n ps)
   (ys : List (Nat × AV)) (hyl : (ps.toList.map fun (i, x) => (i, a.eval x)).length = ys.length) (hyr : ∀ j, j < ys.length → ((ps.toList.map fun (i, x) => (i, a.eval x)).getD j (0, undef)).1 = (ys.getD j (0, .any)).1 ∧ ARel (ownOf C.A0 B S.mem) B w (ys.getD j (0, .any)).2 ((ps.toList.map fun (i, x) => (i, a.eval x)).getD j (0, undef)).2)
   (h : buildSliceA P slot t n ys = some r) (hK : Cont C B slot (S.apply o.dst r) K) : o.wpV P a w K Q := by
 unfold buildSliceA at h
 split at h
 · rename_i e hu
   split at h
   · rename_i p z hp hz
     cases hn00 : (Nat.beq n 0 && ys.isEmpty) with
     | true =>
       rw [hn00] at h
       simp only [cond_true, Option.some.injEq] at h
       subst h
       simp only [Bool.and_eq_true, Nat.beq_eq, List.isEmpty_iff] at hn00
       obtain ⟨rfl, hys⟩ := hn00
       subst hys
       have hps : ps = #[] := by
         have : ps.toList.length = 0 := by simpa using hyl
         exact Array.ext' (List.eq_nil_of_length_eq_zero this)
       subst hps
       have hrow : RowRel (ownOf C.A0 B S.mem) w 0 (p + 1) (fun _ => []) [] := ⟨by simp, fun k hk => by omega, fun k j hk hj => by omega⟩
       have hent := hrow.ent (B := B) (cs := #[]) (by simp) e
       refine fin_case hK (w' := w.alloc (.cells #[] e)) (v := .slice (some ⟨w.heap.size, 0, none⟩) 0 0) (B' := setB B slot w.heap.size) ?_ (H.alloc hC hs hnx hent) ?_ (fun j hj => by simp [setB, hj])
       · simp [execOp, hop, Instr.buildSlice, run_underlying hu, run_size hp, Instr.fill, newRow]; exact congrArg (fun l => w.alloc (Obj.cells l e)) (Array.ext' (by simp))
       · exact .msl slot 0 (p + 1) 0 w.heap.size (by simp [setB]) (Nat.le_refl _) (by unfold maxLen; omega) ⟨_, e, (0, 0), heap_alloc_new w _, by simp⟩
     | false =>
     rw [hn00] at h
     simp only [cond_false] at h
     split at h
     · rename_i l hf
       split at h
       · rename_i c hcm
         cases hall : (Nat.ble (n * (p + 1)) 16777216 && Nat.beq z.cells.size (p + 1) && l.all cellOk && !Nat.beq n 0) with
         | false => rw [hall] at h; cases h
         | true =>
           rw [hall] at h
           simp only [cond_true, Option.some.injEq] at h
           subst h
           simp only [Bool.and_eq_true, Nat.ble_eq, Nat.beq_eq, Bool.not_eq_true'] at hall
           obtain ⟨⟨⟨hbig, hzc⟩, hok⟩, hn0⟩ := hall
           have hne : n ≠ 0 := by rintro rfl; cases hn0
           have hnp : ¬ n * (p + 1) = 0 := Nat.mul_ne_zero hne (by omega)
           let zs : List Value := (List.range (n * (p + 1))).map fun j => z.cells[j % z.cells.size]!
           have hz0 : Rels (ownOf C.A0 B S.mem) B w ((List.range (n * (p + 1))).map fun j => AV.c (.v (z.cells[j % z.cells.size]!))) zs := by
             have := rels_ofCells (A := ownOf C.A0 B S.mem) (B := B) (w := w) zs
             simpa [zs, List.map_map, Function.comp_def, ofCell] using this
           obtain ⟨cs', hfill, hr'⟩ := fill_sound (place := fun i => some (i * (p + 1), p + 1)) (fun i q hi => by
             simp only [List.getElem?_map, Option.map_eq_some_iff] at hi
             obtain ⟨j, hj, rfl⟩ := hi
             rw [List.getElem?_eq_some_iff] at hj
             obtain ⟨_, rfl⟩ := hj
             simp) _ (ps.toList.map fun (i, x) => (i, a.eval x)) _ l zs hf hz0 hyl hyr
           rw [mapM_toIV hcm] at hr' hok
           have h1 := rels_oneCell hr' hok
           obtain ⟨hcl, hcr⟩ := irel_of_ivs hr'
           have hfl : cs'.length = n * (p + 1) := by
             have hfa : ∀ (pl : List (Nat × Nat)) (parts : List (Nat × AV)) (l0 l1 : List AV), fillA pl l0 parts = some l1 → l1.length = l0.length := by
               intro pl parts
               induction parts with
               | nil => intro l0 l1 h; simp only [fillA, Option.some.injEq] at h; rw [h]
               | cons q parts ih =>
                 obtain ⟨i, x⟩ := q
                 intro l0 l1 h
                 simp only [fillA] at h
                 cases hpl : pl[i]? with
                 | none => simp [hpl] at h
                 | some q =>
                   obtain ⟨off, m⟩ := q
                   simp only [hpl] at h
                   cases hb : (Nat.beq (cellsA x).length m && Nat.ble (off + m) l0.length && (cellsA x).all cellOk) with
                   | false => rw [hb] at h; cases h
                   | true =>
                     rw [hb] at h
                     simp only [cond_true] at h
                     simp only [Bool.and_eq_true, Nat.beq_eq, Nat.ble_eq] at hb
                     rw [ih _ _ h]
                     simp
                     omega
             have := hfa _ _ _ _ hf
             rw [mapM_toIV hcm] at this
             rw [hcl]
             simpa [ivs] using this
           have hrow : RowRel (ownOf C.A0 B S.mem) w n (p + 1) (fun k => (c.drop (k * (p + 1))).take (p + 1)) cs' := by
             refine ⟨hfl, fun k hk => ?_, fun k j hk hj => ?_⟩
             · have : k * (p + 1) + (p + 1) ≤ n * (p + 1) := by
                 calc k * (p + 1) + (p + 1) = (k + 1) * (p + 1) := by rw [Nat.add_mul, Nat.one_mul]
                   _ ≤ n * (p + 1) := Nat.mul_le_mul_right _ hk
               simp
               omega
             · have hlt := mul_add_lt hk hj
               have hlc : k * (p + 1) + j < cs'.length := by rw [hfl]; exact hlt
               have e1 : ((c.drop (k * (p + 1))).take (p + 1)).getD j (.v undef) = c.getD (k * (p + 1) + j) (.v undef) := by
                 simp [List.getD_eq_getElem?_getD, List.getElem?_take, hj, List.getElem?_drop]
               rw [e1]
               refine ⟨h1 _ ?_, hcr _ (by omega)⟩
               rw [List.getD_eq_getElem?_getD, List.getElem?_eq_getElem hlc]
               exact List.getElem_mem hlc
           have hent := hrow.ent (B := B) (cs := cs'.toArray) (by simp only []; rw [List.take_of_length_le (by omega)]) e
           have hbig' : ¬ n * (p + 1) > 2 ^ 24 := by omega
           refine fin_case hK (w' := w.alloc (.cells cs'.toArray e)) (v := .slice (some ⟨w.heap.size, 0, none⟩) n n) (B' := setB B slot w.heap.size) ?_ (H.alloc hC hs hnx hent) ?_ (fun j hj => by simp [setB, hj])
           · have hfill' : Instr.fill (fun i => some (i * (p + 1), p + 1)) ((Array.range (n * (p + 1))).map (z.cells[· % z.cells.size]!)) (ps.map fun (i, x) => (i, a.eval x)).toList = some cs'.toArray := by
               have e1 : ((Array.range (n * (p + 1))).map (z.cells[· % z.cells.size]!)) = zs.toArray := by
                 apply Array.ext'; simp [zs]
               rw [e1]
               simpa using hfill
             simp only [execOp, hop, Instr.buildSlice, Sem.run_bind, run_underlying hu, Result.andThen_ok, run_size hp, if_neg hbig', if_neg hnp, run_zero hz, Sem.run_pure, Sem.run_ite]
             rw [hfill']
             simp [newRow]
           · refine .msl slot n (p + 1) n w.heap.size (by simp [setB]) (Nat.le_refl _) ?_ ⟨_, e, (0, 0), heap_alloc_new w _, by simpa using hfl⟩
             unfold maxLen
             have : n ≤ n * (p + 1) := Nat.le_mul_of_pos_right _ (by omega)
             omega
       · cases h
     · cases h
   · cases h
 · cases h
theorem buildSlice_case (H : Holds C B S a w) (hC : C.Ok) (hs : B slot = none) (hnx : Between C S slot) {t : TypeId} {n : Nat} {ps : Array (Nat × Operand)} (hop : o.op = .buildSlice t n ps)
  (h : buildSliceA P slot t n (ps.toList.map fun (i, x) => (i, evalA S.tm x)) = some r) (hK : Cont C B slot (S.apply o.dst r) K) : o.wpV P a w K Q := by
 refine buildSlice_gen H hC hs hnx hop _ (by simp) (fun j hj => ?_) h hK
 have hj' : j < ps.toList.length := by simpa using hj
 simp only [List.getD_eq_getElem?_getD, List.getElem?_map, List.getElem?_eq_getElem hj', Option.map_some, Option.getD_some]
 exact ⟨trivial, eval_rel H _⟩
end
end Go.Vse
