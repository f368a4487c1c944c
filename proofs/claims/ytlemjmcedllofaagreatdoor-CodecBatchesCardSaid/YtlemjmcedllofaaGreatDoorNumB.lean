/- Helpers for the proof: no statement of its own. -/
import Derived.Test.YtlemjmcedllofaaGreatDoorVseB
import Derived.Test.YtlemjmcedllofaaGreatDoorProg
import Derived.Test.YtlemjmcedllofaaGreatDoorNumA
set_option linter.unusedVariables false
set_option linter.unusedSimpArgs false
set_option linter.unnecessarySimpa false
set_option linter.deprecated false
namespace Go.Vse
open Go.Proofs
set_option maxRecDepth 100000
def fnV (f : Nat) : Value := .func (.func f) #[] #[]
def kindsV : List (Int × Value) :=
  [(1, .agg #[fnV 34, fnV 35, fnV 36, fnV 37]), (2, .agg #[fnV 38, fnV 39, fnV 41, fnV 43]), (3, .agg #[fnV 45, fnV 46, fnV 48, fnV 49]), (4, .agg #[fnV 50, fnV 51, fnV 53, fnV 55]),
   (5, .agg #[fnV 57, fnV 58, fnV 60, fnV 61]), (6, .agg #[fnV 62, fnV 63, fnV 65, fnV 67]), (7, .agg #[fnV 69, fnV 70, fnV 72, fnV 74]), (8, .agg #[fnV 76, fnV 77, fnV 79, fnV 81])]
def kindsPure : List AV → Option (AV × List Bool)
  | [] => some (.c (.mp kindsV), [])
  | _ => none


instance : Inhabited Oper := ⟨{ dst := none, op := .move (.const undef) , type := 0, pos := "", after := #[], guard := none }⟩
theorem steps_value {P : Program} {ops : Array Oper} {i : Nat} {rest : List Nat} {Q : Exit → Act → World → Prop} {a : Act} {w w' : World} {v : Value} {d : Option Tmp}
    (ho : (ops.toList[i]?).isSome = true) (hg : (ops.toList.getD i default).guard = none) (hd : (ops.toList.getD i default).dst = d) (hrun : (execOp a.eval (ops.toList.getD i default)).run P w = .ok (.value v) w')
    (hk : wpOps P ops Q rest (a.put d v) w') : wpOps P ops Q (i :: rest) a w := by
  rw [wpOps_cons]
  obtain ⟨o, ho⟩ := Option.isSome_iff_exists.1 ho
  have h1 : ops.toList.getD i default = o := by rw [List.getD_eq_getElem?_getD, ho]; rfl
  rw [h1] at hg hd hrun
  exact step_value (o := o) (by simpa using ho) hg hrun (by rw [hd]; exact hk)
theorem steps_insert {P : Program} {ops : Array Oper} {i : Nat} {rest : List Nat} {Q : Exit → Act → World → Prop} {a : Act} {w : World} {es : Array MapEntry} {clock : Nat}
    {t : TypeId} {xm xk xv : Operand} {n : Int} {val : Value} (ho : (ops.toList[i]?).isSome = true) (hg : (ops.toList.getD i default).guard = none) (hd : (ops.toList.getD i default).dst = none) (hop : (ops.toList.getD i default).op = .insert t xm xk xv)
    (hm : a.eval xm = .map (some w.heap.size)) (hk : a.eval xk = .int .i64 n) (hv : a.eval xv = val) {k e : TypeId} (ht : P.underlying t = some (.map k e)) (hkt : P.underlying k = some (.int .i64))
    (hnew : Instr.findNow (.int .i64) (.int .i64 n) es.toList 0 = some none) (hK : wpOps P ops Q rest a (withMap w (es.push ⟨.int .i64 n, val, clock⟩) (clock + 1))) : wpOps P ops Q (i :: rest) a (withMap w es clock) := by
  rw [wpOps_cons]
  obtain ⟨o, ho⟩ := Option.isSome_iff_exists.1 ho
  have h1 : ops.toList.getD i default = o := by rw [List.getD_eq_getElem?_getD, ho]; rfl
  rw [h1] at hg hd hop
  refine step_skip (o := o) (by simpa using ho) hg (w' := withMap w (es.push ⟨.int .i64 n, val, clock⟩) (clock + 1)) ?_ (by rw [hd]; exact hK)
  simp only [execOp, hop, hm, hk, hv, Sem.run_bind, run_mapUpdate_new ht hkt hnew, Result.andThen_ok, Sem.run_pure]

theorem kinds_calls (w : World) : Calls Tryz.prog 30 #[] w fun e w' => ∃ entries, e = .returned (.map (some w.heap.size)) ∧ w' = withMap w entries 8 ∧ entries.toList.map (fun e => (e.key, e.val)) = kindsV.map fun p => (Value.int .i64 p.1, p.2) := by
  refine calls_of_wp (fn := Tryz.f30) (by kernel_rfl) rfl ?_
  refine wp_seq (wp_region ?_)
  show wpOps _ _ _ [0] _ _
  refine steps_value (d := some 0) (v := .map none) (w' := w) (by kernel_rfl) (by kernel_rfl) (by kernel_rfl) (by kernel_rfl) ?_
  show Code.wp _ _ _ _ _
  refine wp_seq (wp_region ?_)
  show wpOps _ _ _ [0, 1, 2, 3, 4, 5, 6, 7, 8, 9, 10, 11, 12, 13, 14, 15, 16, 17, 18] _ _
  refine steps_value (d := some 1) (v := .map (some w.heap.size)) (w' := withMap w #[] 0) (by kernel_rfl) (by kernel_rfl) (by kernel_rfl) (by kernel_rfl) ?_
  refine steps_value (d := some 2) (v := .agg #[fnV 34, fnV 35, fnV 36, fnV 37]) (w' := withMap w #[] 0) (by kernel_rfl) (by kernel_rfl) (by kernel_rfl) (by kernel_rfl) ?_
  refine steps_insert (t := 90) (xm := .tmp 1) (xk := .const (.int .i64 1)) (xv := .tmp 2) (n := 1) (val := .agg #[fnV 34, fnV 35, fnV 36, fnV 37]) (by kernel_rfl) (by kernel_rfl) (by kernel_rfl) (by kernel_rfl) (by kernel_rfl) (by kernel_rfl) (by kernel_rfl) (k := 3) (e := 89) (by kernel_rfl) (by kernel_rfl) (by kernel_rfl) ?_
  show wpOps _ _ _ _ _ (withMap w #[⟨.int .i64 1, .agg #[fnV 34, fnV 35, fnV 36, fnV 37], 0⟩] 1)
  refine steps_value (d := some 3) (v := .agg #[fnV 38, fnV 39, fnV 41, fnV 43]) (w' := withMap w #[⟨.int .i64 1, .agg #[fnV 34, fnV 35, fnV 36, fnV 37], 0⟩] 1) (by kernel_rfl) (by kernel_rfl) (by kernel_rfl) (by kernel_rfl) ?_
  refine steps_insert (t := 90) (xm := .tmp 1) (xk := .const (.int .i64 2)) (xv := .tmp 3) (n := 2) (val := .agg #[fnV 38, fnV 39, fnV 41, fnV 43]) (by kernel_rfl) (by kernel_rfl) (by kernel_rfl) (by kernel_rfl) (by kernel_rfl) (by kernel_rfl) (by kernel_rfl) (k := 3) (e := 89) (by kernel_rfl) (by kernel_rfl) (by kernel_rfl) ?_
  show wpOps _ _ _ _ _ (withMap w #[⟨.int .i64 1, .agg #[fnV 34, fnV 35, fnV 36, fnV 37], 0⟩, ⟨.int .i64 2, .agg #[fnV 38, fnV 39, fnV 41, fnV 43], 1⟩] 2)
  refine steps_value (d := some 4) (v := .agg #[fnV 45, fnV 46, fnV 48, fnV 49]) (w' := withMap w #[⟨.int .i64 1, .agg #[fnV 34, fnV 35, fnV 36, fnV 37], 0⟩, ⟨.int .i64 2, .agg #[fnV 38, fnV 39, fnV 41, fnV 43], 1⟩] 2) (by kernel_rfl) (by kernel_rfl) (by kernel_rfl) (by kernel_rfl) ?_
  refine steps_insert (t := 90) (xm := .tmp 1) (xk := .const (.int .i64 3)) (xv := .tmp 4) (n := 3) (val := .agg #[fnV 45, fnV 46, fnV 48, fnV 49]) (by kernel_rfl) (by kernel_rfl) (by kernel_rfl) (by kernel_rfl) (by kernel_rfl) (by kernel_rfl) (by kernel_rfl) (k := 3) (e := 89) (by kernel_rfl) (by kernel_rfl) (by kernel_rfl) ?_
  show wpOps _ _ _ _ _ (withMap w #[⟨.int .i64 1, .agg #[fnV 34, fnV 35, fnV 36, fnV 37], 0⟩, ⟨.int .i64 2, .agg #[fnV 38, fnV 39, fnV 41, fnV 43], 1⟩, ⟨.int .i64 3, .agg #[fnV 45, fnV 46, fnV 48, fnV 49], 2⟩] 3)
  refine steps_value (d := some 5) (v := .agg #[fnV 50, fnV 51, fnV 53, fnV 55]) (w' := withMap w #[⟨.int .i64 1, .agg #[fnV 34, fnV 35, fnV 36, fnV 37], 0⟩, ⟨.int .i64 2, .agg #[fnV 38, fnV 39, fnV 41, fnV 43], 1⟩, ⟨.int .i64 3, .agg #[fnV 45, fnV 46, fnV 48, fnV 49], 2⟩] 3) (by kernel_rfl) (by kernel_rfl) (by kernel_rfl) (by kernel_rfl) ?_
  refine steps_insert (t := 90) (xm := .tmp 1) (xk := .const (.int .i64 4)) (xv := .tmp 5) (n := 4) (val := .agg #[fnV 50, fnV 51, fnV 53, fnV 55]) (by kernel_rfl) (by kernel_rfl) (by kernel_rfl) (by kernel_rfl) (by kernel_rfl) (by kernel_rfl) (by kernel_rfl) (k := 3) (e := 89) (by kernel_rfl) (by kernel_rfl) (by kernel_rfl) ?_
  show wpOps _ _ _ _ _ (withMap w #[⟨.int .i64 1, .agg #[fnV 34, fnV 35, fnV 36, fnV 37], 0⟩, ⟨.int .i64 2, .agg #[fnV 38, fnV 39, fnV 41, fnV 43], 1⟩, ⟨.int .i64 3, .agg #[fnV 45, fnV 46, fnV 48, fnV 49], 2⟩, ⟨.int .i64 4, .agg #[fnV 50, fnV 51, fnV 53, fnV 55], 3⟩] 4)
  refine steps_value (d := some 6) (v := .agg #[fnV 57, fnV 58, fnV 60, fnV 61]) (w' := withMap w #[⟨.int .i64 1, .agg #[fnV 34, fnV 35, fnV 36, fnV 37], 0⟩, ⟨.int .i64 2, .agg #[fnV 38, fnV 39, fnV 41, fnV 43], 1⟩, ⟨.int .i64 3, .agg #[fnV 45, fnV 46, fnV 48, fnV 49], 2⟩, ⟨.int .i64 4, .agg #[fnV 50, fnV 51, fnV 53, fnV 55], 3⟩] 4) (by kernel_rfl) (by kernel_rfl) (by kernel_rfl) (by kernel_rfl) ?_
  refine steps_insert (t := 90) (xm := .tmp 1) (xk := .const (.int .i64 5)) (xv := .tmp 6) (n := 5) (val := .agg #[fnV 57, fnV 58, fnV 60, fnV 61]) (by kernel_rfl) (by kernel_rfl) (by kernel_rfl) (by kernel_rfl) (by kernel_rfl) (by kernel_rfl) (by kernel_rfl) (k := 3) (e := 89) (by kernel_rfl) (by kernel_rfl) (by kernel_rfl) ?_
  show wpOps _ _ _ _ _ (withMap w #[⟨.int .i64 1, .agg #[fnV 34, fnV 35, fnV 36, fnV 37], 0⟩, ⟨.int .i64 2, .agg #[fnV 38, fnV 39, fnV 41, fnV 43], 1⟩, ⟨.int .i64 3, .agg #[fnV 45, fnV 46, fnV 48, fnV 49], 2⟩, ⟨.int .i64 4, .agg #[fnV 50, fnV 51, fnV 53, fnV 55], 3⟩, ⟨.int .i64 5, .agg #[fnV 57, fnV 58, fnV 60, fnV 61], 4⟩] 5)
  refine steps_value (d := some 7) (v := .agg #[fnV 62, fnV 63, fnV 65, fnV 67]) (w' := withMap w #[⟨.int .i64 1, .agg #[fnV 34, fnV 35, fnV 36, fnV 37], 0⟩, ⟨.int .i64 2, .agg #[fnV 38, fnV 39, fnV 41, fnV 43], 1⟩, ⟨.int .i64 3, .agg #[fnV 45, fnV 46, fnV 48, fnV 49], 2⟩, ⟨.int .i64 4, .agg #[fnV 50, fnV 51, fnV 53, fnV 55], 3⟩, ⟨.int .i64 5, .agg #[fnV 57, fnV 58, fnV 60, fnV 61], 4⟩] 5) (by kernel_rfl) (by kernel_rfl) (by kernel_rfl) (by kernel_rfl) ?_
  refine steps_insert (t := 90) (xm := .tmp 1) (xk := .const (.int .i64 6)) (xv := .tmp 7) (n := 6) (val := .agg #[fnV 62, fnV 63, fnV 65, fnV 67]) (by kernel_rfl) (by kernel_rfl) (by kernel_rfl) (by kernel_rfl) (by kernel_rfl) (by kernel_rfl) (by kernel_rfl) (k := 3) (e := 89) (by kernel_rfl) (by kernel_rfl) (by kernel_rfl) ?_
  show wpOps _ _ _ _ _ (withMap w #[⟨.int .i64 1, .agg #[fnV 34, fnV 35, fnV 36, fnV 37], 0⟩, ⟨.int .i64 2, .agg #[fnV 38, fnV 39, fnV 41, fnV 43], 1⟩, ⟨.int .i64 3, .agg #[fnV 45, fnV 46, fnV 48, fnV 49], 2⟩, ⟨.int .i64 4, .agg #[fnV 50, fnV 51, fnV 53, fnV 55], 3⟩, ⟨.int .i64 5, .agg #[fnV 57, fnV 58, fnV 60, fnV 61], 4⟩, ⟨.int .i64 6, .agg #[fnV 62, fnV 63, fnV 65, fnV 67], 5⟩] 6)
  refine steps_value (d := some 8) (v := .agg #[fnV 69, fnV 70, fnV 72, fnV 74]) (w' := withMap w #[⟨.int .i64 1, .agg #[fnV 34, fnV 35, fnV 36, fnV 37], 0⟩, ⟨.int .i64 2, .agg #[fnV 38, fnV 39, fnV 41, fnV 43], 1⟩, ⟨.int .i64 3, .agg #[fnV 45, fnV 46, fnV 48, fnV 49], 2⟩, ⟨.int .i64 4, .agg #[fnV 50, fnV 51, fnV 53, fnV 55], 3⟩, ⟨.int .i64 5, .agg #[fnV 57, fnV 58, fnV 60, fnV 61], 4⟩, ⟨.int .i64 6, .agg #[fnV 62, fnV 63, fnV 65, fnV 67], 5⟩] 6) (by kernel_rfl) (by kernel_rfl) (by kernel_rfl) (by kernel_rfl) ?_
  refine steps_insert (t := 90) (xm := .tmp 1) (xk := .const (.int .i64 7)) (xv := .tmp 8) (n := 7) (val := .agg #[fnV 69, fnV 70, fnV 72, fnV 74]) (by kernel_rfl) (by kernel_rfl) (by kernel_rfl) (by kernel_rfl) (by kernel_rfl) (by kernel_rfl) (by kernel_rfl) (k := 3) (e := 89) (by kernel_rfl) (by kernel_rfl) (by kernel_rfl) ?_
  show wpOps _ _ _ _ _ (withMap w #[⟨.int .i64 1, .agg #[fnV 34, fnV 35, fnV 36, fnV 37], 0⟩, ⟨.int .i64 2, .agg #[fnV 38, fnV 39, fnV 41, fnV 43], 1⟩, ⟨.int .i64 3, .agg #[fnV 45, fnV 46, fnV 48, fnV 49], 2⟩, ⟨.int .i64 4, .agg #[fnV 50, fnV 51, fnV 53, fnV 55], 3⟩, ⟨.int .i64 5, .agg #[fnV 57, fnV 58, fnV 60, fnV 61], 4⟩, ⟨.int .i64 6, .agg #[fnV 62, fnV 63, fnV 65, fnV 67], 5⟩, ⟨.int .i64 7, .agg #[fnV 69, fnV 70, fnV 72, fnV 74], 6⟩] 7)
  refine steps_value (d := some 9) (v := .agg #[fnV 76, fnV 77, fnV 79, fnV 81]) (w' := withMap w #[⟨.int .i64 1, .agg #[fnV 34, fnV 35, fnV 36, fnV 37], 0⟩, ⟨.int .i64 2, .agg #[fnV 38, fnV 39, fnV 41, fnV 43], 1⟩, ⟨.int .i64 3, .agg #[fnV 45, fnV 46, fnV 48, fnV 49], 2⟩, ⟨.int .i64 4, .agg #[fnV 50, fnV 51, fnV 53, fnV 55], 3⟩, ⟨.int .i64 5, .agg #[fnV 57, fnV 58, fnV 60, fnV 61], 4⟩, ⟨.int .i64 6, .agg #[fnV 62, fnV 63, fnV 65, fnV 67], 5⟩, ⟨.int .i64 7, .agg #[fnV 69, fnV 70, fnV 72, fnV 74], 6⟩] 7) (by kernel_rfl) (by kernel_rfl) (by kernel_rfl) (by kernel_rfl) ?_
  refine steps_insert (t := 90) (xm := .tmp 1) (xk := .const (.int .i64 8)) (xv := .tmp 9) (n := 8) (val := .agg #[fnV 76, fnV 77, fnV 79, fnV 81]) (by kernel_rfl) (by kernel_rfl) (by kernel_rfl) (by kernel_rfl) (by kernel_rfl) (by kernel_rfl) (by kernel_rfl) (k := 3) (e := 89) (by kernel_rfl) (by kernel_rfl) (by kernel_rfl) ?_
  show wpOps _ _ _ _ _ (withMap w #[⟨.int .i64 1, .agg #[fnV 34, fnV 35, fnV 36, fnV 37], 0⟩, ⟨.int .i64 2, .agg #[fnV 38, fnV 39, fnV 41, fnV 43], 1⟩, ⟨.int .i64 3, .agg #[fnV 45, fnV 46, fnV 48, fnV 49], 2⟩, ⟨.int .i64 4, .agg #[fnV 50, fnV 51, fnV 53, fnV 55], 3⟩, ⟨.int .i64 5, .agg #[fnV 57, fnV 58, fnV 60, fnV 61], 4⟩, ⟨.int .i64 6, .agg #[fnV 62, fnV 63, fnV 65, fnV 67], 5⟩, ⟨.int .i64 7, .agg #[fnV 69, fnV 70, fnV 72, fnV 74], 6⟩, ⟨.int .i64 8, .agg #[fnV 76, fnV 77, fnV 79, fnV 81], 7⟩] 8)
  refine steps_value (d := some 10) (v := .map (some w.heap.size)) (w' := withMap w #[⟨.int .i64 1, .agg #[fnV 34, fnV 35, fnV 36, fnV 37], 0⟩, ⟨.int .i64 2, .agg #[fnV 38, fnV 39, fnV 41, fnV 43], 1⟩, ⟨.int .i64 3, .agg #[fnV 45, fnV 46, fnV 48, fnV 49], 2⟩, ⟨.int .i64 4, .agg #[fnV 50, fnV 51, fnV 53, fnV 55], 3⟩, ⟨.int .i64 5, .agg #[fnV 57, fnV 58, fnV 60, fnV 61], 4⟩, ⟨.int .i64 6, .agg #[fnV 62, fnV 63, fnV 65, fnV 67], 5⟩, ⟨.int .i64 7, .agg #[fnV 69, fnV 70, fnV 72, fnV 74], 6⟩, ⟨.int .i64 8, .agg #[fnV 76, fnV 77, fnV 79, fnV 81], 7⟩] 8) (by kernel_rfl) (by kernel_rfl) (by kernel_rfl) (by kernel_rfl) ?_
  refine steps_value (d := some 0) (v := .map (some w.heap.size)) (w' := withMap w #[⟨.int .i64 1, .agg #[fnV 34, fnV 35, fnV 36, fnV 37], 0⟩, ⟨.int .i64 2, .agg #[fnV 38, fnV 39, fnV 41, fnV 43], 1⟩, ⟨.int .i64 3, .agg #[fnV 45, fnV 46, fnV 48, fnV 49], 2⟩, ⟨.int .i64 4, .agg #[fnV 50, fnV 51, fnV 53, fnV 55], 3⟩, ⟨.int .i64 5, .agg #[fnV 57, fnV 58, fnV 60, fnV 61], 4⟩, ⟨.int .i64 6, .agg #[fnV 62, fnV 63, fnV 65, fnV 67], 5⟩, ⟨.int .i64 7, .agg #[fnV 69, fnV 70, fnV 72, fnV 74], 6⟩, ⟨.int .i64 8, .agg #[fnV 76, fnV 77, fnV 79, fnV 81], 7⟩] 8) (by kernel_rfl) (by kernel_rfl) (by kernel_rfl) (by kernel_rfl) ?_

  show Code.wp _ _ _ _ _
  refine wp_ret ⟨rfl, .map (some w.heap.size), by kernel_rfl, _, rfl, rfl, by kernel_rfl⟩

theorem kinds_ok : PureOk Tryz.prog 30 kindsPure where
  sound := by
    intro args v cs h
    unfold kindsPure at h
    split at h
    · simp only [Option.some.injEq, Prod.mk.injEq] at h
      obtain ⟨rfl, rfl⟩ := h
      refine ⟨rfl, fun A w vs hA _ hargs => ?_⟩
      obtain rfl := hargs.nil_inv
      refine .inl ⟨callFunc_enter (fn := Tryz.f30) (c := codeOf Tryz.f30) (by kernel_rfl) (by kernel_rfl) (by kernel_rfl) _ _, (kinds_calls w).mono ?_⟩
      rintro e w' ⟨entries, rfl, rfl, he⟩
      refine ⟨_, rfl, .c _ _ (.mp kindsV w.heap.size 8 entries (fun h => absurd (hA _ h) (Nat.lt_irrefl _)) (by unfold withMap; rw [World.size_alloc]; omega) ?_ he), (RowKit.Below.refl _ w).alloc (Nat.le_refl _) _⟩
      show (w.heap.push _)[w.heap.size]? = _
      simp
    · cases h

def Γk : FuncId → Option Spec := fun f => bif Nat.beq f 30 then some (pureSpec kindsPure) else bif Nat.beq f 241 then some (pureSpec cmpPure) else bif Nat.beq f 248 then some (pureSpec addPure) else none

theorem cmp_ext : ExtOk Tryz.prog 241 Extern.BytealgCompare.compare := ⟨Tryz.f241, by kernel_rfl, by kernel_rfl, by kernel_rfl, by kernel_rfl, by kernel_rfl⟩
theorem add_ext : ExtOk Tryz.prog 248 addExt := ⟨Tryz.f248, by kernel_rfl, by kernel_rfl, by kernel_rfl, by kernel_rfl, by kernel_rfl⟩
theorem Γk_ok : ∀ f s, Γk f = some s → SpecOk Tryz.prog f s := by
  intro f s h
  unfold Γk at h
  cases h1 : Nat.beq f 30 with
  | true =>
    obtain rfl : f = 30 := by simpa using h1
    rw [h1] at h
    cases h
    exact kinds_ok.spec
  | false =>
    rw [h1] at h
    simp only [cond_false] at h
    cases h2 : Nat.beq f 241 with
    | true =>
      obtain rfl : f = 241 := by simpa using h2
      rw [h2] at h
      cases h
      exact (cmp_ok cmp_ext).spec
    | false =>
      rw [h2] at h
      simp only [cond_false] at h
      cases h3 : Nat.beq f 248 with
      | true =>
        obtain rfl : f = 248 := by simpa using h3
        rw [h3] at h
        cases h
        exact (add_ok add_ext).spec
      | false => rw [h3] at h; cases h

theorem prog_mixed' : Tryz.prog.follows .mixedOrders = true := by kernel_rfl
theorem known_run : concPure Tryz.prog (concΓ Tryz.prog Γk 70 14) 70 Tryz.f7 [] = some (boolA true, []) := by kernel_rfl
def knownK : List AV → Option (AV × List Bool)
  | [] => some (boolA true, [])
  | _ => none
theorem known_ok : PureOk Tryz.prog 7 knownK where
  sound := by
    intro args v cs h
    unfold knownK at h
    split at h
    · exact (concPure_ok (N := 70) prog_mixed' (concΓ_ok (N := 70) prog_mixed' Γk_ok 14) (f := 7) (fn := Tryz.f7) (c := codeOf Tryz.f7) (by kernel_rfl) (by kernel_rfl) (by kernel_rfl)).sound [] v cs (by rw [known_run]; exact h)
    · cases h
end Go.Vse

set_option maxRecDepth 100000
namespace Go.Vse
open Go.Proofs
def Γ6 : FuncId → Option Spec := fun f => bif Nat.beq f 13 then some (memSpec K13) else none
def Γ9 : FuncId → Option Spec := fun f => bif Nat.beq f 16 then some (memSpec K16) else none
def M6 (n : Int) : Tr AV :=
Tr.need (rangeB n)
  (Tr.need (decide ((leb (zig n)).length ≤ (leb (zig n)).length))
    (Tr.need (isBytes (leb (zig n)).length (byteEl (leb (zig n))))
      (Tr.ret (AV.c (IV.v (Value.string { data := { toList := bytesOf (leb (zig n)).length (byteEl (leb (zig n))) } }))))))
def M9 (s : ByteArray) (p : Int) : Tr AV :=
let x1 : Int := rdErr (rdAll s p)
let x2 : Int := ↑s.data.toList.length
Tr.ite (decide (p < 0))
  (Tr.ite true (Tr.ret (AV.tup [AV.c (IV.v (Value.int IntKind.i64 0)), AV.c (IV.v (Value.int IntKind.i64 0)), AV.c (IV.v (Value.int IntKind.i64 2))]))
    (Tr.need true
      (Tr.need (decide (0 ≤ p))
        (Tr.need (decide (s.data.toList.length ≤ 4611686018427387904))
          (Tr.ite (x1 != 0)
            (Tr.ret (AV.tup [AV.c (IV.v (Value.int IntKind.i64 0)), AV.c (IV.v (Value.int IntKind.i64 0)), AV.c (IV.v (Value.int IntKind.i64 x1))]))
            (Tr.ret
              (AV.tup
                [AV.c (IV.v (Value.int IntKind.i64 ((rdAll s p).fst.getD 0))), AV.c (IV.v (Value.int IntKind.i64 ↑(rdAll s p).snd.fst)),
                  AV.c (IV.v (Value.int IntKind.i64 0))])))))))
  (Tr.ite (bif false then true else decide (p > x2))
    (Tr.ret (AV.tup [AV.c (IV.v (Value.int IntKind.i64 0)), AV.c (IV.v (Value.int IntKind.i64 0)), AV.c (IV.v (Value.int IntKind.i64 2))]))
    (Tr.need true
      (Tr.need (decide (0 ≤ p))
        (Tr.need (decide (s.data.toList.length ≤ 4611686018427387904))
          (Tr.ite (x1 != 0)
            (Tr.ret (AV.tup [AV.c (IV.v (Value.int IntKind.i64 0)), AV.c (IV.v (Value.int IntKind.i64 0)), AV.c (IV.v (Value.int IntKind.i64 x1))]))
            (Tr.ret
              (AV.tup
                [AV.c (IV.v (Value.int IntKind.i64 ((rdAll s p).fst.getD 0))), AV.c (IV.v (Value.int IntKind.i64 ↑(rdAll s p).snd.fst)),
                  AV.c (IV.v (Value.int IntKind.i64 0))])))))))

theorem M6_eq (n : Int) : execFn Tryz.prog Γ6 noL 10 Tryz.f6 [intA .i64 n] = M6 n := by kernel_rfl
theorem M9_eq (s : ByteArray) (p : Int) : execFn Tryz.prog Γ9 noL 10 Tryz.f9 [.c (.v (.string s)), intA .i64 p] = M9 s p := by kernel_rfl

theorem one_ok {P : Program} {f : FuncId} {s : Spec} (h : SpecOk P f s) : ∀ g t, (bif Nat.beq g f then some s else none) = some t → SpecOk P g t := by
  intro g t hg
  cases hf : Nat.beq g f with
  | true =>
    obtain rfl : g = f := by simpa using hf
    rw [hf] at hg
    cases hg
    exact h
  | false => rw [hf] at hg; cases hg

def numK' : List AV → Option (AV × List Bool)
  | [.c (.v (.int .i64 n))] => some (strA (leb (zig n)), [rangeB n])
  | _ => none
theorem f6_ok : PureOk Tryz.prog 6 numK' := by
  refine pureOk_of_exec prog_mixed (Γ := Γ6) (one_ok f13_ok.spec) (fn := Tryz.f6) (c := codeOf Tryz.f6) (by kernel_rfl) (by kernel_rfl) (callFunc_enter (fn := Tryz.f6) (c := codeOf Tryz.f6) (by kernel_rfl) (by kernel_rfl) (by kernel_rfl)) (L := noL) (N := 10) (blocksOk_none _ _) ?_ ?_
  · intro args v cs h
    unfold numK' at h
    split at h
    · cases h; rfl
    · cases h
  · intro args v cs h hc
    unfold numK' at h
    split at h
    · rename_i n
      cases h
      have hr := hc (rangeB n) (List.mem_singleton.2 rfl)
      change Tr.sat _ (execFn Tryz.prog Γ6 noL 10 Tryz.f6 [intA .i64 n])
      rw [M6_eq]
      refine sat_need hr (sat_need (decide_eq_true (Nat.le_refl _)) (sat_need (isBytes_byteEl _ _) (sat_ret ⟨rfl, ?_⟩)))
      rw [bytesOf_byteEl]
      exact Sees.refl _
    · cases h

/-- what ReadNumber gives -/
def rn (s : ByteArray) (p : Int) : Int × Int × Int :=
  if p < 0 ∨ p > (s.data.toList.length : Nat) then (0, 0, 2) else
  if rdErr (rdAll s p) ≠ 0 then (0, 0, rdErr (rdAll s p)) else ((rdAll s p).1.getD 0, ((rdAll s p).2.1 : Nat), 0)
def rnK : List AV → Option (AV × List Bool)
  | [.c (.v (.string s)), .c (.v (.int .i64 p))] => some (.tup [intA .i64 (rn s p).1, intA .i64 (rn s p).2.1, intA .i64 (rn s p).2.2], [decide (s.data.toList.length ≤ 4611686018427387904)])
  | _ => none

theorem M9_sat (s : ByteArray) (p : Int) (hl : s.data.toList.length ≤ 4611686018427387904) : (M9 s p).sat fun r => r = .tup [intA .i64 (rn s p).1, intA .i64 (rn s p).2.1, intA .i64 (rn s p).2.2] := by
  have body : ¬ (p < 0 ∨ p > (s.data.toList.length : Nat)) → ∀ (t : Tr AV), t = (Tr.ite (rdErr (rdAll s p) != 0)
            (Tr.ret (AV.tup [AV.c (IV.v (Value.int IntKind.i64 0)), AV.c (IV.v (Value.int IntKind.i64 0)), AV.c (IV.v (Value.int IntKind.i64 (rdErr (rdAll s p))))]))
            (Tr.ret
              (AV.tup
                [AV.c (IV.v (Value.int IntKind.i64 ((rdAll s p).fst.getD 0))), AV.c (IV.v (Value.int IntKind.i64 ↑(rdAll s p).snd.fst)),
                  AV.c (IV.v (Value.int IntKind.i64 0))]))) → t.sat fun r => r = .tup [intA .i64 (rn s p).1, intA .i64 (rn s p).2.1, intA .i64 (rn s p).2.2] := by
    intro hn t ht
    subst ht
    unfold rn
    rw [if_neg hn]
    refine sat_ite (fun h => ?_) (fun h => ?_)
    · have h : rdErr (rdAll s p) ≠ 0 := by simpa using h
      rw [if_pos h]
      rfl
    · have h : ¬ rdErr (rdAll s p) ≠ 0 := by simpa using h
      rw [if_neg h]
      rfl
  refine sat_ite (fun h => ?_) (fun h => ?_)
  · have h := of_decide_eq_true h
    refine sat_ite (fun _ => ?_) (fun h => by cases h)
    unfold rn
    rw [if_pos (.inl h)]
    rfl
  · have h := of_decide_eq_false h
    refine sat_ite (fun h2 => ?_) (fun h2 => ?_)
    · have h2 : p > (s.data.toList.length : Nat) := of_decide_eq_true h2
      unfold rn
      rw [if_pos (.inr h2)]
      rfl
    · have h2 : ¬ p > (s.data.toList.length : Nat) := of_decide_eq_false h2
      refine sat_need rfl (sat_need (decide_eq_true (by omega)) (sat_need (decide_eq_true hl) ?_))
      exact body (by omega) _ rfl

theorem f9_ok : PureOk Tryz.prog 9 rnK := by
  refine pureOk_of_exec prog_mixed (Γ := Γ9) (one_ok f16_ok.spec) (fn := Tryz.f9) (c := codeOf Tryz.f9) (by kernel_rfl) (by kernel_rfl) (callFunc_enter (fn := Tryz.f9) (c := codeOf Tryz.f9) (by kernel_rfl) (by kernel_rfl) (by kernel_rfl)) (L := noL) (N := 10) (blocksOk_none _ _) ?_ ?_
  · intro args v cs h
    unfold rnK at h
    split at h
    · cases h; rfl
    · cases h
  · intro args v cs h hc
    unfold rnK at h
    split at h
    · rename_i s p
      cases h
      have hr := dec (hc (decide (s.data.toList.length ≤ 4611686018427387904)) (List.mem_singleton.2 rfl))
      have hs := M9_sat s p hr
      rw [← M9_eq] at hs
      exact Tr.sat_mono (fun r hr => by subst hr; exact ⟨rfl, Sees.refl _⟩) hs
    · cases h
end Go.Vse

set_option maxRecDepth 100000
namespace Go.Vse
open Go.Proofs

theorem getD_mid (a b : List UInt8) (x : UInt8) : (a ++ x :: b).getD a.length 0 = x := by
  simp [List.getD_eq_getElem?_getD]

/-- a form is read back, wherever it stands -/
theorem rdN_leb : ∀ (f u acc sh : Nat) (a b : List UInt8), sh + 7 * (f + 1) = 70 → u * 2 ^ sh < 18446744073709551616 → (sh > 0 → u > 0) →
    rdN (a ++ (lebInit (f + 1) u ++ [UInt8.ofNat (lebLast (f + 1) u)]) ++ b) (f + 1) acc sh a.length = (some (unzig (acc + u * 2 ^ sh)), a.length + (lebInit (f + 1) u).length + 1, 0)
  | f, u, acc, sh, a, b, hf, hb, h0 => by
    have h63 : sh = 63 → u ≤ 1 := by
      rintro rfl
      omega
    by_cases hu : u < 128
    · have e1 : lebInit (f + 1) u = [] := by simp [lebInit, hu]
      have e2 : lebLast (f + 1) u = u := by simp [lebLast, hu]
      rw [e1, e2]
      simp only [List.nil_append, List.append_assoc, List.singleton_append, List.cons_append, rdN]
      have hl : ¬ a.length ≥ (a ++ UInt8.ofNat u :: b).length := by simp
      rw [if_neg hl, getD_mid]
      have hc : (UInt8.ofNat u).toNat = u := by simp only [UInt8.toNat_ofNat']; omega
      rw [hc, if_neg (by omega), if_pos hu, Nat.mod_eq_of_lt hu]
      simp
    · have e1 : lebInit (f + 1) u = UInt8.ofNat (u % 128 + 128) :: lebInit f (u / 128) := by simp [lebInit, hu]
      have e2 : lebLast (f + 1) u = lebLast f (u / 128) := by simp [lebLast, hu]
      rw [e1, e2]
      cases f with
      | zero =>
        have : sh = 63 := by omega
        have := h63 this
        omega
      | succ f =>
        have ih := rdN_leb f (u / 128) (acc + u % 128 * 2 ^ sh) (sh + 7) (a ++ [UInt8.ofNat (u % 128 + 128)]) b (by omega) (by
            have h1 : u / 128 * 2 ^ (sh + 7) ≤ u * 2 ^ sh := by
              rw [Nat.pow_add, Nat.mul_comm (2 ^ sh), ← Nat.mul_assoc]
              exact Nat.mul_le_mul_right _ (Nat.div_mul_le_self u 128)
            omega) (fun _ => by omega)
        have el : a ++ (UInt8.ofNat (u % 128 + 128) :: lebInit (f + 1) (u / 128) ++ [UInt8.ofNat (lebLast (f + 1) (u / 128))]) ++ b =
            (a ++ [UInt8.ofNat (u % 128 + 128)]) ++ (lebInit (f + 1) (u / 128) ++ [UInt8.ofNat (lebLast (f + 1) (u / 128))]) ++ b := by simp
        have el2 : a ++ (UInt8.ofNat (u % 128 + 128) :: lebInit (f + 1) (u / 128) ++ [UInt8.ofNat (lebLast (f + 1) (u / 128))]) ++ b =
            a ++ UInt8.ofNat (u % 128 + 128) :: (lebInit (f + 1) (u / 128) ++ [UInt8.ofNat (lebLast (f + 1) (u / 128))] ++ b) := by simp
        rw [rdN]
        have hl : ¬ a.length ≥ (a ++ (UInt8.ofNat (u % 128 + 128) :: lebInit (f + 1) (u / 128) ++ [UInt8.ofNat (lebLast (f + 1) (u / 128))]) ++ b).length := by simp
        rw [if_neg hl]
        have hg : (a ++ (UInt8.ofNat (u % 128 + 128) :: lebInit (f + 1) (u / 128) ++ [UInt8.ofNat (lebLast (f + 1) (u / 128))]) ++ b).getD a.length 0 = UInt8.ofNat (u % 128 + 128) := by
          rw [el2, getD_mid]
        have hc : (UInt8.ofNat (u % 128 + 128)).toNat = u % 128 + 128 := by simp only [UInt8.toNat_ofNat']; omega
        dsimp only
        rw [hg, hc, if_neg (by omega), if_neg (by omega)]
        have hm : (u % 128 + 128) % 128 = u % 128 := by omega
        rw [hm, el]
        have hp : (a ++ [UInt8.ofNat (u % 128 + 128)]).length = a.length + 1 := by simp
        rw [hp] at ih
        rw [ih]
        have ha : acc + u % 128 * 2 ^ sh + u / 128 * 2 ^ (sh + 7) = acc + u * 2 ^ sh := by
          have h1 : u / 128 * 2 ^ (sh + 7) = u / 128 * 128 * 2 ^ sh := by
            rw [Nat.pow_add, Nat.mul_comm (2 ^ sh), ← Nat.mul_assoc]
          have h2 : u % 128 * 2 ^ sh + u / 128 * 128 * 2 ^ sh = u * 2 ^ sh := by
            rw [← Nat.add_mul]
            congr 1
            omega
          omega
        rw [ha]
        simp only [List.length_cons]
        congr 2
        omega

theorem unzig_zig (n : Int) : unzig (zig n) = n := by
  unfold unzig zig
  split <;> split <;> omega

theorem rn_form (n : Int) (h : -9223372036854775808 ≤ n ∧ n ≤ 9223372036854775807) (a b : ByteArray) :
    rn (a ++ ⟨⟨leb (zig n)⟩⟩ ++ b) (a.data.toList.length : Nat) = (n, ((a.data.toList.length + (leb (zig n)).length : Nat) : Int), 0) := by
  have hz := zig_lt h
  have hd : (a ++ ⟨⟨leb (zig n)⟩⟩ ++ b).data.toList = a.data.toList ++ leb (zig n) ++ b.data.toList := by simp
  have hr := rdN_leb 9 (zig n) 0 0 a.data.toList b.data.toList (by omega) (by omega) (by omega)
  have hall : rdAll (a ++ ⟨⟨leb (zig n)⟩⟩ ++ b) (a.data.toList.length : Nat) = (some n, a.data.toList.length + (leb (zig n)).length, 0) := by
    unfold rdAll
    rw [hd, Int.toNat_natCast]
    unfold leb
    rw [hr]
    simp [unzig_zig]
    omega
  unfold rn
  rw [hall, hd]
  rw [if_neg (by simp; omega)]
  simp [rdErr]
end Go.Vse

set_option maxRecDepth 100000
namespace Go.Vse
open Go.Proofs
def ΓC : FuncId → Option Spec := fun f => bif Nat.beq f 6 then some (pureSpec numK') else bif Nat.beq f 7 then some (pureSpec knownK) else bif Nat.beq f 8 then some (pureSpec numK) else bif Nat.beq f 9 then some (pureSpec rnK) else none
def M3 (n : Int) (a : ByteArray) (b : ByteArray) : Tr AV :=
let x1 : ByteArray := { data := { toList := leb (zig n) } }
let x2 : Nat := a.size + x1.size
let x3 : ByteArray := a ++ x1
let x4 : Nat := x3.size + b.size
let x5 : List UInt8 := a.data.toList
let x6 : List UInt8 := b.data.toList
let x7 : Nat := (x5 ++ leb (zig n) ++ x6).length
let x8 : Int := ↑x5.length
let x9 : Int := ↑x6.length
Tr.need (rangeB n)
  (Tr.ite false
    (Tr.ite true
      (Tr.ite true
        (Tr.ite true
          (Tr.ite true
            (Tr.need (decide (-9223372036854775808 ≤ n) && decide (n ≤ 9223372036854775807))
              (Tr.ret (AV.c (IV.v (Value.bool (bif true then leb (zig n) == leb (zig n) else false))))))
            (Tr.ret (AV.c (IV.v (Value.bool false)))))
          (Tr.need (decide (x2 ≤ 9223372036854775807))
            (Tr.need (decide (x4 ≤ 9223372036854775807))
              (Tr.need (decide (x7 ≤ 4611686018427387904))
                (Tr.ite ((rn (x3 ++ b) x8).fst == n)
                  (Tr.ite (bif true then (rn (x3 ++ b) x8).snd.fst == IntKind.i64.wrap (x8 + ↑(leb (zig n)).length) else false)
                    (Tr.ret (AV.c (IV.v (Value.bool (bif true then (rn (x3 ++ b) x8).snd.snd == 0 else false))))) (Tr.ret (AV.c (IV.v (Value.bool false)))))
                  (Tr.ite false (Tr.ret (AV.c (IV.v (Value.bool (bif true then (rn (x3 ++ b) x8).snd.snd == 0 else false)))))
                    (Tr.ret (AV.c (IV.v (Value.bool false))))))))))
        (Tr.ite (bif false then true else decide (x9 > 100))
          (Tr.ite true
            (Tr.need (decide (-9223372036854775808 ≤ n) && decide (n ≤ 9223372036854775807))
              (Tr.ret (AV.c (IV.v (Value.bool (bif true then leb (zig n) == leb (zig n) else false))))))
            (Tr.ret (AV.c (IV.v (Value.bool false)))))
          (Tr.need (decide (x2 ≤ 9223372036854775807))
            (Tr.need (decide (x4 ≤ 9223372036854775807))
              (Tr.need (decide (x7 ≤ 4611686018427387904))
                (Tr.ite ((rn (x3 ++ b) x8).fst == n)
                  (Tr.ite (bif true then (rn (x3 ++ b) x8).snd.fst == IntKind.i64.wrap (x8 + ↑(leb (zig n)).length) else false)
                    (Tr.ret (AV.c (IV.v (Value.bool (bif true then (rn (x3 ++ b) x8).snd.snd == 0 else false))))) (Tr.ret (AV.c (IV.v (Value.bool false)))))
                  (Tr.ite false (Tr.ret (AV.c (IV.v (Value.bool (bif true then (rn (x3 ++ b) x8).snd.snd == 0 else false)))))
                    (Tr.ret (AV.c (IV.v (Value.bool false)))))))))))
      (Tr.ite (bif false then true else decide (x8 > 100))
        (Tr.ite true
          (Tr.ite true
            (Tr.need (decide (-9223372036854775808 ≤ n) && decide (n ≤ 9223372036854775807))
              (Tr.ret (AV.c (IV.v (Value.bool (bif true then leb (zig n) == leb (zig n) else false))))))
            (Tr.ret (AV.c (IV.v (Value.bool false)))))
          (Tr.need (decide (x2 ≤ 9223372036854775807))
            (Tr.need (decide (x4 ≤ 9223372036854775807))
              (Tr.need (decide (x7 ≤ 4611686018427387904))
                (Tr.ite ((rn (x3 ++ b) x8).fst == n)
                  (Tr.ite (bif true then (rn (x3 ++ b) x8).snd.fst == IntKind.i64.wrap (x8 + ↑(leb (zig n)).length) else false)
                    (Tr.ret (AV.c (IV.v (Value.bool (bif true then (rn (x3 ++ b) x8).snd.snd == 0 else false))))) (Tr.ret (AV.c (IV.v (Value.bool false)))))
                  (Tr.ite false (Tr.ret (AV.c (IV.v (Value.bool (bif true then (rn (x3 ++ b) x8).snd.snd == 0 else false)))))
                    (Tr.ret (AV.c (IV.v (Value.bool false))))))))))
        (Tr.ite (bif false then true else decide (x9 > 100))
          (Tr.ite true
            (Tr.need (decide (-9223372036854775808 ≤ n) && decide (n ≤ 9223372036854775807))
              (Tr.ret (AV.c (IV.v (Value.bool (bif true then leb (zig n) == leb (zig n) else false))))))
            (Tr.ret (AV.c (IV.v (Value.bool false)))))
          (Tr.need (decide (x2 ≤ 9223372036854775807))
            (Tr.need (decide (x4 ≤ 9223372036854775807))
              (Tr.need (decide (x7 ≤ 4611686018427387904))
                (Tr.ite ((rn (x3 ++ b) x8).fst == n)
                  (Tr.ite (bif true then (rn (x3 ++ b) x8).snd.fst == IntKind.i64.wrap (x8 + ↑(leb (zig n)).length) else false)
                    (Tr.ret (AV.c (IV.v (Value.bool (bif true then (rn (x3 ++ b) x8).snd.snd == 0 else false))))) (Tr.ret (AV.c (IV.v (Value.bool false)))))
                  (Tr.ite false (Tr.ret (AV.c (IV.v (Value.bool (bif true then (rn (x3 ++ b) x8).snd.snd == 0 else false)))))
                    (Tr.ret (AV.c (IV.v (Value.bool false))))))))))))
    (Tr.need (decide (-9223372036854775808 ≤ n) && decide (n ≤ 9223372036854775807))
      (Tr.ite (bif false then true else !leb (zig n) == leb (zig n))
        (Tr.ite true
          (Tr.ite true
            (Tr.ite true
              (Tr.need (decide (-9223372036854775808 ≤ n) && decide (n ≤ 9223372036854775807))
                (Tr.ret (AV.c (IV.v (Value.bool (bif true then leb (zig n) == leb (zig n) else false))))))
              (Tr.ret (AV.c (IV.v (Value.bool false)))))
            (Tr.need (decide (x2 ≤ 9223372036854775807))
              (Tr.need (decide (x4 ≤ 9223372036854775807))
                (Tr.need (decide (x7 ≤ 4611686018427387904))
                  (Tr.ite ((rn (x3 ++ b) x8).fst == n)
                    (Tr.ite (bif true then (rn (x3 ++ b) x8).snd.fst == IntKind.i64.wrap (x8 + ↑(leb (zig n)).length) else false)
                      (Tr.ret (AV.c (IV.v (Value.bool (bif true then (rn (x3 ++ b) x8).snd.snd == 0 else false))))) (Tr.ret (AV.c (IV.v (Value.bool false)))))
                    (Tr.ite false (Tr.ret (AV.c (IV.v (Value.bool (bif true then (rn (x3 ++ b) x8).snd.snd == 0 else false)))))
                      (Tr.ret (AV.c (IV.v (Value.bool false))))))))))
          (Tr.ite (bif false then true else decide (x9 > 100))
            (Tr.ite true
              (Tr.need (decide (-9223372036854775808 ≤ n) && decide (n ≤ 9223372036854775807))
                (Tr.ret (AV.c (IV.v (Value.bool (bif true then leb (zig n) == leb (zig n) else false))))))
              (Tr.ret (AV.c (IV.v (Value.bool false)))))
            (Tr.need (decide (x2 ≤ 9223372036854775807))
              (Tr.need (decide (x4 ≤ 9223372036854775807))
                (Tr.need (decide (x7 ≤ 4611686018427387904))
                  (Tr.ite ((rn (x3 ++ b) x8).fst == n)
                    (Tr.ite (bif true then (rn (x3 ++ b) x8).snd.fst == IntKind.i64.wrap (x8 + ↑(leb (zig n)).length) else false)
                      (Tr.ret (AV.c (IV.v (Value.bool (bif true then (rn (x3 ++ b) x8).snd.snd == 0 else false))))) (Tr.ret (AV.c (IV.v (Value.bool false)))))
                    (Tr.ite false (Tr.ret (AV.c (IV.v (Value.bool (bif true then (rn (x3 ++ b) x8).snd.snd == 0 else false)))))
                      (Tr.ret (AV.c (IV.v (Value.bool false)))))))))))
        (Tr.ite (bif false then true else decide (x8 > 100))
          (Tr.ite true
            (Tr.ite true
              (Tr.need (decide (-9223372036854775808 ≤ n) && decide (n ≤ 9223372036854775807))
                (Tr.ret (AV.c (IV.v (Value.bool (bif true then leb (zig n) == leb (zig n) else false))))))
              (Tr.ret (AV.c (IV.v (Value.bool false)))))
            (Tr.need (decide (x2 ≤ 9223372036854775807))
              (Tr.need (decide (x4 ≤ 9223372036854775807))
                (Tr.need (decide (x7 ≤ 4611686018427387904))
                  (Tr.ite ((rn (x3 ++ b) x8).fst == n)
                    (Tr.ite (bif true then (rn (x3 ++ b) x8).snd.fst == IntKind.i64.wrap (x8 + ↑(leb (zig n)).length) else false)
                      (Tr.ret (AV.c (IV.v (Value.bool (bif true then (rn (x3 ++ b) x8).snd.snd == 0 else false))))) (Tr.ret (AV.c (IV.v (Value.bool false)))))
                    (Tr.ite false (Tr.ret (AV.c (IV.v (Value.bool (bif true then (rn (x3 ++ b) x8).snd.snd == 0 else false)))))
                      (Tr.ret (AV.c (IV.v (Value.bool false))))))))))
          (Tr.ite (bif false then true else decide (x9 > 100))
            (Tr.ite true
              (Tr.need (decide (-9223372036854775808 ≤ n) && decide (n ≤ 9223372036854775807))
                (Tr.ret (AV.c (IV.v (Value.bool (bif true then leb (zig n) == leb (zig n) else false))))))
              (Tr.ret (AV.c (IV.v (Value.bool false)))))
            (Tr.need (decide (x2 ≤ 9223372036854775807))
              (Tr.need (decide (x4 ≤ 9223372036854775807))
                (Tr.need (decide (x7 ≤ 4611686018427387904))
                  (Tr.ite ((rn (x3 ++ b) x8).fst == n)
                    (Tr.ite (bif true then (rn (x3 ++ b) x8).snd.fst == IntKind.i64.wrap (x8 + ↑(leb (zig n)).length) else false)
                      (Tr.ret (AV.c (IV.v (Value.bool (bif true then (rn (x3 ++ b) x8).snd.snd == 0 else false))))) (Tr.ret (AV.c (IV.v (Value.bool false)))))
                    (Tr.ite false (Tr.ret (AV.c (IV.v (Value.bool (bif true then (rn (x3 ++ b) x8).snd.snd == 0 else false)))))
                      (Tr.ret (AV.c (IV.v (Value.bool false))))))))))))))

theorem M3_eq (n : Int) (a b : ByteArray) : execFn Tryz.prog ΓC noL 10 Tryz.f3 [intA .i64 n, .c (.v (.string a)), .c (.v (.string b))] = M3 n a b := by kernel_rfl

theorem M3_sat (n : Int) (h : -9223372036854775808 ≤ n ∧ n ≤ 9223372036854775807) (a b : ByteArray) : (M3 n a b).sat fun r => r = boolA true := by
  have hr := rn_form n h a b
  have hl := leb_len (zig n)
  have hR : rangeB n = true := by simp [rangeB, h.1, h.2]
  have hs1 : a.data.size = a.size := rfl
  have hs2 : b.data.size = b.size := rfl
  have e1 : (a ++ (⟨⟨leb (zig n)⟩⟩ : ByteArray)).size = a.size + (leb (zig n)).length := by rw [ByteArray.size_append]; rfl
  have e0 : (⟨⟨leb (zig n)⟩⟩ : ByteArray).size = (leb (zig n)).length := rfl
  have hr' := hr
  simp at hr'
  by_cases ha : a.size ≤ 100
  · have hw : IntKind.i64.wrap ((a.data.toList.length : Int) + ((leb (zig n)).length : Int)) = ((a.data.toList.length + (leb (zig n)).length : Nat) : Int) := by
      rw [wrap_i64 (by simp; omega)]; simp
    by_cases hb : b.size ≤ 100
    · simp [M3, Tr.sat, hr, hr', hR, h.1, h.2, hw, boolA, e0, e1]
      try simp at hw
      try simp [hw, ha, hb, hr']
      try omega
    · simp [M3, Tr.sat, hr, hr', hR, h.1, h.2, hw, boolA, e0, e1]
      omega
  · simp [M3, Tr.sat, hr, hr', hR, h.1, h.2, boolA, e0, e1]
    omega
end Go.Vse

set_option maxRecDepth 100000
namespace Go.Vse
open Go.Proofs

theorem ΓC_ok : ∀ f s, ΓC f = some s → SpecOk Tryz.prog f s := by
  intro f s h
  unfold ΓC at h
  cases h1 : Nat.beq f 6 with
  | true =>
    obtain rfl : f = 6 := by simpa using h1
    rw [h1] at h; cases h; exact f6_ok.spec
  | false =>
    rw [h1] at h
    simp only [cond_false] at h
    cases h2 : Nat.beq f 7 with
    | true =>
      obtain rfl : f = 7 := by simpa using h2
      rw [h2] at h; cases h; exact known_ok.spec
    | false =>
      rw [h2] at h
      simp only [cond_false] at h
      cases h3 : Nat.beq f 8 with
      | true =>
        obtain rfl : f = 8 := by simpa using h3
        rw [h3] at h; cases h; exact f8_ok.spec
      | false =>
        rw [h3] at h
        simp only [cond_false] at h
        exact one_ok f9_ok.spec f s h

theorem f3_calls (n : Int) (h : -9223372036854775808 ≤ n ∧ n ≤ 9223372036854775807) (a b : ByteArray) (w : World) :
    Calls Tryz.prog 3 #[.int .i64 n, .string a, .string b] w fun e w' => e = .returned (.bool true) ∧ RowKit.Below w.heap.size w w' := by
  have hs : (execFn Tryz.prog ΓC noL 10 Tryz.f3 [intA .i64 n, .c (.v (.string a)), .c (.v (.string b))]).sat fun r => Vse.noPtr r = true ∧ r = boolA true := by
    rw [M3_eq]
    exact Tr.sat_mono (fun r hr => by subst hr; exact ⟨rfl, rfl⟩) (M3_sat n h a b)
  refine (calls_of_exec prog_mixed ΓC_ok (f := 3) (fn := Tryz.f3) (c := codeOf Tryz.f3) (by kernel_rfl) (by kernel_rfl) (blocksOk_none _ _) hs (A := fun _ => False) (w := w) (vs := [.int .i64 n, .string a, .string b]) (fun _ h => h.elim)
    (.cons (ARel.lit _) (.cons (ARel.lit _) (.cons (ARel.lit _) .nil)))).mono ?_
  rintro e w' ⟨r, v, rfl, _, rfl, hrel, hb⟩
  exact ⟨by rw [hrel.plain], hb⟩
end Go.Vse
