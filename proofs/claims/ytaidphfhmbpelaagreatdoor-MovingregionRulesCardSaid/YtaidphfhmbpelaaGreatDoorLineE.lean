/- Helpers for the proof: no statement of its own. -/
import Derived.Test.YtaidphfhmbpelaaGreatDoorLineD
set_option linter.unusedVariables false
set_option linter.unusedSimpArgs false
set_option linter.unnecessarySimpa false
set_option linter.deprecated false
set_option maxRecDepth 100000
namespace Go.Vse
open Go.Proofs
def redS (t : R3) (M : Option (List L4)) : Option (List L4) := M.map fun l => l.map (redL t)
def K27 : MSpec
 | [some (.cells t 36)], [a, .fn 28 [.ptr 0 0]] => match shV a with
   | some (L, M) => some { val := shA (L.map (redL (realV t))) (redS (realV t) M), outs := [some (.cells t 36)], conds := [realOk t, shOk a, rb L, allO rb M, tbB (realV t)] }
   | _ => none
 | _, _ => none
def K14 : List AV → Option (AV × List Bool)
 | [.agg [], a, .agg t] => match shV a with
   | some (L, M) => some (shA (L.map (redL (realV t))) (redS (realV t) M), [realOk t, shOk a, rb L, allO rb M, tbB (realV t)])
   | _ => none
 | _ => none
def Γ27 : FuncId → Option Spec := fun f => bif Nat.beq f 50 then some (memSpec K50) else none
def Γ14 : FuncId → Option Spec := fun f => bif Nat.beq f 27 then some (memSpec K27) else none
def M27n (L : List L4) (t : R3) : Tr MemOut :=
 let x1 : List AV := [.c (.v (.bool (decide (t.p.num < 0)))), .c (.v (.string ⟨⟨magB t.p.num.natAbs⟩⟩)), .c (.v (.bool false)), .c (.v (.string ⟨⟨denB t.p.den⟩⟩)), .c (.v (.bool (decide (t.r.num < 0)))), .c (.v (.string ⟨⟨magB t.r.num.natAbs⟩⟩)), .c (.v (.bool false)), .c (.v (.string ⟨⟨denB t.r.den⟩⟩)), .c (.v (.bool t.neg))]
 let x2 : List L4 := linesOf L.length (lineEl L)
 let x3 : List L4 := List.map (redL (realV x1)) x2
 .need (realOk x1) (.need (linesOk L.length (lineEl L)) (.need (x2.all lbB) (.need (tbB (realV x1)) (.need (decide (L.length ≤ 1000)) (.ite false (.fail "movingregion.go:40") (.ret { val := AV.agg [AV.c (IV.sl x3.length 16 (lineEl x3)), .c (.v (.slice none 0 0))], outs := [some (Ent.cells x1 36)] }))))))
def M14n (L : List L4) (t : R3) : Tr AV :=
 let x1 : List AV := [.c (.v (.bool (decide (t.p.num < 0)))), .c (.v (.string ⟨⟨magB t.p.num.natAbs⟩⟩)), .c (.v (.bool false)), .c (.v (.string ⟨⟨denB t.p.den⟩⟩)), .c (.v (.bool (decide (t.r.num < 0)))), .c (.v (.string ⟨⟨magB t.r.num.natAbs⟩⟩)), .c (.v (.bool false)), .c (.v (.string ⟨⟨denB t.r.den⟩⟩)), .c (.v (.bool t.neg))]
 let x2 : List AV := [.c (.v (.slice none 0 0))]
 let x3 : List L4 := linesOf L.length (lineEl L)
 let x4 : List L4 := List.map (redL (realV x1)) x3
 .need (realOk x1) (.need (shOk (AV.agg (AV.c (IV.sl L.length 16 (lineEl L)) :: x2))) (.need (rb x3) (.need true (.need (tbB (realV x1)) (.ret (AV.agg (AV.c (IV.sl x4.length 16 (lineEl x4)) :: x2)))))))
def M27s (L : List L4) (M : List L4) (t : R3) : Tr MemOut :=
 let x1 : List AV := [.c (.v (.bool (decide (t.p.num < 0)))), .c (.v (.string ⟨⟨magB t.p.num.natAbs⟩⟩)), .c (.v (.bool false)), .c (.v (.string ⟨⟨denB t.p.den⟩⟩)), .c (.v (.bool (decide (t.r.num < 0)))), .c (.v (.string ⟨⟨magB t.r.num.natAbs⟩⟩)), .c (.v (.bool false)), .c (.v (.string ⟨⟨denB t.r.den⟩⟩)), .c (.v (.bool t.neg))]
 let x2 : List L4 := linesOf L.length (lineEl L)
 let x3 : List L4 := linesOf M.length (lineEl M)
 let x4 : List L4 := List.map (redL (realV x1)) x2
 let x5 : Nat := 0 + 1
 let x6 : List L4 := List.map (redL (realV x1)) x3
 let x7 : List (Option Ent) := [some (Ent.cells x1 36)]
 .need (realOk x1) (.need (linesOk L.length (lineEl L)) (.need (x2.all lbB) (.need (tbB (realV x1)) (.need (decide (L.length ≤ 1000)) (.ite true (.need true (.need (realOk x1) (.need (linesOk M.length (lineEl M)) (.need (x3.all lbB) (.need (tbB (realV x1)) (.need (decide (M.length ≤ 1000)) (.need true (.need true (.need true (.ite false (.need false (.need (realOk x1) (.need (linesOk M.length (lineEl M)) (.need (x3.all lbB) (.need (tbB (realV x1)) (.need (decide (M.length ≤ 1000)) (.need true (.need true (.need true (.need true (.ite false (.need false (.need (realOk x1) (.need (linesOk M.length (lineEl M)) (.need (x3.all lbB) (.need (tbB (realV x1)) (.need (decide (M.length ≤ 1000)) (.need true (.need true (.need true (.need true (.fail "rounds"))))))))))) (.need true (.ret { val := AV.agg [AV.c (IV.sl x4.length 16 (lineEl x4)), AV.c (IV.sl 2 1 (joinE (0 + 1) (joinE 0 (fun x => []) fun k => List.take x5 (List.drop (k * x5) [IV.sl x6.length 16 (lineEl x6)].reverse)) fun k => List.take x5 (List.drop (k * x5) [IV.sl x6.length 16 (lineEl x6)].reverse)))], outs := x7 }))))))))))))) (.need true (.ret { val := AV.agg [AV.c (IV.sl x4.length 16 (lineEl x4)), AV.c (IV.sl 1 1 (joinE 0 (fun x => []) fun k => List.take x5 (List.drop (k * x5) [IV.sl x6.length 16 (lineEl x6)].reverse)))], outs := x7 })))))))))))) (.ret { val := AV.agg [AV.c (IV.sl x4.length 16 (lineEl x4)), .c (.v (.slice none 0 0))], outs := x7 }))))))
def M14s (L : List L4) (M : List L4) (t : R3) : Tr AV :=
 let x1 : List AV := [.c (.v (.bool (decide (t.p.num < 0)))), .c (.v (.string ⟨⟨magB t.p.num.natAbs⟩⟩)), .c (.v (.bool false)), .c (.v (.string ⟨⟨denB t.p.den⟩⟩)), .c (.v (.bool (decide (t.r.num < 0)))), .c (.v (.string ⟨⟨magB t.r.num.natAbs⟩⟩)), .c (.v (.bool false)), .c (.v (.string ⟨⟨denB t.r.den⟩⟩)), .c (.v (.bool t.neg))]
 let x2 : List L4 := linesOf L.length (lineEl L)
 let x3 : List L4 := linesOf M.length (lineEl M)
 let x4 : List L4 := List.map (redL (realV x1)) x2
 .need (realOk x1) (.need (shOk (AV.agg [AV.c (IV.sl L.length 16 (lineEl L)), AV.c (IV.sl 1 1 fun x => [slI M])])) (.need (rb x2) (.need (allO rb (some x3)) (.need (tbB (realV x1)) (.ret (AV.agg [AV.c (IV.sl x4.length 16 (lineEl x4)), AV.c (IV.sl 1 1 fun x => [slI (List.map (redL (realV x1)) x3)])]))))))
theorem Γ27_ok : ∀ f s, Γ27 f = some s → SpecOk Tryz.prog f s := one_ok f50_ok.spec
theorem M27n_eq (L : List L4) (t : R3) : execM Tryz.prog Γ27 noL 1003 true Tryz.f27 [some (.cells (realCells t) 36)] [shA L none, .fn 28 [.ptr 0 0]] = M27n L t := by kernel_rfl
theorem M14n_eq (L : List L4) (t : R3) : execFn Tryz.prog Γ14 noL 1010 Tryz.f14 [.agg [], shA L none, .agg (realCells t)] = M14n L t := by kernel_rfl
theorem M27s_eq (L M : List L4) (t : R3) : execM Tryz.prog Γ27 noL 1003 true Tryz.f27 [some (.cells (realCells t) 36)] [shA L (some M), .fn 28 [.ptr 0 0]] = M27s L M t := by kernel_rfl
theorem M14s_eq (L M : List L4) (t : R3) : execFn Tryz.prog Γ14 noL 1010 Tryz.f14 [.agg [], shA L (some M), .agg (realCells t)] = M14s L M t := by kernel_rfl
theorem sees_hol (X : List L4) (e2 : Nat → List IV) (h : e2 0 = [slI X]) : Sees (.c (.sl 1 1 e2)) (holA (some X)) := Sees.sl fun k hk => by
 obtain rfl : k = 0 := by omega
 exact h
theorem M27_all (L : List L4) (M : Option (List L4)) (t : R3) (h0 : rb L = true) (h1 : allO rb M = true) (ht : tbB t = true) : (execM Tryz.prog Γ27 noL 1003 true Tryz.f27 [some (.cells (realCells t) 36)] [shA L M, .fn 28 [.ptr 0 0]]).sat fun o =>
   Sees o.val (shA (L.map (redL t)) (redS t M)) ∧ EntsEqv (o.outs ++ [o.new]) ([some (.cells (realCells t) 36)] ++ [none]) := by
 cases M with
 | none =>
   rw [M27n_eq]
   obtain ⟨a0, l0⟩ := rb_all h0
   simp only [M27n, ratV_lit, ratOk_lit, quadV_lit, quadOk_lit, realV_lit, realOk_lit, lineV_lit, lineOk_lit, boolV_lit, List.take_succ_cons, List.take_zero, List.drop_succ_cons, List.drop_zero, Bool.and_self, l4_eta, r3_eta, linesOf_el, linesOk_lines, sat_true, shOk_n, shOk_s, rgOk_n, rgOk_s, shOk_n', shOk_s', rgOk_n', rgOk_s', allO, sat_iteT, sat_iteF, a0, l0, ht]
   exact sat_ret ⟨Sees.refl _, EntsEqv.refl _⟩
 | some M =>
   rw [M27s_eq]
   obtain ⟨a0, l0⟩ := rb_all h0
   obtain ⟨a1, l1⟩ := rb_all (L := M) h1
   simp only [M27s, ratV_lit, ratOk_lit, quadV_lit, quadOk_lit, realV_lit, realOk_lit, lineV_lit, lineOk_lit, boolV_lit, List.take_succ_cons, List.take_zero, List.drop_succ_cons, List.drop_zero, Bool.and_self, l4_eta, r3_eta, linesOf_el, linesOk_lines, sat_true, shOk_n, shOk_s, rgOk_n, rgOk_s, shOk_n', shOk_s', rgOk_n', rgOk_s', allO, sat_iteT, sat_iteF, a0, l0, a1, l1, ht]
   exact sat_ret ⟨Sees.agg (.cons (Sees.refl _) (.cons (sees_hol (M.map (redL t)) _ rfl) .nil)), EntsEqv.refl _⟩
theorem f27_ok : MemOk Tryz.prog 27 K27 := by
 refine memOk_of_exec_c (L := fun _ => noL) prog_mixed Γ27_ok (fn := Tryz.f27) (c := codeOf Tryz.f27) (by kernel_rfl) (by kernel_rfl) (callFunc_enter (fn := Tryz.f27) (c := codeOf Tryz.f27) (by kernel_rfl) (by kernel_rfl) (by kernel_rfl)) (N := 1003) (frz := true) ?_ ?_
 · intro ents args o h
   exact blocksOk_none _ _
 · intro ents args o h hc
   unfold K27 at h
   split at h
   · rename_i t a
     split at h
     · rename_i L M ha
       cases h
       have k0 : realOk t = true := hc (realOk t) (by simp)
       have k1 : shOk a = true := hc (shOk a) (by simp)
       have h0 : rb L = true := hc (rb L) (by simp)
       have h1 : allO rb M = true := hc (allO rb M) (by simp)
       have ht : tbB (realV t) = true := hc (tbB (realV t)) (by simp)
       obtain ⟨t, rfl⟩ : ∃ x, t = realCells x := ⟨_, realOk_eq k0⟩
       simp only [realV_cells] at *
       refine ⟨[some (.cells (realCells t) 36)], [shA L M, .fn 28 [.ptr 0 0]], EntsEqv.refl _, .cons (shV_sees ha k1) (SeesL.refl _), ?_⟩
       exact M27_all L M t h0 h1 ht
     · cases h
   · cases h
theorem Γ14_ok : ∀ f s, Γ14 f = some s → SpecOk Tryz.prog f s := one_ok f27_ok.spec
theorem M14_all (L : List L4) (M : Option (List L4)) (t : R3) (h0 : rb L = true) (h1 : allO rb M = true) (ht : tbB t = true) : (execFn Tryz.prog Γ14 noL 1010 Tryz.f14 [.agg [], shA L M, .agg (realCells t)]).sat fun o => noPtr o = true ∧ Sees o (shA (L.map (redL t)) (redS t M)) := by
 cases M with
 | none =>
   rw [M14n_eq]
   simp only [M14n, ratV_lit, ratOk_lit, quadV_lit, quadOk_lit, realV_lit, realOk_lit, lineV_lit, lineOk_lit, boolV_lit, List.take_succ_cons, List.take_zero, List.drop_succ_cons, List.drop_zero, Bool.and_self, l4_eta, r3_eta, linesOf_el, linesOk_lines, sat_true, shOk_n, shOk_s, rgOk_n, rgOk_s, shOk_n', shOk_s', rgOk_n', rgOk_s', allO, sat_iteT, sat_iteF, h0, ht]
   exact sat_ret ⟨rfl, Sees.refl _⟩
 | some M =>
   rw [M14s_eq]
   have h1 : rb M = true := h1
   simp only [M14s, ratV_lit, ratOk_lit, quadV_lit, quadOk_lit, realV_lit, realOk_lit, lineV_lit, lineOk_lit, boolV_lit, List.take_succ_cons, List.take_zero, List.drop_succ_cons, List.drop_zero, Bool.and_self, l4_eta, r3_eta, linesOf_el, linesOk_lines, sat_true, shOk_n, shOk_s, rgOk_n, rgOk_s, shOk_n', shOk_s', rgOk_n', rgOk_s', allO, sat_iteT, sat_iteF, h0, h1, ht]
   exact sat_ret ⟨rfl, Sees.refl _⟩
theorem shA_noPtr (L : List L4) (M : Option (List L4)) : noPtr (shA L M) = true := by cases M <;> rfl
theorem f14_ok : PureOk Tryz.prog 14 K14 := by
 refine pureOk_of_exec_c (L := noL) prog_mixed Γ14_ok (fn := Tryz.f14) (c := codeOf Tryz.f14) (by kernel_rfl) (by kernel_rfl) (callFunc_enter (fn := Tryz.f14) (c := codeOf Tryz.f14) (by kernel_rfl) (by kernel_rfl) (by kernel_rfl)) (N := 1010) (blocksOk_none _ _) ?_ ?_
 · intro args v cs h
   unfold K14 at h
   split at h
   · split at h
     · cases h; exact shA_noPtr _ _
     · cases h
   · cases h
 · intro args v cs h hc
   unfold K14 at h
   split at h
   · rename_i a t
     split at h
     · rename_i L M ha
       cases h
       have k0 : realOk t = true := hc (realOk t) (by simp)
       have k1 : shOk a = true := hc (shOk a) (by simp)
       have h0 : rb L = true := hc (rb L) (by simp)
       have h1 : allO rb M = true := hc (allO rb M) (by simp)
       have ht : tbB (realV t) = true := hc (tbB (realV t)) (by simp)
       obtain ⟨t, rfl⟩ : ∃ x, t = realCells x := ⟨_, realOk_eq k0⟩
       simp only [realV_cells] at *
       refine ⟨[.agg [], shA L M, .agg (realCells t)], .cons (Sees.refl _) (.cons (shV_sees ha k1) (SeesL.refl _)), ?_⟩
       exact M14_all L M t h0 h1 ht
     · cases h
   · cases h
end Go.Vse
set_option maxRecDepth 100000
namespace Go.Vse
open Go.Proofs
def lnO : Option (List L4) → List L4
 | none => []
 | some M => M
def K9 : List AV → Option (AV × List Bool)
 | [a] => match shV a with
   | some (L, M) => some (slA (L ++ lnO M), [shOk a, rl L, allO rl M])
   | _ => none
 | _ => none
def unitA (f t : R3) (a b : Bool) (L : List L4) (M : Option (List L4)) : AV := .agg (realCells f ++ (realCells t ++ [.c (.v (.bool a)), .c (.v (.bool b)), slA L, holA M]))
def K5 : List AV → Option (AV × List Bool)
 | [.agg l] => match shV (.agg (l.drop 20)) with
   | some (L, M) => some (shA L M, [shOk (.agg (l.drop 20)), realOk (l.take 9), realOk ((l.drop 9).take 9), boolOk ((l.drop 18).take 1), boolOk ((l.drop 19).take 1)])
   | _ => none
 | _ => none
def M9n (L : List L4) : Tr AV :=
 let x1 : Nat := 0 + L.length
 let x2 : Nat := x1 * 192
 .need true (.need (decide (x1 ≤ 9223372036854775807)) (.need (decide (x2 ≤ 140737488355328)) (.ite false (.fail "law.go:588") (.need (decide (x1 ≤ x1)) (.ret (AV.c (IV.sl x1 16 (joinE 0 (fun x => []) (lineEl L)))))))))
def M5n (f : R3) (t : R3) (a : Bool) (b : Bool) (L : List L4) : Tr AV :=
 .ret (AV.agg [AV.c (IV.sl L.length 16 (lineEl L)), .c (.v (.slice none 0 0))])
def M9s (L : List L4) (M : List L4) : Tr AV :=
 let x1 : Nat := 0 + L.length
 let x2 : Nat := x1 * 192
 let x3 : Nat := x1 + M.length
 let x4 : Nat := x3 * 192
 let x5 : Nat := x3 + M.length
 let x6 : Nat := x5 * 192
 let x7 : Nat := x5 + M.length
 let x8 : Nat := x7 * 192
 .need true (.need (decide (x1 ≤ 9223372036854775807)) (.need (decide (x2 ≤ 140737488355328)) (.ite true (.need true (.need (decide (x1 ≤ x1)) (.need (decide (x3 ≤ 9223372036854775807)) (.need (decide (x4 ≤ 140737488355328)) (.ite false (.need false (.need (decide (x3 ≤ x3)) (.need (decide (x5 ≤ 9223372036854775807)) (.need (decide (x6 ≤ 140737488355328)) (.ite false (.need false (.need (decide (x5 ≤ x5)) (.need (decide (x7 ≤ 9223372036854775807)) (.need (decide (x8 ≤ 140737488355328)) (.fail "rounds"))))) (.need (decide (x5 ≤ x5)) (.ret (AV.c (IV.sl x5 16 (joinE x3 (joinE x1 (joinE 0 (fun x => []) (lineEl L)) (lineEl M)) (lineEl M))))))))))) (.need (decide (x3 ≤ x3)) (.ret (AV.c (IV.sl x3 16 (joinE x1 (joinE 0 (fun x => []) (lineEl L)) (lineEl M))))))))))) (.need (decide (x1 ≤ x1)) (.ret (AV.c (IV.sl x1 16 (joinE 0 (fun x => []) (lineEl L)))))))))
def M5s (f : R3) (t : R3) (a : Bool) (b : Bool) (L : List L4) (M : List L4) : Tr AV :=
 .ret (AV.agg [AV.c (IV.sl L.length 16 (lineEl L)), AV.c (IV.sl 1 1 fun x => [slI M])])
theorem M9n_eq (L : List L4) : execFn Tryz.prog (fun _ => none) noL 1003 Tryz.f9 [shA L none] = M9n L := by kernel_rfl
theorem M5n_eq (f t : R3) (a b : Bool) (L : List L4) : execFn Tryz.prog (fun _ => none) noL 1010 Tryz.f5 [unitA f t a b L none] = M5n f t a b L := by kernel_rfl
theorem M9s_eq (L M : List L4) : execFn Tryz.prog (fun _ => none) noL 1003 Tryz.f9 [shA L (some M)] = M9s L M := by kernel_rfl
theorem M5s_eq (f t : R3) (a b : Bool) (L M : List L4) : execFn Tryz.prog (fun _ => none) noL 1010 Tryz.f5 [unitA f t a b L (some M)] = M5s f t a b L M := by kernel_rfl
theorem joinE_lines (L M : List L4) (el el' : Nat → List IV) (h : ∀ k, k < L.length → el k = lineEl L k) (h' : ∀ k, k < M.length → el' k = lineEl M k) : ∀ k, k < L.length + M.length → joinE L.length el el' k = lineEl (L ++ M) k := by
 intro k hk
 unfold joinE lineEl
 by_cases hl : k < L.length
 · rw [if_pos hl, h k hl]
   unfold lineEl
   congr 1
   simp [List.getD_eq_getElem?_getD, List.getElem?_append_left hl]
 · rw [if_neg hl, h' _ (by omega)]
   unfold lineEl
   congr 1
   simp only [List.getD_eq_getElem?_getD, List.getElem?_append_right (Nat.le_of_not_lt hl)]
theorem M9_all (L : List L4) (M : Option (List L4)) (h0 : rl L = true) (h1 : allO rl M = true) : (execFn Tryz.prog (fun _ => none) noL 1003 Tryz.f9 [shA L M]).sat fun o => noPtr o = true ∧ Sees o (slA (L ++ lnO M)) := by
 have l0 : L.length ≤ 1000 := of_decide_eq_true h0
 have e1 : ∀ k, k < L.length → joinE 0 (fun _ => []) (lineEl L) k = lineEl L k := fun k _ => rfl
 cases M with
 | none =>
   rw [M9n_eq]
   have c1 : decide (0 + L.length ≤ 9223372036854775807) = true := decide_eq_true (by omega)
   have c2 : decide ((0 + L.length) * 192 ≤ 140737488355328) = true := decide_eq_true (by omega)
   have c3 : decide (0 + L.length ≤ 0 + L.length) = true := decide_eq_true (Nat.le_refl _)
   simp only [M9n, ratV_lit, ratOk_lit, quadV_lit, quadOk_lit, realV_lit, realOk_lit, lineV_lit, lineOk_lit, boolV_lit, List.take_succ_cons, List.take_zero, List.drop_succ_cons, List.drop_zero, Bool.and_self, l4_eta, r3_eta, linesOf_el, linesOk_lines, sat_true, shOk_n, shOk_s, rgOk_n, rgOk_s, shOk_n', shOk_s', rgOk_n', rgOk_s', allO, sat_iteT, sat_iteF, c1, c2, c3]
   refine sat_ret ⟨rfl, ?_⟩
   rw [Nat.zero_add, show lnO none = [] from rfl, List.append_nil]
   exact Sees.sl e1
 | some M =>
   rw [M9s_eq]
   have l1 : M.length ≤ 1000 := of_decide_eq_true h1
   have c1 : decide (0 + L.length ≤ 9223372036854775807) = true := decide_eq_true (by omega)
   have c2 : decide ((0 + L.length) * 192 ≤ 140737488355328) = true := decide_eq_true (by omega)
   have c3 : decide (0 + L.length ≤ 0 + L.length) = true := decide_eq_true (Nat.le_refl _)
   have c4 : decide (0 + L.length + M.length ≤ 9223372036854775807) = true := decide_eq_true (by omega)
   have c5 : decide ((0 + L.length + M.length) * 192 ≤ 140737488355328) = true := decide_eq_true (by omega)
   have c6 : decide (0 + L.length + M.length ≤ 0 + L.length + M.length) = true := decide_eq_true (Nat.le_refl _)
   simp only [M9s, ratV_lit, ratOk_lit, quadV_lit, quadOk_lit, realV_lit, realOk_lit, lineV_lit, lineOk_lit, boolV_lit, List.take_succ_cons, List.take_zero, List.drop_succ_cons, List.drop_zero, Bool.and_self, l4_eta, r3_eta, linesOf_el, linesOk_lines, sat_true, shOk_n, shOk_s, rgOk_n, rgOk_s, shOk_n', shOk_s', rgOk_n', rgOk_s', allO, sat_iteT, sat_iteF, c1, c2, c3, c4, c5, c6]
   refine sat_ret ⟨rfl, ?_⟩
   rw [Nat.zero_add, show lnO (some M) = M from rfl]
   unfold slA
   rw [List.length_append]
   exact Sees.sl (joinE_lines L M _ _ e1 (fun _ _ => rfl))
theorem f9_ok : PureOk Tryz.prog 9 K9 := by
 refine pureOk_of_exec_c (L := noL) prog_mixed noΓ_ok (fn := Tryz.f9) (c := codeOf Tryz.f9) (by kernel_rfl) (by kernel_rfl) (callFunc_enter (fn := Tryz.f9) (c := codeOf Tryz.f9) (by kernel_rfl) (by kernel_rfl) (by kernel_rfl)) (N := 1003) (blocksOk_none _ _) ?_ ?_
 · intro args v cs h
   unfold K9 at h
   split at h
   · split at h
     · cases h; rfl
     · cases h
   · cases h
 · intro args v cs h hc
   unfold K9 at h
   split at h
   · rename_i a
     split at h
     · rename_i L M ha
       cases h
       have k1 : shOk a = true := hc (shOk a) (by simp)
       have h0 : rl L = true := hc (rl L) (by simp)
       have h1 : allO rl M = true := hc (allO rl M) (by simp)
       exact ⟨[shA L M], .cons (shV_sees ha k1) .nil, M9_all L M h0 h1⟩
     · cases h
   · cases h
theorem shV_seesL {r : List AV} {L : List L4} {M : Option (List L4)} (h : shV (.agg r) = some (L, M)) (k : shOk (.agg r) = true) : SeesL r [slA L, holA M] := by
 unfold shV at h
 split at h
 · rename_i n el hr
   simp only [AV.agg.injEq] at hr
   subst hr
   simp only [Option.some.injEq, Prod.mk.injEq] at h
   obtain ⟨rfl, rfl⟩ := h
   exact .cons (sees_slA k) (SeesL.refl _)
 · rename_i n el e2 hr
   simp only [AV.agg.injEq] at hr
   subst hr
   split at h
   · rename_i m e' h0
     simp only [Option.some.injEq, Prod.mk.injEq] at h
     obtain ⟨rfl, rfl⟩ := h
     simp only [shOk, h0, Bool.and_eq_true] at k
     exact .cons (sees_slA k.1) (.cons (sees_ring1 h0 k.2) .nil)
   · cases h
 · cases h
theorem SeesL.app : ∀ (l : List AV) {m m' : List AV}, SeesL m m' → SeesL (l ++ m) (l ++ m')
 | [], _, _, h => h
 | x :: l, _, _, h => .cons (Sees.refl x) (SeesL.app l h)
theorem boolOk_eq {l : List AV} (h : boolOk l = true) : l = [.c (.v (.bool (boolV l)))] := by
 unfold boolOk at h
 split at h
 · rfl
 · cases h
end Go.Vse
