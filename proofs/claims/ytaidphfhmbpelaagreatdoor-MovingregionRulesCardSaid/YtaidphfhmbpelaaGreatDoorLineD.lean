/- Helpers for the proof: no statement of its own. -/
import Derived.Test.YtaidphfhmbpelaaGreatDoorLineC
set_option linter.unusedVariables false
set_option linter.unusedSimpArgs false
set_option linter.unnecessarySimpa false
set_option linter.deprecated false
set_option maxRecDepth 100000
namespace Go.Vse
open Go.Proofs
def Γ46s : FuncId → Option Spec := fun f => bif Nat.beq f 47 then some (memSpec K47) else none
def Γ46e : FuncId → Option Spec := fun f => bif Nat.beq f 47 then some (pureSpec K47e) else none
def K45s : MSpec
 | [some (.cells [.fn 24 [.ptr 1 0]] 70), some (.cells t 36)], [a, b, .fn 46 [.ptr 0 0]] => match rgV a, rgV b with
   | some (L, M), some (L', M') => some { val := boolA (eqRings (sameL (realV t)) L M L' M'), outs := [some (.cells [.fn 24 [.ptr 1 0]] 70), some (.cells t 36)], conds := [realOk t, rgOk a, rgOk b, rb L, allO rb M, rb L', allO rb M', tbB (realV t)] }
   | _, _ => none
 | _, _ => none
def K45e : MSpec
 | [some (.cells [.c (.v (.func (.func 26) ⟨[.agg ⟨[]⟩]⟩ ⟨[]⟩))] 70)], [a, b, .fn 46 [.ptr 0 0]] => match rgV a, rgV b with
   | some (L, M), some (L', M') => some { val := boolA (eqRings eqL L M L' M'), outs := [some (.cells [fnE] 70)], conds := [rgOk a, rgOk b, rl L, allO rl M, rl L', allO rl M'] }
   | _, _ => none
 | _, _ => none
def K23s : MSpec
 | [some (.cells t 36)], [a, b, .fn 24 [.ptr 0 0]] => match shV a, shV b with
   | some (L, M), some (L', M') => some { val := boolA (eqRings (sameL (realV t)) L M L' M'), outs := [some (.cells t 36)], conds := [realOk t, shOk a, shOk b, rb L, allO rb M, rb L', allO rb M', tbB (realV t)] }
   | _, _ => none
 | _, _ => none
def K23e : List AV → Option (AV × List Bool)
 | [a, b, .c (.v (.func (.func 26) ⟨[.agg ⟨[]⟩]⟩ ⟨[]⟩))] => match shV a, shV b with
   | some (L, M), some (L', M') => some (boolA (eqRings eqL L M L' M'), [shOk a, shOk b, rl L, allO rl M, rl L', allO rl M'])
   | _, _ => none
 | _ => none
def K12 : List AV → Option (AV × List Bool)
 | [.agg [], a, b, .agg t] => match shV a, shV b with
   | some (L, M), some (L', M') => some (boolA (eqRings (sameL (realV t)) L M L' M'), [realOk t, shOk a, shOk b, rb L, allO rb M, rb L', allO rb M', tbB (realV t)])
   | _, _ => none
 | _ => none
def K13 : List AV → Option (AV × List Bool)
 | [.agg [], a, b] => match shV a, shV b with
   | some (L, M), some (L', M') => some (boolA (eqRings eqL L M L' M'), [shOk a, shOk b, rl L, allO rl M, rl L', allO rl M'])
   | _, _ => none
 | _ => none
def Γ45s : FuncId → Option Spec := fun f => bif Nat.beq f 46 then some (memSpec K46s) else none
def Γ45e : FuncId → Option Spec := fun f => bif Nat.beq f 46 then some (memSpec K46e) else none
def Γ23s : FuncId → Option Spec := fun f => bif Nat.beq f 31 then some (pureSpec K31) else bif Nat.beq f 45 then some (memSpec K45s) else none
def Γ23e : FuncId → Option Spec := fun f => bif Nat.beq f 31 then some (pureSpec K31) else bif Nat.beq f 45 then some (memSpec K45e) else none
def Γ12 : FuncId → Option Spec := fun f => bif Nat.beq f 23 then some (memSpec K23s) else none
def Γ13 : FuncId → Option Spec := fun f => bif Nat.beq f 23 then some (pureSpec K23e) else none
def M46s (L : List L4) (M : List L4) (t : R3) : Tr MemOut :=
 let x1 : List AV := [.c (.v (.bool (decide (t.p.num < 0)))), .c (.v (.string ⟨⟨magB t.p.num.natAbs⟩⟩)), .c (.v (.bool false)), .c (.v (.string ⟨⟨denB t.p.den⟩⟩)), .c (.v (.bool (decide (t.r.num < 0)))), .c (.v (.string ⟨⟨magB t.r.num.natAbs⟩⟩)), .c (.v (.bool false)), .c (.v (.string ⟨⟨denB t.r.den⟩⟩)), .c (.v (.bool t.neg))]
 let x2 : List L4 := linesOf L.length (lineEl L)
 let x3 : List L4 := linesOf M.length (lineEl M)
 .need (realOk x1) (.need (linesOk L.length (lineEl L)) (.need (linesOk M.length (lineEl M)) (.need (x2.all lbB) (.need (x3.all lbB) (.need (tbB (realV x1)) (.need (decide (L.length ≤ 1000)) (.ret { val := .c (.v (.bool (eqLines (sameL (realV x1)) x2 x3))), outs := [some (Ent.cells [AV.fn 24 [AV.ptr 1 0]] 70), some (Ent.cells x1 36)] })))))))
def M46e (L : List L4) (M : List L4) : Tr MemOut :=
 .need (linesOk L.length (lineEl L)) (.need (linesOk M.length (lineEl M)) (.need (decide (L.length ≤ 1000)) (.ret { val := .c (.v (.bool (eqLines eqL (linesOf L.length (lineEl L)) (linesOf M.length (lineEl M))))), outs := [some (Ent.cells [.c (.v (.func (Fn.func 26) #[Value.agg #[]] #[]))] 70)] })))
def M31n (L : List L4) : Tr AV :=
 let x1 : Nat := 0 + 1
 .need true (.need true (.need true (.need true (.ret (AV.c (IV.sl 1 1 (joinE 1 (fun k => List.take x1 (List.drop (k * x1) [IV.sl L.length 16 (lineEl L)].reverse)) fun x => [])))))))
def M31s (L : List L4) (M : List L4) : Tr AV :=
 let x1 : Nat := 0 + 1
 .need true (.need true (.need true (.need true (.ret (AV.c (IV.sl 2 1 (joinE 1 (fun k => List.take x1 (List.drop (k * x1) [IV.sl L.length 16 (lineEl L)].reverse)) fun x => [slI M])))))))
def M45snn (L : List L4) (L' : List L4) (t : R3) : Tr MemOut :=
 let x1 : List AV := [.c (.v (.bool (decide (t.p.num < 0)))), .c (.v (.string ⟨⟨magB t.p.num.natAbs⟩⟩)), .c (.v (.bool false)), .c (.v (.string ⟨⟨denB t.p.den⟩⟩)), .c (.v (.bool (decide (t.r.num < 0)))), .c (.v (.string ⟨⟨magB t.r.num.natAbs⟩⟩)), .c (.v (.bool false)), .c (.v (.string ⟨⟨denB t.r.den⟩⟩)), .c (.v (.bool t.neg))]
 let x2 : List (Option Ent) := [some (Ent.cells [AV.fn 24 [AV.ptr 1 0]] 70), some (Ent.cells x1 36)]
 let x3 : List L4 := linesOf L.length (lineEl L)
 let x4 : List L4 := linesOf L'.length (lineEl L')
 .ite false (.ret { val := .c (.v (.bool false)), outs := x2 }) (.ite true (.need true (.need true (.need (realOk x1) (.need (linesOk L.length (lineEl L)) (.need (linesOk L'.length (lineEl L')) (.need (x3.all lbB) (.need (x4.all lbB) (.need (tbB (realV x1)) (.need (decide (L.length ≤ 1000)) (.ite (!eqLines (sameL (realV x1)) x3 x4) (.ret { val := .c (.v (.bool false)), outs := x2 }) (.ite false (.need false (.need false (.need (realOk x1) (.need (linesOk L.length (lineEl L)) (.need (linesOk L'.length (lineEl L')) (.need (x3.all lbB) (.need (x4.all lbB) (.need (tbB (realV x1)) (.need (decide (L.length ≤ 1000)) (.ite (!eqLines (sameL (realV x1)) x3 x4) (.ret { val := .c (.v (.bool false)), outs := x2 }) (.ite false (.need false (.need false (.need (realOk x1) (.need (linesOk L.length (lineEl L)) (.need (linesOk L'.length (lineEl L')) (.need (x3.all lbB) (.need (x4.all lbB) (.need (tbB (realV x1)) (.need (decide (L.length ≤ 1000)) (.ite (!eqLines (sameL (realV x1)) x3 x4) (.ret { val := .c (.v (.bool false)), outs := x2 }) (.fail "rounds"))))))))))) (.ret { val := .c (.v (.bool true)), outs := x2 })))))))))))) (.ret { val := .c (.v (.bool true)), outs := x2 })))))))))))) (.ret { val := .c (.v (.bool true)), outs := x2 }))
def M45enn (L : List L4) (L' : List L4) : Tr MemOut :=
 let x1 : List (Option Ent) := [some (Ent.cells [.c (.v (.func (Fn.func 26) #[Value.agg #[]] #[]))] 70)]
 .ite false (.ret { val := .c (.v (.bool false)), outs := x1 }) (.ite true (.need true (.need true (.need (linesOk L.length (lineEl L)) (.need (linesOk L'.length (lineEl L')) (.need (decide (L.length ≤ 1000)) (.ite (!eqLines eqL (linesOf L.length (lineEl L)) (linesOf L'.length (lineEl L'))) (.ret { val := .c (.v (.bool false)), outs := x1 }) (.ite false (.need false (.need false (.need (linesOk L.length (lineEl L)) (.need (linesOk L'.length (lineEl L')) (.need (decide (L.length ≤ 1000)) (.ite (!eqLines eqL (linesOf L.length (lineEl L)) (linesOf L'.length (lineEl L'))) (.ret { val := .c (.v (.bool false)), outs := x1 }) (.ite false (.need false (.need false (.need (linesOk L.length (lineEl L)) (.need (linesOk L'.length (lineEl L')) (.need (decide (L.length ≤ 1000)) (.ite (!eqLines eqL (linesOf L.length (lineEl L)) (linesOf L'.length (lineEl L'))) (.ret { val := .c (.v (.bool false)), outs := x1 }) (.fail "rounds"))))))) (.ret { val := .c (.v (.bool true)), outs := x1 })))))))) (.ret { val := .c (.v (.bool true)), outs := x1 })))))))) (.ret { val := .c (.v (.bool true)), outs := x1 }))
def M23snn (L : List L4) (L' : List L4) (t : R3) : Tr MemOut :=
 let x1 : List AV := [.c (.v (.slice none 0 0))]
 let x2 : List AV := [.c (.v (.bool (decide (t.p.num < 0)))), .c (.v (.string ⟨⟨magB t.p.num.natAbs⟩⟩)), .c (.v (.bool false)), .c (.v (.string ⟨⟨denB t.p.den⟩⟩)), .c (.v (.bool (decide (t.r.num < 0)))), .c (.v (.string ⟨⟨magB t.r.num.natAbs⟩⟩)), .c (.v (.bool false)), .c (.v (.string ⟨⟨denB t.r.den⟩⟩)), .c (.v (.bool t.neg))]
 let x3 : List L4 := linesOf L.length (lineEl L)
 let x4 : List L4 := linesOf L'.length (lineEl L')
 let x5 : List L4 := linesOf x3.length (lineEl x3)
 let x6 : List L4 := linesOf x4.length (lineEl x4)
 .need (shOk (AV.agg (AV.c (IV.sl L.length 16 (lineEl L)) :: x1))) (.need (shOk (AV.agg (AV.c (IV.sl L'.length 16 (lineEl L')) :: x1))) (.need (realOk x2) (.need (rgOk (AV.c (IV.sl 1 1 fun x => [slI x3]))) (.need (rgOk (AV.c (IV.sl 1 1 fun x => [slI x4]))) (.need (rb x5) (.need true (.need (rb x6) (.need true (.need (tbB (realV x2)) (.ret { val := .c (.v (.bool (eqRings (sameL (realV x2)) x5 none x6 none))), outs := [some (Ent.cells x2 36)] }))))))))))
def M23enn (L : List L4) (L' : List L4) : Tr AV :=
 let x1 : List AV := [.c (.v (.slice none 0 0))]
 let x2 : List L4 := linesOf L.length (lineEl L)
 let x3 : List L4 := linesOf L'.length (lineEl L')
 let x4 : List L4 := linesOf x2.length (lineEl x2)
 let x5 : List L4 := linesOf x3.length (lineEl x3)
 .need (shOk (AV.agg (AV.c (IV.sl L.length 16 (lineEl L)) :: x1))) (.need (shOk (AV.agg (AV.c (IV.sl L'.length 16 (lineEl L')) :: x1))) (.need (rgOk (AV.c (IV.sl 1 1 fun x => [slI x2]))) (.need (rgOk (AV.c (IV.sl 1 1 fun x => [slI x3]))) (.need (rl x4) (.need true (.need (rl x5) (.need true (.ret (.c (.v (.bool (eqRings eqL x4 none x5 none))))))))))))
def M12nn (L : List L4) (L' : List L4) (t : R3) : Tr AV :=
 let x1 : List AV := [.c (.v (.bool (decide (t.p.num < 0)))), .c (.v (.string ⟨⟨magB t.p.num.natAbs⟩⟩)), .c (.v (.bool false)), .c (.v (.string ⟨⟨denB t.p.den⟩⟩)), .c (.v (.bool (decide (t.r.num < 0)))), .c (.v (.string ⟨⟨magB t.r.num.natAbs⟩⟩)), .c (.v (.bool false)), .c (.v (.string ⟨⟨denB t.r.den⟩⟩)), .c (.v (.bool t.neg))]
 let x2 : List AV := [.c (.v (.slice none 0 0))]
 let x3 : List L4 := linesOf L.length (lineEl L)
 let x4 : List L4 := linesOf L'.length (lineEl L')
 .need (realOk x1) (.need (shOk (AV.agg (AV.c (IV.sl L.length 16 (lineEl L)) :: x2))) (.need (shOk (AV.agg (AV.c (IV.sl L'.length 16 (lineEl L')) :: x2))) (.need (rb x3) (.need true (.need (rb x4) (.need true (.need (tbB (realV x1)) (.ret (.c (.v (.bool (eqRings (sameL (realV x1)) x3 none x4 none))))))))))))
def M13nn (L : List L4) (L' : List L4) : Tr AV :=
 let x1 : List AV := [.c (.v (.slice none 0 0))]
 let x2 : List L4 := linesOf L.length (lineEl L)
 let x3 : List L4 := linesOf L'.length (lineEl L')
 .need (shOk (AV.agg (AV.c (IV.sl L.length 16 (lineEl L)) :: x1))) (.need (shOk (AV.agg (AV.c (IV.sl L'.length 16 (lineEl L')) :: x1))) (.need (rl x2) (.need true (.need (rl x3) (.need true (.ret (.c (.v (.bool (eqRings eqL x2 none x3 none))))))))))
def M45ssn (L : List L4) (M : List L4) (L' : List L4) (t : R3) : Tr MemOut :=
 let x1 : List AV := [.c (.v (.bool (decide (t.p.num < 0)))), .c (.v (.string ⟨⟨magB t.p.num.natAbs⟩⟩)), .c (.v (.bool false)), .c (.v (.string ⟨⟨denB t.p.den⟩⟩)), .c (.v (.bool (decide (t.r.num < 0)))), .c (.v (.string ⟨⟨magB t.r.num.natAbs⟩⟩)), .c (.v (.bool false)), .c (.v (.string ⟨⟨denB t.r.den⟩⟩)), .c (.v (.bool t.neg))]
 let x2 : List (Option Ent) := [some (Ent.cells [AV.fn 24 [AV.ptr 1 0]] 70), some (Ent.cells x1 36)]
 let x3 : List L4 := linesOf L.length (lineEl L)
 let x4 : List L4 := linesOf L'.length (lineEl L')
 let x5 : List L4 := linesOf M.length (lineEl M)
 .ite true (.ret { val := .c (.v (.bool false)), outs := x2 }) (.ite true (.need true (.need true (.need (realOk x1) (.need (linesOk L.length (lineEl L)) (.need (linesOk L'.length (lineEl L')) (.need (x3.all lbB) (.need (x4.all lbB) (.need (tbB (realV x1)) (.need (decide (L.length ≤ 1000)) (.ite (!eqLines (sameL (realV x1)) x3 x4) (.ret { val := .c (.v (.bool false)), outs := x2 }) (.ite true (.need true (.need false (.need (realOk x1) (.need (linesOk M.length (lineEl M)) (.need (linesOk L'.length (lineEl L')) (.need (x5.all lbB) (.need (x4.all lbB) (.need (tbB (realV x1)) (.need (decide (M.length ≤ 1000)) (.ite (!eqLines (sameL (realV x1)) x5 x4) (.ret { val := .c (.v (.bool false)), outs := x2 }) (.ite false (.need false (.need false (.need (realOk x1) (.need (linesOk M.length (lineEl M)) (.need (linesOk L'.length (lineEl L')) (.need (x5.all lbB) (.need (x4.all lbB) (.need (tbB (realV x1)) (.need (decide (M.length ≤ 1000)) (.ite (!eqLines (sameL (realV x1)) x5 x4) (.ret { val := .c (.v (.bool false)), outs := x2 }) (.fail "rounds"))))))))))) (.ret { val := .c (.v (.bool true)), outs := x2 })))))))))))) (.ret { val := .c (.v (.bool true)), outs := x2 })))))))))))) (.ret { val := .c (.v (.bool true)), outs := x2 }))
def M45esn (L : List L4) (M : List L4) (L' : List L4) : Tr MemOut :=
 let x1 : List (Option Ent) := [some (Ent.cells [.c (.v (.func (Fn.func 26) #[Value.agg #[]] #[]))] 70)]
 let x2 : List L4 := linesOf L'.length (lineEl L')
 .ite true (.ret { val := .c (.v (.bool false)), outs := x1 }) (.ite true (.need true (.need true (.need (linesOk L.length (lineEl L)) (.need (linesOk L'.length (lineEl L')) (.need (decide (L.length ≤ 1000)) (.ite (!eqLines eqL (linesOf L.length (lineEl L)) x2) (.ret { val := .c (.v (.bool false)), outs := x1 }) (.ite true (.need true (.need false (.need (linesOk M.length (lineEl M)) (.need (linesOk L'.length (lineEl L')) (.need (decide (M.length ≤ 1000)) (.ite (!eqLines eqL (linesOf M.length (lineEl M)) x2) (.ret { val := .c (.v (.bool false)), outs := x1 }) (.ite false (.need false (.need false (.need (linesOk M.length (lineEl M)) (.need (linesOk L'.length (lineEl L')) (.need (decide (M.length ≤ 1000)) (.ite (!eqLines eqL (linesOf M.length (lineEl M)) x2) (.ret { val := .c (.v (.bool false)), outs := x1 }) (.fail "rounds"))))))) (.ret { val := .c (.v (.bool true)), outs := x1 })))))))) (.ret { val := .c (.v (.bool true)), outs := x1 })))))))) (.ret { val := .c (.v (.bool true)), outs := x1 }))
def M23ssn (L : List L4) (M : List L4) (L' : List L4) (t : R3) : Tr MemOut :=
 let x1 : List AV := [.c (.v (.bool (decide (t.p.num < 0)))), .c (.v (.string ⟨⟨magB t.p.num.natAbs⟩⟩)), .c (.v (.bool false)), .c (.v (.string ⟨⟨denB t.p.den⟩⟩)), .c (.v (.bool (decide (t.r.num < 0)))), .c (.v (.string ⟨⟨magB t.r.num.natAbs⟩⟩)), .c (.v (.bool false)), .c (.v (.string ⟨⟨denB t.r.den⟩⟩)), .c (.v (.bool t.neg))]
 let x2 : List L4 := linesOf L.length (lineEl L)
 let x3 : List L4 := linesOf M.length (lineEl M)
 let x4 : List L4 := linesOf L'.length (lineEl L')
 .need (shOk (AV.agg [AV.c (IV.sl L.length 16 (lineEl L)), AV.c (IV.sl 1 1 fun x => [slI M])])) (.need (shOk (AV.agg [AV.c (IV.sl L'.length 16 (lineEl L')), .c (.v (.slice none 0 0))])) (.need (realOk x1) (.need (rgOk (AV.c (IV.sl 2 1 fun k => bif k.beq 0 then [slI x2] else [slI x3]))) (.need (rgOk (AV.c (IV.sl 1 1 fun x => [slI x4]))) (.need (rb (linesOf x2.length (lineEl x2))) (.need (allO rb (some (linesOf x3.length (lineEl x3)))) (.need (rb (linesOf x4.length (lineEl x4))) (.need true (.need (tbB (realV x1)) (.ret { val := .c (.v (.bool false)), outs := [some (Ent.cells x1 36)] }))))))))))
def M23esn (L : List L4) (M : List L4) (L' : List L4) : Tr AV :=
 let x1 : List L4 := linesOf L.length (lineEl L)
 let x2 : List L4 := linesOf M.length (lineEl M)
 let x3 : List L4 := linesOf L'.length (lineEl L')
 .need (shOk (AV.agg [AV.c (IV.sl L.length 16 (lineEl L)), AV.c (IV.sl 1 1 fun x => [slI M])])) (.need (shOk (AV.agg [AV.c (IV.sl L'.length 16 (lineEl L')), .c (.v (.slice none 0 0))])) (.need (rgOk (AV.c (IV.sl 2 1 fun k => bif k.beq 0 then [slI x1] else [slI x2]))) (.need (rgOk (AV.c (IV.sl 1 1 fun x => [slI x3]))) (.need (rl (linesOf x1.length (lineEl x1))) (.need (allO rl (some (linesOf x2.length (lineEl x2)))) (.need (rl (linesOf x3.length (lineEl x3))) (.need true (.ret (.c (.v (.bool false)))))))))))
def M12sn (L : List L4) (M : List L4) (L' : List L4) (t : R3) : Tr AV :=
 let x1 : List AV := [.c (.v (.bool (decide (t.p.num < 0)))), .c (.v (.string ⟨⟨magB t.p.num.natAbs⟩⟩)), .c (.v (.bool false)), .c (.v (.string ⟨⟨denB t.p.den⟩⟩)), .c (.v (.bool (decide (t.r.num < 0)))), .c (.v (.string ⟨⟨magB t.r.num.natAbs⟩⟩)), .c (.v (.bool false)), .c (.v (.string ⟨⟨denB t.r.den⟩⟩)), .c (.v (.bool t.neg))]
 .need (realOk x1) (.need (shOk (AV.agg [AV.c (IV.sl L.length 16 (lineEl L)), AV.c (IV.sl 1 1 fun x => [slI M])])) (.need (shOk (AV.agg [AV.c (IV.sl L'.length 16 (lineEl L')), .c (.v (.slice none 0 0))])) (.need (rb (linesOf L.length (lineEl L))) (.need (allO rb (some (linesOf M.length (lineEl M)))) (.need (rb (linesOf L'.length (lineEl L'))) (.need true (.need (tbB (realV x1)) (.ret (.c (.v (.bool false)))))))))))
def M13sn (L : List L4) (M : List L4) (L' : List L4) : Tr AV :=
 .need (shOk (AV.agg [AV.c (IV.sl L.length 16 (lineEl L)), AV.c (IV.sl 1 1 fun x => [slI M])])) (.need (shOk (AV.agg [AV.c (IV.sl L'.length 16 (lineEl L')), .c (.v (.slice none 0 0))])) (.need (rl (linesOf L.length (lineEl L))) (.need (allO rl (some (linesOf M.length (lineEl M)))) (.need (rl (linesOf L'.length (lineEl L'))) (.need true (.ret (.c (.v (.bool false)))))))))
def M45sns (L : List L4) (L' : List L4) (M' : List L4) (t : R3) : Tr MemOut :=
 let x1 : List AV := [.c (.v (.bool (decide (t.p.num < 0)))), .c (.v (.string ⟨⟨magB t.p.num.natAbs⟩⟩)), .c (.v (.bool false)), .c (.v (.string ⟨⟨denB t.p.den⟩⟩)), .c (.v (.bool (decide (t.r.num < 0)))), .c (.v (.string ⟨⟨magB t.r.num.natAbs⟩⟩)), .c (.v (.bool false)), .c (.v (.string ⟨⟨denB t.r.den⟩⟩)), .c (.v (.bool t.neg))]
 let x2 : List (Option Ent) := [some (Ent.cells [AV.fn 24 [AV.ptr 1 0]] 70), some (Ent.cells x1 36)]
 let x3 : List L4 := linesOf L.length (lineEl L)
 let x4 : List L4 := linesOf L'.length (lineEl L')
 let x5 : List L4 := linesOf M'.length (lineEl M')
 .ite true (.ret { val := .c (.v (.bool false)), outs := x2 }) (.ite true (.need true (.need true (.need (realOk x1) (.need (linesOk L.length (lineEl L)) (.need (linesOk L'.length (lineEl L')) (.need (x3.all lbB) (.need (x4.all lbB) (.need (tbB (realV x1)) (.need (decide (L.length ≤ 1000)) (.ite (!eqLines (sameL (realV x1)) x3 x4) (.ret { val := .c (.v (.bool false)), outs := x2 }) (.ite false (.need false (.need true (.need (realOk x1) (.need (linesOk L.length (lineEl L)) (.need (linesOk M'.length (lineEl M')) (.need (x3.all lbB) (.need (x5.all lbB) (.need (tbB (realV x1)) (.need (decide (L.length ≤ 1000)) (.ite (!eqLines (sameL (realV x1)) x3 x5) (.ret { val := .c (.v (.bool false)), outs := x2 }) (.ite false (.need false (.need false (.need (realOk x1) (.need (linesOk L.length (lineEl L)) (.need (linesOk M'.length (lineEl M')) (.need (x3.all lbB) (.need (x5.all lbB) (.need (tbB (realV x1)) (.need (decide (L.length ≤ 1000)) (.ite (!eqLines (sameL (realV x1)) x3 x5) (.ret { val := .c (.v (.bool false)), outs := x2 }) (.fail "rounds"))))))))))) (.ret { val := .c (.v (.bool true)), outs := x2 })))))))))))) (.ret { val := .c (.v (.bool true)), outs := x2 })))))))))))) (.ret { val := .c (.v (.bool true)), outs := x2 }))
def M45ens (L : List L4) (L' : List L4) (M' : List L4) : Tr MemOut :=
 let x1 : List (Option Ent) := [some (Ent.cells [.c (.v (.func (Fn.func 26) #[Value.agg #[]] #[]))] 70)]
 let x2 : List L4 := linesOf L.length (lineEl L)
 .ite true (.ret { val := .c (.v (.bool false)), outs := x1 }) (.ite true (.need true (.need true (.need (linesOk L.length (lineEl L)) (.need (linesOk L'.length (lineEl L')) (.need (decide (L.length ≤ 1000)) (.ite (!eqLines eqL x2 (linesOf L'.length (lineEl L'))) (.ret { val := .c (.v (.bool false)), outs := x1 }) (.ite false (.need false (.need true (.need (linesOk L.length (lineEl L)) (.need (linesOk M'.length (lineEl M')) (.need (decide (L.length ≤ 1000)) (.ite (!eqLines eqL x2 (linesOf M'.length (lineEl M'))) (.ret { val := .c (.v (.bool false)), outs := x1 }) (.ite false (.need false (.need false (.need (linesOk L.length (lineEl L)) (.need (linesOk M'.length (lineEl M')) (.need (decide (L.length ≤ 1000)) (.ite (!eqLines eqL x2 (linesOf M'.length (lineEl M'))) (.ret { val := .c (.v (.bool false)), outs := x1 }) (.fail "rounds"))))))) (.ret { val := .c (.v (.bool true)), outs := x1 })))))))) (.ret { val := .c (.v (.bool true)), outs := x1 })))))))) (.ret { val := .c (.v (.bool true)), outs := x1 }))
def M23sns (L : List L4) (L' : List L4) (M' : List L4) (t : R3) : Tr MemOut :=
 let x1 : List AV := [.c (.v (.bool (decide (t.p.num < 0)))), .c (.v (.string ⟨⟨magB t.p.num.natAbs⟩⟩)), .c (.v (.bool false)), .c (.v (.string ⟨⟨denB t.p.den⟩⟩)), .c (.v (.bool (decide (t.r.num < 0)))), .c (.v (.string ⟨⟨magB t.r.num.natAbs⟩⟩)), .c (.v (.bool false)), .c (.v (.string ⟨⟨denB t.r.den⟩⟩)), .c (.v (.bool t.neg))]
 let x2 : List L4 := linesOf L.length (lineEl L)
 let x3 : List L4 := linesOf L'.length (lineEl L')
 let x4 : List L4 := linesOf M'.length (lineEl M')
 .need (shOk (AV.agg [AV.c (IV.sl L.length 16 (lineEl L)), .c (.v (.slice none 0 0))])) (.need (shOk (AV.agg [AV.c (IV.sl L'.length 16 (lineEl L')), AV.c (IV.sl 1 1 fun x => [slI M'])])) (.need (realOk x1) (.need (rgOk (AV.c (IV.sl 1 1 fun x => [slI x2]))) (.need (rgOk (AV.c (IV.sl 2 1 fun k => bif k.beq 0 then [slI x3] else [slI x4]))) (.need (rb (linesOf x2.length (lineEl x2))) (.need true (.need (rb (linesOf x3.length (lineEl x3))) (.need (allO rb (some (linesOf x4.length (lineEl x4)))) (.need (tbB (realV x1)) (.ret { val := .c (.v (.bool false)), outs := [some (Ent.cells x1 36)] }))))))))))
def M23ens (L : List L4) (L' : List L4) (M' : List L4) : Tr AV :=
 let x1 : List L4 := linesOf L.length (lineEl L)
 let x2 : List L4 := linesOf L'.length (lineEl L')
 let x3 : List L4 := linesOf M'.length (lineEl M')
 .need (shOk (AV.agg [AV.c (IV.sl L.length 16 (lineEl L)), .c (.v (.slice none 0 0))])) (.need (shOk (AV.agg [AV.c (IV.sl L'.length 16 (lineEl L')), AV.c (IV.sl 1 1 fun x => [slI M'])])) (.need (rgOk (AV.c (IV.sl 1 1 fun x => [slI x1]))) (.need (rgOk (AV.c (IV.sl 2 1 fun k => bif k.beq 0 then [slI x2] else [slI x3]))) (.need (rl (linesOf x1.length (lineEl x1))) (.need true (.need (rl (linesOf x2.length (lineEl x2))) (.need (allO rl (some (linesOf x3.length (lineEl x3)))) (.ret (.c (.v (.bool false)))))))))))
def M12ns (L : List L4) (L' : List L4) (M' : List L4) (t : R3) : Tr AV :=
 let x1 : List AV := [.c (.v (.bool (decide (t.p.num < 0)))), .c (.v (.string ⟨⟨magB t.p.num.natAbs⟩⟩)), .c (.v (.bool false)), .c (.v (.string ⟨⟨denB t.p.den⟩⟩)), .c (.v (.bool (decide (t.r.num < 0)))), .c (.v (.string ⟨⟨magB t.r.num.natAbs⟩⟩)), .c (.v (.bool false)), .c (.v (.string ⟨⟨denB t.r.den⟩⟩)), .c (.v (.bool t.neg))]
 .need (realOk x1) (.need (shOk (AV.agg [AV.c (IV.sl L.length 16 (lineEl L)), .c (.v (.slice none 0 0))])) (.need (shOk (AV.agg [AV.c (IV.sl L'.length 16 (lineEl L')), AV.c (IV.sl 1 1 fun x => [slI M'])])) (.need (rb (linesOf L.length (lineEl L))) (.need true (.need (rb (linesOf L'.length (lineEl L'))) (.need (allO rb (some (linesOf M'.length (lineEl M')))) (.need (tbB (realV x1)) (.ret (.c (.v (.bool false)))))))))))
def M13ns (L : List L4) (L' : List L4) (M' : List L4) : Tr AV :=
 .need (shOk (AV.agg [AV.c (IV.sl L.length 16 (lineEl L)), .c (.v (.slice none 0 0))])) (.need (shOk (AV.agg [AV.c (IV.sl L'.length 16 (lineEl L')), AV.c (IV.sl 1 1 fun x => [slI M'])])) (.need (rl (linesOf L.length (lineEl L))) (.need true (.need (rl (linesOf L'.length (lineEl L'))) (.need (allO rl (some (linesOf M'.length (lineEl M')))) (.ret (.c (.v (.bool false)))))))))
def M45sss (L : List L4) (M : List L4) (L' : List L4) (M' : List L4) (t : R3) : Tr MemOut :=
 let x1 : List AV := [.c (.v (.bool (decide (t.p.num < 0)))), .c (.v (.string ⟨⟨magB t.p.num.natAbs⟩⟩)), .c (.v (.bool false)), .c (.v (.string ⟨⟨denB t.p.den⟩⟩)), .c (.v (.bool (decide (t.r.num < 0)))), .c (.v (.string ⟨⟨magB t.r.num.natAbs⟩⟩)), .c (.v (.bool false)), .c (.v (.string ⟨⟨denB t.r.den⟩⟩)), .c (.v (.bool t.neg))]
 let x2 : List (Option Ent) := [some (Ent.cells [AV.fn 24 [AV.ptr 1 0]] 70), some (Ent.cells x1 36)]
 let x3 : List L4 := linesOf L.length (lineEl L)
 let x4 : List L4 := linesOf L'.length (lineEl L')
 let x5 : List L4 := linesOf M.length (lineEl M)
 let x6 : List L4 := linesOf M'.length (lineEl M')
 .ite false (.ret { val := .c (.v (.bool false)), outs := x2 }) (.ite true (.need true (.need true (.need (realOk x1) (.need (linesOk L.length (lineEl L)) (.need (linesOk L'.length (lineEl L')) (.need (x3.all lbB) (.need (x4.all lbB) (.need (tbB (realV x1)) (.need (decide (L.length ≤ 1000)) (.ite (!eqLines (sameL (realV x1)) x3 x4) (.ret { val := .c (.v (.bool false)), outs := x2 }) (.ite true (.need true (.need true (.need (realOk x1) (.need (linesOk M.length (lineEl M)) (.need (linesOk M'.length (lineEl M')) (.need (x5.all lbB) (.need (x6.all lbB) (.need (tbB (realV x1)) (.need (decide (M.length ≤ 1000)) (.ite (!eqLines (sameL (realV x1)) x5 x6) (.ret { val := .c (.v (.bool false)), outs := x2 }) (.ite false (.need false (.need false (.need (realOk x1) (.need (linesOk M.length (lineEl M)) (.need (linesOk M'.length (lineEl M')) (.need (x5.all lbB) (.need (x6.all lbB) (.need (tbB (realV x1)) (.need (decide (M.length ≤ 1000)) (.ite (!eqLines (sameL (realV x1)) x5 x6) (.ret { val := .c (.v (.bool false)), outs := x2 }) (.fail "rounds"))))))))))) (.ret { val := .c (.v (.bool true)), outs := x2 })))))))))))) (.ret { val := .c (.v (.bool true)), outs := x2 })))))))))))) (.ret { val := .c (.v (.bool true)), outs := x2 }))
def M45ess (L : List L4) (M : List L4) (L' : List L4) (M' : List L4) : Tr MemOut :=
 let x1 : List (Option Ent) := [some (Ent.cells [.c (.v (.func (Fn.func 26) #[Value.agg #[]] #[]))] 70)]
 .ite false (.ret { val := .c (.v (.bool false)), outs := x1 }) (.ite true (.need true (.need true (.need (linesOk L.length (lineEl L)) (.need (linesOk L'.length (lineEl L')) (.need (decide (L.length ≤ 1000)) (.ite (!eqLines eqL (linesOf L.length (lineEl L)) (linesOf L'.length (lineEl L'))) (.ret { val := .c (.v (.bool false)), outs := x1 }) (.ite true (.need true (.need true (.need (linesOk M.length (lineEl M)) (.need (linesOk M'.length (lineEl M')) (.need (decide (M.length ≤ 1000)) (.ite (!eqLines eqL (linesOf M.length (lineEl M)) (linesOf M'.length (lineEl M'))) (.ret { val := .c (.v (.bool false)), outs := x1 }) (.ite false (.need false (.need false (.need (linesOk M.length (lineEl M)) (.need (linesOk M'.length (lineEl M')) (.need (decide (M.length ≤ 1000)) (.ite (!eqLines eqL (linesOf M.length (lineEl M)) (linesOf M'.length (lineEl M'))) (.ret { val := .c (.v (.bool false)), outs := x1 }) (.fail "rounds"))))))) (.ret { val := .c (.v (.bool true)), outs := x1 })))))))) (.ret { val := .c (.v (.bool true)), outs := x1 })))))))) (.ret { val := .c (.v (.bool true)), outs := x1 }))
def M23sss (L : List L4) (M : List L4) (L' : List L4) (M' : List L4) (t : R3) : Tr MemOut :=
 let x1 : List AV := [.c (.v (.bool (decide (t.p.num < 0)))), .c (.v (.string ⟨⟨magB t.p.num.natAbs⟩⟩)), .c (.v (.bool false)), .c (.v (.string ⟨⟨denB t.p.den⟩⟩)), .c (.v (.bool (decide (t.r.num < 0)))), .c (.v (.string ⟨⟨magB t.r.num.natAbs⟩⟩)), .c (.v (.bool false)), .c (.v (.string ⟨⟨denB t.r.den⟩⟩)), .c (.v (.bool t.neg))]
 let x2 : List L4 := linesOf L.length (lineEl L)
 let x3 : List L4 := linesOf M.length (lineEl M)
 let x4 : List L4 := linesOf L'.length (lineEl L')
 let x5 : List L4 := linesOf M'.length (lineEl M')
 let x6 : List L4 := linesOf x2.length (lineEl x2)
 let x7 : List L4 := linesOf x4.length (lineEl x4)
 .need (shOk (AV.agg [AV.c (IV.sl L.length 16 (lineEl L)), AV.c (IV.sl 1 1 fun x => [slI M])])) (.need (shOk (AV.agg [AV.c (IV.sl L'.length 16 (lineEl L')), AV.c (IV.sl 1 1 fun x => [slI M'])])) (.need (realOk x1) (.need (rgOk (AV.c (IV.sl 2 1 fun k => bif k.beq 0 then [slI x2] else [slI x3]))) (.need (rgOk (AV.c (IV.sl 2 1 fun k => bif k.beq 0 then [slI x4] else [slI x5]))) (.need (rb x6) (.need (allO rb (some (linesOf x3.length (lineEl x3)))) (.need (rb x7) (.need (allO rb (some (linesOf x5.length (lineEl x5)))) (.need (tbB (realV x1)) (.ret { val := .c (.v (.bool (eqRings (sameL (realV x1)) x6 (some (linesOf x3.length (lineEl x3))) x7 (some (linesOf x5.length (lineEl x5)))))), outs := [some (Ent.cells x1 36)] }))))))))))
def M23ess (L : List L4) (M : List L4) (L' : List L4) (M' : List L4) : Tr AV :=
 let x1 : List L4 := linesOf L.length (lineEl L)
 let x2 : List L4 := linesOf M.length (lineEl M)
 let x3 : List L4 := linesOf L'.length (lineEl L')
 let x4 : List L4 := linesOf M'.length (lineEl M')
 let x5 : List L4 := linesOf x1.length (lineEl x1)
 let x6 : List L4 := linesOf x3.length (lineEl x3)
 .need (shOk (AV.agg [AV.c (IV.sl L.length 16 (lineEl L)), AV.c (IV.sl 1 1 fun x => [slI M])])) (.need (shOk (AV.agg [AV.c (IV.sl L'.length 16 (lineEl L')), AV.c (IV.sl 1 1 fun x => [slI M'])])) (.need (rgOk (AV.c (IV.sl 2 1 fun k => bif k.beq 0 then [slI x1] else [slI x2]))) (.need (rgOk (AV.c (IV.sl 2 1 fun k => bif k.beq 0 then [slI x3] else [slI x4]))) (.need (rl x5) (.need (allO rl (some (linesOf x2.length (lineEl x2)))) (.need (rl x6) (.need (allO rl (some (linesOf x4.length (lineEl x4)))) (.ret (.c (.v (.bool (eqRings eqL x5 (some (linesOf x2.length (lineEl x2))) x6 (some (linesOf x4.length (lineEl x4)))))))))))))))
def M12ss (L : List L4) (M : List L4) (L' : List L4) (M' : List L4) (t : R3) : Tr AV :=
 let x1 : List AV := [.c (.v (.bool (decide (t.p.num < 0)))), .c (.v (.string ⟨⟨magB t.p.num.natAbs⟩⟩)), .c (.v (.bool false)), .c (.v (.string ⟨⟨denB t.p.den⟩⟩)), .c (.v (.bool (decide (t.r.num < 0)))), .c (.v (.string ⟨⟨magB t.r.num.natAbs⟩⟩)), .c (.v (.bool false)), .c (.v (.string ⟨⟨denB t.r.den⟩⟩)), .c (.v (.bool t.neg))]
 let x2 : List L4 := linesOf L.length (lineEl L)
 let x3 : List L4 := linesOf L'.length (lineEl L')
 .need (realOk x1) (.need (shOk (AV.agg [AV.c (IV.sl L.length 16 (lineEl L)), AV.c (IV.sl 1 1 fun x => [slI M])])) (.need (shOk (AV.agg [AV.c (IV.sl L'.length 16 (lineEl L')), AV.c (IV.sl 1 1 fun x => [slI M'])])) (.need (rb x2) (.need (allO rb (some (linesOf M.length (lineEl M)))) (.need (rb x3) (.need (allO rb (some (linesOf M'.length (lineEl M')))) (.need (tbB (realV x1)) (.ret (.c (.v (.bool (eqRings (sameL (realV x1)) x2 (some (linesOf M.length (lineEl M))) x3 (some (linesOf M'.length (lineEl M')))))))))))))))
def M13ss (L : List L4) (M : List L4) (L' : List L4) (M' : List L4) : Tr AV :=
 let x1 : List L4 := linesOf L.length (lineEl L)
 let x2 : List L4 := linesOf L'.length (lineEl L')
 .need (shOk (AV.agg [AV.c (IV.sl L.length 16 (lineEl L)), AV.c (IV.sl 1 1 fun x => [slI M])])) (.need (shOk (AV.agg [AV.c (IV.sl L'.length 16 (lineEl L')), AV.c (IV.sl 1 1 fun x => [slI M'])])) (.need (rl x1) (.need (allO rl (some (linesOf M.length (lineEl M)))) (.need (rl x2) (.need (allO rl (some (linesOf M'.length (lineEl M')))) (.ret (.c (.v (.bool (eqRings eqL x1 (some (linesOf M.length (lineEl M))) x2 (some (linesOf M'.length (lineEl M')))))))))))))
theorem Γ46s_ok : ∀ f s, Γ46s f = some s → SpecOk Tryz.prog f s := one_ok f47_ok.spec
theorem Γ46e_ok : ∀ f s, Γ46e f = some s → SpecOk Tryz.prog f s := one_ok f47e_ok.spec
theorem sat_iteT {α : Type} {t e : Tr α} {Q : α → Prop} : (Tr.ite true t e).sat Q = t.sat Q := propext ⟨fun h => h.1 rfl, fun h => ⟨fun _ => h, fun h => by cases h⟩⟩
theorem sat_iteF {α : Type} {t e : Tr α} {Q : α → Prop} : (Tr.ite false t e).sat Q = e.sat Q := propext ⟨fun h => h.2 rfl, fun h => ⟨fun h => (by cases h), fun _ => h⟩⟩
theorem shOk_n (L : List L4) : shOk (.agg [.c (.sl L.length 16 (lineEl L)), .c (.v (.slice none 0 0))]) = true := linesOk_lines L
theorem shOk_s (L M : List L4) : shOk (.agg [.c (.sl L.length 16 (lineEl L)), .c (.sl 1 1 fun _ => [slI M])]) = true := by
 show (linesOk L.length (lineEl L) && linesOk M.length (lineEl M)) = true
 rw [linesOk_lines, linesOk_lines]; rfl
theorem rgOk_n (L : List L4) : rgOk (.c (.sl 1 1 fun _ => [slI L])) = true := linesOk_lines L
theorem rgOk_s (L M : List L4) : rgOk (.c (.sl 2 1 fun k => bif Nat.beq k 0 then [slI L] else [slI M])) = true := by
 show (linesOk L.length (lineEl L) && linesOk M.length (lineEl M)) = true
 rw [linesOk_lines, linesOk_lines]; rfl
theorem shOk_n' (L : List L4) : shOk (shA L none) = true := shOk_n L
theorem shOk_s' (L M : List L4) : shOk (shA L (some M)) = true := shOk_s L M
theorem rgOk_n' (L : List L4) : rgOk (ringsA L none) = true := rgOk_n L
theorem rgOk_s' (L M : List L4) : rgOk (ringsA L (some M)) = true := rgOk_s L M
theorem rb_all {L : List L4} (h : rb L = true) : L.all lbB = true ∧ decide (L.length ≤ 1000) = true := by simpa only [rb, Bool.and_eq_true] using h
theorem rl_all {L : List L4} (h : rl L = true) : decide (L.length ≤ 1000) = true := h
theorem M46s_eq (L M : List L4) (t : R3) : execM Tryz.prog Γ46s noL 1010 true Tryz.f46 [some (.cells [.fn 24 [.ptr 1 0]] 70), some (.cells (realCells t) 36)] [slA L, slA M, .ptr 0 0] = M46s L M t := by kernel_rfl
theorem M46e_eq (L M : List L4) : execM Tryz.prog Γ46e noL 1010 true Tryz.f46 [some (.cells [fnE] 70)] [slA L, slA M, .ptr 0 0] = M46e L M := by kernel_rfl
theorem M31n_eq (L : List L4) : execFn Tryz.prog (fun _ => none) noL 1010 Tryz.f31 [shA L none] = M31n L := by kernel_rfl
theorem M31s_eq (L M : List L4) : execFn Tryz.prog (fun _ => none) noL 1010 Tryz.f31 [shA L (some M)] = M31s L M := by kernel_rfl
theorem f46s_ok : MemOk Tryz.prog 46 K46s := by
 refine memOk_of_exec_c (L := fun _ => noL) prog_mixed Γ46s_ok (fn := Tryz.f46) (c := codeOf Tryz.f46) (by kernel_rfl) (by kernel_rfl) (callFunc_enter (fn := Tryz.f46) (c := codeOf Tryz.f46) (by kernel_rfl) (by kernel_rfl) (by kernel_rfl)) (N := 1010) (frz := true) ?_ ?_
 · intro ents args o h
   exact blocksOk_none _ _
 · intro ents args o h hc
   unfold K46s at h
   split at h
   · rename_i t n el m el'
     cases h
     have h0 : realOk t = true := hc (realOk t) (by simp)
     have h1 : linesOk n el = true := hc (linesOk n el) (by simp)
     have h2 : linesOk m el' = true := hc (linesOk m el') (by simp)
     have h3 : (linesOf n el).all lbB = true := hc ((linesOf n el).all lbB) (by simp)
     have h4 : (linesOf m el').all lbB = true := hc ((linesOf m el').all lbB) (by simp)
     have h5 : tbB (realV t) = true := hc (tbB (realV t)) (by simp)
     have h6 : decide (n ≤ 1000) = true := hc (decide (n ≤ 1000)) (by simp)
     obtain ⟨t, rfl⟩ : ∃ x, t = realCells x := ⟨_, realOk_eq h0⟩
     simp only [realV_cells] at *
     rw [← linesOf_len n el] at h6
     refine ⟨[some (.cells [.fn 24 [.ptr 1 0]] 70), some (.cells (realCells t) 36)], [slA (linesOf n el), slA (linesOf m el'), .ptr 0 0], EntsEqv.refl _, .cons (sees_slA h1) (.cons (sees_slA h2) (SeesL.refl _)), ?_⟩
     generalize linesOf n el = L at *
     generalize linesOf m el' = M at *
     have hs : (M46s L M t).sat fun o => o = { val := boolA (eqLines (sameL t) L M), outs := [some (.cells [.fn 24 [.ptr 1 0]] 70), some (.cells (realCells t) 36)] } := by
       simp only [M46s, ratV_lit, ratOk_lit, quadV_lit, quadOk_lit, realV_lit, realOk_lit, lineV_lit, lineOk_lit, boolV_lit, List.take_succ_cons, List.take_zero, List.drop_succ_cons, List.drop_zero, Bool.and_self, l4_eta, r3_eta, linesOf_el, linesOk_lines, sat_true, h3, h4, h5, h6]
       exact sat_ret rfl
     rw [← M46s_eq] at hs
     generalize execM Tryz.prog Γ46s noL 1010 true Tryz.f46 [some (.cells [.fn 24 [.ptr 1 0]] 70), some (.cells (realCells t) 36)] [slA L, slA M, .ptr 0 0] = T at hs ⊢
     generalize eqLines (sameL t) L M = z at hs
     exact Tr.sat_mono (fun r hr => by subst hr; exact ⟨Sees.refl _, EntsEqv.refl _⟩) hs
   · cases h
theorem f46e_ok : MemOk Tryz.prog 46 K46e := by
 refine memOk_of_exec_c (L := fun _ => noL) prog_mixed Γ46e_ok (fn := Tryz.f46) (c := codeOf Tryz.f46) (by kernel_rfl) (by kernel_rfl) (callFunc_enter (fn := Tryz.f46) (c := codeOf Tryz.f46) (by kernel_rfl) (by kernel_rfl) (by kernel_rfl)) (N := 1010) (frz := true) ?_ ?_
 · intro ents args o h
   exact blocksOk_none _ _
 · intro ents args o h hc
   unfold K46e at h
   split at h
   · rename_i n el m el'
     cases h
     have h1 : linesOk n el = true := hc (linesOk n el) (by simp)
     have h2 : linesOk m el' = true := hc (linesOk m el') (by simp)
     have h6 : decide (n ≤ 1000) = true := hc (decide (n ≤ 1000)) (by simp)
     rw [← linesOf_len n el] at h6
     refine ⟨[some (.cells [fnE] 70)], [slA (linesOf n el), slA (linesOf m el'), .ptr 0 0], EntsEqv.refl _, .cons (sees_slA h1) (.cons (sees_slA h2) (SeesL.refl _)), ?_⟩
     generalize linesOf n el = L at *
     generalize linesOf m el' = M at *
     have hs : (M46e L M).sat fun o => o = { val := boolA (eqLines eqL L M), outs := [some (.cells [fnE] 70)] } := by
       simp only [M46e, ratV_lit, ratOk_lit, quadV_lit, quadOk_lit, realV_lit, realOk_lit, lineV_lit, lineOk_lit, boolV_lit, List.take_succ_cons, List.take_zero, List.drop_succ_cons, List.drop_zero, Bool.and_self, l4_eta, r3_eta, linesOf_el, linesOk_lines, sat_true, h6]
       exact sat_ret rfl
     rw [← M46e_eq] at hs
     generalize execM Tryz.prog Γ46e noL 1010 true Tryz.f46 [some (.cells [fnE] 70)] [slA L, slA M, .ptr 0 0] = T at hs ⊢
     generalize eqLines eqL L M = z at hs
     exact Tr.sat_mono (fun r hr => by subst hr; exact ⟨Sees.refl _, EntsEqv.refl _⟩) hs
   · cases h
theorem f31_ok : PureOk Tryz.prog 31 K31 := by
 refine pureOk_of_exec_c (L := noL) prog_mixed noΓ_ok (fn := Tryz.f31) (c := codeOf Tryz.f31) (by kernel_rfl) (by kernel_rfl) (callFunc_enter (fn := Tryz.f31) (c := codeOf Tryz.f31) (by kernel_rfl) (by kernel_rfl) (by kernel_rfl)) (N := 1010) (blocksOk_none _ _) ?_ ?_
 · intro args v cs h
   unfold K31 at h
   split at h
   · split at h
     · rename_i L M _
       cases h
       cases M <;> rfl
     · cases h
   · cases h
 · intro args v cs h hc
   unfold K31 at h
   split at h
   · rename_i s
     split at h
     · rename_i L M hs
       cases h
       have h1 : shOk s = true := hc (shOk s) (by simp)
       refine ⟨[shA L M], .cons (shV_sees hs h1) .nil, ?_⟩
       cases M with
       | none =>
         rw [M31n_eq]
         simp only [M31n, sat_true]
         refine sat_ret ⟨rfl, Sees.sl fun k hk => ?_⟩
         obtain rfl : k = 0 := by omega
         rfl
       | some M =>
         rw [M31s_eq]
         simp only [M31s, sat_true]
         refine sat_ret ⟨rfl, Sees.sl fun k hk => ?_⟩
         rcases k with _ | _ | k
         · rfl
         · rfl
         · omega
     · cases h
   · cases h
theorem Γ45s_ok : ∀ f s, Γ45s f = some s → SpecOk Tryz.prog f s := one_ok f46s_ok.spec
theorem M45snn_eq (L L' : List L4) (t : R3) : execM Tryz.prog Γ45s noL 1003 true Tryz.f45 [some (.cells [.fn 24 [.ptr 1 0]] 70), some (.cells (realCells t) 36)] [ringsA L none, ringsA L' none, .fn 46 [.ptr 0 0]] = M45snn L L' t := by kernel_rfl
theorem M45snn_sat (L L' : List L4) (t : R3) (h0 : rb L = true) (h1 : rb L' = true) (ht : tbB t = true) : (M45snn L L' t).sat fun o => o = { val := boolA (eqRings (sameL t) L none L' none), outs := [some (.cells [.fn 24 [.ptr 1 0]] 70), some (.cells (realCells t) 36)] } := by
 obtain ⟨a0, l0⟩ := rb_all h0
 obtain ⟨a1, l1⟩ := rb_all h1
 simp only [M45snn, ratV_lit, ratOk_lit, quadV_lit, quadOk_lit, realV_lit, realOk_lit, lineV_lit, lineOk_lit, boolV_lit, List.take_succ_cons, List.take_zero, List.drop_succ_cons, List.drop_zero, Bool.and_self, l4_eta, r3_eta, linesOf_el, linesOk_lines, sat_true, shOk_n, shOk_s, rgOk_n, rgOk_s, shOk_n', shOk_s', rgOk_n', rgOk_s', allO, sat_iteT, sat_iteF, a0, a1, l0, l1, h0, h1, ht]
 refine sat_ite (fun h => ?_) (fun h => ?_) <;> try simp only [sat_iteF, sat_iteT, sat_true]
 · have h : eqLines (sameL t) L L' = false := by simpa using h
   refine sat_ret ?_
   simp only [eqRings, h]
   rfl
 · have h : eqLines (sameL t) L L' = true := by simpa using h
   refine sat_ret ?_
   simp only [eqRings, h]
   rfl
theorem M45ssn_eq (L M L' : List L4) (t : R3) : execM Tryz.prog Γ45s noL 1003 true Tryz.f45 [some (.cells [.fn 24 [.ptr 1 0]] 70), some (.cells (realCells t) 36)] [ringsA L (some M), ringsA L' none, .fn 46 [.ptr 0 0]] = M45ssn L M L' t := by kernel_rfl
theorem M45ssn_sat (L M L' : List L4) (t : R3) (h0 : rb L = true) (h1 : rb M = true) (h2 : rb L' = true) (ht : tbB t = true) : (M45ssn L M L' t).sat fun o => o = { val := boolA (eqRings (sameL t) L (some M) L' none), outs := [some (.cells [.fn 24 [.ptr 1 0]] 70), some (.cells (realCells t) 36)] } := by
 obtain ⟨a0, l0⟩ := rb_all h0
 obtain ⟨a1, l1⟩ := rb_all h1
 obtain ⟨a2, l2⟩ := rb_all h2
 simp only [M45ssn, ratV_lit, ratOk_lit, quadV_lit, quadOk_lit, realV_lit, realOk_lit, lineV_lit, lineOk_lit, boolV_lit, List.take_succ_cons, List.take_zero, List.drop_succ_cons, List.drop_zero, Bool.and_self, l4_eta, r3_eta, linesOf_el, linesOk_lines, sat_true, shOk_n, shOk_s, rgOk_n, rgOk_s, shOk_n', shOk_s', rgOk_n', rgOk_s', allO, sat_iteT, sat_iteF, a0, a1, a2, l0, l1, l2, h0, h1, h2, ht]
 exact sat_ret rfl
theorem M45sns_eq (L L' M' : List L4) (t : R3) : execM Tryz.prog Γ45s noL 1003 true Tryz.f45 [some (.cells [.fn 24 [.ptr 1 0]] 70), some (.cells (realCells t) 36)] [ringsA L none, ringsA L' (some M'), .fn 46 [.ptr 0 0]] = M45sns L L' M' t := by kernel_rfl
theorem M45sns_sat (L L' M' : List L4) (t : R3) (h0 : rb L = true) (h1 : rb L' = true) (h2 : rb M' = true) (ht : tbB t = true) : (M45sns L L' M' t).sat fun o => o = { val := boolA (eqRings (sameL t) L none L' (some M')), outs := [some (.cells [.fn 24 [.ptr 1 0]] 70), some (.cells (realCells t) 36)] } := by
 obtain ⟨a0, l0⟩ := rb_all h0
 obtain ⟨a1, l1⟩ := rb_all h1
 obtain ⟨a2, l2⟩ := rb_all h2
 simp only [M45sns, ratV_lit, ratOk_lit, quadV_lit, quadOk_lit, realV_lit, realOk_lit, lineV_lit, lineOk_lit, boolV_lit, List.take_succ_cons, List.take_zero, List.drop_succ_cons, List.drop_zero, Bool.and_self, l4_eta, r3_eta, linesOf_el, linesOk_lines, sat_true, shOk_n, shOk_s, rgOk_n, rgOk_s, shOk_n', shOk_s', rgOk_n', rgOk_s', allO, sat_iteT, sat_iteF, a0, a1, a2, l0, l1, l2, h0, h1, h2, ht]
 exact sat_ret rfl
theorem M45sss_eq (L M L' M' : List L4) (t : R3) : execM Tryz.prog Γ45s noL 1003 true Tryz.f45 [some (.cells [.fn 24 [.ptr 1 0]] 70), some (.cells (realCells t) 36)] [ringsA L (some M), ringsA L' (some M'), .fn 46 [.ptr 0 0]] = M45sss L M L' M' t := by kernel_rfl
theorem M45sss_sat (L M L' M' : List L4) (t : R3) (h0 : rb L = true) (h1 : rb M = true) (h2 : rb L' = true) (h3 : rb M' = true) (ht : tbB t = true) : (M45sss L M L' M' t).sat fun o => o = { val := boolA (eqRings (sameL t) L (some M) L' (some M')), outs := [some (.cells [.fn 24 [.ptr 1 0]] 70), some (.cells (realCells t) 36)] } := by
 obtain ⟨a0, l0⟩ := rb_all h0
 obtain ⟨a1, l1⟩ := rb_all h1
 obtain ⟨a2, l2⟩ := rb_all h2
 obtain ⟨a3, l3⟩ := rb_all h3
 simp only [M45sss, ratV_lit, ratOk_lit, quadV_lit, quadOk_lit, realV_lit, realOk_lit, lineV_lit, lineOk_lit, boolV_lit, List.take_succ_cons, List.take_zero, List.drop_succ_cons, List.drop_zero, Bool.and_self, l4_eta, r3_eta, linesOf_el, linesOk_lines, sat_true, shOk_n, shOk_s, rgOk_n, rgOk_s, shOk_n', shOk_s', rgOk_n', rgOk_s', allO, sat_iteT, sat_iteF, a0, a1, a2, a3, l0, l1, l2, l3, h0, h1, h2, h3, ht]
 refine sat_ite (fun h => ?_) (fun h => ?_) <;> try simp only [sat_iteF, sat_iteT, sat_true]
 · have h : eqLines (sameL t) L L' = false := by simpa using h
   refine sat_ret ?_
   simp only [eqRings, h, Bool.false_and]
   rfl
 · have h : eqLines (sameL t) L L' = true := by simpa using h
   refine sat_ite (fun k => ?_) (fun k => ?_) <;> try simp only [sat_iteF, sat_iteT, sat_true]
   · have k : eqLines (sameL t) M M' = false := by simpa using k
     refine sat_ret ?_
     simp only [eqRings, h, k, Bool.and_false]
     rfl
   · have k : eqLines (sameL t) M M' = true := by simpa using k
     refine sat_ret ?_
     simp only [eqRings, h, k, Bool.and_true]
     rfl
theorem M45s_all (L : List L4) (M : Option (List L4)) (L' : List L4) (M' : Option (List L4)) (t : R3) (h0 : rb L = true) (h1 : allO rb M = true) (h2 : rb L' = true) (h3 : allO rb M' = true) (ht : tbB t = true) : (execM Tryz.prog Γ45s noL 1003 true Tryz.f45 [some (.cells [.fn 24 [.ptr 1 0]] 70), some (.cells (realCells t) 36)] [ringsA L M, ringsA L' M', .fn 46 [.ptr 0 0]]).sat fun o => o = { val := boolA (eqRings (sameL t) L M L' M'), outs := [some (.cells [.fn 24 [.ptr 1 0]] 70), some (.cells (realCells t) 36)] } := by
 cases M with
 | none =>
   cases M' with
   | none => rw [M45snn_eq]; exact M45snn_sat L L' t h0 h2 ht
   | some M' => rw [M45sns_eq]; exact M45sns_sat L L' M' t h0 h2 h3 ht
 | some M =>
   cases M' with
   | none => rw [M45ssn_eq]; exact M45ssn_sat L M L' t h0 h1 h2 ht
   | some M' => rw [M45sss_eq]; exact M45sss_sat L M L' M' t h0 h1 h2 h3 ht
theorem f45s_ok : MemOk Tryz.prog 45 K45s := by
 refine memOk_of_exec_c (L := fun _ => noL) prog_mixed Γ45s_ok (fn := Tryz.f45) (c := codeOf Tryz.f45) (by kernel_rfl) (by kernel_rfl) (callFunc_enter (fn := Tryz.f45) (c := codeOf Tryz.f45) (by kernel_rfl) (by kernel_rfl) (by kernel_rfl)) (N := 1003) (frz := true) ?_ ?_
 · intro ents args o h
   exact blocksOk_none _ _
 · intro ents args o h hc
   unfold K45s at h
   split at h
   · rename_i t a b
     split at h
     · rename_i L M L' M' ha hb
       cases h
       have k0 : realOk t = true := hc (realOk t) (by simp)
       have k1 : rgOk a = true := hc (rgOk a) (by simp)
       have k2 : rgOk b = true := hc (rgOk b) (by simp)
       have h0 : rb L = true := hc (rb L) (by simp)
       have h1 : allO rb M = true := hc (allO rb M) (by simp)
       have h2 : rb L' = true := hc (rb L') (by simp)
       have h3 : allO rb M' = true := hc (allO rb M') (by simp)
       have ht : tbB (realV t) = true := hc (tbB (realV t)) (by simp)
       obtain ⟨t, rfl⟩ : ∃ x, t = realCells x := ⟨_, realOk_eq k0⟩
       simp only [realV_cells] at *
       refine ⟨[some (.cells [.fn 24 [.ptr 1 0]] 70), some (.cells (realCells t) 36)], [ringsA L M, ringsA L' M', .fn 46 [.ptr 0 0]], EntsEqv.refl _, .cons (rgV_sees ha k1) (.cons (rgV_sees hb k2) (SeesL.refl _)), ?_⟩
       have hs := M45s_all L M L' M' t h0 h1 h2 h3 ht
       generalize execM Tryz.prog Γ45s noL 1003 true Tryz.f45 [some (.cells [.fn 24 [.ptr 1 0]] 70), some (.cells (realCells t) 36)] [ringsA L M, ringsA L' M', .fn 46 [.ptr 0 0]] = T at hs ⊢
       generalize eqRings (sameL t) L M L' M' = z at hs
       exact Tr.sat_mono (fun r hr => by subst hr; exact ⟨Sees.refl _, EntsEqv.refl _⟩) hs
     · cases h
   · cases h
theorem Γ45e_ok : ∀ f s, Γ45e f = some s → SpecOk Tryz.prog f s := one_ok f46e_ok.spec
theorem M45enn_eq (L L' : List L4) : execM Tryz.prog Γ45e noL 1003 true Tryz.f45 [some (.cells [fnE] 70)] [ringsA L none, ringsA L' none, .fn 46 [.ptr 0 0]] = M45enn L L' := by kernel_rfl
theorem M45enn_sat (L L' : List L4) (h0 : rl L = true) (h1 : rl L' = true) : (M45enn L L').sat fun o => o = { val := boolA (eqRings eqL L none L' none), outs := [some (.cells [fnE] 70)] } := by
 have l0 := rl_all h0
 have l1 := rl_all h1
 simp only [M45enn, ratV_lit, ratOk_lit, quadV_lit, quadOk_lit, realV_lit, realOk_lit, lineV_lit, lineOk_lit, boolV_lit, List.take_succ_cons, List.take_zero, List.drop_succ_cons, List.drop_zero, Bool.and_self, l4_eta, r3_eta, linesOf_el, linesOk_lines, sat_true, shOk_n, shOk_s, rgOk_n, rgOk_s, shOk_n', shOk_s', rgOk_n', rgOk_s', allO, sat_iteT, sat_iteF, l0, l1, h0, h1]
 refine sat_ite (fun h => ?_) (fun h => ?_) <;> try simp only [sat_iteF, sat_iteT, sat_true]
 · have h : eqLines eqL L L' = false := by simpa using h
   refine sat_ret ?_
   simp only [eqRings, h]
   rfl
 · have h : eqLines eqL L L' = true := by simpa using h
   refine sat_ret ?_
   simp only [eqRings, h]
   rfl
theorem M45esn_eq (L M L' : List L4) : execM Tryz.prog Γ45e noL 1003 true Tryz.f45 [some (.cells [fnE] 70)] [ringsA L (some M), ringsA L' none, .fn 46 [.ptr 0 0]] = M45esn L M L' := by kernel_rfl
theorem M45esn_sat (L M L' : List L4) (h0 : rl L = true) (h1 : rl M = true) (h2 : rl L' = true) : (M45esn L M L').sat fun o => o = { val := boolA (eqRings eqL L (some M) L' none), outs := [some (.cells [fnE] 70)] } := by
 have l0 := rl_all h0
 have l1 := rl_all h1
 have l2 := rl_all h2
 simp only [M45esn, ratV_lit, ratOk_lit, quadV_lit, quadOk_lit, realV_lit, realOk_lit, lineV_lit, lineOk_lit, boolV_lit, List.take_succ_cons, List.take_zero, List.drop_succ_cons, List.drop_zero, Bool.and_self, l4_eta, r3_eta, linesOf_el, linesOk_lines, sat_true, shOk_n, shOk_s, rgOk_n, rgOk_s, shOk_n', shOk_s', rgOk_n', rgOk_s', allO, sat_iteT, sat_iteF, l0, l1, l2, h0, h1, h2]
 exact sat_ret rfl
theorem M45ens_eq (L L' M' : List L4) : execM Tryz.prog Γ45e noL 1003 true Tryz.f45 [some (.cells [fnE] 70)] [ringsA L none, ringsA L' (some M'), .fn 46 [.ptr 0 0]] = M45ens L L' M' := by kernel_rfl
theorem M45ens_sat (L L' M' : List L4) (h0 : rl L = true) (h1 : rl L' = true) (h2 : rl M' = true) : (M45ens L L' M').sat fun o => o = { val := boolA (eqRings eqL L none L' (some M')), outs := [some (.cells [fnE] 70)] } := by
 have l0 := rl_all h0
 have l1 := rl_all h1
 have l2 := rl_all h2
 simp only [M45ens, ratV_lit, ratOk_lit, quadV_lit, quadOk_lit, realV_lit, realOk_lit, lineV_lit, lineOk_lit, boolV_lit, List.take_succ_cons, List.take_zero, List.drop_succ_cons, List.drop_zero, Bool.and_self, l4_eta, r3_eta, linesOf_el, linesOk_lines, sat_true, shOk_n, shOk_s, rgOk_n, rgOk_s, shOk_n', shOk_s', rgOk_n', rgOk_s', allO, sat_iteT, sat_iteF, l0, l1, l2, h0, h1, h2]
 exact sat_ret rfl
theorem M45ess_eq (L M L' M' : List L4) : execM Tryz.prog Γ45e noL 1003 true Tryz.f45 [some (.cells [fnE] 70)] [ringsA L (some M), ringsA L' (some M'), .fn 46 [.ptr 0 0]] = M45ess L M L' M' := by kernel_rfl
theorem M45ess_sat (L M L' M' : List L4) (h0 : rl L = true) (h1 : rl M = true) (h2 : rl L' = true) (h3 : rl M' = true) : (M45ess L M L' M').sat fun o => o = { val := boolA (eqRings eqL L (some M) L' (some M')), outs := [some (.cells [fnE] 70)] } := by
 have l0 := rl_all h0
 have l1 := rl_all h1
 have l2 := rl_all h2
 have l3 := rl_all h3
 simp only [M45ess, ratV_lit, ratOk_lit, quadV_lit, quadOk_lit, realV_lit, realOk_lit, lineV_lit, lineOk_lit, boolV_lit, List.take_succ_cons, List.take_zero, List.drop_succ_cons, List.drop_zero, Bool.and_self, l4_eta, r3_eta, linesOf_el, linesOk_lines, sat_true, shOk_n, shOk_s, rgOk_n, rgOk_s, shOk_n', shOk_s', rgOk_n', rgOk_s', allO, sat_iteT, sat_iteF, l0, l1, l2, l3, h0, h1, h2, h3]
 refine sat_ite (fun h => ?_) (fun h => ?_) <;> try simp only [sat_iteF, sat_iteT, sat_true]
 · have h : eqLines eqL L L' = false := by simpa using h
   refine sat_ret ?_
   simp only [eqRings, h, Bool.false_and]
   rfl
 · have h : eqLines eqL L L' = true := by simpa using h
   refine sat_ite (fun k => ?_) (fun k => ?_) <;> try simp only [sat_iteF, sat_iteT, sat_true]
   · have k : eqLines eqL M M' = false := by simpa using k
     refine sat_ret ?_
     simp only [eqRings, h, k, Bool.and_false]
     rfl
   · have k : eqLines eqL M M' = true := by simpa using k
     refine sat_ret ?_
     simp only [eqRings, h, k, Bool.and_true]
     rfl
theorem M45e_all (L : List L4) (M : Option (List L4)) (L' : List L4) (M' : Option (List L4)) (h0 : rl L = true) (h1 : allO rl M = true) (h2 : rl L' = true) (h3 : allO rl M' = true) : (execM Tryz.prog Γ45e noL 1003 true Tryz.f45 [some (.cells [fnE] 70)] [ringsA L M, ringsA L' M', .fn 46 [.ptr 0 0]]).sat fun o => o = { val := boolA (eqRings eqL L M L' M'), outs := [some (.cells [fnE] 70)] } := by
 cases M with
 | none =>
   cases M' with
   | none => rw [M45enn_eq]; exact M45enn_sat L L' h0 h2
   | some M' => rw [M45ens_eq]; exact M45ens_sat L L' M' h0 h2 h3
 | some M =>
   cases M' with
   | none => rw [M45esn_eq]; exact M45esn_sat L M L' h0 h1 h2
   | some M' => rw [M45ess_eq]; exact M45ess_sat L M L' M' h0 h1 h2 h3
theorem f45e_ok : MemOk Tryz.prog 45 K45e := by
 refine memOk_of_exec_c (L := fun _ => noL) prog_mixed Γ45e_ok (fn := Tryz.f45) (c := codeOf Tryz.f45) (by kernel_rfl) (by kernel_rfl) (callFunc_enter (fn := Tryz.f45) (c := codeOf Tryz.f45) (by kernel_rfl) (by kernel_rfl) (by kernel_rfl)) (N := 1003) (frz := true) ?_ ?_
 · intro ents args o h
   exact blocksOk_none _ _
 · intro ents args o h hc
   unfold K45e at h
   split at h
   · rename_i a b
     split at h
     · rename_i L M L' M' ha hb
       cases h
       have k1 : rgOk a = true := hc (rgOk a) (by simp)
       have k2 : rgOk b = true := hc (rgOk b) (by simp)
       have h0 : rl L = true := hc (rl L) (by simp)
       have h1 : allO rl M = true := hc (allO rl M) (by simp)
       have h2 : rl L' = true := hc (rl L') (by simp)
       have h3 : allO rl M' = true := hc (allO rl M') (by simp)
       refine ⟨[some (.cells [fnE] 70)], [ringsA L M, ringsA L' M', .fn 46 [.ptr 0 0]], EntsEqv.refl _, .cons (rgV_sees ha k1) (.cons (rgV_sees hb k2) (SeesL.refl _)), ?_⟩
       have hs := M45e_all L M L' M' h0 h1 h2 h3
       generalize execM Tryz.prog Γ45e noL 1003 true Tryz.f45 [some (.cells [fnE] 70)] [ringsA L M, ringsA L' M', .fn 46 [.ptr 0 0]] = T at hs ⊢
       generalize eqRings eqL L M L' M' = z at hs
       exact Tr.sat_mono (fun r hr => by subst hr; exact ⟨Sees.refl _, EntsEqv.refl _⟩) hs
     · cases h
   · cases h
theorem Γ23s_ok : ∀ f s, Γ23s f = some s → SpecOk Tryz.prog f s := step_ok f31_ok.spec (one_ok f45s_ok.spec)
theorem M23snn_eq (L L' : List L4) (t : R3) : execM Tryz.prog Γ23s noL 1010 true Tryz.f23 [some (.cells (realCells t) 36)] [shA L none, shA L' none, .fn 24 [.ptr 0 0]] = M23snn L L' t := by kernel_rfl
theorem M23snn_sat (L L' : List L4) (t : R3) (h0 : rb L = true) (h1 : rb L' = true) (ht : tbB t = true) : (M23snn L L' t).sat fun o => o = { val := boolA (eqRings (sameL t) L none L' none), outs := [some (.cells (realCells t) 36)] } := by
 obtain ⟨a0, l0⟩ := rb_all h0
 obtain ⟨a1, l1⟩ := rb_all h1
 simp only [M23snn, ratV_lit, ratOk_lit, quadV_lit, quadOk_lit, realV_lit, realOk_lit, lineV_lit, lineOk_lit, boolV_lit, List.take_succ_cons, List.take_zero, List.drop_succ_cons, List.drop_zero, Bool.and_self, l4_eta, r3_eta, linesOf_el, linesOk_lines, sat_true, shOk_n, shOk_s, rgOk_n, rgOk_s, shOk_n', shOk_s', rgOk_n', rgOk_s', allO, sat_iteT, sat_iteF, a0, a1, l0, l1, h0, h1, ht]
 exact sat_ret rfl
theorem M23ssn_eq (L M L' : List L4) (t : R3) : execM Tryz.prog Γ23s noL 1010 true Tryz.f23 [some (.cells (realCells t) 36)] [shA L (some M), shA L' none, .fn 24 [.ptr 0 0]] = M23ssn L M L' t := by kernel_rfl
theorem M23ssn_sat (L M L' : List L4) (t : R3) (h0 : rb L = true) (h1 : rb M = true) (h2 : rb L' = true) (ht : tbB t = true) : (M23ssn L M L' t).sat fun o => o = { val := boolA (eqRings (sameL t) L (some M) L' none), outs := [some (.cells (realCells t) 36)] } := by
 obtain ⟨a0, l0⟩ := rb_all h0
 obtain ⟨a1, l1⟩ := rb_all h1
 obtain ⟨a2, l2⟩ := rb_all h2
 simp only [M23ssn, ratV_lit, ratOk_lit, quadV_lit, quadOk_lit, realV_lit, realOk_lit, lineV_lit, lineOk_lit, boolV_lit, List.take_succ_cons, List.take_zero, List.drop_succ_cons, List.drop_zero, Bool.and_self, l4_eta, r3_eta, linesOf_el, linesOk_lines, sat_true, shOk_n, shOk_s, rgOk_n, rgOk_s, shOk_n', shOk_s', rgOk_n', rgOk_s', allO, sat_iteT, sat_iteF, a0, a1, a2, l0, l1, l2, h0, h1, h2, ht]
 exact sat_ret rfl
theorem M23sns_eq (L L' M' : List L4) (t : R3) : execM Tryz.prog Γ23s noL 1010 true Tryz.f23 [some (.cells (realCells t) 36)] [shA L none, shA L' (some M'), .fn 24 [.ptr 0 0]] = M23sns L L' M' t := by kernel_rfl
theorem M23sns_sat (L L' M' : List L4) (t : R3) (h0 : rb L = true) (h1 : rb L' = true) (h2 : rb M' = true) (ht : tbB t = true) : (M23sns L L' M' t).sat fun o => o = { val := boolA (eqRings (sameL t) L none L' (some M')), outs := [some (.cells (realCells t) 36)] } := by
 obtain ⟨a0, l0⟩ := rb_all h0
 obtain ⟨a1, l1⟩ := rb_all h1
 obtain ⟨a2, l2⟩ := rb_all h2
 simp only [M23sns, ratV_lit, ratOk_lit, quadV_lit, quadOk_lit, realV_lit, realOk_lit, lineV_lit, lineOk_lit, boolV_lit, List.take_succ_cons, List.take_zero, List.drop_succ_cons, List.drop_zero, Bool.and_self, l4_eta, r3_eta, linesOf_el, linesOk_lines, sat_true, shOk_n, shOk_s, rgOk_n, rgOk_s, shOk_n', shOk_s', rgOk_n', rgOk_s', allO, sat_iteT, sat_iteF, a0, a1, a2, l0, l1, l2, h0, h1, h2, ht]
 exact sat_ret rfl
theorem M23sss_eq (L M L' M' : List L4) (t : R3) : execM Tryz.prog Γ23s noL 1010 true Tryz.f23 [some (.cells (realCells t) 36)] [shA L (some M), shA L' (some M'), .fn 24 [.ptr 0 0]] = M23sss L M L' M' t := by kernel_rfl
theorem M23sss_sat (L M L' M' : List L4) (t : R3) (h0 : rb L = true) (h1 : rb M = true) (h2 : rb L' = true) (h3 : rb M' = true) (ht : tbB t = true) : (M23sss L M L' M' t).sat fun o => o = { val := boolA (eqRings (sameL t) L (some M) L' (some M')), outs := [some (.cells (realCells t) 36)] } := by
 obtain ⟨a0, l0⟩ := rb_all h0
 obtain ⟨a1, l1⟩ := rb_all h1
 obtain ⟨a2, l2⟩ := rb_all h2
 obtain ⟨a3, l3⟩ := rb_all h3
 simp only [M23sss, ratV_lit, ratOk_lit, quadV_lit, quadOk_lit, realV_lit, realOk_lit, lineV_lit, lineOk_lit, boolV_lit, List.take_succ_cons, List.take_zero, List.drop_succ_cons, List.drop_zero, Bool.and_self, l4_eta, r3_eta, linesOf_el, linesOk_lines, sat_true, shOk_n, shOk_s, rgOk_n, rgOk_s, shOk_n', shOk_s', rgOk_n', rgOk_s', allO, sat_iteT, sat_iteF, a0, a1, a2, a3, l0, l1, l2, l3, h0, h1, h2, h3, ht]
 exact sat_ret rfl
theorem M23s_all (L : List L4) (M : Option (List L4)) (L' : List L4) (M' : Option (List L4)) (t : R3) (h0 : rb L = true) (h1 : allO rb M = true) (h2 : rb L' = true) (h3 : allO rb M' = true) (ht : tbB t = true) : (execM Tryz.prog Γ23s noL 1010 true Tryz.f23 [some (.cells (realCells t) 36)] [shA L M, shA L' M', .fn 24 [.ptr 0 0]]).sat fun o => o = { val := boolA (eqRings (sameL t) L M L' M'), outs := [some (.cells (realCells t) 36)] } := by
 cases M with
 | none =>
   cases M' with
   | none => rw [M23snn_eq]; exact M23snn_sat L L' t h0 h2 ht
   | some M' => rw [M23sns_eq]; exact M23sns_sat L L' M' t h0 h2 h3 ht
 | some M =>
   cases M' with
   | none => rw [M23ssn_eq]; exact M23ssn_sat L M L' t h0 h1 h2 ht
   | some M' => rw [M23sss_eq]; exact M23sss_sat L M L' M' t h0 h1 h2 h3 ht
theorem f23s_ok : MemOk Tryz.prog 23 K23s := by
 refine memOk_of_exec_c (L := fun _ => noL) prog_mixed Γ23s_ok (fn := Tryz.f23) (c := codeOf Tryz.f23) (by kernel_rfl) (by kernel_rfl) (callFunc_enter (fn := Tryz.f23) (c := codeOf Tryz.f23) (by kernel_rfl) (by kernel_rfl) (by kernel_rfl)) (N := 1010) (frz := true) ?_ ?_
 · intro ents args o h
   exact blocksOk_none _ _
 · intro ents args o h hc
   unfold K23s at h
   split at h
   · rename_i t a b
     split at h
     · rename_i L M L' M' ha hb
       cases h
       have k0 : realOk t = true := hc (realOk t) (by simp)
       have k1 : shOk a = true := hc (shOk a) (by simp)
       have k2 : shOk b = true := hc (shOk b) (by simp)
       have h0 : rb L = true := hc (rb L) (by simp)
       have h1 : allO rb M = true := hc (allO rb M) (by simp)
       have h2 : rb L' = true := hc (rb L') (by simp)
       have h3 : allO rb M' = true := hc (allO rb M') (by simp)
       have ht : tbB (realV t) = true := hc (tbB (realV t)) (by simp)
       obtain ⟨t, rfl⟩ : ∃ x, t = realCells x := ⟨_, realOk_eq k0⟩
       simp only [realV_cells] at *
       refine ⟨[some (.cells (realCells t) 36)], [shA L M, shA L' M', .fn 24 [.ptr 0 0]], EntsEqv.refl _, .cons (shV_sees ha k1) (.cons (shV_sees hb k2) (SeesL.refl _)), ?_⟩
       have hs := M23s_all L M L' M' t h0 h1 h2 h3 ht
       generalize execM Tryz.prog Γ23s noL 1010 true Tryz.f23 [some (.cells (realCells t) 36)] [shA L M, shA L' M', .fn 24 [.ptr 0 0]] = T at hs ⊢
       generalize eqRings (sameL t) L M L' M' = z at hs
       exact Tr.sat_mono (fun r hr => by subst hr; exact ⟨Sees.refl _, EntsEqv.refl _⟩) hs
     · cases h
   · cases h
theorem Γ23e_ok : ∀ f s, Γ23e f = some s → SpecOk Tryz.prog f s := step_ok f31_ok.spec (one_ok f45e_ok.spec)
theorem M23enn_eq (L L' : List L4) : execFn Tryz.prog Γ23e noL 1010 Tryz.f23 [shA L none, shA L' none, fnE] = M23enn L L' := by kernel_rfl
theorem M23enn_sat (L L' : List L4) (h0 : rl L = true) (h1 : rl L' = true) : (M23enn L L').sat fun o => o = boolA (eqRings eqL L none L' none) := by
 have l0 := rl_all h0
 have l1 := rl_all h1
 simp only [M23enn, ratV_lit, ratOk_lit, quadV_lit, quadOk_lit, realV_lit, realOk_lit, lineV_lit, lineOk_lit, boolV_lit, List.take_succ_cons, List.take_zero, List.drop_succ_cons, List.drop_zero, Bool.and_self, l4_eta, r3_eta, linesOf_el, linesOk_lines, sat_true, shOk_n, shOk_s, rgOk_n, rgOk_s, shOk_n', shOk_s', rgOk_n', rgOk_s', allO, sat_iteT, sat_iteF, l0, l1, h0, h1]
 exact sat_ret rfl
theorem M23esn_eq (L M L' : List L4) : execFn Tryz.prog Γ23e noL 1010 Tryz.f23 [shA L (some M), shA L' none, fnE] = M23esn L M L' := by kernel_rfl
theorem M23esn_sat (L M L' : List L4) (h0 : rl L = true) (h1 : rl M = true) (h2 : rl L' = true) : (M23esn L M L').sat fun o => o = boolA (eqRings eqL L (some M) L' none) := by
 have l0 := rl_all h0
 have l1 := rl_all h1
 have l2 := rl_all h2
 simp only [M23esn, ratV_lit, ratOk_lit, quadV_lit, quadOk_lit, realV_lit, realOk_lit, lineV_lit, lineOk_lit, boolV_lit, List.take_succ_cons, List.take_zero, List.drop_succ_cons, List.drop_zero, Bool.and_self, l4_eta, r3_eta, linesOf_el, linesOk_lines, sat_true, shOk_n, shOk_s, rgOk_n, rgOk_s, shOk_n', shOk_s', rgOk_n', rgOk_s', allO, sat_iteT, sat_iteF, l0, l1, l2, h0, h1, h2]
 exact sat_ret rfl
theorem M23ens_eq (L L' M' : List L4) : execFn Tryz.prog Γ23e noL 1010 Tryz.f23 [shA L none, shA L' (some M'), fnE] = M23ens L L' M' := by kernel_rfl
theorem M23ens_sat (L L' M' : List L4) (h0 : rl L = true) (h1 : rl L' = true) (h2 : rl M' = true) : (M23ens L L' M').sat fun o => o = boolA (eqRings eqL L none L' (some M')) := by
 have l0 := rl_all h0
 have l1 := rl_all h1
 have l2 := rl_all h2
 simp only [M23ens, ratV_lit, ratOk_lit, quadV_lit, quadOk_lit, realV_lit, realOk_lit, lineV_lit, lineOk_lit, boolV_lit, List.take_succ_cons, List.take_zero, List.drop_succ_cons, List.drop_zero, Bool.and_self, l4_eta, r3_eta, linesOf_el, linesOk_lines, sat_true, shOk_n, shOk_s, rgOk_n, rgOk_s, shOk_n', shOk_s', rgOk_n', rgOk_s', allO, sat_iteT, sat_iteF, l0, l1, l2, h0, h1, h2]
 exact sat_ret rfl
theorem M23ess_eq (L M L' M' : List L4) : execFn Tryz.prog Γ23e noL 1010 Tryz.f23 [shA L (some M), shA L' (some M'), fnE] = M23ess L M L' M' := by kernel_rfl
theorem M23ess_sat (L M L' M' : List L4) (h0 : rl L = true) (h1 : rl M = true) (h2 : rl L' = true) (h3 : rl M' = true) : (M23ess L M L' M').sat fun o => o = boolA (eqRings eqL L (some M) L' (some M')) := by
 have l0 := rl_all h0
 have l1 := rl_all h1
 have l2 := rl_all h2
 have l3 := rl_all h3
 simp only [M23ess, ratV_lit, ratOk_lit, quadV_lit, quadOk_lit, realV_lit, realOk_lit, lineV_lit, lineOk_lit, boolV_lit, List.take_succ_cons, List.take_zero, List.drop_succ_cons, List.drop_zero, Bool.and_self, l4_eta, r3_eta, linesOf_el, linesOk_lines, sat_true, shOk_n, shOk_s, rgOk_n, rgOk_s, shOk_n', shOk_s', rgOk_n', rgOk_s', allO, sat_iteT, sat_iteF, l0, l1, l2, l3, h0, h1, h2, h3]
 exact sat_ret rfl
theorem M23e_all (L : List L4) (M : Option (List L4)) (L' : List L4) (M' : Option (List L4)) (h0 : rl L = true) (h1 : allO rl M = true) (h2 : rl L' = true) (h3 : allO rl M' = true) : (execFn Tryz.prog Γ23e noL 1010 Tryz.f23 [shA L M, shA L' M', fnE]).sat fun o => o = boolA (eqRings eqL L M L' M') := by
 cases M with
 | none =>
   cases M' with
   | none => rw [M23enn_eq]; exact M23enn_sat L L' h0 h2
   | some M' => rw [M23ens_eq]; exact M23ens_sat L L' M' h0 h2 h3
 | some M =>
   cases M' with
   | none => rw [M23esn_eq]; exact M23esn_sat L M L' h0 h1 h2
   | some M' => rw [M23ess_eq]; exact M23ess_sat L M L' M' h0 h1 h2 h3
theorem f23e_ok : PureOk Tryz.prog 23 K23e := by
 refine pureOk_of_exec_c (L := noL) prog_mixed Γ23e_ok (fn := Tryz.f23) (c := codeOf Tryz.f23) (by kernel_rfl) (by kernel_rfl) (callFunc_enter (fn := Tryz.f23) (c := codeOf Tryz.f23) (by kernel_rfl) (by kernel_rfl) (by kernel_rfl)) (N := 1010) (blocksOk_none _ _) ?_ ?_
 · intro args v cs h
   unfold K23e at h
   split at h
   · split at h
     · cases h; rfl
     · cases h
   · cases h
 · intro args v cs h hc
   unfold K23e at h
   split at h
   · rename_i a b
     split at h
     · rename_i L M L' M' ha hb
       cases h
       have k1 : shOk a = true := hc (shOk a) (by simp)
       have k2 : shOk b = true := hc (shOk b) (by simp)
       have h0 : rl L = true := hc (rl L) (by simp)
       have h1 : allO rl M = true := hc (allO rl M) (by simp)
       have h2 : rl L' = true := hc (rl L') (by simp)
       have h3 : allO rl M' = true := hc (allO rl M') (by simp)
       refine ⟨[shA L M, shA L' M', fnE], .cons (shV_sees ha k1) (.cons (shV_sees hb k2) (SeesL.refl _)), ?_⟩
       have hs := M23e_all L M L' M' h0 h1 h2 h3
       generalize execFn Tryz.prog Γ23e noL 1010 Tryz.f23 [shA L M, shA L' M', fnE] = T at hs ⊢
       generalize eqRings eqL L M L' M' = z at hs ⊢
       exact Tr.sat_mono (fun r hr => ⟨by subst hr; rfl, Sees.of_eq hr⟩) hs
     · cases h
   · cases h
theorem Γ12_ok : ∀ f s, Γ12 f = some s → SpecOk Tryz.prog f s := one_ok f23s_ok.spec
theorem M12nn_eq (L L' : List L4) (t : R3) : execFn Tryz.prog Γ12 noL 1010 Tryz.f12 [.agg [], shA L none, shA L' none, .agg (realCells t)] = M12nn L L' t := by kernel_rfl
theorem M12nn_sat (L L' : List L4) (t : R3) (h0 : rb L = true) (h1 : rb L' = true) (ht : tbB t = true) : (M12nn L L' t).sat fun o => o = boolA (eqRings (sameL t) L none L' none) := by
 obtain ⟨a0, l0⟩ := rb_all h0
 obtain ⟨a1, l1⟩ := rb_all h1
 simp only [M12nn, ratV_lit, ratOk_lit, quadV_lit, quadOk_lit, realV_lit, realOk_lit, lineV_lit, lineOk_lit, boolV_lit, List.take_succ_cons, List.take_zero, List.drop_succ_cons, List.drop_zero, Bool.and_self, l4_eta, r3_eta, linesOf_el, linesOk_lines, sat_true, shOk_n, shOk_s, rgOk_n, rgOk_s, shOk_n', shOk_s', rgOk_n', rgOk_s', allO, sat_iteT, sat_iteF, a0, a1, l0, l1, h0, h1, ht]
 exact sat_ret rfl
theorem M12sn_eq (L M L' : List L4) (t : R3) : execFn Tryz.prog Γ12 noL 1010 Tryz.f12 [.agg [], shA L (some M), shA L' none, .agg (realCells t)] = M12sn L M L' t := by kernel_rfl
theorem M12sn_sat (L M L' : List L4) (t : R3) (h0 : rb L = true) (h1 : rb M = true) (h2 : rb L' = true) (ht : tbB t = true) : (M12sn L M L' t).sat fun o => o = boolA (eqRings (sameL t) L (some M) L' none) := by
 obtain ⟨a0, l0⟩ := rb_all h0
 obtain ⟨a1, l1⟩ := rb_all h1
 obtain ⟨a2, l2⟩ := rb_all h2
 simp only [M12sn, ratV_lit, ratOk_lit, quadV_lit, quadOk_lit, realV_lit, realOk_lit, lineV_lit, lineOk_lit, boolV_lit, List.take_succ_cons, List.take_zero, List.drop_succ_cons, List.drop_zero, Bool.and_self, l4_eta, r3_eta, linesOf_el, linesOk_lines, sat_true, shOk_n, shOk_s, rgOk_n, rgOk_s, shOk_n', shOk_s', rgOk_n', rgOk_s', allO, sat_iteT, sat_iteF, a0, a1, a2, l0, l1, l2, h0, h1, h2, ht]
 exact sat_ret rfl
theorem M12ns_eq (L L' M' : List L4) (t : R3) : execFn Tryz.prog Γ12 noL 1010 Tryz.f12 [.agg [], shA L none, shA L' (some M'), .agg (realCells t)] = M12ns L L' M' t := by kernel_rfl
theorem M12ns_sat (L L' M' : List L4) (t : R3) (h0 : rb L = true) (h1 : rb L' = true) (h2 : rb M' = true) (ht : tbB t = true) : (M12ns L L' M' t).sat fun o => o = boolA (eqRings (sameL t) L none L' (some M')) := by
 obtain ⟨a0, l0⟩ := rb_all h0
 obtain ⟨a1, l1⟩ := rb_all h1
 obtain ⟨a2, l2⟩ := rb_all h2
 simp only [M12ns, ratV_lit, ratOk_lit, quadV_lit, quadOk_lit, realV_lit, realOk_lit, lineV_lit, lineOk_lit, boolV_lit, List.take_succ_cons, List.take_zero, List.drop_succ_cons, List.drop_zero, Bool.and_self, l4_eta, r3_eta, linesOf_el, linesOk_lines, sat_true, shOk_n, shOk_s, rgOk_n, rgOk_s, shOk_n', shOk_s', rgOk_n', rgOk_s', allO, sat_iteT, sat_iteF, a0, a1, a2, l0, l1, l2, h0, h1, h2, ht]
 exact sat_ret rfl
theorem M12ss_eq (L M L' M' : List L4) (t : R3) : execFn Tryz.prog Γ12 noL 1010 Tryz.f12 [.agg [], shA L (some M), shA L' (some M'), .agg (realCells t)] = M12ss L M L' M' t := by kernel_rfl
theorem M12ss_sat (L M L' M' : List L4) (t : R3) (h0 : rb L = true) (h1 : rb M = true) (h2 : rb L' = true) (h3 : rb M' = true) (ht : tbB t = true) : (M12ss L M L' M' t).sat fun o => o = boolA (eqRings (sameL t) L (some M) L' (some M')) := by
 obtain ⟨a0, l0⟩ := rb_all h0
 obtain ⟨a1, l1⟩ := rb_all h1
 obtain ⟨a2, l2⟩ := rb_all h2
 obtain ⟨a3, l3⟩ := rb_all h3
 simp only [M12ss, ratV_lit, ratOk_lit, quadV_lit, quadOk_lit, realV_lit, realOk_lit, lineV_lit, lineOk_lit, boolV_lit, List.take_succ_cons, List.take_zero, List.drop_succ_cons, List.drop_zero, Bool.and_self, l4_eta, r3_eta, linesOf_el, linesOk_lines, sat_true, shOk_n, shOk_s, rgOk_n, rgOk_s, shOk_n', shOk_s', rgOk_n', rgOk_s', allO, sat_iteT, sat_iteF, a0, a1, a2, a3, l0, l1, l2, l3, h0, h1, h2, h3, ht]
 exact sat_ret rfl
theorem M12_all (L : List L4) (M : Option (List L4)) (L' : List L4) (M' : Option (List L4)) (t : R3) (h0 : rb L = true) (h1 : allO rb M = true) (h2 : rb L' = true) (h3 : allO rb M' = true) (ht : tbB t = true) : (execFn Tryz.prog Γ12 noL 1010 Tryz.f12 [.agg [], shA L M, shA L' M', .agg (realCells t)]).sat fun o => o = boolA (eqRings (sameL t) L M L' M') := by
 cases M with
 | none =>
   cases M' with
   | none => rw [M12nn_eq]; exact M12nn_sat L L' t h0 h2 ht
   | some M' => rw [M12ns_eq]; exact M12ns_sat L L' M' t h0 h2 h3 ht
 | some M =>
   cases M' with
   | none => rw [M12sn_eq]; exact M12sn_sat L M L' t h0 h1 h2 ht
   | some M' => rw [M12ss_eq]; exact M12ss_sat L M L' M' t h0 h1 h2 h3 ht
theorem f12_ok : PureOk Tryz.prog 12 K12 := by
 refine pureOk_of_exec_c (L := noL) prog_mixed Γ12_ok (fn := Tryz.f12) (c := codeOf Tryz.f12) (by kernel_rfl) (by kernel_rfl) (callFunc_enter (fn := Tryz.f12) (c := codeOf Tryz.f12) (by kernel_rfl) (by kernel_rfl) (by kernel_rfl)) (N := 1010) (blocksOk_none _ _) ?_ ?_
 · intro args v cs h
   unfold K12 at h
   split at h
   · split at h
     · cases h; rfl
     · cases h
   · cases h
 · intro args v cs h hc
   unfold K12 at h
   split at h
   · rename_i a b t
     split at h
     · rename_i L M L' M' ha hb
       cases h
       have k0 : realOk t = true := hc (realOk t) (by simp)
       have k1 : shOk a = true := hc (shOk a) (by simp)
       have k2 : shOk b = true := hc (shOk b) (by simp)
       have h0 : rb L = true := hc (rb L) (by simp)
       have h1 : allO rb M = true := hc (allO rb M) (by simp)
       have h2 : rb L' = true := hc (rb L') (by simp)
       have h3 : allO rb M' = true := hc (allO rb M') (by simp)
       have ht : tbB (realV t) = true := hc (tbB (realV t)) (by simp)
       obtain ⟨t, rfl⟩ : ∃ x, t = realCells x := ⟨_, realOk_eq k0⟩
       simp only [realV_cells] at *
       refine ⟨[.agg [], shA L M, shA L' M', .agg (realCells t)], .cons (Sees.refl _) (.cons (shV_sees ha k1) (.cons (shV_sees hb k2) (SeesL.refl _))), ?_⟩
       have hs := M12_all L M L' M' t h0 h1 h2 h3 ht
       generalize execFn Tryz.prog Γ12 noL 1010 Tryz.f12 [.agg [], shA L M, shA L' M', .agg (realCells t)] = T at hs ⊢
       generalize eqRings (sameL t) L M L' M' = z at hs ⊢
       exact Tr.sat_mono (fun r hr => ⟨by subst hr; rfl, Sees.of_eq hr⟩) hs
     · cases h
   · cases h
theorem Γ13_ok : ∀ f s, Γ13 f = some s → SpecOk Tryz.prog f s := one_ok f23e_ok.spec
theorem M13nn_eq (L L' : List L4) : execFn Tryz.prog Γ13 noL 1010 Tryz.f13 [.agg [], shA L none, shA L' none] = M13nn L L' := by kernel_rfl
theorem M13nn_sat (L L' : List L4) (h0 : rl L = true) (h1 : rl L' = true) : (M13nn L L').sat fun o => o = boolA (eqRings eqL L none L' none) := by
 have l0 := rl_all h0
 have l1 := rl_all h1
 simp only [M13nn, ratV_lit, ratOk_lit, quadV_lit, quadOk_lit, realV_lit, realOk_lit, lineV_lit, lineOk_lit, boolV_lit, List.take_succ_cons, List.take_zero, List.drop_succ_cons, List.drop_zero, Bool.and_self, l4_eta, r3_eta, linesOf_el, linesOk_lines, sat_true, shOk_n, shOk_s, rgOk_n, rgOk_s, shOk_n', shOk_s', rgOk_n', rgOk_s', allO, sat_iteT, sat_iteF, l0, l1, h0, h1]
 exact sat_ret rfl
theorem M13sn_eq (L M L' : List L4) : execFn Tryz.prog Γ13 noL 1010 Tryz.f13 [.agg [], shA L (some M), shA L' none] = M13sn L M L' := by kernel_rfl
theorem M13sn_sat (L M L' : List L4) (h0 : rl L = true) (h1 : rl M = true) (h2 : rl L' = true) : (M13sn L M L').sat fun o => o = boolA (eqRings eqL L (some M) L' none) := by
 have l0 := rl_all h0
 have l1 := rl_all h1
 have l2 := rl_all h2
 simp only [M13sn, ratV_lit, ratOk_lit, quadV_lit, quadOk_lit, realV_lit, realOk_lit, lineV_lit, lineOk_lit, boolV_lit, List.take_succ_cons, List.take_zero, List.drop_succ_cons, List.drop_zero, Bool.and_self, l4_eta, r3_eta, linesOf_el, linesOk_lines, sat_true, shOk_n, shOk_s, rgOk_n, rgOk_s, shOk_n', shOk_s', rgOk_n', rgOk_s', allO, sat_iteT, sat_iteF, l0, l1, l2, h0, h1, h2]
 exact sat_ret rfl
theorem M13ns_eq (L L' M' : List L4) : execFn Tryz.prog Γ13 noL 1010 Tryz.f13 [.agg [], shA L none, shA L' (some M')] = M13ns L L' M' := by kernel_rfl
theorem M13ns_sat (L L' M' : List L4) (h0 : rl L = true) (h1 : rl L' = true) (h2 : rl M' = true) : (M13ns L L' M').sat fun o => o = boolA (eqRings eqL L none L' (some M')) := by
 have l0 := rl_all h0
 have l1 := rl_all h1
 have l2 := rl_all h2
 simp only [M13ns, ratV_lit, ratOk_lit, quadV_lit, quadOk_lit, realV_lit, realOk_lit, lineV_lit, lineOk_lit, boolV_lit, List.take_succ_cons, List.take_zero, List.drop_succ_cons, List.drop_zero, Bool.and_self, l4_eta, r3_eta, linesOf_el, linesOk_lines, sat_true, shOk_n, shOk_s, rgOk_n, rgOk_s, shOk_n', shOk_s', rgOk_n', rgOk_s', allO, sat_iteT, sat_iteF, l0, l1, l2, h0, h1, h2]
 exact sat_ret rfl
theorem M13ss_eq (L M L' M' : List L4) : execFn Tryz.prog Γ13 noL 1010 Tryz.f13 [.agg [], shA L (some M), shA L' (some M')] = M13ss L M L' M' := by kernel_rfl
theorem M13ss_sat (L M L' M' : List L4) (h0 : rl L = true) (h1 : rl M = true) (h2 : rl L' = true) (h3 : rl M' = true) : (M13ss L M L' M').sat fun o => o = boolA (eqRings eqL L (some M) L' (some M')) := by
 have l0 := rl_all h0
 have l1 := rl_all h1
 have l2 := rl_all h2
 have l3 := rl_all h3
 simp only [M13ss, ratV_lit, ratOk_lit, quadV_lit, quadOk_lit, realV_lit, realOk_lit, lineV_lit, lineOk_lit, boolV_lit, List.take_succ_cons, List.take_zero, List.drop_succ_cons, List.drop_zero, Bool.and_self, l4_eta, r3_eta, linesOf_el, linesOk_lines, sat_true, shOk_n, shOk_s, rgOk_n, rgOk_s, shOk_n', shOk_s', rgOk_n', rgOk_s', allO, sat_iteT, sat_iteF, l0, l1, l2, l3, h0, h1, h2, h3]
 exact sat_ret rfl
theorem M13_all (L : List L4) (M : Option (List L4)) (L' : List L4) (M' : Option (List L4)) (h0 : rl L = true) (h1 : allO rl M = true) (h2 : rl L' = true) (h3 : allO rl M' = true) : (execFn Tryz.prog Γ13 noL 1010 Tryz.f13 [.agg [], shA L M, shA L' M']).sat fun o => o = boolA (eqRings eqL L M L' M') := by
 cases M with
 | none =>
   cases M' with
   | none => rw [M13nn_eq]; exact M13nn_sat L L' h0 h2
   | some M' => rw [M13ns_eq]; exact M13ns_sat L L' M' h0 h2 h3
 | some M =>
   cases M' with
   | none => rw [M13sn_eq]; exact M13sn_sat L M L' h0 h1 h2
   | some M' => rw [M13ss_eq]; exact M13ss_sat L M L' M' h0 h1 h2 h3
theorem f13_ok : PureOk Tryz.prog 13 K13 := by
 refine pureOk_of_exec_c (L := noL) prog_mixed Γ13_ok (fn := Tryz.f13) (c := codeOf Tryz.f13) (by kernel_rfl) (by kernel_rfl) (callFunc_enter (fn := Tryz.f13) (c := codeOf Tryz.f13) (by kernel_rfl) (by kernel_rfl) (by kernel_rfl)) (N := 1010) (blocksOk_none _ _) ?_ ?_
 · intro args v cs h
   unfold K13 at h
   split at h
   · split at h
     · cases h; rfl
     · cases h
   · cases h
 · intro args v cs h hc
   unfold K13 at h
   split at h
   · rename_i a b
     split at h
     · rename_i L M L' M' ha hb
       cases h
       have k1 : shOk a = true := hc (shOk a) (by simp)
       have k2 : shOk b = true := hc (shOk b) (by simp)
       have h0 : rl L = true := hc (rl L) (by simp)
       have h1 : allO rl M = true := hc (allO rl M) (by simp)
       have h2 : rl L' = true := hc (rl L') (by simp)
       have h3 : allO rl M' = true := hc (allO rl M') (by simp)
       refine ⟨[.agg [], shA L M, shA L' M'], .cons (Sees.refl _) (.cons (shV_sees ha k1) (.cons (shV_sees hb k2) (SeesL.refl _))), ?_⟩
       have hs := M13_all L M L' M' h0 h1 h2 h3
       generalize execFn Tryz.prog Γ13 noL 1010 Tryz.f13 [.agg [], shA L M, shA L' M'] = T at hs ⊢
       generalize eqRings eqL L M L' M' = z at hs ⊢
       exact Tr.sat_mono (fun r hr => ⟨by subst hr; rfl, Sees.of_eq hr⟩) hs
     · cases h
   · cases h
end Go.Vse
