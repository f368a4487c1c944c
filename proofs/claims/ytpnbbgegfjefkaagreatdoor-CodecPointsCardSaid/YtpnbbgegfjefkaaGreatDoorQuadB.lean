/- Helpers for the proof: no statement of its own. -/
import Derived.Test.YtpnbbgegfjefkaaGreatDoorQuadA
set_option linter.unusedVariables false
set_option linter.unusedSimpArgs false
set_option linter.unnecessarySimpa false
set_option linter.deprecated false
set_option maxRecDepth 100000
namespace Go.Vse
open Go.Proofs
def facV (b : Bool) : Rat := bif b then -1 else 1
def byQ (q : Q3) (t : R3) : Rat := bif t.neg then -(slopeQ q t.p) else slopeQ q t.p
def baseQ (q : Q3) (t : R3) : Rat := evalQ q t.p + q.c2 * t.r
def fitAt (q : Q3) (t : R3) : Bool := fitEval q t.p && fitM q.c2 t.r && fitA (evalQ q t.p) (q.c2 * t.r) && fitSlope q t.p && fitMake (baseQ q t) (byQ q t) t.r
def atP (q : Q3) (t : R3) : Rat := mkP (baseQ q t) (byQ q t) t.r
def atR (q : Q3) (t : R3) : Rat := mkR (baseQ q t) (byQ q t) t.r
def atN (q : Q3) (t : R3) : Bool := mkN (baseQ q t) (byQ q t) t.r
def red0 (q : Q3) (t : R3) : Rat := bif decide (t.r = 0) then evalQ q t.p else q.c0 + q.c2 * (t.r - t.p * t.p)
def red1 (q : Q3) (t : R3) : Rat := bif decide (t.r = 0) then 0 else slopeQ q t.p
def fitRed (q : Q3) (t : R3) : Bool := bif decide (t.r = 0) then fitEval q t.p else fitM t.p t.p && fitSub t.r (t.p * t.p) && fitM q.c2 (t.r - t.p * t.p) && fitA q.c0 (q.c2 * (t.r - t.p * t.p)) && fitSlope q t.p
def slopeB (t v u w : Rat) : Rat := (w - v) / (u - t)
def fitBet (t v u w : Rat) : Bool := fitSub w v && fitSub u t && fitD (w - v) (u - t) && decide (u - t ≠ 0) && fitM (slopeB t v u w) t && fitSub v (slopeB t v u w * t)
theorem ratV_zero' : ratV [.c (.v (.bool false)), .c (.v (.string ⟨⟨[]⟩⟩)), .c (.v (.bool false)), .c (.v (.string ⟨⟨[]⟩⟩))] = 0 := ratV_zero
theorem ratOk_zero' : ratOk [.c (.v (.bool false)), .c (.v (.string ⟨⟨[]⟩⟩)), .c (.v (.bool false)), .c (.v (.string ⟨⟨[]⟩⟩))] = true := ratOk_zero
theorem boolV_lit (b : Bool) : boolV [.c (.v (.bool b))] = b := rfl
theorem rat_test0 (x : Rat) : (andAll [andAll [denB x.den == [], false == false].reverse, andAll [magB x.num.natAbs == [], decide (x.num < 0) == false].reverse].reverse) = decide (x = 0) := by
 have h := rat_test x 0
 have e1 : denB (0 : Rat).den = [] := rfl
 have e2 : magB (0 : Rat).num.natAbs = [] := magB_zero
 have e3 : decide ((0 : Rat).num < 0) = false := rfl
 rw [e1, e2, e3] at h
 exact h
theorem cells0 : ratCells 0 = litZ := by
 unfold ratCells strA litZ
 rw [show (0 : Rat).num.natAbs = 0 from rfl, magB_zero]
 rfl
def K158 : List AV → Option (AV × List Bool)
 | [.agg l1] => some (.tup [.agg litZ, boolA (decide ((ratV l1) = 0))], [ratOk l1, decide ((ratV l1) = 0) || decide ((ratV l1) = 2)])
 | _ => none
def K159 : List AV → Option (AV × List Bool)
 | [.agg l1] => some (ratA (hold (facV (realV l1).neg)), [realOk l1])
 | _ => none
def K319 : List AV → Option (AV × List Bool)
 | [.agg l1, .agg l2, .agg l3] => some (.tup [realA ⟨hold (mkP (ratV l1) (ratV l2) (ratV l3)), hold (mkR (ratV l1) (ratV l2) (ratV l3)), mkN (ratV l1) (ratV l2) (ratV l3)⟩, intA .i64 0], [ratOk l1, ratOk l2, ratOk l3, fitMake (ratV l1) (ratV l2) (ratV l3)])
 | _ => none
def K284 : List AV → Option (AV × List Bool)
 | [.agg l1, .agg l2] => some (realA ⟨hold (atP (quadV l1) (realV l2)), hold (atR (quadV l1) (realV l2)), atN (quadV l1) (realV l2)⟩, [quadOk l1, realOk l2, fitAt (quadV l1) (realV l2)])
 | _ => none
def K397 : List AV → Option (AV × List Bool)
 | [.agg l1] => some (.tup [ratA (hold (bif decide ((realV l1).r = 0) then (realV l1).p else 0)), boolA (decide ((realV l1).r = 0))], [realOk l1])
 | _ => none
def K395 : List AV → Option (AV × List Bool)
 | [.agg l1, .agg l2] => some (.agg (ratCells (hold (red0 (quadV l1) (realV l2))) ++ (ratCells (hold (red1 (quadV l1) (realV l2))) ++ litZ)), [quadOk l1, realOk l2, fitRed (quadV l1) (realV l2)])
 | _ => none
def K396 : List AV → Option (AV × List Bool)
 | [.agg l1, .agg l2, .agg l3] => some (boolA (decide (red0 (subQ (quadV l1) (quadV l2)) (realV l3) = 0) && decide (red1 (subQ (quadV l1) (quadV l2)) (realV l3) = 0)), [quadOk l1, quadOk l2, realOk l3, fitSubQ (quadV l1) (quadV l2), fitRed (subQ (quadV l1) (quadV l2)) (realV l3)])
 | _ => none
def K105 : List AV → Option (AV × List Bool)
 | [.agg l1, .agg l2, .agg l3, .agg l4] => some (.tup [.agg (ratCells (hold ((ratV l2) - slopeB (ratV l1) (ratV l2) (ratV l3) (ratV l4) * (ratV l1))) ++ (ratCells (hold (slopeB (ratV l1) (ratV l2) (ratV l3) (ratV l4))) ++ litZ)), intA .i64 0], [ratOk l1, ratOk l2, ratOk l3, ratOk l4, fitBet (ratV l1) (ratV l2) (ratV l3) (ratV l4)])
 | _ => none
def Γ159 : FuncId → Option Spec := fun f => bif Nat.beq f 103 then some (pureSpec K103) else none
def Γb395 : FuncId → Option Spec := fun f => bif Nat.beq f 397 then some (pureSpec K397) else bif Nat.beq f 321 then some (pureSpec K321) else bif Nat.beq f 156 then some (pureSpec K156) else bif Nat.beq f 154 then some (pureSpec K154) else bif Nat.beq f 162 then some (pureSpec K162) else bif Nat.beq f 322 then some (pureSpec K322) else none
def Γ396 : FuncId → Option Spec := fun f => bif Nat.beq f 278 then some (pureSpec K278) else bif Nat.beq f 395 then some (pureSpec K395) else none
def Γb105 : FuncId → Option Spec := fun f => bif Nat.beq f 154 then some (pureSpec K154) else bif Nat.beq f 153 then some (pureSpec K153) else bif Nat.beq f 156 then some (pureSpec K156) else none
def M159 (v1 : R3) : Tr AV :=
 let x1 : List AV := [.c (.v (.bool false)), .c (.v (.string ⟨⟨denB 1⟩⟩))]
 .ite v1.neg (.need true (.need true (.ret (AV.agg (.c (.v (.bool true)) :: .c (.v (.string ⟨⟨magB (-1).natAbs⟩⟩)) :: x1))))) (.need true (.need true (.ret (AV.agg (.c (.v (.bool false)) :: .c (.v (.string ⟨⟨magB (Int.natAbs 1)⟩⟩)) :: x1)))))
def M397 (v1 : R3) : Tr AV :=
 .ite (!andAll [andAll [denB v1.r.den == [], false == false].reverse, andAll [magB v1.r.num.natAbs == [], decide (v1.r.num < 0) == false].reverse].reverse) (.ret (AV.tup [AV.agg [.c (.v (.bool false)), .c (.v (.string { data := #[] })), .c (.v (.bool false)), .c (.v (.string { data := #[] }))], .c (.v (.bool false))])) (.ret (AV.tup [AV.agg [.c (.v (.bool (decide (v1.p.num < 0)))), .c (.v (.string ⟨⟨magB v1.p.num.natAbs⟩⟩)), .c (.v (.bool false)), .c (.v (.string ⟨⟨denB v1.p.den⟩⟩))], .c (.v (.bool true))]))
def M395 (v1 : Q3) (v2 : R3) : Tr AV :=
 let x1 : List AV := [.c (.v (.bool (decide (v2.p.num < 0)))), .c (.v (.string ⟨⟨magB v2.p.num.natAbs⟩⟩)), .c (.v (.bool false)), .c (.v (.string ⟨⟨denB v2.p.den⟩⟩)), .c (.v (.bool (decide (v2.r.num < 0)))), .c (.v (.string ⟨⟨magB v2.r.num.natAbs⟩⟩)), .c (.v (.bool false)), .c (.v (.string ⟨⟨denB v2.r.den⟩⟩)), .c (.v (.bool v2.neg))]
 let x2 : List AV := [.c (.v (.bool (decide (v1.c2.num < 0)))), .c (.v (.string ⟨⟨magB v1.c2.num.natAbs⟩⟩)), .c (.v (.bool false)), .c (.v (.string ⟨⟨denB v1.c2.den⟩⟩))]
 let x3 : List AV := .c (.v (.bool (decide (v1.c0.num < 0)))) :: .c (.v (.string ⟨⟨magB v1.c0.num.natAbs⟩⟩)) :: .c (.v (.bool false)) :: .c (.v (.string ⟨⟨denB v1.c0.den⟩⟩)) :: .c (.v (.bool (decide (v1.c1.num < 0)))) :: .c (.v (.string ⟨⟨magB v1.c1.num.natAbs⟩⟩)) :: .c (.v (.bool false)) :: .c (.v (.string ⟨⟨denB v1.c1.den⟩⟩)) :: x2
 let x4 : Int := (hold (bif decide (ratV (List.take 4 (List.drop 4 x1)) = 0) then ratV (List.take 4 x1) else 0)).num
 let x5 : List AV := [.c (.v (.bool (decide (x4 < 0)))), .c (.v (.string ⟨⟨magB x4.natAbs⟩⟩)), .c (.v (.bool false)), .c (.v (.string ⟨⟨denB (hold (bif decide (ratV (List.take 4 (List.drop 4 x1)) = 0) then ratV (List.take 4 x1) else 0)).den⟩⟩))]
 let x6 : Int := (hold (evalQ (quadV x3) (ratV x5))).num
 let x7 : List AV := [.c (.v (.bool false)), .c (.v (.string { data := #[] })), .c (.v (.bool false)), .c (.v (.string { data := #[] }))]
 let x8 : List AV := [.c (.v (.bool (decide (v2.p.num < 0)))), .c (.v (.string ⟨⟨magB v2.p.num.natAbs⟩⟩)), .c (.v (.bool false)), .c (.v (.string ⟨⟨denB v2.p.den⟩⟩))]
 let x9 : List AV := [.c (.v (.bool (decide (v2.r.num < 0)))), .c (.v (.string ⟨⟨magB v2.r.num.natAbs⟩⟩)), .c (.v (.bool false)), .c (.v (.string ⟨⟨denB v2.r.den⟩⟩))]
 let x10 : Int := (hold (ratV x8 * ratV x8)).num
 let x11 : List AV := [.c (.v (.bool (decide (x10 < 0)))), .c (.v (.string ⟨⟨magB x10.natAbs⟩⟩)), .c (.v (.bool false)), .c (.v (.string ⟨⟨denB (hold (ratV x8 * ratV x8)).den⟩⟩))]
 let x12 : Int := (hold (ratV x9 - ratV x11)).num
 let x13 : List AV := [.c (.v (.bool (decide (x12 < 0)))), .c (.v (.string ⟨⟨magB x12.natAbs⟩⟩)), .c (.v (.bool false)), .c (.v (.string ⟨⟨denB (hold (ratV x9 - ratV x11)).den⟩⟩))]
 let x14 : List AV := [.c (.v (.bool (decide (v1.c0.num < 0)))), .c (.v (.string ⟨⟨magB v1.c0.num.natAbs⟩⟩)), .c (.v (.bool false)), .c (.v (.string ⟨⟨denB v1.c0.den⟩⟩))]
 let x15 : Int := (hold (ratV x2 * ratV x13)).num
 let x16 : List AV := [.c (.v (.bool (decide (x15 < 0)))), .c (.v (.string ⟨⟨magB x15.natAbs⟩⟩)), .c (.v (.bool false)), .c (.v (.string ⟨⟨denB (hold (ratV x2 * ratV x13)).den⟩⟩))]
 let x17 : Int := (hold (ratV x14 + ratV x16)).num
 let x18 : Int := (hold (slopeQ (quadV x3) (ratV x8))).num
 .need (realOk x1) (.ite (decide (ratV (List.take 4 (List.drop 4 x1)) = 0)) (.need (quadOk x3) (.need (ratOk x5) (.need (fitEval (quadV x3) (ratV x5)) (.ret (AV.agg (.c (.v (.bool (decide (x6 < 0)))) :: .c (.v (.string ⟨⟨magB x6.natAbs⟩⟩)) :: .c (.v (.bool false)) :: .c (.v (.string ⟨⟨denB (hold (evalQ (quadV x3) (ratV x5))).den⟩⟩)) :: .c (.v (.bool false)) :: .c (.v (.string { data := #[] })) :: .c (.v (.bool false)) :: .c (.v (.string { data := #[] })) :: x7)))))) (.need (ratOk x8) (.need (ratOk x8) (.need (fitM (ratV x8) (ratV x8)) (.need (ratOk x9) (.need (ratOk x11) (.need (fitA (ratV x9) (-ratV x11)) (.need (ratOk x2) (.need (ratOk x13) (.need (fitM (ratV x2) (ratV x13)) (.need (ratOk x14) (.need (ratOk x16) (.need (fitA (ratV x14) (ratV x16)) (.need (quadOk x3) (.need (ratOk x8) (.need (fitSlope (quadV x3) (ratV x8)) (.ret (AV.agg (.c (.v (.bool (decide (x17 < 0)))) :: .c (.v (.string ⟨⟨magB x17.natAbs⟩⟩)) :: .c (.v (.bool false)) :: .c (.v (.string ⟨⟨denB (hold (ratV x14 + ratV x16)).den⟩⟩)) :: .c (.v (.bool (decide (x18 < 0)))) :: .c (.v (.string ⟨⟨magB x18.natAbs⟩⟩)) :: .c (.v (.bool false)) :: .c (.v (.string ⟨⟨denB (hold (slopeQ (quadV x3) (ratV x8))).den⟩⟩)) :: x7)))))))))))))))))))
def M396 (v1 : Q3) (v2 : Q3) (v3 : R3) : Tr AV :=
 let x1 : List AV := [.c (.v (.bool (decide (v1.c0.num < 0)))), .c (.v (.string ⟨⟨magB v1.c0.num.natAbs⟩⟩)), .c (.v (.bool false)), .c (.v (.string ⟨⟨denB v1.c0.den⟩⟩)), .c (.v (.bool (decide (v1.c1.num < 0)))), .c (.v (.string ⟨⟨magB v1.c1.num.natAbs⟩⟩)), .c (.v (.bool false)), .c (.v (.string ⟨⟨denB v1.c1.den⟩⟩)), .c (.v (.bool (decide (v1.c2.num < 0)))), .c (.v (.string ⟨⟨magB v1.c2.num.natAbs⟩⟩)), .c (.v (.bool false)), .c (.v (.string ⟨⟨denB v1.c2.den⟩⟩))]
 let x2 : List AV := [.c (.v (.bool (decide (v2.c0.num < 0)))), .c (.v (.string ⟨⟨magB v2.c0.num.natAbs⟩⟩)), .c (.v (.bool false)), .c (.v (.string ⟨⟨denB v2.c0.den⟩⟩)), .c (.v (.bool (decide (v2.c1.num < 0)))), .c (.v (.string ⟨⟨magB v2.c1.num.natAbs⟩⟩)), .c (.v (.bool false)), .c (.v (.string ⟨⟨denB v2.c1.den⟩⟩)), .c (.v (.bool (decide (v2.c2.num < 0)))), .c (.v (.string ⟨⟨magB v2.c2.num.natAbs⟩⟩)), .c (.v (.bool false)), .c (.v (.string ⟨⟨denB v2.c2.den⟩⟩))]
 let x3 : Int := (hold (ratV (List.take 4 x1) - ratV (List.take 4 x2))).num
 let x4 : Int := (hold (ratV (List.take 4 (List.drop 4 x1)) - ratV (List.take 4 (List.drop 4 x2)))).num
 let x5 : Int := (hold (ratV (List.drop 8 x1) - ratV (List.drop 8 x2))).num
 let x6 : List AV := [.c (.v (.bool (decide (x3 < 0)))), .c (.v (.string ⟨⟨magB x3.natAbs⟩⟩)), .c (.v (.bool false)), .c (.v (.string ⟨⟨denB (hold (ratV (List.take 4 x1) - ratV (List.take 4 x2))).den⟩⟩)), .c (.v (.bool (decide (x4 < 0)))), .c (.v (.string ⟨⟨magB x4.natAbs⟩⟩)), .c (.v (.bool false)), .c (.v (.string ⟨⟨denB (hold (ratV (List.take 4 (List.drop 4 x1)) - ratV (List.take 4 (List.drop 4 x2)))).den⟩⟩)), .c (.v (.bool (decide (x5 < 0)))), .c (.v (.string ⟨⟨magB x5.natAbs⟩⟩)), .c (.v (.bool false)), .c (.v (.string ⟨⟨denB (hold (ratV (List.drop 8 x1) - ratV (List.drop 8 x2))).den⟩⟩))]
 let x7 : List AV := [.c (.v (.bool (decide (v3.p.num < 0)))), .c (.v (.string ⟨⟨magB v3.p.num.natAbs⟩⟩)), .c (.v (.bool false)), .c (.v (.string ⟨⟨denB v3.p.den⟩⟩)), .c (.v (.bool (decide (v3.r.num < 0)))), .c (.v (.string ⟨⟨magB v3.r.num.natAbs⟩⟩)), .c (.v (.bool false)), .c (.v (.string ⟨⟨denB v3.r.den⟩⟩)), .c (.v (.bool v3.neg))]
 let x8 : List Bool := [false == false]
 let x9 : Int := (hold (red1 (quadV x6) (realV x7))).num
 let x10 : Int := (hold (red0 (quadV x6) (realV x7))).num
 .need (quadOk x1) (.need (quadOk x2) (.need (fitSubQ (quadV x1) (quadV x2)) (.need (quadOk x6) (.need (realOk x7) (.need (fitRed (quadV x6) (realV x7)) (.ret (.c (.v (.bool (andAll [andAll [andAll ((([] : List UInt8) == []) :: x8).reverse, andAll ((([] : List UInt8) == []) :: x8).reverse].reverse, andAll [andAll ((denB (hold (red1 (quadV x6) (realV x7))).den == []) :: x8).reverse, andAll [magB x9.natAbs == [], decide (x9 < 0) == false].reverse].reverse, andAll [andAll ((denB (hold (red0 (quadV x6) (realV x7))).den == []) :: x8).reverse, andAll [magB x10.natAbs == [], decide (x10 < 0) == false].reverse].reverse].reverse))))))))))
def M105 (v1 : Rat) (v2 : Rat) (v3 : Rat) (v4 : Rat) : Tr AV :=
 let x1 : List AV := [.c (.v (.bool (decide (v4.num < 0)))), .c (.v (.string ⟨⟨magB v4.num.natAbs⟩⟩)), .c (.v (.bool false)), .c (.v (.string ⟨⟨denB v4.den⟩⟩))]
 let x2 : List AV := [.c (.v (.bool (decide (v2.num < 0)))), .c (.v (.string ⟨⟨magB v2.num.natAbs⟩⟩)), .c (.v (.bool false)), .c (.v (.string ⟨⟨denB v2.den⟩⟩))]
 let x3 : List AV := [.c (.v (.bool (decide (v3.num < 0)))), .c (.v (.string ⟨⟨magB v3.num.natAbs⟩⟩)), .c (.v (.bool false)), .c (.v (.string ⟨⟨denB v3.den⟩⟩))]
 let x4 : List AV := [.c (.v (.bool (decide (v1.num < 0)))), .c (.v (.string ⟨⟨magB v1.num.natAbs⟩⟩)), .c (.v (.bool false)), .c (.v (.string ⟨⟨denB v1.den⟩⟩))]
 let x5 : Int := (hold (ratV x1 - ratV x2)).num
 let x6 : List AV := [.c (.v (.bool (decide (x5 < 0)))), .c (.v (.string ⟨⟨magB x5.natAbs⟩⟩)), .c (.v (.bool false)), .c (.v (.string ⟨⟨denB (hold (ratV x1 - ratV x2)).den⟩⟩))]
 let x7 : Int := (hold (ratV x3 - ratV x4)).num
 let x8 : List AV := [.c (.v (.bool (decide (x7 < 0)))), .c (.v (.string ⟨⟨magB x7.natAbs⟩⟩)), .c (.v (.bool false)), .c (.v (.string ⟨⟨denB (hold (ratV x3 - ratV x4)).den⟩⟩))]
 let x9 : List AV := [.c (.v (.bool false)), .c (.v (.string { data := #[] })), .c (.v (.bool false)), .c (.v (.string { data := #[] }))]
 let x10 : List AV := [.c (.v (.int IntKind.i64 0))]
 let x11 : Int := (hold (ratV x6 / ratV x8)).num
 let x12 : List AV := [.c (.v (.bool (decide (x11 < 0)))), .c (.v (.string ⟨⟨magB x11.natAbs⟩⟩)), .c (.v (.bool false)), .c (.v (.string ⟨⟨denB (hold (ratV x6 / ratV x8)).den⟩⟩))]
 let x13 : Int := (hold (ratV x12 * ratV x4)).num
 let x14 : List AV := [.c (.v (.bool (decide (x13 < 0)))), .c (.v (.string ⟨⟨magB x13.natAbs⟩⟩)), .c (.v (.bool false)), .c (.v (.string ⟨⟨denB (hold (ratV x12 * ratV x4)).den⟩⟩))]
 let x15 : Int := (hold (ratV x2 - ratV x14)).num
 .need (ratOk x1) (.need (ratOk x2) (.need (fitA (ratV x1) (-ratV x2)) (.need (ratOk x3) (.need (ratOk x4) (.need (fitA (ratV x3) (-ratV x4)) (.need (ratOk x6) (.need (ratOk x8) (.need (fitD (ratV x6) (ratV x8)) (.need (decide (ratV x8 ≠ 0)) (.ite false (.ret (AV.tup (AV.agg (.c (.v (.bool false)) :: .c (.v (.string { data := #[] })) :: .c (.v (.bool false)) :: .c (.v (.string { data := #[] })) :: .c (.v (.bool false)) :: .c (.v (.string { data := #[] })) :: .c (.v (.bool false)) :: .c (.v (.string { data := #[] })) :: x9) :: x10))) (.need (ratOk x12) (.need (ratOk x4) (.need (fitM (ratV x12) (ratV x4)) (.need (ratOk x2) (.need (ratOk x14) (.need (fitA (ratV x2) (-ratV x14)) (.ret (AV.tup (AV.agg (.c (.v (.bool (decide (x15 < 0)))) :: .c (.v (.string ⟨⟨magB x15.natAbs⟩⟩)) :: .c (.v (.bool false)) :: .c (.v (.string ⟨⟨denB (hold (ratV x2 - ratV x14)).den⟩⟩)) :: .c (.v (.bool (decide (x11 < 0)))) :: .c (.v (.string ⟨⟨magB x11.natAbs⟩⟩)) :: .c (.v (.bool false)) :: .c (.v (.string ⟨⟨denB (hold (ratV x6 / ratV x8)).den⟩⟩)) :: x9) :: x10)))))))))))))))))))
theorem M159_eq (v1 : R3) : execFn Tryz.prog Γ159 noL 1010 Tryz.f159 [.agg (realCells v1)] = M159 v1 := by kernel_rfl
theorem M397_eq (v1 : R3) : execFn Tryz.prog (fun _ => none) noL 1010 Tryz.f397 [.agg (realCells v1)] = M397 v1 := by kernel_rfl
theorem M395_eq (v1 : Q3) (v2 : R3) : execFn Tryz.prog (concΓ Tryz.prog Γb395 70 3) noL 1010 Tryz.f395 [.agg (quadCells v1), .agg (realCells v2)] = M395 v1 v2 := by kernel_rfl
theorem M396_eq (v1 : Q3) (v2 : Q3) (v3 : R3) : execFn Tryz.prog Γ396 noL 1010 Tryz.f396 [.agg (quadCells v1), .agg (quadCells v2), .agg (realCells v3)] = M396 v1 v2 v3 := by kernel_rfl
theorem M105_eq (v1 : Rat) (v2 : Rat) (v3 : Rat) (v4 : Rat) : execFn Tryz.prog (concΓ Tryz.prog Γb105 70 3) noL 1010 Tryz.f105 [.agg (ratCells v1), .agg (ratCells v2), .agg (ratCells v3), .agg (ratCells v4)] = M105 v1 v2 v3 v4 := by kernel_rfl
theorem M159_sat (v1 : R3)  : (M159 v1).sat fun r => r = ratA (hold (facV v1.neg)) := by
 obtain ⟨p, r, neg⟩ := v1
 simp only [M159, sat_true, hold_eq]
 cases neg
 · refine sat_ite (fun h => by cases h) (fun _ => ?_)
   simp only [sat_true]
   exact sat_ret rfl
 · refine sat_ite (fun _ => ?_) (fun h => by cases h)
   simp only [sat_true]
   exact sat_ret rfl
theorem M397_sat (v1 : R3)  : (M397 v1).sat fun r => r = .tup [ratA (hold (bif decide (v1.r = 0) then v1.p else 0)), boolA (decide (v1.r = 0))] := by
 obtain ⟨p, r, neg⟩ := v1
 simp only [M397, ratV_lit, ratOk_lit, quadV_lit, quadOk_lit, realV_lit, realOk_lit, lineV_lit, lineOk_lit, ratV_int, ratOk_int, ratV_zero, ratOk_zero, ratV_zero', ratOk_zero', boolV_lit, List.take_succ_cons, List.take_zero, List.drop_succ_cons, List.drop_zero, hold_eq, Bool.and_self, rat_test0, sat_true]
 refine sat_ite (fun h => ?_) (fun h => ?_)
 ·have h : decide (r = 0) = false := by simpa using h
  rw [h]
  refine sat_ret ?_
  simp only [cond_false, ratA, cells0]
  rfl
 ·have h : decide (r = 0) = true := by simpa using h
  rw [h]
  exact sat_ret rfl
theorem M395_sat (v1 : Q3) (v2 : R3) (c1 : fitRed v1 v2 = true) : (M395 v1 v2).sat fun r => r = .agg (ratCells (hold (red0 v1 v2)) ++ (ratCells (hold (red1 v1 v2)) ++ litZ)) := by
 obtain ⟨a0, a1, a2⟩ := v1
 obtain ⟨p, r, neg⟩ := v2
 simp only [M395, ratV_lit, ratOk_lit, quadV_lit, quadOk_lit, realV_lit, realOk_lit, lineV_lit, lineOk_lit, ratV_int, ratOk_int, ratV_zero, ratOk_zero, ratV_zero', ratOk_zero', boolV_lit, List.take_succ_cons, List.take_zero, List.drop_succ_cons, List.drop_zero, hold_eq, Bool.and_self, rat_test0, sat_true]
 refine sat_ite (fun h => ?_) (fun h => ?_)
 ·simp only [fitRed, h, cond_true, Bool.and_eq_true] at c1
  simp only [ratV_lit, ratOk_lit, quadV_lit, quadOk_lit, realV_lit, realOk_lit, lineV_lit, lineOk_lit, ratV_int, ratOk_int, ratV_zero, ratOk_zero, ratV_zero', ratOk_zero', boolV_lit, List.take_succ_cons, List.take_zero, List.drop_succ_cons, List.drop_zero, hold_eq, Bool.and_self, rat_test0, sat_true, h, cond_true, c1, red0, red1, cells0]
  exact sat_ret rfl
 ·simp only [fitRed, fitSub, h, cond_false, Bool.and_eq_true] at c1
  simp only [ratV_lit, ratOk_lit, quadV_lit, quadOk_lit, realV_lit, realOk_lit, lineV_lit, lineOk_lit, ratV_int, ratOk_int, ratV_zero, ratOk_zero, ratV_zero', ratOk_zero', boolV_lit, List.take_succ_cons, List.take_zero, List.drop_succ_cons, List.drop_zero, hold_eq, Bool.and_self, rat_test0, sat_true, c1]
  refine sat_ret ?_
  simp only [red0, red1, h, cond_false]
  rfl
theorem M396_sat (v1 : Q3) (v2 : Q3) (v3 : R3) (c1 : fitSubQ v1 v2 = true) (c2 : fitRed (subQ v1 v2) v3 = true) : (M396 v1 v2 v3).sat fun r => r = boolA (decide (red0 (subQ v1 v2) v3 = 0) && decide (red1 (subQ v1 v2) v3 = 0)) := by
 obtain ⟨a0, a1, a2⟩ := v1
 obtain ⟨b0, b1, b2⟩ := v2
 obtain ⟨p, r, neg⟩ := v3
 simp only [subQ] at c2 ⊢
 simp only [M396, ratV_lit, ratOk_lit, quadV_lit, quadOk_lit, realV_lit, realOk_lit, lineV_lit, lineOk_lit, ratV_int, ratOk_int, ratV_zero, ratOk_zero, ratV_zero', ratOk_zero', boolV_lit, List.take_succ_cons, List.take_zero, List.drop_succ_cons, List.drop_zero, hold_eq, Bool.and_self, rat_test0, sat_true, c1, c2]
 refine sat_ret ?_
 show AV.c (.v (.bool (decide (red0 ⟨a0 - b0, a1 - b1, a2 - b2⟩ ⟨p, r, neg⟩ = 0) && (decide (red1 ⟨a0 - b0, a1 - b1, a2 - b2⟩ ⟨p, r, neg⟩ = 0) && true)))) = _
 rw [Bool.and_true]
 rfl
theorem M105_sat (v1 : Rat) (v2 : Rat) (v3 : Rat) (v4 : Rat) (c1 : fitBet v1 v2 v3 v4 = true) : (M105 v1 v2 v3 v4).sat fun r => r = .tup [.agg (ratCells (hold (v2 - slopeB v1 v2 v3 v4 * v1)) ++ (ratCells (hold (slopeB v1 v2 v3 v4)) ++ litZ)), intA .i64 0] := by
 simp only [fitBet, fitSub, Bool.and_eq_true] at c1
 obtain ⟨⟨⟨⟨⟨c1, c2⟩, c3⟩, c4⟩, c5⟩, c6⟩ := c1
 unfold slopeB at c5 c6
 simp only [M105, slopeB, ratV_lit, ratOk_lit, quadV_lit, quadOk_lit, realV_lit, realOk_lit, lineV_lit, lineOk_lit, ratV_int, ratOk_int, ratV_zero, ratOk_zero, ratV_zero', ratOk_zero', boolV_lit, List.take_succ_cons, List.take_zero, List.drop_succ_cons, List.drop_zero, hold_eq, Bool.and_self, rat_test0, sat_true, c1, c2, c3, c4, c5, c6]
 refine sat_ite (fun h => by cases h) (fun _ => ?_)
 simp only [sat_true]
 exact sat_ret rfl
theorem Γ159_ok : ∀ f s, Γ159 f = some s → SpecOk Tryz.prog f s := one_ok f103_ok.spec
theorem f159_ok : PureOk Tryz.prog 159 K159 := by
 refine pureOk_of_exec prog_mixed Γ159_ok (fn := Tryz.f159) (c := codeOf Tryz.f159) (by kernel_rfl) (by kernel_rfl) (callFunc_enter (fn := Tryz.f159) (c := codeOf Tryz.f159) (by kernel_rfl) (by kernel_rfl) (by kernel_rfl)) (L := noL) (N := 1010) (blocksOk_none _ _) ?_ ?_
 ·intro args v cs h
  unfold K159 at h
  split at h
  ·cases h; rfl
  ·cases h
 ·intro args v cs h hc
  unfold K159 at h
  split at h
  ·rename_i l1
   cases h
   have h1 : realOk l1 = true := hc (realOk l1) (by simp)
   obtain ⟨v1, rfl⟩ : ∃ x, l1 = realCells x := ⟨_, realOk_eq h1⟩
   simp only [realV_cells] at *
   have hs := M159_sat v1
   rw [← M159_eq] at hs
   generalize execFn Tryz.prog Γ159 noL 1010 Tryz.f159 [.agg (realCells v1)] = T at hs ⊢
   generalize hold (facV v1.neg) = z at hs ⊢
   exact Tr.sat_mono (fun r hr => ⟨by subst hr; rfl, Sees.of_eq hr⟩) hs
  ·cases h
theorem f397_ok : PureOk Tryz.prog 397 K397 := by
 refine pureOk_of_exec prog_mixed noΓ_ok (fn := Tryz.f397) (c := codeOf Tryz.f397) (by kernel_rfl) (by kernel_rfl) (callFunc_enter (fn := Tryz.f397) (c := codeOf Tryz.f397) (by kernel_rfl) (by kernel_rfl) (by kernel_rfl)) (L := noL) (N := 1010) (blocksOk_none _ _) ?_ ?_
 ·intro args v cs h
  unfold K397 at h
  split at h
  ·cases h; rfl
  ·cases h
 ·intro args v cs h hc
  unfold K397 at h
  split at h
  ·rename_i l1
   cases h
   have h1 : realOk l1 = true := hc (realOk l1) (by simp)
   obtain ⟨v1, rfl⟩ : ∃ x, l1 = realCells x := ⟨_, realOk_eq h1⟩
   simp only [realV_cells] at *
   have hs := M397_sat v1
   rw [← M397_eq] at hs
   generalize execFn Tryz.prog (fun _ => none) noL 1010 Tryz.f397 [.agg (realCells v1)] = T at hs ⊢
   generalize hold (bif decide (v1.r = 0) then v1.p else 0) = z0 at hs ⊢
   generalize decide (v1.r = 0) = z1 at hs ⊢
   exact Tr.sat_mono (fun r hr => ⟨by subst hr; rfl, Sees.of_eq hr⟩) hs
  ·cases h
theorem Γb395_ok : ∀ f s, Γb395 f = some s → SpecOk Tryz.prog f s := step_ok f397_ok.spec (step_ok f321_ok.spec (step_ok f156_ok.spec (step_ok f154_ok.spec (step_ok f162_ok.spec (one_ok f322_ok.spec)))))
theorem f395_ok : PureOk Tryz.prog 395 K395 := by
 refine pureOk_of_exec prog_mixed (concΓ_ok (N := 70) prog_mixed Γb395_ok 3) (fn := Tryz.f395) (c := codeOf Tryz.f395) (by kernel_rfl) (by kernel_rfl) (callFunc_enter (fn := Tryz.f395) (c := codeOf Tryz.f395) (by kernel_rfl) (by kernel_rfl) (by kernel_rfl)) (L := noL) (N := 1010) (blocksOk_none _ _) ?_ ?_
 ·intro args v cs h
  unfold K395 at h
  split at h
  ·cases h; rfl
  ·cases h
 ·intro args v cs h hc
  unfold K395 at h
  split at h
  ·rename_i l1 l2
   cases h
   have h1 : quadOk l1 = true := hc (quadOk l1) (by simp)
   have h2 : realOk l2 = true := hc (realOk l2) (by simp)
   have c1 : fitRed (quadV l1) (realV l2) = true := hc (fitRed (quadV l1) (realV l2)) (by simp)
   obtain ⟨v1, rfl⟩ : ∃ x, l1 = quadCells x := ⟨_, quadOk_eq h1⟩
   obtain ⟨v2, rfl⟩ : ∃ x, l2 = realCells x := ⟨_, realOk_eq h2⟩
   simp only [quadV_cells, realV_cells] at *
   have hs := M395_sat v1 v2 c1
   rw [← M395_eq] at hs
   generalize execFn Tryz.prog (concΓ Tryz.prog Γb395 70 3) noL 1010 Tryz.f395 [.agg (quadCells v1), .agg (realCells v2)] = T at hs ⊢
   generalize hold (red0 v1 v2) = z0 at hs ⊢
   generalize hold (red1 v1 v2) = z1 at hs ⊢
   exact Tr.sat_mono (fun r hr => ⟨by subst hr; rfl, Sees.of_eq hr⟩) hs
  ·cases h
theorem Γ396_ok : ∀ f s, Γ396 f = some s → SpecOk Tryz.prog f s := step_ok f278_ok.spec (one_ok f395_ok.spec)
theorem f396_ok : PureOk Tryz.prog 396 K396 := by
 refine pureOk_of_exec prog_mixed Γ396_ok (fn := Tryz.f396) (c := codeOf Tryz.f396) (by kernel_rfl) (by kernel_rfl) (callFunc_enter (fn := Tryz.f396) (c := codeOf Tryz.f396) (by kernel_rfl) (by kernel_rfl) (by kernel_rfl)) (L := noL) (N := 1010) (blocksOk_none _ _) ?_ ?_
 ·intro args v cs h
  unfold K396 at h
  split at h
  ·cases h; rfl
  ·cases h
 ·intro args v cs h hc
  unfold K396 at h
  split at h
  ·rename_i l1 l2 l3
   cases h
   have h1 : quadOk l1 = true := hc (quadOk l1) (by simp)
   have h2 : quadOk l2 = true := hc (quadOk l2) (by simp)
   have h3 : realOk l3 = true := hc (realOk l3) (by simp)
   have c1 : fitSubQ (quadV l1) (quadV l2) = true := hc (fitSubQ (quadV l1) (quadV l2)) (by simp)
   have c2 : fitRed (subQ (quadV l1) (quadV l2)) (realV l3) = true := hc (fitRed (subQ (quadV l1) (quadV l2)) (realV l3)) (by simp)
   obtain ⟨v1, rfl⟩ : ∃ x, l1 = quadCells x := ⟨_, quadOk_eq h1⟩
   obtain ⟨v2, rfl⟩ : ∃ x, l2 = quadCells x := ⟨_, quadOk_eq h2⟩
   obtain ⟨v3, rfl⟩ : ∃ x, l3 = realCells x := ⟨_, realOk_eq h3⟩
   simp only [quadV_cells, realV_cells] at *
   have hs := M396_sat v1 v2 v3 c1 c2
   rw [← M396_eq] at hs
   generalize execFn Tryz.prog Γ396 noL 1010 Tryz.f396 [.agg (quadCells v1), .agg (quadCells v2), .agg (realCells v3)] = T at hs ⊢
   generalize (decide (red0 (subQ v1 v2) v3 = 0) && decide (red1 (subQ v1 v2) v3 = 0)) = z at hs ⊢
   exact Tr.sat_mono (fun r hr => ⟨by subst hr; rfl, Sees.of_eq hr⟩) hs
  ·cases h
theorem Γb105_ok : ∀ f s, Γb105 f = some s → SpecOk Tryz.prog f s := step_ok f154_ok.spec (step_ok f153_ok.spec (one_ok f156_ok.spec))
theorem f105_ok : PureOk Tryz.prog 105 K105 := by
 refine pureOk_of_exec prog_mixed (concΓ_ok (N := 70) prog_mixed Γb105_ok 3) (fn := Tryz.f105) (c := codeOf Tryz.f105) (by kernel_rfl) (by kernel_rfl) (callFunc_enter (fn := Tryz.f105) (c := codeOf Tryz.f105) (by kernel_rfl) (by kernel_rfl) (by kernel_rfl)) (L := noL) (N := 1010) (blocksOk_none _ _) ?_ ?_
 ·intro args v cs h
  unfold K105 at h
  split at h
  ·cases h; rfl
  ·cases h
 ·intro args v cs h hc
  unfold K105 at h
  split at h
  ·rename_i l1 l2 l3 l4
   cases h
   have h1 : ratOk l1 = true := hc (ratOk l1) (by simp)
   have h2 : ratOk l2 = true := hc (ratOk l2) (by simp)
   have h3 : ratOk l3 = true := hc (ratOk l3) (by simp)
   have h4 : ratOk l4 = true := hc (ratOk l4) (by simp)
   have c1 : fitBet (ratV l1) (ratV l2) (ratV l3) (ratV l4) = true := hc (fitBet (ratV l1) (ratV l2) (ratV l3) (ratV l4)) (by simp)
   obtain ⟨v1, rfl⟩ : ∃ x, l1 = ratCells x := ⟨_, ratOk_eq h1⟩
   obtain ⟨v2, rfl⟩ : ∃ x, l2 = ratCells x := ⟨_, ratOk_eq h2⟩
   obtain ⟨v3, rfl⟩ : ∃ x, l3 = ratCells x := ⟨_, ratOk_eq h3⟩
   obtain ⟨v4, rfl⟩ : ∃ x, l4 = ratCells x := ⟨_, ratOk_eq h4⟩
   simp only [ratV_cells] at *
   have hs := M105_sat v1 v2 v3 v4 c1
   rw [← M105_eq] at hs
   generalize execFn Tryz.prog (concΓ Tryz.prog Γb105 70 3) noL 1010 Tryz.f105 [.agg (ratCells v1), .agg (ratCells v2), .agg (ratCells v3), .agg (ratCells v4)] = T at hs ⊢
   generalize hold (v2 - slopeB v1 v2 v3 v4 * v1) = z0 at hs ⊢
   generalize hold (slopeB v1 v2 v3 v4) = z1 at hs ⊢
   exact Tr.sat_mono (fun r hr => ⟨by subst hr; rfl, Sees.of_eq hr⟩) hs
  ·cases h
end Go.Vse
