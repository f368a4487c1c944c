/- Helpers for the proof: no statement of its own. -/
import Derived.Test.YtaidphfhmbpelaaGreatDoorLawA
set_option linter.unusedVariables false
set_option linter.unusedSimpArgs false
set_option linter.unnecessarySimpa false
set_option linter.deprecated false
set_option maxRecDepth 100000
set_option maxHeartbeats 4000000
namespace Go.Vse
open Go.Proofs
def M3sn (p : P3) (G : W3 → Tr AV) (px1 : Int) (py1 : Int) (pr1 : Bool) (poa1 : Bool) (pob1 : Bool) (pk1 : Nat) (pm1 : Nat) (pec1 : Nat → List IV) (pe1 : Nat → List IV) (px2 : Int) (py2 : Int) (pr2 : Bool) (poa2 : Bool) (pob2 : Bool) (pk2 : Nat) (pm2 : Nat) (pec2 : Nat → List IV) (pe2 : Nat → List IV) (tt : Int) : Tr AV :=
 let x1 : List AV := [.c (.v (.int IntKind.u8 px1)), .c (.v (.int IntKind.u8 py1)), .c (.v (.bool pr1)), .c (.v (.bool poa1)), .c (.v (.bool pob1)), AV.c (IV.sl pk1 4 pec1), AV.c (IV.sl (pm1 + 1) 4 pe1)]
 let x2 : List AV := [.c (.v (.int IntKind.u8 px2)), .c (.v (.int IntKind.u8 py2)), .c (.v (.bool pr2)), .c (.v (.bool poa2)), .c (.v (.bool pob2)), AV.c (IV.sl pk2 4 pec2), AV.c (IV.sl 0 4 pe2)]
 let x3 : Int := IntKind.i64.wrap (tt.tmod 8)
 let x4 : Nat := p.n x1
 let x5 : IV := IV.sl x4 16 (p.el x1)
 let x6 : IV := IV.sl 1 1 (p.he x1)
 let x7 : Bool := p.cV x5 x6
 let x8 : Nat := p.n x2
 let x9 : IV := IV.sl x8 16 (p.el x2)
 let x10 : IV := IV.v (Value.slice none 0 0)
 let x11 : Bool := p.cV x9 x10
 let x12 : Bool := ((x4 : Nat) : Int) == ((x8 : Nat) : Int)
 let x13 : Bool := bif true then ((1 : Nat) : Int) == 0 else false
 let x14 : Bool := bif x12 then bif x13 then true else true else bif false then true else true
 let x15 : List AV := [.c (.v (.bool false))]
 let x16 : List AV := .c (.v (.bool (p.yb x3 0))) :: .c (.v (.string (p.ys x3 1))) :: .c (.v (.bool (p.yb x3 2))) :: .c (.v (.string (p.ys x3 3))) :: .c (.v (.bool (p.yb 2 0))) :: .c (.v (.string (p.ys 2 1))) :: .c (.v (.bool (p.yb 2 2))) :: .c (.v (.string (p.ys 2 3))) :: x15
 let x17 : Nat := p.vn x5 x6
 let x18 : Bool := linesOk x17 (p.vel x5 x6)
 let x19 : Nat := p.vn x9 x10
 let x20 : Bool := linesOk x19 (p.vel x9 x10)
 let x21 : List L4 := linesOf x17 (p.vel x5 x6)
 let x22 : List L4 := linesOf x19 (p.vel x9 x10)
 let x23 : Bool := bif true then ((x17 : Nat) : Int) == ((x19 : Nat) : Int) else false
 let x24 : Bool := bif x12 then bif x13 then x23 else false else bif false then x23 else false
 let x25 : Bool := !x24
 let x26 : Nat := x21.length
 let x27 : Nat := x22.length
 let x28 : Bool := x25 || decide (x26 = x27)
 let x29 : Int := (ratV [.c (.v (.bool (p.yb x3 0))), .c (.v (.string (p.ys x3 1))), .c (.v (.bool (p.yb x3 2))), .c (.v (.string (p.ys x3 3)))]).num
 let x30 : Int := (ratV [.c (.v (.bool (p.yb 2 0))), .c (.v (.string (p.ys 2 1))), .c (.v (.bool (p.yb 2 2))), .c (.v (.string (p.ys 2 3)))]).num
 let x31 : List AV := .c (.v (.bool (decide (x29 < 0)))) :: .c (.v (.string ⟨⟨magB x29.natAbs⟩⟩)) :: .c (.v (.bool false)) :: .c (.v (.string ⟨⟨denB (ratV [.c (.v (.bool (p.yb x3 0))), .c (.v (.string (p.ys x3 1))), .c (.v (.bool (p.yb x3 2))), .c (.v (.string (p.ys x3 3)))]).den⟩⟩)) :: .c (.v (.bool (decide (x30 < 0)))) :: .c (.v (.string ⟨⟨magB x30.natAbs⟩⟩)) :: .c (.v (.bool false)) :: .c (.v (.string ⟨⟨denB (ratV [.c (.v (.bool (p.yb 2 0))), .c (.v (.string (p.ys 2 1))), .c (.v (.bool (p.yb 2 2))), .c (.v (.string (p.ys 2 3)))]).den⟩⟩)) :: x15
 let x32 : Bool := linesOk x26 (lineEl x21)
 let x33 : Bool := linesOk x27 (lineEl x22)
 let x34 : List L4 := linesOf x26 (lineEl x21)
 let x35 : List L4 := linesOf x27 (lineEl x22)
 let x36 : List L4 := List.drop (Int.toNat 0) x21
 let x37 : List L4 := List.drop (Int.toNat 0) x22
 let x38 : Bool := x24 && eqAll (zeroL (realV x16)) x36 x37
 let x39 : Nat := x34.length
 let x40 : Nat := x35.length
 let x41 : Bool := x25 || decide (x39 = x40)
 let x42 : Int := (ratV [.c (.v (.bool (decide (x29 < 0)))), .c (.v (.string ⟨⟨magB x29.natAbs⟩⟩)), .c (.v (.bool false)), .c (.v (.string ⟨⟨denB (ratV [.c (.v (.bool (p.yb x3 0))), .c (.v (.string (p.ys x3 1))), .c (.v (.bool (p.yb x3 2))), .c (.v (.string (p.ys x3 3)))]).den⟩⟩))]).num
 let x43 : Int := (ratV [.c (.v (.bool (decide (x30 < 0)))), .c (.v (.string ⟨⟨magB x30.natAbs⟩⟩)), .c (.v (.bool false)), .c (.v (.string ⟨⟨denB (ratV [.c (.v (.bool (p.yb 2 0))), .c (.v (.string (p.ys 2 1))), .c (.v (.bool (p.yb 2 2))), .c (.v (.string (p.ys 2 3)))]).den⟩⟩))]).num
 let x44 : List AV := .c (.v (.bool (decide (x42 < 0)))) :: .c (.v (.string ⟨⟨magB x42.natAbs⟩⟩)) :: .c (.v (.bool false)) :: .c (.v (.string { data := { toList := denB (ratV [.c (.v (.bool (decide (x29 < 0)))), .c (.v (.string ⟨⟨magB x29.natAbs⟩⟩)), .c (.v (.bool false)), .c (.v (.string ⟨⟨denB (ratV [.c (.v (.bool (p.yb x3 0))), .c (.v (.string (p.ys x3 1))), .c (.v (.bool (p.yb x3 2))), .c (.v (.string (p.ys x3 3)))]).den⟩⟩))]).den } })) :: .c (.v (.bool (decide (x43 < 0)))) :: .c (.v (.string ⟨⟨magB x43.natAbs⟩⟩)) :: .c (.v (.bool false)) :: .c (.v (.string { data := { toList := denB (ratV [.c (.v (.bool (decide (x30 < 0)))), .c (.v (.string ⟨⟨magB x30.natAbs⟩⟩)), .c (.v (.bool false)), .c (.v (.string ⟨⟨denB (ratV [.c (.v (.bool (p.yb 2 0))), .c (.v (.string (p.ys 2 1))), .c (.v (.bool (p.yb 2 2))), .c (.v (.string (p.ys 2 3)))]).den⟩⟩))]).den } })) :: x15
 let x45 : Bool := linesOk x39 (lineEl x34)
 let x46 : Bool := linesOk x40 (lineEl x35)
 let x47 : List L4 := linesOf x39 (lineEl x34)
 let x48 : List L4 := linesOf x40 (lineEl x35)
 let x49 : List L4 := List.drop (Int.toNat 0) x34
 let x50 : List L4 := List.drop (Int.toNat 0) x35
 let x51 : Bool := x24 && eqAll eqL x49 x50
 let x52 : Int := ↑(stop eqL x49 x50 x24 (Int.toNat 0))
 let x53 : List AV := [.c (.v (.bool (p.zb x3 8)))]
 let x54 : List AV := .c (.v (.bool (p.zb x3 0))) :: .c (.v (.string (p.zs x3 1))) :: .c (.v (.bool (p.zb x3 2))) :: .c (.v (.string (p.zs x3 3))) :: .c (.v (.bool (p.zb x3 4))) :: .c (.v (.string (p.zs x3 5))) :: .c (.v (.bool (p.zb x3 6))) :: .c (.v (.string (p.zs x3 7))) :: x53
 let x55 : Int := (ratV [.c (.v (.bool (p.zb x3 0))), .c (.v (.string (p.zs x3 1))), .c (.v (.bool (p.zb x3 2))), .c (.v (.string (p.zs x3 3)))]).num
 let x56 : Int := (ratV [.c (.v (.bool (p.zb x3 4))), .c (.v (.string (p.zs x3 5))), .c (.v (.bool (p.zb x3 6))), .c (.v (.string (p.zs x3 7)))]).num
 let x57 : List AV := [.c (.v (.bool (boolV x53)))]
 let x58 : List AV := .c (.v (.bool (decide (x55 < 0)))) :: .c (.v (.string ⟨⟨magB x55.natAbs⟩⟩)) :: .c (.v (.bool false)) :: .c (.v (.string ⟨⟨denB (ratV [.c (.v (.bool (p.zb x3 0))), .c (.v (.string (p.zs x3 1))), .c (.v (.bool (p.zb x3 2))), .c (.v (.string (p.zs x3 3)))]).den⟩⟩)) :: .c (.v (.bool (decide (x56 < 0)))) :: .c (.v (.string ⟨⟨magB x56.natAbs⟩⟩)) :: .c (.v (.bool false)) :: .c (.v (.string ⟨⟨denB (ratV [.c (.v (.bool (p.zb x3 4))), .c (.v (.string (p.zs x3 5))), .c (.v (.bool (p.zb x3 6))), .c (.v (.string (p.zs x3 7)))]).den⟩⟩)) :: x57
 let x59 : Bool := x24 && eqAll (zeroL (realV x54)) x36 x37
 let x60 : Int := (ratV [.c (.v (.bool (decide (x55 < 0)))), .c (.v (.string ⟨⟨magB x55.natAbs⟩⟩)), .c (.v (.bool false)), .c (.v (.string ⟨⟨denB (ratV [.c (.v (.bool (p.zb x3 0))), .c (.v (.string (p.zs x3 1))), .c (.v (.bool (p.zb x3 2))), .c (.v (.string (p.zs x3 3)))]).den⟩⟩))]).num
 let x61 : Int := (ratV [.c (.v (.bool (decide (x56 < 0)))), .c (.v (.string ⟨⟨magB x56.natAbs⟩⟩)), .c (.v (.bool false)), .c (.v (.string ⟨⟨denB (ratV [.c (.v (.bool (p.zb x3 4))), .c (.v (.string (p.zs x3 5))), .c (.v (.bool (p.zb x3 6))), .c (.v (.string (p.zs x3 7)))]).den⟩⟩))]).num
 let x62 : List AV := [.c (.v (.bool (decide (x60 < 0)))), .c (.v (.string ⟨⟨magB x60.natAbs⟩⟩)), .c (.v (.bool false)), .c (.v (.string { data := { toList := denB (ratV [.c (.v (.bool (decide (x55 < 0)))), .c (.v (.string ⟨⟨magB x55.natAbs⟩⟩)), .c (.v (.bool false)), .c (.v (.string ⟨⟨denB (ratV [.c (.v (.bool (p.zb x3 0))), .c (.v (.string (p.zs x3 1))), .c (.v (.bool (p.zb x3 2))), .c (.v (.string (p.zs x3 3)))]).den⟩⟩))]).den } })), .c (.v (.bool (decide (x61 < 0)))), .c (.v (.string ⟨⟨magB x61.natAbs⟩⟩)), .c (.v (.bool false)), .c (.v (.string { data := { toList := denB (ratV [.c (.v (.bool (decide (x56 < 0)))), .c (.v (.string ⟨⟨magB x56.natAbs⟩⟩)), .c (.v (.bool false)), .c (.v (.string ⟨⟨denB (ratV [.c (.v (.bool (p.zb x3 4))), .c (.v (.string (p.zs x3 5))), .c (.v (.bool (p.zb x3 6))), .c (.v (.string (p.zs x3 7)))]).den⟩⟩))]).den } })), .c (.v (.bool (boolV x57)))]
 .ite false (.ret (.c (.v (.bool false)))) (.need (p.cu x1) (.need (p.cu x2) (.need true (.need (p.cz x3) (.ite (decide (tt ≥ 128)) (.need true (.need (p.cy x3) (.need (p.cy 2) (.need x7 (.need x11 (.need x14 (.need (realOk x16) (.need x18 (.need x20 (.need (pre3 { a := x5, b := x6, c := x9, d := x10, t := realV x16, A := x21, B := x22, s := x24, e := x24, i := 0 } && x28) (.need (realOk x31) (.need x32 (.need x33 (.need (pre3 { a := x5, b := x6, c := x9, d := x10, t := realV x31, A := x34, B := x35, s := x38, e := x24, i := 0 } && x41) (.need (realOk x44) (.need x45 (.need x46 (id (G { a := x5, b := x6, c := x9, d := x10, t := realV x44, A := x47, B := x48, s := x38, e := x51, i := x52 }))))))))))))))))))) (.need x7 (.need x11 (.need x14 (.need (realOk x54) (.need x18 (.need x20 (.need (pre3 { a := x5, b := x6, c := x9, d := x10, t := realV x54, A := x21, B := x22, s := x24, e := x24, i := 0 } && x28) (.need (realOk x58) (.need x32 (.need x33 (.need (pre3 { a := x5, b := x6, c := x9, d := x10, t := realV x58, A := x34, B := x35, s := x59, e := x24, i := 0 } && x41) (.need (realOk x62) (.need x45 (.need x46 (id (G { a := x5, b := x6, c := x9, d := x10, t := realV x62, A := x47, B := x48, s := x59, e := x51, i := x52 })))))))))))))))))))))
theorem M3sn_eq (p : P3) (G : W3 → Tr AV) (px1 py1 : Int) (pr1 poa1 pob1 : Bool) (pk1 pm1 : Nat) (pec1 pe1 : Nat → List IV) (px2 py2 : Int) (pr2 poa2 pob2 : Bool) (pk2 pm2 : Nat) (pec2 pe2 : Nat → List IV) (tt : Int) : execTo Tryz.prog (Γ3x p) L3 1010 Tryz.f3 (cutN nrm3 take3 G) 10 (codeOf Tryz.f3) (start [.agg [.c (.v (.int .u8 px1)), .c (.v (.int .u8 py1)), .c (.v (.bool pr1)), .c (.v (.bool poa1)), .c (.v (.bool pob1)), .c (.sl pk1 4 pec1), .c (.sl (pm1 + 1) 4 pe1)], .agg [.c (.v (.int .u8 px2)), .c (.v (.int .u8 py2)), .c (.v (.bool pr2)), .c (.v (.bool poa2)), .c (.v (.bool pob2)), .c (.sl pk2 4 pec2), .c (.sl 0 4 pe2)], .c (.v (.int .u8 tt))] 182) = M3sn p G px1 py1 pr1 poa1 pob1 pk1 pm1 pec1 pe1 px2 py2 pr2 poa2 pob2 pk2 pm2 pec2 pe2 tt := by kernel_rfl
theorem M3sn_sat (p : P3) (G : W3 → Tr AV) (px1 py1 : Int) (pr1 poa1 pob1 : Bool) (pk1 pm1 : Nat) (pec1 pe1 : Nat → List IV) (px2 py2 : Int) (pr2 poa2 pob2 : Bool) (pk2 pm2 : Nat) (pec2 pe2 : Nat → List IV) (tt T : Int) (V W : List L4) (tp tr up ur : Rat) (s0 : Bool) (Q : AV → Prop)
   (L1 L2 : List AV) (A1 B1 A2 B2 : IV) (eL1 : L1 = [.c (.v (.int .u8 px1)), .c (.v (.int .u8 py1)), .c (.v (.bool pr1)), .c (.v (.bool poa1)), .c (.v (.bool pob1)), .c (.sl pk1 4 pec1), .c (.sl (pm1 + 1) 4 pe1)]) (eL2 : L2 = [.c (.v (.int .u8 px2)), .c (.v (.int .u8 py2)), .c (.v (.bool pr2)), .c (.v (.bool poa2)), .c (.v (.bool pob2)), .c (.sl pk2 4 pec2), .c (.sl 0 4 pe2)]) (eA1 : A1 = IV.sl (p.n L1) 16 (p.el L1)) (eB1 : B1 = IV.sl 1 1 (p.he L1)) (eA2 : A2 = IV.sl (p.n L2) 16 (p.el L2)) (eB2 : B2 = (IV.v (Value.slice none 0 0)))
   (hT : IntKind.i64.wrap (tt.tmod 8) = T)
   (hcu1 : p.cu L1 = true)
   (hcu2 : p.cu L2 = true)
   (hcz : p.cz T = true)
   (hcy : p.cy T = true)
   (hcy2 : p.cy 2 = true)
   (hcV1 : p.cV A1 B1 = true)
   (hcV2 : p.cV A2 B2 = true)
   (hok1 : linesOk (p.vn A1 B1) (p.vel A1 B1) = true)
   (hok2 : linesOk (p.vn A2 B2) (p.vel A2 B2) = true)
   (hV : linesOf (p.vn A1 B1) (p.vel A1 B1) = V)
   (hW : linesOf (p.vn A2 B2) (p.vel A2 B2) = W)
   (hV0 : V.length ≤ 2000)
   (hVl : V.all lbB = true)
   (hWl : W.all lbB = true)
   (hz0 : ratV [.c (.v (.bool (p.zb T 0))), .c (.v (.string (p.zs T 1))), .c (.v (.bool (p.zb T 2))), .c (.v (.string (p.zs T 3)))] = tp)
   (hzo0 : ratOk [.c (.v (.bool (p.zb T 0))), .c (.v (.string (p.zs T 1))), .c (.v (.bool (p.zb T 2))), .c (.v (.string (p.zs T 3)))] = true)
   (hz4 : ratV [.c (.v (.bool (p.zb T 4))), .c (.v (.string (p.zs T 5))), .c (.v (.bool (p.zb T 6))), .c (.v (.string (p.zs T 7)))] = tr)
   (hzo4 : ratOk [.c (.v (.bool (p.zb T 4))), .c (.v (.string (p.zs T 5))), .c (.v (.bool (p.zb T 6))), .c (.v (.string (p.zs T 7)))] = true)
   (hz8 : p.zb T 8 = false)
   (hy0 : ratV [.c (.v (.bool (p.yb T 0))), .c (.v (.string (p.ys T 1))), .c (.v (.bool (p.yb T 2))), .c (.v (.string (p.ys T 3)))] = up)
   (hyo0 : ratOk [.c (.v (.bool (p.yb T 0))), .c (.v (.string (p.ys T 1))), .c (.v (.bool (p.yb T 2))), .c (.v (.string (p.ys T 3)))] = true)
   (hy4 : ratV [.c (.v (.bool (p.yb 2 0))), .c (.v (.string (p.ys 2 1))), .c (.v (.bool (p.yb 2 2))), .c (.v (.string (p.ys 2 3)))] = ur)
   (hyo4 : ratOk [.c (.v (.bool (p.yb 2 0))), .c (.v (.string (p.ys 2 1))), .c (.v (.bool (p.yb 2 2))), .c (.v (.string (p.ys 2 3)))] = true)
   (hs0 : (bif (((p.n L1 : Nat) : Int) == ((p.n L2 : Nat) : Int)) then bif false then (((p.vn A1 B1 : Nat) : Int) == ((p.vn A2 B2 : Nat) : Int)) else false else false) = s0)
   (hl : s0 = true → V.length = W.length)
   (htba : tbB ⟨tp, tr, false⟩ = true)
   (hGa : ∀ i, (G ⟨A1, B1, A2, B2, ⟨tp, tr, false⟩, V, W, s0 && eqAll (zeroL ⟨tp, tr, false⟩) V W, s0 && eqAll eqL V W, i⟩).sat Q)
   (htbb : tbB ⟨up, ur, false⟩ = true)
   (hGb : ∀ i, (G ⟨A1, B1, A2, B2, ⟨up, ur, false⟩, V, W, s0 && eqAll (zeroL ⟨up, ur, false⟩) V W, s0 && eqAll eqL V W, i⟩).sat Q) : (M3sn p G px1 py1 pr1 poa1 pob1 pk1 pm1 pec1 pe1 px2 py2 pr2 poa2 pob2 pk2 pm2 pec2 pe2 tt).sat Q := by
 subst eL1 eL2
 subst eA1 eB1 eA2 eB2
 have folda : [.c (.v (.bool (decide (tp.num < 0)))), .c (.v (.string ⟨⟨magB tp.num.natAbs⟩⟩)), .c (.v (.bool false)), .c (.v (.string ⟨⟨denB tp.den⟩⟩)), .c (.v (.bool (decide (tr.num < 0)))), .c (.v (.string ⟨⟨magB tr.num.natAbs⟩⟩)), .c (.v (.bool false)), .c (.v (.string ⟨⟨denB tr.den⟩⟩)), AV.c (.v (.bool false))] = realCells ⟨tp, tr, false⟩ := rfl
 have foldb : [.c (.v (.bool (decide (up.num < 0)))), .c (.v (.string ⟨⟨magB up.num.natAbs⟩⟩)), .c (.v (.bool false)), .c (.v (.string ⟨⟨denB up.den⟩⟩)), .c (.v (.bool (decide (ur.num < 0)))), .c (.v (.string ⟨⟨magB ur.num.natAbs⟩⟩)), .c (.v (.bool false)), .c (.v (.string ⟨⟨denB ur.den⟩⟩)), AV.c (.v (.bool false))] = realCells ⟨up, ur, false⟩ := rfl
 have c1 : ∀ x : Bool, (bif x then true else true) = true := fun x => by cases x <;> rfl
 have c4 : ((0 : Int) == ((1 : Nat) : Int)) = false := rfl
 have c5 : (((1 : Nat) : Int) == (0 : Int)) = false := rfl
 have d0 : ∀ X : List L4, List.drop (Int.toNat 0) X = X := fun X => rfl
 have hll : (!s0 || decide (V.length = W.length)) = true := by
   cases h : s0 with
   | false => rfl
   | true => rw [decide_eq_true (hl h)]; rfl
 have e0 : decide ((0 : Int) ≤ 0) = true := rfl
 have e1 : decide ((0 : Int) ≤ (V.length : Int)) = true := decide_eq_true (by omega)
 have e2 : decide (V.length ≤ 2000) = true := decide_eq_true hV0
 have hs0' := hs0
 simp only [cond_true, cond_false] at hs0'
 simp only [M3sn, pre3, c1, c4, c5, d0, e0, e1, e2, hs0', hll, hT, hcu1, hcu2, hcz, hcy, hcy2, hcV1, hcV2, hok1, hok2, hV, hW, hVl, hWl, hz0, hzo0, hz4, hzo4, hz8, hy0, hyo0, hy4, hyo4, htba, htbb, ratV_lit, ratOk_lit, realV_lit, realOk_lit, boolV_lit, List.take_succ_cons, List.take_zero, List.drop_succ_cons, List.drop_zero, Bool.and_self, Bool.and_true, Bool.true_and, r3_eta, linesOf_el, linesOk_lines, sat_true, sat_iteT, sat_iteF, dT, cond_true, cond_false, beq_self_eq_true, folda, foldb, id]
 refine sat_ite (fun _ => ?_) (fun _ => ?_)
 · simp only [sat_true, realOk_cells, realV_cells, htbb, Bool.and_self, Bool.and_true, Bool.true_and]
   exact hGb _
 · simp only [sat_true, realOk_cells, realV_cells, htba, Bool.and_self, Bool.and_true, Bool.true_and]
   exact hGa _
end Go.Vse
set_option maxRecDepth 100000
set_option maxHeartbeats 4000000
namespace Go.Vse
open Go.Proofs
def M3ss (p : P3) (G : W3 → Tr AV) (px1 : Int) (py1 : Int) (pr1 : Bool) (poa1 : Bool) (pob1 : Bool) (pk1 : Nat) (pm1 : Nat) (pec1 : Nat → List IV) (pe1 : Nat → List IV) (px2 : Int) (py2 : Int) (pr2 : Bool) (poa2 : Bool) (pob2 : Bool) (pk2 : Nat) (pm2 : Nat) (pec2 : Nat → List IV) (pe2 : Nat → List IV) (tt : Int) : Tr AV :=
 let x1 : List AV := [.c (.v (.int IntKind.u8 px1)), .c (.v (.int IntKind.u8 py1)), .c (.v (.bool pr1)), .c (.v (.bool poa1)), .c (.v (.bool pob1)), AV.c (IV.sl pk1 4 pec1), AV.c (IV.sl (pm1 + 1) 4 pe1)]
 let x2 : List AV := [.c (.v (.int IntKind.u8 px2)), .c (.v (.int IntKind.u8 py2)), .c (.v (.bool pr2)), .c (.v (.bool poa2)), .c (.v (.bool pob2)), AV.c (IV.sl pk2 4 pec2), AV.c (IV.sl (pm2 + 1) 4 pe2)]
 let x3 : Int := IntKind.i64.wrap (tt.tmod 8)
 let x4 : Nat := p.n x1
 let x5 : IV := IV.sl x4 16 (p.el x1)
 let x6 : IV := IV.sl 1 1 (p.he x1)
 let x7 : Bool := p.cV x5 x6
 let x8 : Nat := p.n x2
 let x9 : IV := IV.sl x8 16 (p.el x2)
 let x10 : IV := IV.sl 1 1 (p.he x2)
 let x11 : Bool := p.cV x9 x10
 let x12 : Bool := ((x4 : Nat) : Int) == ((x8 : Nat) : Int)
 let x13 : Int := ((1 : Nat) : Int)
 let x14 : Bool := bif true then x13 == x13 else false
 let x15 : Bool := bif x12 then bif x14 then true else true else bif false then true else true
 let x16 : List AV := [.c (.v (.bool false))]
 let x17 : List AV := .c (.v (.bool (p.yb x3 0))) :: .c (.v (.string (p.ys x3 1))) :: .c (.v (.bool (p.yb x3 2))) :: .c (.v (.string (p.ys x3 3))) :: .c (.v (.bool (p.yb 2 0))) :: .c (.v (.string (p.ys 2 1))) :: .c (.v (.bool (p.yb 2 2))) :: .c (.v (.string (p.ys 2 3))) :: x16
 let x18 : Nat := p.vn x5 x6
 let x19 : Bool := linesOk x18 (p.vel x5 x6)
 let x20 : Nat := p.vn x9 x10
 let x21 : Bool := linesOk x20 (p.vel x9 x10)
 let x22 : List L4 := linesOf x18 (p.vel x5 x6)
 let x23 : List L4 := linesOf x20 (p.vel x9 x10)
 let x24 : Bool := bif true then ((x18 : Nat) : Int) == ((x20 : Nat) : Int) else false
 let x25 : Bool := bif x12 then bif x14 then x24 else false else bif false then x24 else false
 let x26 : Bool := !x25
 let x27 : Nat := x22.length
 let x28 : Nat := x23.length
 let x29 : Bool := x26 || decide (x27 = x28)
 let x30 : Int := (ratV [.c (.v (.bool (p.yb x3 0))), .c (.v (.string (p.ys x3 1))), .c (.v (.bool (p.yb x3 2))), .c (.v (.string (p.ys x3 3)))]).num
 let x31 : Int := (ratV [.c (.v (.bool (p.yb 2 0))), .c (.v (.string (p.ys 2 1))), .c (.v (.bool (p.yb 2 2))), .c (.v (.string (p.ys 2 3)))]).num
 let x32 : List AV := .c (.v (.bool (decide (x30 < 0)))) :: .c (.v (.string ⟨⟨magB x30.natAbs⟩⟩)) :: .c (.v (.bool false)) :: .c (.v (.string ⟨⟨denB (ratV [.c (.v (.bool (p.yb x3 0))), .c (.v (.string (p.ys x3 1))), .c (.v (.bool (p.yb x3 2))), .c (.v (.string (p.ys x3 3)))]).den⟩⟩)) :: .c (.v (.bool (decide (x31 < 0)))) :: .c (.v (.string ⟨⟨magB x31.natAbs⟩⟩)) :: .c (.v (.bool false)) :: .c (.v (.string ⟨⟨denB (ratV [.c (.v (.bool (p.yb 2 0))), .c (.v (.string (p.ys 2 1))), .c (.v (.bool (p.yb 2 2))), .c (.v (.string (p.ys 2 3)))]).den⟩⟩)) :: x16
 let x33 : Bool := linesOk x27 (lineEl x22)
 let x34 : Bool := linesOk x28 (lineEl x23)
 let x35 : List L4 := linesOf x27 (lineEl x22)
 let x36 : List L4 := linesOf x28 (lineEl x23)
 let x37 : List L4 := List.drop (Int.toNat 0) x22
 let x38 : List L4 := List.drop (Int.toNat 0) x23
 let x39 : Bool := x25 && eqAll (zeroL (realV x17)) x37 x38
 let x40 : Nat := x35.length
 let x41 : Nat := x36.length
 let x42 : Bool := x26 || decide (x40 = x41)
 let x43 : Int := (ratV [.c (.v (.bool (decide (x30 < 0)))), .c (.v (.string ⟨⟨magB x30.natAbs⟩⟩)), .c (.v (.bool false)), .c (.v (.string ⟨⟨denB (ratV [.c (.v (.bool (p.yb x3 0))), .c (.v (.string (p.ys x3 1))), .c (.v (.bool (p.yb x3 2))), .c (.v (.string (p.ys x3 3)))]).den⟩⟩))]).num
 let x44 : Int := (ratV [.c (.v (.bool (decide (x31 < 0)))), .c (.v (.string ⟨⟨magB x31.natAbs⟩⟩)), .c (.v (.bool false)), .c (.v (.string ⟨⟨denB (ratV [.c (.v (.bool (p.yb 2 0))), .c (.v (.string (p.ys 2 1))), .c (.v (.bool (p.yb 2 2))), .c (.v (.string (p.ys 2 3)))]).den⟩⟩))]).num
 let x45 : List AV := .c (.v (.bool (decide (x43 < 0)))) :: .c (.v (.string ⟨⟨magB x43.natAbs⟩⟩)) :: .c (.v (.bool false)) :: .c (.v (.string { data := { toList := denB (ratV [.c (.v (.bool (decide (x30 < 0)))), .c (.v (.string ⟨⟨magB x30.natAbs⟩⟩)), .c (.v (.bool false)), .c (.v (.string ⟨⟨denB (ratV [.c (.v (.bool (p.yb x3 0))), .c (.v (.string (p.ys x3 1))), .c (.v (.bool (p.yb x3 2))), .c (.v (.string (p.ys x3 3)))]).den⟩⟩))]).den } })) :: .c (.v (.bool (decide (x44 < 0)))) :: .c (.v (.string ⟨⟨magB x44.natAbs⟩⟩)) :: .c (.v (.bool false)) :: .c (.v (.string { data := { toList := denB (ratV [.c (.v (.bool (decide (x31 < 0)))), .c (.v (.string ⟨⟨magB x31.natAbs⟩⟩)), .c (.v (.bool false)), .c (.v (.string ⟨⟨denB (ratV [.c (.v (.bool (p.yb 2 0))), .c (.v (.string (p.ys 2 1))), .c (.v (.bool (p.yb 2 2))), .c (.v (.string (p.ys 2 3)))]).den⟩⟩))]).den } })) :: x16
 let x46 : Bool := linesOk x40 (lineEl x35)
 let x47 : Bool := linesOk x41 (lineEl x36)
 let x48 : List L4 := linesOf x40 (lineEl x35)
 let x49 : List L4 := linesOf x41 (lineEl x36)
 let x50 : List L4 := List.drop (Int.toNat 0) x35
 let x51 : List L4 := List.drop (Int.toNat 0) x36
 let x52 : Bool := x25 && eqAll eqL x50 x51
 let x53 : Int := ↑(stop eqL x50 x51 x25 (Int.toNat 0))
 let x54 : List AV := [.c (.v (.bool (p.zb x3 8)))]
 let x55 : List AV := .c (.v (.bool (p.zb x3 0))) :: .c (.v (.string (p.zs x3 1))) :: .c (.v (.bool (p.zb x3 2))) :: .c (.v (.string (p.zs x3 3))) :: .c (.v (.bool (p.zb x3 4))) :: .c (.v (.string (p.zs x3 5))) :: .c (.v (.bool (p.zb x3 6))) :: .c (.v (.string (p.zs x3 7))) :: x54
 let x56 : Int := (ratV [.c (.v (.bool (p.zb x3 0))), .c (.v (.string (p.zs x3 1))), .c (.v (.bool (p.zb x3 2))), .c (.v (.string (p.zs x3 3)))]).num
 let x57 : Int := (ratV [.c (.v (.bool (p.zb x3 4))), .c (.v (.string (p.zs x3 5))), .c (.v (.bool (p.zb x3 6))), .c (.v (.string (p.zs x3 7)))]).num
 let x58 : List AV := [.c (.v (.bool (boolV x54)))]
 let x59 : List AV := .c (.v (.bool (decide (x56 < 0)))) :: .c (.v (.string ⟨⟨magB x56.natAbs⟩⟩)) :: .c (.v (.bool false)) :: .c (.v (.string ⟨⟨denB (ratV [.c (.v (.bool (p.zb x3 0))), .c (.v (.string (p.zs x3 1))), .c (.v (.bool (p.zb x3 2))), .c (.v (.string (p.zs x3 3)))]).den⟩⟩)) :: .c (.v (.bool (decide (x57 < 0)))) :: .c (.v (.string ⟨⟨magB x57.natAbs⟩⟩)) :: .c (.v (.bool false)) :: .c (.v (.string ⟨⟨denB (ratV [.c (.v (.bool (p.zb x3 4))), .c (.v (.string (p.zs x3 5))), .c (.v (.bool (p.zb x3 6))), .c (.v (.string (p.zs x3 7)))]).den⟩⟩)) :: x58
 let x60 : Bool := x25 && eqAll (zeroL (realV x55)) x37 x38
 let x61 : Int := (ratV [.c (.v (.bool (decide (x56 < 0)))), .c (.v (.string ⟨⟨magB x56.natAbs⟩⟩)), .c (.v (.bool false)), .c (.v (.string ⟨⟨denB (ratV [.c (.v (.bool (p.zb x3 0))), .c (.v (.string (p.zs x3 1))), .c (.v (.bool (p.zb x3 2))), .c (.v (.string (p.zs x3 3)))]).den⟩⟩))]).num
 let x62 : Int := (ratV [.c (.v (.bool (decide (x57 < 0)))), .c (.v (.string ⟨⟨magB x57.natAbs⟩⟩)), .c (.v (.bool false)), .c (.v (.string ⟨⟨denB (ratV [.c (.v (.bool (p.zb x3 4))), .c (.v (.string (p.zs x3 5))), .c (.v (.bool (p.zb x3 6))), .c (.v (.string (p.zs x3 7)))]).den⟩⟩))]).num
 let x63 : List AV := [.c (.v (.bool (decide (x61 < 0)))), .c (.v (.string ⟨⟨magB x61.natAbs⟩⟩)), .c (.v (.bool false)), .c (.v (.string { data := { toList := denB (ratV [.c (.v (.bool (decide (x56 < 0)))), .c (.v (.string ⟨⟨magB x56.natAbs⟩⟩)), .c (.v (.bool false)), .c (.v (.string ⟨⟨denB (ratV [.c (.v (.bool (p.zb x3 0))), .c (.v (.string (p.zs x3 1))), .c (.v (.bool (p.zb x3 2))), .c (.v (.string (p.zs x3 3)))]).den⟩⟩))]).den } })), .c (.v (.bool (decide (x62 < 0)))), .c (.v (.string ⟨⟨magB x62.natAbs⟩⟩)), .c (.v (.bool false)), .c (.v (.string { data := { toList := denB (ratV [.c (.v (.bool (decide (x57 < 0)))), .c (.v (.string ⟨⟨magB x57.natAbs⟩⟩)), .c (.v (.bool false)), .c (.v (.string ⟨⟨denB (ratV [.c (.v (.bool (p.zb x3 4))), .c (.v (.string (p.zs x3 5))), .c (.v (.bool (p.zb x3 6))), .c (.v (.string (p.zs x3 7)))]).den⟩⟩))]).den } })), .c (.v (.bool (boolV x58)))]
 .ite false (.ret (.c (.v (.bool false)))) (.need (p.cu x1) (.need (p.cu x2) (.need true (.need (p.cz x3) (.ite (decide (tt ≥ 128)) (.need true (.need (p.cy x3) (.need (p.cy 2) (.need x7 (.need x11 (.need x15 (.need (realOk x17) (.need x19 (.need x21 (.need (pre3 { a := x5, b := x6, c := x9, d := x10, t := realV x17, A := x22, B := x23, s := x25, e := x25, i := 0 } && x29) (.need (realOk x32) (.need x33 (.need x34 (.need (pre3 { a := x5, b := x6, c := x9, d := x10, t := realV x32, A := x35, B := x36, s := x39, e := x25, i := 0 } && x42) (.need (realOk x45) (.need x46 (.need x47 (id (G { a := x5, b := x6, c := x9, d := x10, t := realV x45, A := x48, B := x49, s := x39, e := x52, i := x53 }))))))))))))))))))) (.need x7 (.need x11 (.need x15 (.need (realOk x55) (.need x19 (.need x21 (.need (pre3 { a := x5, b := x6, c := x9, d := x10, t := realV x55, A := x22, B := x23, s := x25, e := x25, i := 0 } && x29) (.need (realOk x59) (.need x33 (.need x34 (.need (pre3 { a := x5, b := x6, c := x9, d := x10, t := realV x59, A := x35, B := x36, s := x60, e := x25, i := 0 } && x42) (.need (realOk x63) (.need x46 (.need x47 (id (G { a := x5, b := x6, c := x9, d := x10, t := realV x63, A := x48, B := x49, s := x60, e := x52, i := x53 })))))))))))))))))))))
theorem M3ss_eq (p : P3) (G : W3 → Tr AV) (px1 py1 : Int) (pr1 poa1 pob1 : Bool) (pk1 pm1 : Nat) (pec1 pe1 : Nat → List IV) (px2 py2 : Int) (pr2 poa2 pob2 : Bool) (pk2 pm2 : Nat) (pec2 pe2 : Nat → List IV) (tt : Int) : execTo Tryz.prog (Γ3x p) L3 1010 Tryz.f3 (cutN nrm3 take3 G) 10 (codeOf Tryz.f3) (start [.agg [.c (.v (.int .u8 px1)), .c (.v (.int .u8 py1)), .c (.v (.bool pr1)), .c (.v (.bool poa1)), .c (.v (.bool pob1)), .c (.sl pk1 4 pec1), .c (.sl (pm1 + 1) 4 pe1)], .agg [.c (.v (.int .u8 px2)), .c (.v (.int .u8 py2)), .c (.v (.bool pr2)), .c (.v (.bool poa2)), .c (.v (.bool pob2)), .c (.sl pk2 4 pec2), .c (.sl (pm2 + 1) 4 pe2)], .c (.v (.int .u8 tt))] 182) = M3ss p G px1 py1 pr1 poa1 pob1 pk1 pm1 pec1 pe1 px2 py2 pr2 poa2 pob2 pk2 pm2 pec2 pe2 tt := by kernel_rfl
theorem M3ss_sat (p : P3) (G : W3 → Tr AV) (px1 py1 : Int) (pr1 poa1 pob1 : Bool) (pk1 pm1 : Nat) (pec1 pe1 : Nat → List IV) (px2 py2 : Int) (pr2 poa2 pob2 : Bool) (pk2 pm2 : Nat) (pec2 pe2 : Nat → List IV) (tt T : Int) (V W : List L4) (tp tr up ur : Rat) (s0 : Bool) (Q : AV → Prop)
   (L1 L2 : List AV) (A1 B1 A2 B2 : IV) (eL1 : L1 = [.c (.v (.int .u8 px1)), .c (.v (.int .u8 py1)), .c (.v (.bool pr1)), .c (.v (.bool poa1)), .c (.v (.bool pob1)), .c (.sl pk1 4 pec1), .c (.sl (pm1 + 1) 4 pe1)]) (eL2 : L2 = [.c (.v (.int .u8 px2)), .c (.v (.int .u8 py2)), .c (.v (.bool pr2)), .c (.v (.bool poa2)), .c (.v (.bool pob2)), .c (.sl pk2 4 pec2), .c (.sl (pm2 + 1) 4 pe2)]) (eA1 : A1 = IV.sl (p.n L1) 16 (p.el L1)) (eB1 : B1 = IV.sl 1 1 (p.he L1)) (eA2 : A2 = IV.sl (p.n L2) 16 (p.el L2)) (eB2 : B2 = IV.sl 1 1 (p.he L2))
   (hT : IntKind.i64.wrap (tt.tmod 8) = T)
   (hcu1 : p.cu L1 = true)
   (hcu2 : p.cu L2 = true)
   (hcz : p.cz T = true)
   (hcy : p.cy T = true)
   (hcy2 : p.cy 2 = true)
   (hcV1 : p.cV A1 B1 = true)
   (hcV2 : p.cV A2 B2 = true)
   (hok1 : linesOk (p.vn A1 B1) (p.vel A1 B1) = true)
   (hok2 : linesOk (p.vn A2 B2) (p.vel A2 B2) = true)
   (hV : linesOf (p.vn A1 B1) (p.vel A1 B1) = V)
   (hW : linesOf (p.vn A2 B2) (p.vel A2 B2) = W)
   (hV0 : V.length ≤ 2000)
   (hVl : V.all lbB = true)
   (hWl : W.all lbB = true)
   (hz0 : ratV [.c (.v (.bool (p.zb T 0))), .c (.v (.string (p.zs T 1))), .c (.v (.bool (p.zb T 2))), .c (.v (.string (p.zs T 3)))] = tp)
   (hzo0 : ratOk [.c (.v (.bool (p.zb T 0))), .c (.v (.string (p.zs T 1))), .c (.v (.bool (p.zb T 2))), .c (.v (.string (p.zs T 3)))] = true)
   (hz4 : ratV [.c (.v (.bool (p.zb T 4))), .c (.v (.string (p.zs T 5))), .c (.v (.bool (p.zb T 6))), .c (.v (.string (p.zs T 7)))] = tr)
   (hzo4 : ratOk [.c (.v (.bool (p.zb T 4))), .c (.v (.string (p.zs T 5))), .c (.v (.bool (p.zb T 6))), .c (.v (.string (p.zs T 7)))] = true)
   (hz8 : p.zb T 8 = false)
   (hy0 : ratV [.c (.v (.bool (p.yb T 0))), .c (.v (.string (p.ys T 1))), .c (.v (.bool (p.yb T 2))), .c (.v (.string (p.ys T 3)))] = up)
   (hyo0 : ratOk [.c (.v (.bool (p.yb T 0))), .c (.v (.string (p.ys T 1))), .c (.v (.bool (p.yb T 2))), .c (.v (.string (p.ys T 3)))] = true)
   (hy4 : ratV [.c (.v (.bool (p.yb 2 0))), .c (.v (.string (p.ys 2 1))), .c (.v (.bool (p.yb 2 2))), .c (.v (.string (p.ys 2 3)))] = ur)
   (hyo4 : ratOk [.c (.v (.bool (p.yb 2 0))), .c (.v (.string (p.ys 2 1))), .c (.v (.bool (p.yb 2 2))), .c (.v (.string (p.ys 2 3)))] = true)
   (hs0 : (bif (((p.n L1 : Nat) : Int) == ((p.n L2 : Nat) : Int)) then bif true then (((p.vn A1 B1 : Nat) : Int) == ((p.vn A2 B2 : Nat) : Int)) else false else false) = s0)
   (hl : s0 = true → V.length = W.length)
   (htba : tbB ⟨tp, tr, false⟩ = true)
   (hGa : ∀ i, (G ⟨A1, B1, A2, B2, ⟨tp, tr, false⟩, V, W, s0 && eqAll (zeroL ⟨tp, tr, false⟩) V W, s0 && eqAll eqL V W, i⟩).sat Q)
   (htbb : tbB ⟨up, ur, false⟩ = true)
   (hGb : ∀ i, (G ⟨A1, B1, A2, B2, ⟨up, ur, false⟩, V, W, s0 && eqAll (zeroL ⟨up, ur, false⟩) V W, s0 && eqAll eqL V W, i⟩).sat Q) : (M3ss p G px1 py1 pr1 poa1 pob1 pk1 pm1 pec1 pe1 px2 py2 pr2 poa2 pob2 pk2 pm2 pec2 pe2 tt).sat Q := by
 subst eL1 eL2
 subst eA1 eB1 eA2 eB2
 have folda : [.c (.v (.bool (decide (tp.num < 0)))), .c (.v (.string ⟨⟨magB tp.num.natAbs⟩⟩)), .c (.v (.bool false)), .c (.v (.string ⟨⟨denB tp.den⟩⟩)), .c (.v (.bool (decide (tr.num < 0)))), .c (.v (.string ⟨⟨magB tr.num.natAbs⟩⟩)), .c (.v (.bool false)), .c (.v (.string ⟨⟨denB tr.den⟩⟩)), AV.c (.v (.bool false))] = realCells ⟨tp, tr, false⟩ := rfl
 have foldb : [.c (.v (.bool (decide (up.num < 0)))), .c (.v (.string ⟨⟨magB up.num.natAbs⟩⟩)), .c (.v (.bool false)), .c (.v (.string ⟨⟨denB up.den⟩⟩)), .c (.v (.bool (decide (ur.num < 0)))), .c (.v (.string ⟨⟨magB ur.num.natAbs⟩⟩)), .c (.v (.bool false)), .c (.v (.string ⟨⟨denB ur.den⟩⟩)), AV.c (.v (.bool false))] = realCells ⟨up, ur, false⟩ := rfl
 have c1 : ∀ x : Bool, (bif x then true else true) = true := fun x => by cases x <;> rfl
 have c4 : ((0 : Int) == ((1 : Nat) : Int)) = false := rfl
 have c5 : (((1 : Nat) : Int) == (0 : Int)) = false := rfl
 have d0 : ∀ X : List L4, List.drop (Int.toNat 0) X = X := fun X => rfl
 have hll : (!s0 || decide (V.length = W.length)) = true := by
   cases h : s0 with
   | false => rfl
   | true => rw [decide_eq_true (hl h)]; rfl
 have e0 : decide ((0 : Int) ≤ 0) = true := rfl
 have e1 : decide ((0 : Int) ≤ (V.length : Int)) = true := decide_eq_true (by omega)
 have e2 : decide (V.length ≤ 2000) = true := decide_eq_true hV0
 have hs0' := hs0
 simp only [cond_true, cond_false] at hs0'
 simp only [M3ss, pre3, c1, c4, c5, d0, e0, e1, e2, hs0', hll, hT, hcu1, hcu2, hcz, hcy, hcy2, hcV1, hcV2, hok1, hok2, hV, hW, hVl, hWl, hz0, hzo0, hz4, hzo4, hz8, hy0, hyo0, hy4, hyo4, htba, htbb, ratV_lit, ratOk_lit, realV_lit, realOk_lit, boolV_lit, List.take_succ_cons, List.take_zero, List.drop_succ_cons, List.drop_zero, Bool.and_self, Bool.and_true, Bool.true_and, r3_eta, linesOf_el, linesOk_lines, sat_true, sat_iteT, sat_iteF, dT, cond_true, cond_false, beq_self_eq_true, folda, foldb, id]
 refine sat_ite (fun _ => ?_) (fun _ => ?_)
 · simp only [sat_true, realOk_cells, realV_cells, htbb, Bool.and_self, Bool.and_true, Bool.true_and]
   exact hGb _
 · simp only [sat_true, realOk_cells, realV_cells, htba, Bool.and_self, Bool.and_true, Bool.true_and]
   exact hGa _
end Go.Vse
