/- Helpers for the proof: no statement of its own. -/
import Derived.Test.YtaidphfhmbpelaaGreatDoorLawA
set_option linter.unusedVariables false
set_option linter.unusedSimpArgs false
set_option linter.unnecessarySimpa false
set_option linter.deprecated false
set_option maxRecDepth 100000
set_option maxHeartbeats 4000000
namespace Go.Vse
open Go.Proofs
def M21nn (p : P3) (a : IV) (c : IV) (h1 : Nat → List IV) (h2 : Nat → List IV) (t : R3) (A : List L4) (B : List L4) (s : Bool) (e : Bool) (i : Int) : Tr AV :=
 let x1 : IV := IV.v (Value.slice none 0 0)
 let x2 : List AV := [.c (.v (.bool (decide (t.p.num < 0)))), .c (.v (.string ⟨⟨magB t.p.num.natAbs⟩⟩)), .c (.v (.bool false)), .c (.v (.string ⟨⟨denB t.p.den⟩⟩)), .c (.v (.bool (decide (t.r.num < 0)))), .c (.v (.string ⟨⟨magB t.r.num.natAbs⟩⟩)), .c (.v (.bool false)), .c (.v (.string ⟨⟨denB t.r.den⟩⟩)), .c (.v (.bool t.neg))]
 let x3 : Bool := p.sm a x1 c x1 x2 == s
 let x4 : Bool := bif true then p.eq a x1 c x1 == e else false
 let x5 : Bool := p.cRd a x1 x2
 let x6 : IV := IV.sl (p.rn a x1 x2) 16 (p.rel a x1 x2)
 let x7 : IV := IV.sl (p.rn c x1 x2) 16 (p.rel c x1 x2)
 let x8 : Bool := bif true then p.eq x6 x1 x7 x1 == s else false
 let x9 : Bool := bif true then p.sm x6 x1 a x1 x2 else false
 let x10 : Bool := bif true then p.ck a x1 == 0 else false
 let x11 : Nat := 15 + 1
 let x12 : IV := IV.sl (Int.toNat 13) x11 fun x => List.map IV.v [Value.bool false, Value.string { data := #[] }, Value.bool false, Value.string { data := #[] }, Value.bool false, Value.string { data := #[] }, Value.bool false, Value.string { data := #[] }, Value.bool false, Value.string { data := #[] }, Value.bool false, Value.string { data := #[] }, Value.bool false, Value.string { data := #[] }, Value.bool false, Value.string { data := #[] }]
 let x13 : Bool := bif true then p.ck x12 x1 == 3 else false
 let x14 : IV := IV.v (Value.string { data := #[] })
 let x15 : IV := IV.sl 1 x11 fun k => List.take x11 (List.drop (k * x11) [x14, IV.v (Value.bool false), x14, IV.v (Value.bool false), x14, IV.v (Value.bool false), x14, IV.v (Value.bool false), x14, IV.v (Value.bool false), x14, IV.v (Value.bool false), IV.v (Value.string { data := #[1] }), IV.v (Value.bool false), x14, IV.v (Value.bool false)].reverse)
 let x16 : Bool := decide ((1 : Int) ≤ 1) && (p.cCk x15 x1 && true)
 let x17 : Bool := decide (Int.toNat 13 ≤ Int.toNat 13) && (p.cCk x12 x1 && bif x13 then x16 else true)
 let x18 : Bool := bif false then x16 else true
 let x19 : Bool := p.cCk a x1 && bif x10 then x17 else x18
 let x20 : Bool := bif false then x17 else x18
 let x21 : Bool := x5 && (p.cSm x6 x1 a x1 x2 && bif x9 then x19 else x20)
 let x22 : Bool := bif false then x19 else x20
 let x23 : Bool := x5 && (p.cRd c x1 x2 && (p.cEq x6 x1 x7 x1 && bif x8 then x21 else x22))
 let x24 : Bool := bif false then x21 else x22
 let x25 : Bool := bif true then p.ck x15 x1 == 5 else false
 let x26 : Bool := bif x13 then x25 else false
 let x27 : Bool := bif false then x25 else false
 let x28 : Bool := bif x10 then x26 else x27
 let x29 : Bool := bif false then x26 else x27
 let x30 : Bool := bif x9 then x28 else x29
 let x31 : Bool := bif false then x28 else x29
 let x32 : Bool := bif x8 then x30 else x31
 let x33 : Bool := bif false then x30 else x31
 .need true (.need true (.need true (.need true (.need (p.cSm a x1 c x1 x2) (.need (bif x3 then p.cEq a x1 c x1 && bif x4 then x23 else x24 else bif false then x23 else x24) (.ret (.c (.v (.bool (bif x3 then bif x4 then x32 else x33 else bif false then x32 else x33))))))))))
theorem M21nn_eq (p : P3) (a c : IV) (h1 h2 : Nat → List IV) (t : R3) (A B : List L4) (s e : Bool) (i : Int) : restRun Tryz.prog (Γ3x p) L3 1010 Tryz.f3 (restOf 10 (codeOf Tryz.f3)) (mkSt nrm3 (head3 ⟨a, (IV.v (Value.slice none 0 0)), c, (IV.v (Value.slice none 0 0)), t, A, B, s, e, i⟩)) = M21nn p a c h1 h2 t A B s e i := by kernel_rfl
theorem M21nn_sat (p : P3) (a c : IV) (h1 h2 : Nat → List IV) (t : R3) (A B : List L4) (s e : Bool) (i : Int)
   (WI RI : IV) (eW : WI = (IV.sl (Int.toNat 13) (15 + 1) fun x => List.map IV.v [Value.bool false, Value.string { data := #[] }, Value.bool false, Value.string { data := #[] }, Value.bool false, Value.string { data := #[] }, Value.bool false, Value.string { data := #[] }, Value.bool false, Value.string { data := #[] }, Value.bool false, Value.string { data := #[] }, Value.bool false, Value.string { data := #[] }, Value.bool false, Value.string { data := #[] }])) (eR : RI = (IV.sl 1 (15 + 1) fun k => List.take (15 + 1) (List.drop (k * (15 + 1)) [IV.v (Value.string { data := #[] }), IV.v (Value.bool false), IV.v (Value.string { data := #[] }), IV.v (Value.bool false), IV.v (Value.string { data := #[] }), IV.v (Value.bool false), IV.v (Value.string { data := #[] }), IV.v (Value.bool false), IV.v (Value.string { data := #[] }), IV.v (Value.bool false), IV.v (Value.string { data := #[] }), IV.v (Value.bool false), IV.v (Value.string { data := #[1] }), IV.v (Value.bool false), IV.v (Value.string { data := #[] }), IV.v (Value.bool false)].reverse)))
   (hcs : p.cSm a (IV.v (Value.slice none 0 0)) c (IV.v (Value.slice none 0 0)) (realCells t) = true)
   (hsm : p.sm a (IV.v (Value.slice none 0 0)) c (IV.v (Value.slice none 0 0)) (realCells t) = s)
   (hcE : p.cEq a (IV.v (Value.slice none 0 0)) c (IV.v (Value.slice none 0 0)) = true)
   (heq : p.eq a (IV.v (Value.slice none 0 0)) c (IV.v (Value.slice none 0 0)) = e)
   (hr1 : p.cRd a (IV.v (Value.slice none 0 0)) (realCells t) = true)
   (hr2 : p.cRd c (IV.v (Value.slice none 0 0)) (realCells t) = true)
   (hce : p.cEq (IV.sl (p.rn a (IV.v (Value.slice none 0 0)) (realCells t)) 16 (p.rel a (IV.v (Value.slice none 0 0)) (realCells t))) (IV.v (Value.slice none 0 0)) (IV.sl (p.rn c (IV.v (Value.slice none 0 0)) (realCells t)) 16 (p.rel c (IV.v (Value.slice none 0 0)) (realCells t))) (IV.v (Value.slice none 0 0)) = true)
   (her : p.eq (IV.sl (p.rn a (IV.v (Value.slice none 0 0)) (realCells t)) 16 (p.rel a (IV.v (Value.slice none 0 0)) (realCells t))) (IV.v (Value.slice none 0 0)) (IV.sl (p.rn c (IV.v (Value.slice none 0 0)) (realCells t)) 16 (p.rel c (IV.v (Value.slice none 0 0)) (realCells t))) (IV.v (Value.slice none 0 0)) = s)
   (hcc : p.cSm (IV.sl (p.rn a (IV.v (Value.slice none 0 0)) (realCells t)) 16 (p.rel a (IV.v (Value.slice none 0 0)) (realCells t))) (IV.v (Value.slice none 0 0)) a (IV.v (Value.slice none 0 0)) (realCells t) = true)
   (hss : p.sm (IV.sl (p.rn a (IV.v (Value.slice none 0 0)) (realCells t)) 16 (p.rel a (IV.v (Value.slice none 0 0)) (realCells t))) (IV.v (Value.slice none 0 0)) a (IV.v (Value.slice none 0 0)) (realCells t) = true)
   (hcck : p.cCk a (IV.v (Value.slice none 0 0)) = true)
   (hck : p.ck a (IV.v (Value.slice none 0 0)) = 0)
   (hcckw : p.cCk WI (IV.v (Value.slice none 0 0)) = true)
   (hckw : p.ck WI (IV.v (Value.slice none 0 0)) = 3)
   (hcckr : p.cCk RI (IV.v (Value.slice none 0 0)) = true)
   (hckr : p.ck RI (IV.v (Value.slice none 0 0)) = 5) : (M21nn p a c h1 h2 t A B s e i).sat fun r => r = boolA true := by
 subst eW eR
 have fold : [AV.c (.v (.bool (decide (t.p.num < 0)))), .c (.v (.string ⟨⟨magB t.p.num.natAbs⟩⟩)), .c (.v (.bool false)), .c (.v (.string ⟨⟨denB t.p.den⟩⟩)), .c (.v (.bool (decide (t.r.num < 0)))), .c (.v (.string ⟨⟨magB t.r.num.natAbs⟩⟩)), .c (.v (.bool false)), .c (.v (.string ⟨⟨denB t.r.den⟩⟩)), AV.c (.v (.bool t.neg))] = realCells t := rfl
 have c2 : decide ((1 : Int) ≤ 1) = true := rfl
 have c3 : decide (Int.toNat 13 ≤ Int.toNat 13) = true := rfl
 have c6 : ((0 : Int) == 0) = true := rfl
 have c7 : ((3 : Int) == 3) = true := rfl
 have c8 : ((5 : Int) == 5) = true := rfl
 simp only [M21nn, fold, hcs, hsm, hcE, heq, hr1, hr2, hce, her, hcc, hss, hcck, hck, hcckw, hckw, hcckr, hckr, c2, c3, c6, c7, c8, cond_true, cond_false, beq_self_eq_true, Bool.and_self, Bool.and_true, Bool.true_and, sat_true]
 exact sat_ret rfl
end Go.Vse
