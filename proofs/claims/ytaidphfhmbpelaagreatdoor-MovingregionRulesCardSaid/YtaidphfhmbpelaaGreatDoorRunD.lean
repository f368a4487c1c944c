/- Helpers for the proof: no statement of its own. -/
import Derived.Test.YtaidphfhmbpelaaGreatDoorLawA
set_option linter.unusedVariables false
set_option linter.unusedSimpArgs false
set_option linter.unnecessarySimpa false
set_option linter.deprecated false
set_option maxRecDepth 100000
set_option maxHeartbeats 4000000
namespace Go.Vse
open Go.Proofs
def M21ns (p : P3) (a : IV) (c : IV) (h1 : Nat → List IV) (h2 : Nat → List IV) (t : R3) (A : List L4) (B : List L4) (s : Bool) (e : Bool) (i : Int) : Tr AV :=
 let x1 : IV := IV.v (Value.slice none 0 0)
 let x2 : IV := IV.sl 1 1 h2
 let x3 : List AV := [.c (.v (.bool (decide (t.p.num < 0)))), .c (.v (.string ⟨⟨magB t.p.num.natAbs⟩⟩)), .c (.v (.bool false)), .c (.v (.string ⟨⟨denB t.p.den⟩⟩)), .c (.v (.bool (decide (t.r.num < 0)))), .c (.v (.string ⟨⟨magB t.r.num.natAbs⟩⟩)), .c (.v (.bool false)), .c (.v (.string ⟨⟨denB t.r.den⟩⟩)), .c (.v (.bool t.neg))]
 let x4 : Bool := p.sm a x1 c x2 x3 == s
 let x5 : Bool := bif true then p.eq a x1 c x2 == e else false
 let x6 : Bool := p.cRd a x1 x3
 let x7 : IV := IV.sl (p.rn a x1 x3) 16 (p.rel a x1 x3)
 let x8 : IV := IV.sl (p.rn c x2 x3) 16 (p.rel c x2 x3)
 let x9 : IV := IV.sl 1 1 (p.rhe c x2 x3)
 let x10 : Bool := bif true then p.eq x7 x1 x8 x9 == s else false
 let x11 : Bool := bif true then p.sm x7 x1 a x1 x3 else false
 let x12 : Bool := bif true then p.ck a x1 == 0 else false
 let x13 : Nat := 15 + 1
 let x14 : IV := IV.sl (Int.toNat 13) x13 fun x => List.map IV.v [Value.bool false, Value.string { data := #[] }, Value.bool false, Value.string { data := #[] }, Value.bool false, Value.string { data := #[] }, Value.bool false, Value.string { data := #[] }, Value.bool false, Value.string { data := #[] }, Value.bool false, Value.string { data := #[] }, Value.bool false, Value.string { data := #[] }, Value.bool false, Value.string { data := #[] }]
 let x15 : Bool := bif true then p.ck x14 x1 == 3 else false
 let x16 : IV := IV.v (Value.string { data := #[] })
 let x17 : IV := IV.sl 1 x13 fun k => List.take x13 (List.drop (k * x13) [x16, IV.v (Value.bool false), x16, IV.v (Value.bool false), x16, IV.v (Value.bool false), x16, IV.v (Value.bool false), x16, IV.v (Value.bool false), x16, IV.v (Value.bool false), IV.v (Value.string { data := #[1] }), IV.v (Value.bool false), x16, IV.v (Value.bool false)].reverse)
 let x18 : Bool := decide ((1 : Int) ≤ 1) && (p.cCk x17 x1 && true)
 let x19 : Bool := decide (Int.toNat 13 ≤ Int.toNat 13) && (p.cCk x14 x1 && bif x15 then x18 else true)
 let x20 : Bool := bif false then x18 else true
 let x21 : Bool := p.cCk a x1 && bif x12 then x19 else x20
 let x22 : Bool := bif false then x19 else x20
 let x23 : Bool := x6 && (p.cSm x7 x1 a x1 x3 && bif x11 then x21 else x22)
 let x24 : Bool := bif false then x21 else x22
 let x25 : Bool := x6 && (p.cRd c x2 x3 && (p.cEq x7 x1 x8 x9 && bif x10 then x23 else x24))
 let x26 : Bool := bif false then x23 else x24
 let x27 : Bool := bif true then p.ck x17 x1 == 5 else false
 let x28 : Bool := bif x15 then x27 else false
 let x29 : Bool := bif false then x27 else false
 let x30 : Bool := bif x12 then x28 else x29
 let x31 : Bool := bif false then x28 else x29
 let x32 : Bool := bif x11 then x30 else x31
 let x33 : Bool := bif false then x30 else x31
 let x34 : Bool := bif x10 then x32 else x33
 let x35 : Bool := bif false then x32 else x33
 .need true (.need true (.need true (.need true (.need (p.cSm a x1 c x2 x3) (.need (bif x4 then p.cEq a x1 c x2 && bif x5 then x25 else x26 else bif false then x25 else x26) (.ret (.c (.v (.bool (bif x4 then bif x5 then x34 else x35 else bif false then x34 else x35))))))))))
theorem M21ns_eq (p : P3) (a c : IV) (h1 h2 : Nat → List IV) (t : R3) (A B : List L4) (s e : Bool) (i : Int) : restRun Tryz.prog (Γ3x p) L3 1010 Tryz.f3 (restOf 10 (codeOf Tryz.f3)) (mkSt nrm3 (head3 ⟨a, (IV.v (Value.slice none 0 0)), c, (IV.sl 1 1 h2), t, A, B, s, e, i⟩)) = M21ns p a c h1 h2 t A B s e i := by kernel_rfl
theorem M21ns_sat (p : P3) (a c : IV) (h1 h2 : Nat → List IV) (t : R3) (A B : List L4) (s e : Bool) (i : Int)
   (WI RI : IV) (eW : WI = (IV.sl (Int.toNat 13) (15 + 1) fun x => List.map IV.v [Value.bool false, Value.string { data := #[] }, Value.bool false, Value.string { data := #[] }, Value.bool false, Value.string { data := #[] }, Value.bool false, Value.string { data := #[] }, Value.bool false, Value.string { data := #[] }, Value.bool false, Value.string { data := #[] }, Value.bool false, Value.string { data := #[] }, Value.bool false, Value.string { data := #[] }])) (eR : RI = (IV.sl 1 (15 + 1) fun k => List.take (15 + 1) (List.drop (k * (15 + 1)) [IV.v (Value.string { data := #[] }), IV.v (Value.bool false), IV.v (Value.string { data := #[] }), IV.v (Value.bool false), IV.v (Value.string { data := #[] }), IV.v (Value.bool false), IV.v (Value.string { data := #[] }), IV.v (Value.bool false), IV.v (Value.string { data := #[] }), IV.v (Value.bool false), IV.v (Value.string { data := #[] }), IV.v (Value.bool false), IV.v (Value.string { data := #[1] }), IV.v (Value.bool false), IV.v (Value.string { data := #[] }), IV.v (Value.bool false)].reverse)))
   (hcs : p.cSm a (IV.v (Value.slice none 0 0)) c (IV.sl 1 1 h2) (realCells t) = true)
   (hsm : p.sm a (IV.v (Value.slice none 0 0)) c (IV.sl 1 1 h2) (realCells t) = s)
   (hcE : p.cEq a (IV.v (Value.slice none 0 0)) c (IV.sl 1 1 h2) = true)
   (heq : p.eq a (IV.v (Value.slice none 0 0)) c (IV.sl 1 1 h2) = e)
   (hr1 : p.cRd a (IV.v (Value.slice none 0 0)) (realCells t) = true)
   (hr2 : p.cRd c (IV.sl 1 1 h2) (realCells t) = true)
   (hce : p.cEq (IV.sl (p.rn a (IV.v (Value.slice none 0 0)) (realCells t)) 16 (p.rel a (IV.v (Value.slice none 0 0)) (realCells t))) (IV.v (Value.slice none 0 0)) (IV.sl (p.rn c (IV.sl 1 1 h2) (realCells t)) 16 (p.rel c (IV.sl 1 1 h2) (realCells t))) (IV.sl 1 1 (p.rhe c (IV.sl 1 1 h2) (realCells t))) = true)
   (her : p.eq (IV.sl (p.rn a (IV.v (Value.slice none 0 0)) (realCells t)) 16 (p.rel a (IV.v (Value.slice none 0 0)) (realCells t))) (IV.v (Value.slice none 0 0)) (IV.sl (p.rn c (IV.sl 1 1 h2) (realCells t)) 16 (p.rel c (IV.sl 1 1 h2) (realCells t))) (IV.sl 1 1 (p.rhe c (IV.sl 1 1 h2) (realCells t))) = s)
   (hcc : p.cSm (IV.sl (p.rn a (IV.v (Value.slice none 0 0)) (realCells t)) 16 (p.rel a (IV.v (Value.slice none 0 0)) (realCells t))) (IV.v (Value.slice none 0 0)) a (IV.v (Value.slice none 0 0)) (realCells t) = true)
   (hss : p.sm (IV.sl (p.rn a (IV.v (Value.slice none 0 0)) (realCells t)) 16 (p.rel a (IV.v (Value.slice none 0 0)) (realCells t))) (IV.v (Value.slice none 0 0)) a (IV.v (Value.slice none 0 0)) (realCells t) = true)
   (hcck : p.cCk a (IV.v (Value.slice none 0 0)) = true)
   (hck : p.ck a (IV.v (Value.slice none 0 0)) = 0)
   (hcckw : p.cCk WI (IV.v (Value.slice none 0 0)) = true)
   (hckw : p.ck WI (IV.v (Value.slice none 0 0)) = 3)
   (hcckr : p.cCk RI (IV.v (Value.slice none 0 0)) = true)
   (hckr : p.ck RI (IV.v (Value.slice none 0 0)) = 5) : (M21ns p a c h1 h2 t A B s e i).sat fun r => r = boolA true := by
 subst eW eR
 have fold : [AV.c (.v (.bool (decide (t.p.num < 0)))), .c (.v (.string ⟨⟨magB t.p.num.natAbs⟩⟩)), .c (.v (.bool false)), .c (.v (.string ⟨⟨denB t.p.den⟩⟩)), .c (.v (.bool (decide (t.r.num < 0)))), .c (.v (.string ⟨⟨magB t.r.num.natAbs⟩⟩)), .c (.v (.bool false)), .c (.v (.string ⟨⟨denB t.r.den⟩⟩)), AV.c (.v (.bool t.neg))] = realCells t := rfl
 have c2 : decide ((1 : Int) ≤ 1) = true := rfl
 have c3 : decide (Int.toNat 13 ≤ Int.toNat 13) = true := rfl
 have c6 : ((0 : Int) == 0) = true := rfl
 have c7 : ((3 : Int) == 3) = true := rfl
 have c8 : ((5 : Int) == 5) = true := rfl
 simp only [M21ns, fold, hcs, hsm, hcE, heq, hr1, hr2, hce, her, hcc, hss, hcck, hck, hcckw, hckw, hcckr, hckr, c2, c3, c6, c7, c8, cond_true, cond_false, beq_self_eq_true, Bool.and_self, Bool.and_true, Bool.true_and, sat_true]
 exact sat_ret rfl
end Go.Vse
