/- Helpers for the proof: no statement of its own. -/
import Derived.Test.YtpnbbgegfjefkaaGreatDoorRatA
import Derived.Test.YtpnbbgegfjefkaaGreatDoorVseD
set_option linter.unusedVariables false
set_option linter.unusedSimpArgs false
set_option linter.unnecessarySimpa false
set_option linter.deprecated false
set_option maxRecDepth 100000
namespace Go.Vse
open Go.Proofs
structure Q3 where
 c0 : Rat
 c1 : Rat
 c2 : Rat
structure R3 where
 p : Rat
 r : Rat
 neg : Bool
structure L4 where
 x0 : Rat
 x1 : Rat
 y0 : Rat
 y1 : Rat
def quadCells (q : Q3) : List AV := ratCells q.c0 ++ (ratCells q.c1 ++ ratCells q.c2)
def realCells (x : R3) : List AV := ratCells x.p ++ (ratCells x.r ++ [.c (.v (.bool x.neg))])
def lineCells (x : L4) : List AV := ratCells x.x0 ++ (ratCells x.x1 ++ (ratCells x.y0 ++ ratCells x.y1))
def quadA (q : Q3) : AV := .agg (quadCells q)
def realA (x : R3) : AV := .agg (realCells x)
def lineA (x : L4) : AV := .agg (lineCells x)
def boolV : List AV → Bool
 | [.c (.v (.bool b))] => b
 | _ => false
def boolOk : List AV → Bool
 | [.c (.v (.bool b))] => true
 | _ => false
def quadV (l : List AV) : Q3 := ⟨ratV (l.take 4), ratV ((l.drop 4).take 4), ratV (l.drop 8)⟩
def quadOk (l : List AV) : Bool := ratOk (l.take 4) && ratOk ((l.drop 4).take 4) && ratOk (l.drop 8)
def realV (l : List AV) : R3 := ⟨ratV (l.take 4), ratV ((l.drop 4).take 4), boolV (l.drop 8)⟩
def realOk (l : List AV) : Bool := ratOk (l.take 4) && ratOk ((l.drop 4).take 4) && boolOk (l.drop 8)
def lineV (l : List AV) : L4 := ⟨ratV (l.take 4), ratV ((l.drop 4).take 4), ratV ((l.drop 8).take 4), ratV (l.drop 12)⟩
def lineOk (l : List AV) : Bool := ratOk (l.take 4) && ratOk ((l.drop 4).take 4) && ratOk ((l.drop 8).take 4) && ratOk (l.drop 12)
theorem quadOk_eq {l : List AV} (h : quadOk l = true) : l = quadCells (quadV l) := by
 simp only [quadOk, Bool.and_eq_true] at h
 obtain ⟨⟨h1, h2⟩, h3⟩ := h
 have e1 := ratOk_eq h1
 have e2 := ratOk_eq h2
 have e3 := ratOk_eq h3
 show l = ratCells (ratV (l.take 4)) ++ (ratCells (ratV ((l.drop 4).take 4)) ++ ratCells (ratV (l.drop 8)))
 rw [← e1, ← e2, ← e3]
 have := List.take_append_drop 4 (l.drop 4)
 rw [List.drop_drop] at this
 rw [this, List.take_append_drop]
theorem realOk_eq {l : List AV} (h : realOk l = true) : l = realCells (realV l) := by
 simp only [realOk, Bool.and_eq_true] at h
 obtain ⟨⟨h1, h2⟩, h3⟩ := h
 have e1 := ratOk_eq h1
 have e2 := ratOk_eq h2
 have e3 : l.drop 8 = [.c (.v (.bool (boolV (l.drop 8))))] := by
  unfold boolOk at h3
  split at h3
  ·rename_i b hb; rw [hb]; rfl
  ·cases h3
 show l = ratCells (ratV (l.take 4)) ++ (ratCells (ratV ((l.drop 4).take 4)) ++ [.c (.v (.bool (boolV (l.drop 8))))])
 rw [← e1, ← e2, ← e3]
 have := List.take_append_drop 4 (l.drop 4)
 rw [List.drop_drop] at this
 rw [this, List.take_append_drop]
theorem lineOk_eq {l : List AV} (h : lineOk l = true) : l = lineCells (lineV l) := by
 simp only [lineOk, Bool.and_eq_true] at h
 obtain ⟨⟨⟨h1, h2⟩, h3⟩, h4⟩ := h
 have e1 := ratOk_eq h1
 have e2 := ratOk_eq h2
 have e3 := ratOk_eq h3
 have e4 := ratOk_eq h4
 show l = ratCells (ratV (l.take 4)) ++ (ratCells (ratV ((l.drop 4).take 4)) ++ (ratCells (ratV ((l.drop 8).take 4)) ++ ratCells (ratV (l.drop 12))))
 rw [← e1, ← e2, ← e3, ← e4]
 have h8 := List.take_append_drop 4 (l.drop 8)
 rw [List.drop_drop] at h8
 have := List.take_append_drop 4 (l.drop 4)
 rw [List.drop_drop] at this
 rw [h8, this, List.take_append_drop]
theorem quadV_cells (q : Q3) : quadV (quadCells q) = q := by
 show Q3.mk (ratV (ratCells q.c0)) (ratV (ratCells q.c1)) (ratV (ratCells q.c2)) = q
 rw [ratV_cells, ratV_cells, ratV_cells]
theorem realV_cells (x : R3) : realV (realCells x) = x := by
 show R3.mk (ratV (ratCells x.p)) (ratV (ratCells x.r)) x.neg = x
 rw [ratV_cells, ratV_cells]
theorem lineV_cells (x : L4) : lineV (lineCells x) = x := by
 show L4.mk (ratV (ratCells x.x0)) (ratV (ratCells x.x1)) (ratV (ratCells x.y0)) (ratV (ratCells x.y1)) = x
 rw [ratV_cells, ratV_cells, ratV_cells, ratV_cells]
section
variable (a1 a2 a3 a4 b1 b2 b3 b4 c1 c2 c3 c4 d1 d2 d3 d4 : AV)
theorem quadV_lit : quadV [a1, a2, a3, a4, b1, b2, b3, b4, c1, c2, c3, c4] = ⟨ratV [a1, a2, a3, a4], ratV [b1, b2, b3, b4], ratV [c1, c2, c3, c4]⟩ := rfl
theorem quadOk_lit : quadOk [a1, a2, a3, a4, b1, b2, b3, b4, c1, c2, c3, c4] = (ratOk [a1, a2, a3, a4] && ratOk [b1, b2, b3, b4] && ratOk [c1, c2, c3, c4]) := rfl
theorem realV_lit (b : Bool) : realV [a1, a2, a3, a4, b1, b2, b3, b4, .c (.v (.bool b))] = ⟨ratV [a1, a2, a3, a4], ratV [b1, b2, b3, b4], b⟩ := rfl
theorem realOk_lit (b : Bool) : realOk [a1, a2, a3, a4, b1, b2, b3, b4, .c (.v (.bool b))] = (ratOk [a1, a2, a3, a4] && ratOk [b1, b2, b3, b4] && true) := rfl
theorem lineV_lit : lineV [a1, a2, a3, a4, b1, b2, b3, b4, c1, c2, c3, c4, d1, d2, d3, d4] = ⟨ratV [a1, a2, a3, a4], ratV [b1, b2, b3, b4], ratV [c1, c2, c3, c4], ratV [d1, d2, d3, d4]⟩ := rfl
theorem lineOk_lit : lineOk [a1, a2, a3, a4, b1, b2, b3, b4, c1, c2, c3, c4, d1, d2, d3, d4] = (ratOk [a1, a2, a3, a4] && ratOk [b1, b2, b3, b4] && ratOk [c1, c2, c3, c4] && ratOk [d1, d2, d3, d4]) := rfl
end
def subQ (p q : Q3) : Q3 := ⟨p.c0 - q.c0, p.c1 - q.c1, p.c2 - q.c2⟩
def evalQ (q : Q3) (t : Rat) : Rat := q.c0 + t * (q.c1 + t * q.c2)
def slopeQ (q : Q3) (t : Rat) : Rat := q.c1 + (q.c2 + q.c2) * t
def fitSub (x y : Rat) : Bool := fitA x (-y)
def fitSubQ (p q : Q3) : Bool := fitSub p.c0 q.c0 && fitSub p.c1 q.c1 && fitSub p.c2 q.c2
def fitEval (q : Q3) (t : Rat) : Bool := fitM t q.c2 && fitA q.c1 (t * q.c2) && fitM t (q.c1 + t * q.c2) && fitA q.c0 (t * (q.c1 + t * q.c2))
def fitSlope (q : Q3) (t : Rat) : Bool := fitA q.c2 q.c2 && fitM (q.c2 + q.c2) t && fitA q.c1 ((q.c2 + q.c2) * t)
def mkP (p q r : Rat) : Rat := bif decide (r = 0) then p + q * 0 else p
def mkR (p q r : Rat) : Rat := bif decide (r = 0) then 0 else q * q * r
def mkN (p q r : Rat) : Bool := bif decide (r = 0) then false else decide (q.num < 0)
def fitMake (p q r : Rat) : Bool := (decide (r = 0) || decide (r = 2)) && fitM q 0 && fitA p (q * 0) && fitM q q && fitM (q * q) r
def signV (a b r : Rat) : Int :=
 let m := sgn a.num 0
 let n := sgn b.num 0 * sgn r.num 0
 if n = 0 ∨ m = n then m else if m = 0 then n else m * sgn ((a * a).num * (b * b * r).den) ((b * b * r).num * (a * a).den)
def fitSign (a b r : Rat) : Bool := fitM a a && fitM b b && fitM (b * b) r && fit4 (a * a) (b * b * r)
theorem sgn_abs (a b : Int) : sgn a b = -1 ∨ sgn a b = 0 ∨ sgn a b = 1 := by
 unfold sgn
 by_cases h : a < b
 ·rw [if_pos h]; exact .inl rfl
 ·rw [if_neg h]
  by_cases k : a > b
  ·rw [if_pos k]; exact .inr (.inr rfl)
  ·rw [if_neg k]; exact .inr (.inl rfl)
end Go.Vse
set_option maxRecDepth 100000
namespace Go.Vse
open Go.Proofs
def litZ : List AV := [.c (.v (.bool false)), .c (.v (.string ⟨⟨[]⟩⟩)), .c (.v (.bool false)), .c (.v (.string ⟨⟨[]⟩⟩))]
end Go.Vse
set_option maxRecDepth 100000
namespace Go.Vse
open Go.Proofs
def K278 : List AV → Option (AV × List Bool)
 | [.agg l1, .agg l2] => some (quadA ⟨hold ((quadV l1).c0 - (quadV l2).c0), hold ((quadV l1).c1 - (quadV l2).c1), hold ((quadV l1).c2 - (quadV l2).c2)⟩, [quadOk l1, quadOk l2, fitSubQ (quadV l1) (quadV l2)])
 | _ => none
def K321 : List AV → Option (AV × List Bool)
 | [.agg l1, .agg l2] => some (ratA (hold (evalQ (quadV l1) (ratV l2))), [quadOk l1, ratOk l2, fitEval (quadV l1) (ratV l2)])
 | _ => none
def K322 : List AV → Option (AV × List Bool)
 | [.agg l1, .agg l2] => some (ratA (hold (slopeQ (quadV l1) (ratV l2))), [quadOk l1, ratOk l2, fitSlope (quadV l1) (ratV l2)])
 | _ => none
def K161 : List AV → Option (AV × List Bool)
 | [.agg l1, .agg l2, .agg l3] => some (intA .i64 (signV (ratV l1) (ratV l2) (ratV l3)), [ratOk l1, ratOk l2, ratOk l3, fitSign (ratV l1) (ratV l2) (ratV l3)])
 | _ => none
def Γ278 : FuncId → Option Spec := fun f => bif Nat.beq f 154 then some (pureSpec K154) else none
def Γ321 : FuncId → Option Spec := fun f => bif Nat.beq f 156 then some (pureSpec K156) else bif Nat.beq f 162 then some (pureSpec K162) else none
def Γ322 : FuncId → Option Spec := fun f => bif Nat.beq f 156 then some (pureSpec K156) else bif Nat.beq f 162 then some (pureSpec K162) else none
def Γ161 : FuncId → Option Spec := fun f => bif Nat.beq f 157 then some (pureSpec K157) else bif Nat.beq f 156 then some (pureSpec K156) else bif Nat.beq f 190 then some (pureSpec K190) else none
def M278 (v1 : Q3) (v2 : Q3) : Tr AV :=
 let x1 : List AV := [.c (.v (.bool (decide (v1.c0.num < 0)))), .c (.v (.string ⟨⟨magB v1.c0.num.natAbs⟩⟩)), .c (.v (.bool false)), .c (.v (.string ⟨⟨denB v1.c0.den⟩⟩))]
 let x2 : List AV := [.c (.v (.bool (decide (v2.c0.num < 0)))), .c (.v (.string ⟨⟨magB v2.c0.num.natAbs⟩⟩)), .c (.v (.bool false)), .c (.v (.string ⟨⟨denB v2.c0.den⟩⟩))]
 let x3 : List AV := [.c (.v (.bool (decide (v1.c1.num < 0)))), .c (.v (.string ⟨⟨magB v1.c1.num.natAbs⟩⟩)), .c (.v (.bool false)), .c (.v (.string ⟨⟨denB v1.c1.den⟩⟩))]
 let x4 : List AV := [.c (.v (.bool (decide (v2.c1.num < 0)))), .c (.v (.string ⟨⟨magB v2.c1.num.natAbs⟩⟩)), .c (.v (.bool false)), .c (.v (.string ⟨⟨denB v2.c1.den⟩⟩))]
 let x5 : List AV := [.c (.v (.bool (decide (v1.c2.num < 0)))), .c (.v (.string ⟨⟨magB v1.c2.num.natAbs⟩⟩)), .c (.v (.bool false)), .c (.v (.string ⟨⟨denB v1.c2.den⟩⟩))]
 let x6 : List AV := [.c (.v (.bool (decide (v2.c2.num < 0)))), .c (.v (.string ⟨⟨magB v2.c2.num.natAbs⟩⟩)), .c (.v (.bool false)), .c (.v (.string ⟨⟨denB v2.c2.den⟩⟩))]
 let x7 : Int := (hold (ratV x1 - ratV x2)).num
 let x8 : Int := (hold (ratV x3 - ratV x4)).num
 let x9 : Int := (hold (ratV x5 - ratV x6)).num
 .need (ratOk x1) (.need (ratOk x2) (.need (fitA (ratV x1) (-ratV x2)) (.need (ratOk x3) (.need (ratOk x4) (.need (fitA (ratV x3) (-ratV x4)) (.need (ratOk x5) (.need (ratOk x6) (.need (fitA (ratV x5) (-ratV x6)) (.ret (AV.agg [.c (.v (.bool (decide (x7 < 0)))), .c (.v (.string ⟨⟨magB x7.natAbs⟩⟩)), .c (.v (.bool false)), .c (.v (.string ⟨⟨denB (hold (ratV x1 - ratV x2)).den⟩⟩)), .c (.v (.bool (decide (x8 < 0)))), .c (.v (.string ⟨⟨magB x8.natAbs⟩⟩)), .c (.v (.bool false)), .c (.v (.string ⟨⟨denB (hold (ratV x3 - ratV x4)).den⟩⟩)), .c (.v (.bool (decide (x9 < 0)))), .c (.v (.string ⟨⟨magB x9.natAbs⟩⟩)), .c (.v (.bool false)), .c (.v (.string ⟨⟨denB (hold (ratV x5 - ratV x6)).den⟩⟩))]))))))))))
def M321 (v1 : Q3) (v2 : Rat) : Tr AV :=
 let x1 : List AV := [.c (.v (.bool (decide (v2.num < 0)))), .c (.v (.string ⟨⟨magB v2.num.natAbs⟩⟩)), .c (.v (.bool false)), .c (.v (.string ⟨⟨denB v2.den⟩⟩))]
 let x2 : List AV := [.c (.v (.bool (decide (v1.c2.num < 0)))), .c (.v (.string ⟨⟨magB v1.c2.num.natAbs⟩⟩)), .c (.v (.bool false)), .c (.v (.string ⟨⟨denB v1.c2.den⟩⟩))]
 let x3 : List AV := [.c (.v (.bool (decide (v1.c1.num < 0)))), .c (.v (.string ⟨⟨magB v1.c1.num.natAbs⟩⟩)), .c (.v (.bool false)), .c (.v (.string ⟨⟨denB v1.c1.den⟩⟩))]
 let x4 : Int := (hold (ratV x1 * ratV x2)).num
 let x5 : List AV := [.c (.v (.bool (decide (x4 < 0)))), .c (.v (.string ⟨⟨magB x4.natAbs⟩⟩)), .c (.v (.bool false)), .c (.v (.string ⟨⟨denB (hold (ratV x1 * ratV x2)).den⟩⟩))]
 let x6 : Int := (hold (ratV x3 + ratV x5)).num
 let x7 : List AV := [.c (.v (.bool (decide (x6 < 0)))), .c (.v (.string ⟨⟨magB x6.natAbs⟩⟩)), .c (.v (.bool false)), .c (.v (.string ⟨⟨denB (hold (ratV x3 + ratV x5)).den⟩⟩))]
 let x8 : List AV := [.c (.v (.bool (decide (v1.c0.num < 0)))), .c (.v (.string ⟨⟨magB v1.c0.num.natAbs⟩⟩)), .c (.v (.bool false)), .c (.v (.string ⟨⟨denB v1.c0.den⟩⟩))]
 let x9 : Int := (hold (ratV x1 * ratV x7)).num
 let x10 : List AV := [.c (.v (.bool (decide (x9 < 0)))), .c (.v (.string ⟨⟨magB x9.natAbs⟩⟩)), .c (.v (.bool false)), .c (.v (.string ⟨⟨denB (hold (ratV x1 * ratV x7)).den⟩⟩))]
 let x11 : Int := (hold (ratV x8 + ratV x10)).num
 .need (ratOk x1) (.need (ratOk x2) (.need (fitM (ratV x1) (ratV x2)) (.need (ratOk x3) (.need (ratOk x5) (.need (fitA (ratV x3) (ratV x5)) (.need (ratOk x1) (.need (ratOk x7) (.need (fitM (ratV x1) (ratV x7)) (.need (ratOk x8) (.need (ratOk x10) (.need (fitA (ratV x8) (ratV x10)) (.ret (AV.agg [.c (.v (.bool (decide (x11 < 0)))), .c (.v (.string ⟨⟨magB x11.natAbs⟩⟩)), .c (.v (.bool false)), .c (.v (.string ⟨⟨denB (hold (ratV x8 + ratV x10)).den⟩⟩))])))))))))))))
def M322 (v1 : Q3) (v2 : Rat) : Tr AV :=
 let x1 : List AV := [.c (.v (.bool (decide (v1.c2.num < 0)))), .c (.v (.string ⟨⟨magB v1.c2.num.natAbs⟩⟩)), .c (.v (.bool false)), .c (.v (.string ⟨⟨denB v1.c2.den⟩⟩))]
 let x2 : Int := (hold (ratV x1 + ratV x1)).num
 let x3 : List AV := [.c (.v (.bool (decide (x2 < 0)))), .c (.v (.string ⟨⟨magB x2.natAbs⟩⟩)), .c (.v (.bool false)), .c (.v (.string ⟨⟨denB (hold (ratV x1 + ratV x1)).den⟩⟩))]
 let x4 : List AV := [.c (.v (.bool (decide (v2.num < 0)))), .c (.v (.string ⟨⟨magB v2.num.natAbs⟩⟩)), .c (.v (.bool false)), .c (.v (.string ⟨⟨denB v2.den⟩⟩))]
 let x5 : List AV := [.c (.v (.bool (decide (v1.c1.num < 0)))), .c (.v (.string ⟨⟨magB v1.c1.num.natAbs⟩⟩)), .c (.v (.bool false)), .c (.v (.string ⟨⟨denB v1.c1.den⟩⟩))]
 let x6 : Int := (hold (ratV x3 * ratV x4)).num
 let x7 : List AV := [.c (.v (.bool (decide (x6 < 0)))), .c (.v (.string ⟨⟨magB x6.natAbs⟩⟩)), .c (.v (.bool false)), .c (.v (.string ⟨⟨denB (hold (ratV x3 * ratV x4)).den⟩⟩))]
 let x8 : Int := (hold (ratV x5 + ratV x7)).num
 .need (ratOk x1) (.need (ratOk x1) (.need (fitA (ratV x1) (ratV x1)) (.need (ratOk x3) (.need (ratOk x4) (.need (fitM (ratV x3) (ratV x4)) (.need (ratOk x5) (.need (ratOk x7) (.need (fitA (ratV x5) (ratV x7)) (.ret (AV.agg [.c (.v (.bool (decide (x8 < 0)))), .c (.v (.string ⟨⟨magB x8.natAbs⟩⟩)), .c (.v (.bool false)), .c (.v (.string ⟨⟨denB (hold (ratV x5 + ratV x7)).den⟩⟩))]))))))))))
def M161 (v1 : Rat) (v2 : Rat) (v3 : Rat) : Tr AV :=
 let x1 : List AV := [.c (.v (.bool (decide (v1.num < 0)))), .c (.v (.string ⟨⟨magB v1.num.natAbs⟩⟩)), .c (.v (.bool false)), .c (.v (.string ⟨⟨denB v1.den⟩⟩))]
 let x2 : List AV := [.c (.v (.bool (decide (v2.num < 0)))), .c (.v (.string ⟨⟨magB v2.num.natAbs⟩⟩)), .c (.v (.bool false)), .c (.v (.string ⟨⟨denB v2.den⟩⟩))]
 let x3 : List AV := [.c (.v (.bool (decide (v3.num < 0)))), .c (.v (.string ⟨⟨magB v3.num.natAbs⟩⟩)), .c (.v (.bool false)), .c (.v (.string ⟨⟨denB v3.den⟩⟩))]
 let x4 : Int := IntKind.i64.wrap (sgn (ratV x2).num 0 * sgn (ratV x3).num 0)
 let x5 : Int := sgn (ratV x1).num 0
 let x6 : Int := (hold (ratV x2 * ratV x2)).num
 let x7 : List AV := [.c (.v (.bool (decide (x6 < 0)))), .c (.v (.string ⟨⟨magB x6.natAbs⟩⟩)), .c (.v (.bool false)), .c (.v (.string ⟨⟨denB (hold (ratV x2 * ratV x2)).den⟩⟩))]
 let x8 : Int := (hold (ratV x1 * ratV x1)).num
 let x9 : List AV := [.c (.v (.bool (decide (x8 < 0)))), .c (.v (.string ⟨⟨magB x8.natAbs⟩⟩)), .c (.v (.bool false)), .c (.v (.string ⟨⟨denB (hold (ratV x1 * ratV x1)).den⟩⟩))]
 let x10 : Int := (hold (ratV x7 * ratV x3)).num
 let x11 : List AV := [.c (.v (.bool (decide (x10 < 0)))), .c (.v (.string ⟨⟨magB x10.natAbs⟩⟩)), .c (.v (.bool false)), .c (.v (.string ⟨⟨denB (hold (ratV x7 * ratV x3)).den⟩⟩))]
 .need (ratOk x1) (.need (ratOk x2) (.need (ratOk x3) (.need (bif x4 == 0 then true else true) (.ite (bif x4 == 0 then true else bif false then true else x5 == x4) (.ret (.c (.v (.int IntKind.i64 x5)))) (.ite (x5 == 0) (.ret (.c (.v (.int IntKind.i64 x4)))) (.need (ratOk x1) (.need (ratOk x1) (.need (fitM (ratV x1) (ratV x1)) (.need (ratOk x2) (.need (ratOk x2) (.need (fitM (ratV x2) (ratV x2)) (.need (ratOk x7) (.need (ratOk x3) (.need (fitM (ratV x7) (ratV x3)) (.need (ratOk x9) (.need (ratOk x11) (.need (fit4 (ratV x9) (ratV x11)) (.ret (.c (.v (.int IntKind.i64 (IntKind.i64.wrap (x5 * sgn ((ratV x9).num * ↑(ratV x11).den) ((ratV x11).num * ↑(ratV x9).den))))))))))))))))))))))))
theorem M278_eq (v1 : Q3) (v2 : Q3) : execFn Tryz.prog Γ278 noL 1010 Tryz.f278 [.agg (quadCells v1), .agg (quadCells v2)] = M278 v1 v2 := by kernel_rfl
theorem M321_eq (v1 : Q3) (v2 : Rat) : execFn Tryz.prog Γ321 noL 1010 Tryz.f321 [.agg (quadCells v1), .agg (ratCells v2)] = M321 v1 v2 := by kernel_rfl
theorem M322_eq (v1 : Q3) (v2 : Rat) : execFn Tryz.prog Γ322 noL 1010 Tryz.f322 [.agg (quadCells v1), .agg (ratCells v2)] = M322 v1 v2 := by kernel_rfl
theorem M161_eq (v1 : Rat) (v2 : Rat) (v3 : Rat) : execFn Tryz.prog Γ161 noL 1010 Tryz.f161 [.agg (ratCells v1), .agg (ratCells v2), .agg (ratCells v3)] = M161 v1 v2 v3 := by kernel_rfl
theorem M278_sat (v1 : Q3) (v2 : Q3) (c1 : fitSubQ v1 v2 = true) : (M278 v1 v2).sat fun r => r = quadA ⟨hold (v1.c0 - v2.c0), hold (v1.c1 - v2.c1), hold (v1.c2 - v2.c2)⟩ := by
 simp only [fitSubQ, fitSub, Bool.and_eq_true] at c1
 simp only [M278, ratV_lit, ratOk_lit, quadV_lit, quadOk_lit, realV_lit, realOk_lit, lineV_lit, lineOk_lit, ratV_int, ratOk_int, ratV_zero, ratOk_zero, hold_eq, Bool.and_self, sat_true, c1]
 exact sat_ret rfl
theorem M321_sat (v1 : Q3) (v2 : Rat) (c1 : fitEval v1 v2 = true) : (M321 v1 v2).sat fun r => r = ratA (hold (evalQ v1 v2)) := by
 simp only [fitEval, Bool.and_eq_true] at c1
 simp only [M321, ratV_lit, ratOk_lit, quadV_lit, quadOk_lit, realV_lit, realOk_lit, lineV_lit, lineOk_lit, ratV_int, ratOk_int, ratV_zero, ratOk_zero, hold_eq, Bool.and_self, sat_true, c1]
 exact sat_ret rfl
theorem M322_sat (v1 : Q3) (v2 : Rat) (c1 : fitSlope v1 v2 = true) : (M322 v1 v2).sat fun r => r = ratA (hold (slopeQ v1 v2)) := by
 simp only [fitSlope, Bool.and_eq_true] at c1
 simp only [M322, ratV_lit, ratOk_lit, quadV_lit, quadOk_lit, realV_lit, realOk_lit, lineV_lit, lineOk_lit, ratV_int, ratOk_int, ratV_zero, ratOk_zero, hold_eq, Bool.and_self, sat_true, c1]
 exact sat_ret rfl
theorem M161_sat (v1 : Rat) (v2 : Rat) (v3 : Rat) (c1 : fitSign v1 v2 v3 = true) : (M161 v1 v2 v3).sat fun r => r = intA .i64 (signV v1 v2 v3) := by
 simp only [fitSign, Bool.and_eq_true] at c1
 have hw : IntKind.i64.wrap (sgn v2.num 0 * sgn v3.num 0) = sgn v2.num 0 * sgn v3.num 0 := by
   rcases sgn_abs v2.num 0 with h | h | h <;> rcases sgn_abs v3.num 0 with k | k | k <;> rw [h, k] <;> rfl
 have hw2 : ∀ a b : Int, IntKind.i64.wrap (sgn v1.num 0 * sgn a b) = sgn v1.num 0 * sgn a b := by
   intro a b
   rcases sgn_abs v1.num 0 with h | h | h <;> rcases sgn_abs a b with k | k | k <;> rw [h, k] <;> rfl
 simp only [M161, ratV_lit, ratOk_lit, quadV_lit, quadOk_lit, realV_lit, realOk_lit, lineV_lit, lineOk_lit, ratV_int, ratOk_int, ratV_zero, ratOk_zero, hold_eq, Bool.and_self, sat_true, c1, hw, hw2]
 have hs : ∀ z : Int, z = signV v1 v2 v3 → AV.c (.v (.int .i64 z)) = intA .i64 (signV v1 v2 v3) := fun z hz => by rw [hz]; rfl
 refine sat_need (by cases (sgn v2.num 0 * sgn v3.num 0 == 0) <;> rfl) (sat_ite (fun h => sat_ret (hs _ ?_)) (fun h => sat_ite (fun k => sat_ret (hs _ ?_)) (fun k => ?_)))
 · unfold signV
   simp only []
   rw [if_pos]
   cases h0 : (sgn v2.num 0 * sgn v3.num 0 == 0) with
   | true => exact .inl (eq_of_beq h0)
   | false => rw [h0] at h; exact .inr (eq_of_beq h)
 · unfold signV
   simp only []
   cases h0 : (sgn v2.num 0 * sgn v3.num 0 == 0) with
   | true => rw [h0] at h; cases h
   | false =>
     rw [h0] at h
     have h1 : ¬ (sgn v2.num 0 * sgn v3.num 0 = 0 ∨ sgn v1.num 0 = sgn v2.num 0 * sgn v3.num 0) := by
       rintro (h1 | h1)
       · rw [h1] at h0; cases h0
       · have : (sgn v1.num 0 == sgn v2.num 0 * sgn v3.num 0) = true := by rw [h1]; simp
         rw [this] at h; cases h
     rw [if_neg h1, if_pos (eq_of_beq k)]
 · simp only [sat_true]
   refine sat_ret (hs _ ?_)
   unfold signV
   simp only []
   cases h0 : (sgn v2.num 0 * sgn v3.num 0 == 0) with
   | true => rw [h0] at h; cases h
   | false =>
     rw [h0] at h
     have h1 : ¬ (sgn v2.num 0 * sgn v3.num 0 = 0 ∨ sgn v1.num 0 = sgn v2.num 0 * sgn v3.num 0) := by
       rintro (h1 | h1)
       · rw [h1] at h0; cases h0
       · have : (sgn v1.num 0 == sgn v2.num 0 * sgn v3.num 0) = true := by rw [h1]; simp
         rw [this] at h; cases h
     have k1 : ¬ sgn v1.num 0 = 0 := by
       intro hh
       rw [hh] at k; cases k
     rw [if_neg h1, if_neg k1]
theorem Γ278_ok : ∀ f s, Γ278 f = some s → SpecOk Tryz.prog f s := one_ok f154_ok.spec
theorem f278_ok : PureOk Tryz.prog 278 K278 := by
 refine pureOk_of_exec prog_mixed Γ278_ok (fn := Tryz.f278) (c := codeOf Tryz.f278) (by kernel_rfl) (by kernel_rfl) (callFunc_enter (fn := Tryz.f278) (c := codeOf Tryz.f278) (by kernel_rfl) (by kernel_rfl) (by kernel_rfl)) (L := noL) (N := 1010) (blocksOk_none _ _) ?_ ?_
 ·intro args v cs h
  unfold K278 at h
  split at h
  ·cases h; rfl
  ·cases h
 ·intro args v cs h hc
  unfold K278 at h
  split at h
  ·rename_i l1 l2
   cases h
   have h1 : quadOk l1 = true := hc (quadOk l1) (by simp)
   have h2 : quadOk l2 = true := hc (quadOk l2) (by simp)
   have c1 : fitSubQ (quadV l1) (quadV l2) = true := hc (fitSubQ (quadV l1) (quadV l2)) (by simp)
   obtain ⟨v1, rfl⟩ : ∃ x, l1 = quadCells x := ⟨_, quadOk_eq h1⟩
   obtain ⟨v2, rfl⟩ : ∃ x, l2 = quadCells x := ⟨_, quadOk_eq h2⟩
   simp only [quadV_cells] at *
   have hs := M278_sat v1 v2 c1
   rw [← M278_eq] at hs
   generalize execFn Tryz.prog Γ278 noL 1010 Tryz.f278 [.agg (quadCells v1), .agg (quadCells v2)] = T at hs ⊢
   generalize hold (v1.c0 - v2.c0) = z0 at hs ⊢
   generalize hold (v1.c1 - v2.c1) = z1 at hs ⊢
   generalize hold (v1.c2 - v2.c2) = z2 at hs ⊢
   exact Tr.sat_mono (fun r hr => ⟨by subst hr; rfl, Sees.of_eq hr⟩) hs
  ·cases h
theorem Γ321_ok : ∀ f s, Γ321 f = some s → SpecOk Tryz.prog f s := step_ok f156_ok.spec (one_ok f162_ok.spec)
theorem f321_ok : PureOk Tryz.prog 321 K321 := by
 refine pureOk_of_exec prog_mixed Γ321_ok (fn := Tryz.f321) (c := codeOf Tryz.f321) (by kernel_rfl) (by kernel_rfl) (callFunc_enter (fn := Tryz.f321) (c := codeOf Tryz.f321) (by kernel_rfl) (by kernel_rfl) (by kernel_rfl)) (L := noL) (N := 1010) (blocksOk_none _ _) ?_ ?_
 ·intro args v cs h
  unfold K321 at h
  split at h
  ·cases h; rfl
  ·cases h
 ·intro args v cs h hc
  unfold K321 at h
  split at h
  ·rename_i l1 l2
   cases h
   have h1 : quadOk l1 = true := hc (quadOk l1) (by simp)
   have h2 : ratOk l2 = true := hc (ratOk l2) (by simp)
   have c1 : fitEval (quadV l1) (ratV l2) = true := hc (fitEval (quadV l1) (ratV l2)) (by simp)
   obtain ⟨v1, rfl⟩ : ∃ x, l1 = quadCells x := ⟨_, quadOk_eq h1⟩
   obtain ⟨v2, rfl⟩ : ∃ x, l2 = ratCells x := ⟨_, ratOk_eq h2⟩
   simp only [quadV_cells, ratV_cells] at *
   have hs := M321_sat v1 v2 c1
   rw [← M321_eq] at hs
   generalize execFn Tryz.prog Γ321 noL 1010 Tryz.f321 [.agg (quadCells v1), .agg (ratCells v2)] = T at hs ⊢
   generalize hold (evalQ v1 v2) = z at hs ⊢
   exact Tr.sat_mono (fun r hr => ⟨by subst hr; rfl, Sees.of_eq hr⟩) hs
  ·cases h
theorem Γ322_ok : ∀ f s, Γ322 f = some s → SpecOk Tryz.prog f s := step_ok f156_ok.spec (one_ok f162_ok.spec)
theorem f322_ok : PureOk Tryz.prog 322 K322 := by
 refine pureOk_of_exec prog_mixed Γ322_ok (fn := Tryz.f322) (c := codeOf Tryz.f322) (by kernel_rfl) (by kernel_rfl) (callFunc_enter (fn := Tryz.f322) (c := codeOf Tryz.f322) (by kernel_rfl) (by kernel_rfl) (by kernel_rfl)) (L := noL) (N := 1010) (blocksOk_none _ _) ?_ ?_
 ·intro args v cs h
  unfold K322 at h
  split at h
  ·cases h; rfl
  ·cases h
 ·intro args v cs h hc
  unfold K322 at h
  split at h
  ·rename_i l1 l2
   cases h
   have h1 : quadOk l1 = true := hc (quadOk l1) (by simp)
   have h2 : ratOk l2 = true := hc (ratOk l2) (by simp)
   have c1 : fitSlope (quadV l1) (ratV l2) = true := hc (fitSlope (quadV l1) (ratV l2)) (by simp)
   obtain ⟨v1, rfl⟩ : ∃ x, l1 = quadCells x := ⟨_, quadOk_eq h1⟩
   obtain ⟨v2, rfl⟩ : ∃ x, l2 = ratCells x := ⟨_, ratOk_eq h2⟩
   simp only [quadV_cells, ratV_cells] at *
   have hs := M322_sat v1 v2 c1
   rw [← M322_eq] at hs
   generalize execFn Tryz.prog Γ322 noL 1010 Tryz.f322 [.agg (quadCells v1), .agg (ratCells v2)] = T at hs ⊢
   generalize hold (slopeQ v1 v2) = z at hs ⊢
   exact Tr.sat_mono (fun r hr => ⟨by subst hr; rfl, Sees.of_eq hr⟩) hs
  ·cases h
theorem Γ161_ok : ∀ f s, Γ161 f = some s → SpecOk Tryz.prog f s := step_ok f157_ok.spec (step_ok f156_ok.spec (one_ok f190_ok.spec))
theorem f161_ok : PureOk Tryz.prog 161 K161 := by
 refine pureOk_of_exec prog_mixed Γ161_ok (fn := Tryz.f161) (c := codeOf Tryz.f161) (by kernel_rfl) (by kernel_rfl) (callFunc_enter (fn := Tryz.f161) (c := codeOf Tryz.f161) (by kernel_rfl) (by kernel_rfl) (by kernel_rfl)) (L := noL) (N := 1010) (blocksOk_none _ _) ?_ ?_
 ·intro args v cs h
  unfold K161 at h
  split at h
  ·cases h; rfl
  ·cases h
 ·intro args v cs h hc
  unfold K161 at h
  split at h
  ·rename_i l1 l2 l3
   cases h
   have h1 : ratOk l1 = true := hc (ratOk l1) (by simp)
   have h2 : ratOk l2 = true := hc (ratOk l2) (by simp)
   have h3 : ratOk l3 = true := hc (ratOk l3) (by simp)
   have c1 : fitSign (ratV l1) (ratV l2) (ratV l3) = true := hc (fitSign (ratV l1) (ratV l2) (ratV l3)) (by simp)
   obtain ⟨v1, rfl⟩ : ∃ x, l1 = ratCells x := ⟨_, ratOk_eq h1⟩
   obtain ⟨v2, rfl⟩ : ∃ x, l2 = ratCells x := ⟨_, ratOk_eq h2⟩
   obtain ⟨v3, rfl⟩ : ∃ x, l3 = ratCells x := ⟨_, ratOk_eq h3⟩
   simp only [ratV_cells] at *
   have hs := M161_sat v1 v2 v3 c1
   rw [← M161_eq] at hs
   generalize execFn Tryz.prog Γ161 noL 1010 Tryz.f161 [.agg (ratCells v1), .agg (ratCells v2), .agg (ratCells v3)] = T at hs ⊢
   generalize signV v1 v2 v3 = z at hs ⊢
   exact Tr.sat_mono (fun r hr => ⟨by subst hr; rfl, Sees.of_eq hr⟩) hs
  ·cases h
end Go.Vse
