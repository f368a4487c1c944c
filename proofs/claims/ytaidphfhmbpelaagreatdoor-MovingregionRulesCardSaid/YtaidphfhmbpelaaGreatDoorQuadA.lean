/- Helpers for the proof: no statement of its own. -/
import Derived.Test.YtaidphfhmbpelaaGreatDoorRatA
import Derived.Test.YtaidphfhmbpelaaGreatDoorVseD
set_option linter.unusedVariables false
set_option linter.unusedSimpArgs false
set_option linter.unnecessarySimpa false
set_option linter.deprecated false
set_option maxRecDepth 100000
namespace Go.Vse
open Go.Proofs
structure Q3 where
 c0 : Rat
 c1 : Rat
 c2 : Rat
structure R3 where
 p : Rat
 r : Rat
 neg : Bool
structure L4 where
 x0 : Rat
 x1 : Rat
 y0 : Rat
 y1 : Rat
def quadCells (q : Q3) : List AV := ratCells q.c0 ++ (ratCells q.c1 ++ ratCells q.c2)
def realCells (x : R3) : List AV := ratCells x.p ++ (ratCells x.r ++ [.c (.v (.bool x.neg))])
def lineCells (x : L4) : List AV := ratCells x.x0 ++ (ratCells x.x1 ++ (ratCells x.y0 ++ ratCells x.y1))
def quadA (q : Q3) : AV := .agg (quadCells q)
def realA (x : R3) : AV := .agg (realCells x)
def lineA (x : L4) : AV := .agg (lineCells x)
def boolV : List AV → Bool
 | [.c (.v (.bool b))] => b
 | _ => false
def boolOk : List AV → Bool
 | [.c (.v (.bool b))] => true
 | _ => false
def quadV (l : List AV) : Q3 := ⟨ratV (l.take 4), ratV ((l.drop 4).take 4), ratV (l.drop 8)⟩
def quadOk (l : List AV) : Bool := ratOk (l.take 4) && ratOk ((l.drop 4).take 4) && ratOk (l.drop 8)
def realV (l : List AV) : R3 := ⟨ratV (l.take 4), ratV ((l.drop 4).take 4), boolV (l.drop 8)⟩
def realOk (l : List AV) : Bool := ratOk (l.take 4) && ratOk ((l.drop 4).take 4) && boolOk (l.drop 8)
def lineV (l : List AV) : L4 := ⟨ratV (l.take 4), ratV ((l.drop 4).take 4), ratV ((l.drop 8).take 4), ratV (l.drop 12)⟩
def lineOk (l : List AV) : Bool := ratOk (l.take 4) && ratOk ((l.drop 4).take 4) && ratOk ((l.drop 8).take 4) && ratOk (l.drop 12)
theorem quadOk_eq {l : List AV} (h : quadOk l = true) : l = quadCells (quadV l) := by
 simp only [quadOk, Bool.and_eq_true] at h
 obtain ⟨⟨h1, h2⟩, h3⟩ := h
 have e1 := ratOk_eq h1
 have e2 := ratOk_eq h2
 have e3 := ratOk_eq h3
 show l = ratCells (ratV (l.take 4)) ++ (ratCells (ratV ((l.drop 4).take 4)) ++ ratCells (ratV (l.drop 8)))
 rw [← e1, ← e2, ← e3]
 have := List.take_append_drop 4 (l.drop 4)
 rw [List.drop_drop] at this
 rw [this, List.take_append_drop]
theorem realOk_eq {l : List AV} (h : realOk l = true) : l = realCells (realV l) := by
 simp only [realOk, Bool.and_eq_true] at h
 obtain ⟨⟨h1, h2⟩, h3⟩ := h
 have e1 := ratOk_eq h1
 have e2 := ratOk_eq h2
 have e3 : l.drop 8 = [.c (.v (.bool (boolV (l.drop 8))))] := by
  unfold boolOk at h3
  split at h3
  ·rename_i b hb; rw [hb]; rfl
  ·cases h3
 show l = ratCells (ratV (l.take 4)) ++ (ratCells (ratV ((l.drop 4).take 4)) ++ [.c (.v (.bool (boolV (l.drop 8))))])
 rw [← e1, ← e2, ← e3]
 have := List.take_append_drop 4 (l.drop 4)
 rw [List.drop_drop] at this
 rw [this, List.take_append_drop]
theorem lineOk_eq {l : List AV} (h : lineOk l = true) : l = lineCells (lineV l) := by
 simp only [lineOk, Bool.and_eq_true] at h
 obtain ⟨⟨⟨h1, h2⟩, h3⟩, h4⟩ := h
 have e1 := ratOk_eq h1
 have e2 := ratOk_eq h2
 have e3 := ratOk_eq h3
 have e4 := ratOk_eq h4
 show l = ratCells (ratV (l.take 4)) ++ (ratCells (ratV ((l.drop 4).take 4)) ++ (ratCells (ratV ((l.drop 8).take 4)) ++ ratCells (ratV (l.drop 12))))
 rw [← e1, ← e2, ← e3, ← e4]
 have h8 := List.take_append_drop 4 (l.drop 8)
 rw [List.drop_drop] at h8
 have := List.take_append_drop 4 (l.drop 4)
 rw [List.drop_drop] at this
 rw [h8, this, List.take_append_drop]
theorem quadV_cells (q : Q3) : quadV (quadCells q) = q := by
 show Q3.mk (ratV (ratCells q.c0)) (ratV (ratCells q.c1)) (ratV (ratCells q.c2)) = q
 rw [ratV_cells, ratV_cells, ratV_cells]
theorem realV_cells (x : R3) : realV (realCells x) = x := by
 show R3.mk (ratV (ratCells x.p)) (ratV (ratCells x.r)) x.neg = x
 rw [ratV_cells, ratV_cells]
theorem lineV_cells (x : L4) : lineV (lineCells x) = x := by
 show L4.mk (ratV (ratCells x.x0)) (ratV (ratCells x.x1)) (ratV (ratCells x.y0)) (ratV (ratCells x.y1)) = x
 rw [ratV_cells, ratV_cells, ratV_cells, ratV_cells]
section
variable (a1 a2 a3 a4 b1 b2 b3 b4 c1 c2 c3 c4 d1 d2 d3 d4 : AV)
theorem quadV_lit : quadV [a1, a2, a3, a4, b1, b2, b3, b4, c1, c2, c3, c4] = ⟨ratV [a1, a2, a3, a4], ratV [b1, b2, b3, b4], ratV [c1, c2, c3, c4]⟩ := rfl
theorem quadOk_lit : quadOk [a1, a2, a3, a4, b1, b2, b3, b4, c1, c2, c3, c4] = (ratOk [a1, a2, a3, a4] && ratOk [b1, b2, b3, b4] && ratOk [c1, c2, c3, c4]) := rfl
theorem realV_lit (b : Bool) : realV [a1, a2, a3, a4, b1, b2, b3, b4, .c (.v (.bool b))] = ⟨ratV [a1, a2, a3, a4], ratV [b1, b2, b3, b4], b⟩ := rfl
theorem realOk_lit (b : Bool) : realOk [a1, a2, a3, a4, b1, b2, b3, b4, .c (.v (.bool b))] = (ratOk [a1, a2, a3, a4] && ratOk [b1, b2, b3, b4] && true) := rfl
theorem lineV_lit : lineV [a1, a2, a3, a4, b1, b2, b3, b4, c1, c2, c3, c4, d1, d2, d3, d4] = ⟨ratV [a1, a2, a3, a4], ratV [b1, b2, b3, b4], ratV [c1, c2, c3, c4], ratV [d1, d2, d3, d4]⟩ := rfl
theorem lineOk_lit : lineOk [a1, a2, a3, a4, b1, b2, b3, b4, c1, c2, c3, c4, d1, d2, d3, d4] = (ratOk [a1, a2, a3, a4] && ratOk [b1, b2, b3, b4] && ratOk [c1, c2, c3, c4] && ratOk [d1, d2, d3, d4]) := rfl
end
def subQ (p q : Q3) : Q3 := ⟨p.c0 - q.c0, p.c1 - q.c1, p.c2 - q.c2⟩
def evalQ (q : Q3) (t : Rat) : Rat := q.c0 + t * (q.c1 + t * q.c2)
def slopeQ (q : Q3) (t : Rat) : Rat := q.c1 + (q.c2 + q.c2) * t
def fitSub (x y : Rat) : Bool := fitA x (-y)
def fitSubQ (p q : Q3) : Bool := fitSub p.c0 q.c0 && fitSub p.c1 q.c1 && fitSub p.c2 q.c2
def fitEval (q : Q3) (t : Rat) : Bool := fitM t q.c2 && fitA q.c1 (t * q.c2) && fitM t (q.c1 + t * q.c2) && fitA q.c0 (t * (q.c1 + t * q.c2))
def fitSlope (q : Q3) (t : Rat) : Bool := fitA q.c2 q.c2 && fitM (q.c2 + q.c2) t && fitA q.c1 ((q.c2 + q.c2) * t)
def mkP (p q r : Rat) : Rat := bif decide (r = 0) then p + q * 0 else p
def mkR (p q r : Rat) : Rat := bif decide (r = 0) then 0 else q * q * r
def mkN (p q r : Rat) : Bool := bif decide (r = 0) then false else decide (q.num < 0)
def fitMake (p q r : Rat) : Bool := (decide (r = 0) || decide (r = 2)) && fitM q 0 && fitA p (q * 0) && fitM q q && fitM (q * q) r
def signV (a b r : Rat) : Int :=
 let m := sgn a.num 0
 let n := sgn b.num 0 * sgn r.num 0
 if n = 0 ∨ m = n then m else if m = 0 then n else m * sgn ((a * a).num * (b * b * r).den) ((b * b * r).num * (a * a).den)
def fitSign (a b r : Rat) : Bool := fitM a a && fitM b b && fitM (b * b) r && fit4 (a * a) (b * b * r)
theorem sgn_abs (a b : Int) : sgn a b = -1 ∨ sgn a b = 0 ∨ sgn a b = 1 := by
 unfold sgn
 by_cases h : a < b
 ·rw [if_pos h]; exact .inl rfl
 ·rw [if_neg h]
  by_cases k : a > b
  ·rw [if_pos k]; exact .inr (.inr rfl)
  ·rw [if_neg k]; exact .inr (.inl rfl)
end Go.Vse
set_option maxRecDepth 100000
namespace Go.Vse
open Go.Proofs
def Γb : FuncId → Option Spec := fun f => bif Nat.beq f 180 then some (pureSpec cmpPure) else bif Nat.beq f 168 then some (pureSpec addPure) else none
theorem Γb_ok : ∀ f s, Γb f = some s → SpecOk Tryz.prog f s := step_ok (cmp_ok cmp_ext).spec (one_ok (add_ok add_ext).spec)
def litZ : List AV := [.c (.v (.bool false)), .c (.v (.string ⟨⟨[]⟩⟩)), .c (.v (.bool false)), .c (.v (.string ⟨⟨[]⟩⟩))]
def litB (c : UInt8) : List AV := [.c (.v (.bool false)), .c (.v (.string ⟨⟨[c]⟩⟩)), .c (.v (.bool false)), .c (.v (.string ⟨⟨[]⟩⟩))]
theorem root0 : concPure Tryz.prog (concΓ Tryz.prog Γb 70 14) 70 Tryz.f112 [.agg litZ] = some (.tup [.agg litZ, boolA true], []) := by kernel_rfl
theorem root2 : concPure Tryz.prog (concΓ Tryz.prog Γb 70 14) 70 Tryz.f112 [.agg (litB 2)] = some (.tup [.agg litZ, boolA false], []) := by kernel_rfl
end Go.Vse
