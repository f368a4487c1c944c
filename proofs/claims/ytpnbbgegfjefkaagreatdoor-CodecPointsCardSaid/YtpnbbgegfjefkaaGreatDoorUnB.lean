/- Helpers for the proof: no statement of its own. -/
import Derived.Test.YtpnbbgegfjefkaaGreatDoorUnA
set_option linter.unusedVariables false
set_option linter.unusedSimpArgs false
set_option linter.unnecessarySimpa false
set_option linter.deprecated false
set_option maxRecDepth 100000
namespace Go.Vse
open Go.Proofs
theorem rev_fold (a b : Int) (p q : Bool) (f : L4) : List.reverse [IV.v (Value.string { data := { toList := denB f.y1.den } }), IV.v (Value.bool false), IV.v (Value.string { data := { toList := magB f.y1.num.natAbs } }), IV.v (Value.bool (decide (f.y1.num < 0))), IV.v (Value.string { data := { toList := denB f.y0.den } }), IV.v (Value.bool false), IV.v (Value.string { data := { toList := magB f.y0.num.natAbs } }), IV.v (Value.bool (decide (f.y0.num < 0))), IV.v (Value.string { data := { toList := denB f.x1.den } }), IV.v (Value.bool false), IV.v (Value.string { data := { toList := magB f.x1.num.natAbs } }), IV.v (Value.bool (decide (f.x1.num < 0))), IV.v (Value.string { data := { toList := denB f.x0.den } }), IV.v (Value.bool false), IV.v (Value.string { data := { toList := magB f.x0.num.natAbs } }), IV.v (Value.bool (decide (f.x0.num < 0))), IV.v (Value.bool q), IV.v (Value.bool p), IV.v (Value.bool false), IV.v (Value.string { data := { toList := [] } }), IV.v (Value.bool false), IV.v (Value.string { data := { toList := [] } }), IV.v (Value.bool false), IV.v (Value.string { data := { toList := denB 1 } }), IV.v (Value.bool false), IV.v (Value.string { data := { toList := magB b.natAbs } }), IV.v (Value.bool (decide (b < 0))), IV.v (Value.bool false), IV.v (Value.string { data := { toList := [] } }), IV.v (Value.bool false), IV.v (Value.string { data := { toList := [] } }), IV.v (Value.bool false), IV.v (Value.string { data := { toList := denB 1 } }), IV.v (Value.bool false), IV.v (Value.string { data := { toList := magB a.natAbs } }), IV.v (Value.bool (decide (a < 0)))] = unIV ⟨a, b, p, q, f⟩ := rfl
theorem take_univ (u : Un) : List.take (35 + 1) (List.drop (0 * (35 + 1)) (unIV u)) = unIV u := rfl
theorem unV_iv (u : Un) : unV ((unIV u).map AV.c) = u := unV_cells u
theorem unOk_iv (u : Un) : unOk ((unIV u).map AV.c) = true := unOk_cells u
theorem unsOf_join (m : Nat) (el e : Nat → List IV) : unsOf (m + 1) (joinE m el e) = unsOf m el ++ [unV ((e 0).map AV.c)] := by
 unfold unsOf
 rw [List.range_succ, List.map_append]
 congr 1
 ·refine List.map_congr_left fun k hk => ?_
  have hk := List.mem_range.1 hk
  unfold joinE
  rw [if_pos hk]
 ·simp only [List.map_cons, List.map_nil]
  unfold joinE
  rw [if_neg (Nat.lt_irrefl m), Nat.sub_self]
theorem unsOk_join (m : Nat) (el e : Nat → List IV) : unsOk (m + 1) (joinE m el e) = (unsOk m el && unOk ((e 0).map AV.c)) := by
 unfold unsOk
 rw [List.range_succ, List.all_append]
 congr 1
 ·have : ∀ l : List Nat, (∀ k ∈ l, k < m) → (l.all fun k => unOk ((joinE m el e k).map AV.c)) = l.all fun k => unOk ((el k).map AV.c) := by
   intro l hl
   induction l with
   | nil => rfl
   | cons x l ih =>
    simp only [List.all_cons]
    rw [ih fun k hk => hl k (by simp [hk])]
    have hx := hl x (by simp)
    unfold joinE
    rw [if_pos hx]
  exact this _ fun k hk => List.mem_range.1 hk
 ·simp only [List.all_cons, List.all_nil, Bool.and_true]
  unfold joinE
  rw [if_neg (Nat.lt_irrefl m), Nat.sub_self]
theorem us_eqv {m m' : Nat} {el : Nat → List IV} (h1 : m = m') (h2 : unsOk m el = true) (b : Nat) (t : Nat) : EntsEqv [some (.cells [.msl b m 36] t), some (.arr m' 36 el 125)] [some (.cells [.msl b (unsOf m el).length 36] t), some (.arr (unsOf m el).length 36 (unEl (unsOf m el)) 125)] := by
 subst h1
 rw [unsOf_len]
 exact .cons (.refl _) (.cons (.arr _ _ _ _ _ (unsOk_el h2)) .nil)
def eVar : EForm (List Un) where
 parse := fun e => match e with | [some (.cells [.msl 1 m 36] 86), some (.arr m' 36 el 125)] => some (unsOf m el, [decide (m = m'), unsOk m el]) | _ => none
 ents := fun U => [some (.cells [.msl 1 U.length 36] 86), some (.arr U.length 36 (unEl U) 125)]
 ok := by
  intro e x cs h hc
  split at h
  ·simp only [Option.some.injEq, Prod.mk.injEq] at h
   obtain ⟨rfl, rfl⟩ := h
   exact us_eqv (dec (hc _ (by simp))) (hc _ (by simp)) 1 86
  ·cases h
def atomsOf (u : Un) : List Un := (bif u.oa then [] else [⟨u.a, u.a, false, false, u.f⟩]) ++ bif decide (u.a = u.b) then [] else ⟨u.a, u.b, true, true, u.f⟩ :: (bif u.ob then [] else [⟨u.b, u.b, false, false, u.f⟩])
def atomsU (U : List Un) : List Un := U.flatMap atomsOf
theorem atomsOf_len (u : Un) : (atomsOf u).length ≤ 3 := by
 unfold atomsOf
 cases u.oa <;> cases decide (u.a = u.b) <;> cases u.ob <;> simp
def Γb118 : FuncId → Option Spec := fun f => bif Nat.beq f 119 then some (pureSpec K119) else none
abbrev T118 := (Unit × Unit × List Un × Int × Int × Unit) × List Un
abbrev F118 : Form (Unit × Unit × List Un × Int × Int × Unit) := .cons (argPtr 0 0) (.cons (argFn1 169 0 0) (.cons argUs (.cons argInt (.cons argInt .nil))))
def pre118 (x : T118) : Bool := decide (x.1.2.2.2.1 = (x.1.2.2.1.length : Nat)) && (decide (0 ≤ x.1.2.2.2.2.1) && (decide (x.1.2.2.2.2.1 ≤ (x.1.2.2.1.length : Nat)) && (decide (x.1.2.2.1.length ≤ 333) && decide (x.2.length ≤ 5000))))
def lp118 : LoopSt T118 ((Unit × Unit) × List Un) := lpF { nt := 54, live := [3, 4, 8, 9, 10], cells := [(1, 0, 36, 125)] } { nt := 54, live := [3], cells := [(1, 0, 36, 125)] } (MForm.with eVar F118) (MForm.with eVar (F1 (argPtr 0 0))) (fun x => (((), ()), x.2 ++ atomsU (x.1.2.2.1.drop x.1.2.2.2.2.1.toNat))) pre118
theorem lp118_good : lp118.Good2 := lpF_good _ _ _ _ _ _
def L118 : Nat → Option (St → Tr (Ex × St)) := fun id => bif Nat.beq id 0 then some (lp118.g 0) else none
theorem Γb118_ok : ∀ f s, Γb118 f = some s → SpecOk Tryz.prog f s := one_ok f119_ok.spec
def step118 (U : List Un) (n : Int) (i : Int) (A : List Un) : Tr (T118 ⊕ (Unit × Unit) × List Un) :=
 let x1 : Int := ↑U.length
 let x2 : Bool := (U.getD i.toNat u0).oa
 let x3 : Bool := decide (A.length ≤ A.length)
 let x4 : Nat := A.length + 1
 let x5 : Bool := decide (x4 ≤ 9223372036854775807)
 let x6 : Nat := x4 * 408
 let x7 : Bool := decide (x6 ≤ 140737488355328)
 let x8 : Int := (U.getD i.toNat u0).a
 let x9 : IV := IV.v (Value.bool (decide (x8 < 0)))
 let x10 : IV := IV.v (Value.string ⟨⟨magB x8.natAbs⟩⟩)
 let x11 : IV := IV.v (Value.string ⟨⟨denB 1⟩⟩)
 let x12 : IV := IV.v (Value.string ⟨⟨[]⟩⟩)
 let x13 : Int := (U.getD i.toNat u0).b
 let x14 : IV := IV.v (Value.bool (decide (x13 < 0)))
 let x15 : IV := IV.v (Value.string ⟨⟨magB x13.natAbs⟩⟩)
 let x16 : Bool := (U.getD i.toNat u0).ob
 let x17 : List AV := [AV.c x9, AV.c x10, .c (.v (.bool false)), AV.c x11, .c (.v (.bool false)), AV.c x12, .c (.v (.bool false)), AV.c x12, .c (.v (.bool false)), AV.c x14, AV.c x15, .c (.v (.bool false)), AV.c x11, .c (.v (.bool false)), AV.c x12, .c (.v (.bool false)), AV.c x12, .c (.v (.bool false)), .c (.v (.bool x2)), .c (.v (.bool x16))]
 let x18 : Bool := ivOk x17
 let x19 : Int := tmV (List.take 9 x17)
 let x20 : Int := tmV (List.take 9 (List.drop 9 x17))
 let x21 : Bool := decide (x19 = x20)
 let x22 : Bool := unsOk U.length (unEl U)
 let x23 : Bool := decide (x4 = x4)
 let x24 : Nat := 35 + 1
 let x25 : IV := IV.v (Value.string ⟨⟨denB (U.getD i.toNat u0).f.y1.den⟩⟩)
 let x26 : Int := (U.getD i.toNat u0).f.y1.num
 let x27 : IV := IV.v (Value.string ⟨⟨magB x26.natAbs⟩⟩)
 let x28 : IV := IV.v (Value.bool (decide (x26 < 0)))
 let x29 : IV := IV.v (Value.string ⟨⟨denB (U.getD i.toNat u0).f.y0.den⟩⟩)
 let x30 : Int := (U.getD i.toNat u0).f.y0.num
 let x31 : IV := IV.v (Value.string ⟨⟨magB x30.natAbs⟩⟩)
 let x32 : IV := IV.v (Value.bool (decide (x30 < 0)))
 let x33 : IV := IV.v (Value.string ⟨⟨denB (U.getD i.toNat u0).f.x1.den⟩⟩)
 let x34 : Int := (U.getD i.toNat u0).f.x1.num
 let x35 : IV := IV.v (Value.string ⟨⟨magB x34.natAbs⟩⟩)
 let x36 : IV := IV.v (Value.bool (decide (x34 < 0)))
 let x37 : IV := IV.v (Value.string ⟨⟨denB (U.getD i.toNat u0).f.x0.den⟩⟩)
 let x38 : Int := (U.getD i.toNat u0).f.x0.num
 let x39 : IV := IV.v (Value.string ⟨⟨magB x38.natAbs⟩⟩)
 let x40 : IV := IV.v (Value.bool (decide (x38 < 0)))
 let x41 : List IV := [IV.v (Value.bool false), x12, IV.v (Value.bool false), x12, IV.v (Value.bool false), x11, IV.v (Value.bool false), x10, x9]
 let x42 : Bool := decide (x4 ≤ x4)
 let x43 : Nat := x4 + 1
 let x44 : Bool := decide (x43 ≤ 9223372036854775807)
 let x45 : Nat := x43 * 408
 let x46 : Bool := decide (x45 ≤ 140737488355328)
 let x47 : Bool := !x16
 let x48 : Nat := x43 + 1
 let x49 : Nat := x48 * 408
 let x50 : Bool := decide (x43 = x43)
 let x51 : Bool := decide (A.length = A.length)
 let x52 : Bool := unsOk A.length (unEl A)
 let x53 : List Un := unsOf A.length (unEl A)
 .ite (decide (i < n)) (.need (decide (0 ≤ i ∧ i < x1)) (.ite (!x2) (.need x3 (.need true (.need x5 (.need x7 (.need x18 (.ite x21 (.need x22 (.need x23 (.need (unsOk x4 (joinE A.length (unEl A) fun k => List.take x24 (List.drop (k * x24) (x25 :: IV.v (Value.bool false) :: x27 :: x28 :: x29 :: IV.v (Value.bool false) :: x31 :: x32 :: x33 :: IV.v (Value.bool false) :: x35 :: x36 :: x37 :: IV.v (Value.bool false) :: x39 :: x40 :: IV.v (Value.bool false) :: IV.v (Value.bool false) :: IV.v (Value.bool false) :: x12 :: IV.v (Value.bool false) :: x12 :: IV.v (Value.bool false) :: x11 :: IV.v (Value.bool false) :: x10 :: x9 :: x41).reverse))) (.ret (Sum.inl (((), (), unsOf U.length (unEl U), n, IntKind.i64.wrap (i + 1), ()), unsOf x4 (joinE A.length (unEl A) fun k => List.take x24 (List.drop (k * x24) (x25 :: IV.v (Value.bool false) :: x27 :: x28 :: x29 :: IV.v (Value.bool false) :: x31 :: x32 :: x33 :: IV.v (Value.bool false) :: x35 :: x36 :: x37 :: IV.v (Value.bool false) :: x39 :: x40 :: IV.v (Value.bool false) :: IV.v (Value.bool false) :: IV.v (Value.bool false) :: x12 :: IV.v (Value.bool false) :: x12 :: IV.v (Value.bool false) :: x11 :: IV.v (Value.bool false) :: x10 :: x9 :: x41).reverse)))))))) (.need x42 (.need true (.need x44 (.need x46 (.ite x47 (.need (decide (x43 ≤ x43)) (.need true (.need (decide (x48 ≤ 9223372036854775807)) (.need (decide (x49 ≤ 140737488355328)) (.need x22 (.need (decide (x48 = x48)) (.need (unsOk x48 (joinE x43 (joinE x4 (joinE A.length (unEl A) fun k => List.take x24 (List.drop (k * x24) (x25 :: IV.v (Value.bool false) :: x27 :: x28 :: x29 :: IV.v (Value.bool false) :: x31 :: x32 :: x33 :: IV.v (Value.bool false) :: x35 :: x36 :: x37 :: IV.v (Value.bool false) :: x39 :: x40 :: IV.v (Value.bool false) :: IV.v (Value.bool false) :: IV.v (Value.bool false) :: x12 :: IV.v (Value.bool false) :: x12 :: IV.v (Value.bool false) :: x11 :: IV.v (Value.bool false) :: x10 :: x9 :: x41).reverse)) fun k => List.take x24 (List.drop (k * x24) (x25 :: IV.v (Value.bool false) :: x27 :: x28 :: x29 :: IV.v (Value.bool false) :: x31 :: x32 :: x33 :: IV.v (Value.bool false) :: x35 :: x36 :: x37 :: IV.v (Value.bool false) :: x39 :: x40 :: IV.v (Value.bool true) :: IV.v (Value.bool true) :: IV.v (Value.bool false) :: x12 :: IV.v (Value.bool false) :: x12 :: IV.v (Value.bool false) :: x11 :: IV.v (Value.bool false) :: x15 :: x14 :: x41).reverse)) fun k => List.take x24 (List.drop (k * x24) [x25, IV.v (Value.bool false), x27, x28, x29, IV.v (Value.bool false), x31, x32, x33, IV.v (Value.bool false), x35, x36, x37, IV.v (Value.bool false), x39, x40, IV.v (Value.bool false), IV.v (Value.bool false), IV.v (Value.bool false), x12, IV.v (Value.bool false), x12, IV.v (Value.bool false), x11, IV.v (Value.bool false), x15, x14, IV.v (Value.bool false), x12, IV.v (Value.bool false), x12, IV.v (Value.bool false), x11, IV.v (Value.bool false), x15, x14].reverse))) (.ret (Sum.inl (((), (), unsOf U.length (unEl U), n, IntKind.i64.wrap (i + 1), ()), unsOf x48 (joinE x43 (joinE x4 (joinE A.length (unEl A) fun k => List.take x24 (List.drop (k * x24) (x25 :: IV.v (Value.bool false) :: x27 :: x28 :: x29 :: IV.v (Value.bool false) :: x31 :: x32 :: x33 :: IV.v (Value.bool false) :: x35 :: x36 :: x37 :: IV.v (Value.bool false) :: x39 :: x40 :: IV.v (Value.bool false) :: IV.v (Value.bool false) :: IV.v (Value.bool false) :: x12 :: IV.v (Value.bool false) :: x12 :: IV.v (Value.bool false) :: x11 :: IV.v (Value.bool false) :: x10 :: x9 :: x41).reverse)) fun k => List.take x24 (List.drop (k * x24) (x25 :: IV.v (Value.bool false) :: x27 :: x28 :: x29 :: IV.v (Value.bool false) :: x31 :: x32 :: x33 :: IV.v (Value.bool false) :: x35 :: x36 :: x37 :: IV.v (Value.bool false) :: x39 :: x40 :: IV.v (Value.bool true) :: IV.v (Value.bool true) :: IV.v (Value.bool false) :: x12 :: IV.v (Value.bool false) :: x12 :: IV.v (Value.bool false) :: x11 :: IV.v (Value.bool false) :: x15 :: x14 :: x41).reverse)) fun k => List.take x24 (List.drop (k * x24) [x25, IV.v (Value.bool false), x27, x28, x29, IV.v (Value.bool false), x31, x32, x33, IV.v (Value.bool false), x35, x36, x37, IV.v (Value.bool false), x39, x40, IV.v (Value.bool false), IV.v (Value.bool false), IV.v (Value.bool false), x12, IV.v (Value.bool false), x12, IV.v (Value.bool false), x11, IV.v (Value.bool false), x15, x14, IV.v (Value.bool false), x12, IV.v (Value.bool false), x12, IV.v (Value.bool false), x11, IV.v (Value.bool false), x15, x14].reverse)))))))))))) (.need x22 (.need x50 (.need (unsOk x43 (joinE x4 (joinE A.length (unEl A) fun k => List.take x24 (List.drop (k * x24) (x25 :: IV.v (Value.bool false) :: x27 :: x28 :: x29 :: IV.v (Value.bool false) :: x31 :: x32 :: x33 :: IV.v (Value.bool false) :: x35 :: x36 :: x37 :: IV.v (Value.bool false) :: x39 :: x40 :: IV.v (Value.bool false) :: IV.v (Value.bool false) :: IV.v (Value.bool false) :: x12 :: IV.v (Value.bool false) :: x12 :: IV.v (Value.bool false) :: x11 :: IV.v (Value.bool false) :: x10 :: x9 :: x41).reverse)) fun k => List.take x24 (List.drop (k * x24) (x25 :: IV.v (Value.bool false) :: x27 :: x28 :: x29 :: IV.v (Value.bool false) :: x31 :: x32 :: x33 :: IV.v (Value.bool false) :: x35 :: x36 :: x37 :: IV.v (Value.bool false) :: x39 :: x40 :: IV.v (Value.bool true) :: IV.v (Value.bool true) :: IV.v (Value.bool false) :: x12 :: IV.v (Value.bool false) :: x12 :: IV.v (Value.bool false) :: x11 :: IV.v (Value.bool false) :: x15 :: x14 :: x41).reverse))) (.ret (Sum.inl (((), (), unsOf U.length (unEl U), n, IntKind.i64.wrap (i + 1), ()), unsOf x43 (joinE x4 (joinE A.length (unEl A) fun k => List.take x24 (List.drop (k * x24) (x25 :: IV.v (Value.bool false) :: x27 :: x28 :: x29 :: IV.v (Value.bool false) :: x31 :: x32 :: x33 :: IV.v (Value.bool false) :: x35 :: x36 :: x37 :: IV.v (Value.bool false) :: x39 :: x40 :: IV.v (Value.bool false) :: IV.v (Value.bool false) :: IV.v (Value.bool false) :: x12 :: IV.v (Value.bool false) :: x12 :: IV.v (Value.bool false) :: x11 :: IV.v (Value.bool false) :: x10 :: x9 :: x41).reverse)) fun k => List.take x24 (List.drop (k * x24) (x25 :: IV.v (Value.bool false) :: x27 :: x28 :: x29 :: IV.v (Value.bool false) :: x31 :: x32 :: x33 :: IV.v (Value.bool false) :: x35 :: x36 :: x37 :: IV.v (Value.bool false) :: x39 :: x40 :: IV.v (Value.bool true) :: IV.v (Value.bool true) :: IV.v (Value.bool false) :: x12 :: IV.v (Value.bool false) :: x12 :: IV.v (Value.bool false) :: x11 :: IV.v (Value.bool false) :: x15 :: x14 :: x41).reverse))))))))))))))))))) (.need x18 (.ite x21 (.need x22 (.need x51 (.need x52 (.ret (Sum.inl (((), (), unsOf U.length (unEl U), n, IntKind.i64.wrap (i + 1), ()), x53)))))) (.need x3 (.need true (.need x5 (.need x7 (.ite x47 (.need x42 (.need true (.need x44 (.need x46 (.need x22 (.need x50 (.need (unsOk x43 (joinE x4 (joinE A.length (unEl A) fun k => List.take x24 (List.drop (k * x24) (x25 :: IV.v (Value.bool false) :: x27 :: x28 :: x29 :: IV.v (Value.bool false) :: x31 :: x32 :: x33 :: IV.v (Value.bool false) :: x35 :: x36 :: x37 :: IV.v (Value.bool false) :: x39 :: x40 :: IV.v (Value.bool true) :: IV.v (Value.bool true) :: IV.v (Value.bool false) :: x12 :: IV.v (Value.bool false) :: x12 :: IV.v (Value.bool false) :: x11 :: IV.v (Value.bool false) :: x15 :: x14 :: x41).reverse)) fun k => List.take x24 (List.drop (k * x24) [x25, IV.v (Value.bool false), x27, x28, x29, IV.v (Value.bool false), x31, x32, x33, IV.v (Value.bool false), x35, x36, x37, IV.v (Value.bool false), x39, x40, IV.v (Value.bool false), IV.v (Value.bool false), IV.v (Value.bool false), x12, IV.v (Value.bool false), x12, IV.v (Value.bool false), x11, IV.v (Value.bool false), x15, x14, IV.v (Value.bool false), x12, IV.v (Value.bool false), x12, IV.v (Value.bool false), x11, IV.v (Value.bool false), x15, x14].reverse))) (.ret (Sum.inl (((), (), unsOf U.length (unEl U), n, IntKind.i64.wrap (i + 1), ()), unsOf x43 (joinE x4 (joinE A.length (unEl A) fun k => List.take x24 (List.drop (k * x24) (x25 :: IV.v (Value.bool false) :: x27 :: x28 :: x29 :: IV.v (Value.bool false) :: x31 :: x32 :: x33 :: IV.v (Value.bool false) :: x35 :: x36 :: x37 :: IV.v (Value.bool false) :: x39 :: x40 :: IV.v (Value.bool true) :: IV.v (Value.bool true) :: IV.v (Value.bool false) :: x12 :: IV.v (Value.bool false) :: x12 :: IV.v (Value.bool false) :: x11 :: IV.v (Value.bool false) :: x15 :: x14 :: x41).reverse)) fun k => List.take x24 (List.drop (k * x24) [x25, IV.v (Value.bool false), x27, x28, x29, IV.v (Value.bool false), x31, x32, x33, IV.v (Value.bool false), x35, x36, x37, IV.v (Value.bool false), x39, x40, IV.v (Value.bool false), IV.v (Value.bool false), IV.v (Value.bool false), x12, IV.v (Value.bool false), x12, IV.v (Value.bool false), x11, IV.v (Value.bool false), x15, x14, IV.v (Value.bool false), x12, IV.v (Value.bool false), x12, IV.v (Value.bool false), x11, IV.v (Value.bool false), x15, x14].reverse)))))))))))) (.need x22 (.need x23 (.need (unsOk x4 (joinE A.length (unEl A) fun k => List.take x24 (List.drop (k * x24) (x25 :: IV.v (Value.bool false) :: x27 :: x28 :: x29 :: IV.v (Value.bool false) :: x31 :: x32 :: x33 :: IV.v (Value.bool false) :: x35 :: x36 :: x37 :: IV.v (Value.bool false) :: x39 :: x40 :: IV.v (Value.bool true) :: IV.v (Value.bool true) :: IV.v (Value.bool false) :: x12 :: IV.v (Value.bool false) :: x12 :: IV.v (Value.bool false) :: x11 :: IV.v (Value.bool false) :: x15 :: x14 :: x41).reverse))) (.ret (Sum.inl (((), (), unsOf U.length (unEl U), n, IntKind.i64.wrap (i + 1), ()), unsOf x4 (joinE A.length (unEl A) fun k => List.take x24 (List.drop (k * x24) (x25 :: IV.v (Value.bool false) :: x27 :: x28 :: x29 :: IV.v (Value.bool false) :: x31 :: x32 :: x33 :: IV.v (Value.bool false) :: x35 :: x36 :: x37 :: IV.v (Value.bool false) :: x39 :: x40 :: IV.v (Value.bool true) :: IV.v (Value.bool true) :: IV.v (Value.bool false) :: x12 :: IV.v (Value.bool false) :: x12 :: IV.v (Value.bool false) :: x11 :: IV.v (Value.bool false) :: x15 :: x14 :: x41).reverse))))))))))))))))) (.need x51 (.need x52 (.ret (Sum.inr (((), ()), x53)))))
def M118 (U : List Un) : Tr AV :=
 let x1 : List Un := unsOf U.length (unEl U)
 let x2 : List Un := unsOf 0 fun x => []
 let x3 : List Un := x2 ++ atomsU (List.drop (Int.toNat 0) x1)
 let x4 : Nat := x3.length
 .need (unsOk U.length (unEl U)) (.need true (.need true (.need (pre118 (((), (), x1, ↑U.length, 0, ()), x2)) (.need (decide (x4 ≤ x4)) (.ret (AV.c (IV.sl x4 36 (unEl x3))))))))
theorem step118_eq (x : T118) : (exec Tryz.prog (inlΓ Tryz.prog Γb118 (fun _ => false) 1010 2) noL 1010 (loopOf 0 (codeOf Tryz.f118)) (mkSt lp118.nIn (lp118.head x))).bind (lp118.fin 0 0) = step118 x.1.2.2.1 x.1.2.2.2.1 x.1.2.2.2.2.1 x.2 := by
 obtain ⟨⟨⟨⟩, ⟨⟩, U, n, i, ⟨⟩⟩, A⟩ := x
 kernel_rfl
theorem M118_eq (U : List Un) : execFn Tryz.prog (inlΓ Tryz.prog Γb118 (fun _ => false) 1010 2) L118 1010 Tryz.f118 [usA U] = M118 U := by kernel_rfl
theorem step118_in (U A : List Un) (i : Nat) (hl : i < U.length) (hn : A.length + 3 * U.length ≤ 10000) (Q : T118 ⊕ ((Unit × Unit) × List Un) → Prop) (hq : Q (.inl (((), (), U, (U.length : Nat), ((i + 1 : Nat) : Int), ()), A ++ atomsOf (U.getD i u0)))) :
  (step118 U (U.length : Nat) (i : Nat) A).sat Q := by
 have hw2 : IntKind.i64.wrap ((i : Int) + 1) = ((i + 1 : Nat) : Int) := by rw [wrap_i64 (by omega)]; omega
 have c2 : decide ((0 : Int) ≤ (i : Int) ∧ (i : Int) < (U.length : Int)) = true := decide_eq_true (by omega)
 have c4 : decide ((i : Int) < (U.length : Int)) = true := decide_eq_true (by omega)
 have d1 : decide (A.length + 1 ≤ 9223372036854775807) = true := decide_eq_true (by omega)
 have d2 : decide (A.length + 1 + 1 ≤ 9223372036854775807) = true := decide_eq_true (by omega)
 have d3 : decide (A.length + 1 + 1 + 1 ≤ 9223372036854775807) = true := decide_eq_true (by omega)
 have e1 : decide ((A.length + 1) * 408 ≤ 140737488355328) = true := decide_eq_true (by omega)
 have e2 : decide ((A.length + 1 + 1) * 408 ≤ 140737488355328) = true := decide_eq_true (by omega)
 have e3 : decide ((A.length + 1 + 1 + 1) * 408 ≤ 140737488355328) = true := decide_eq_true (by omega)
 generalize hu : U.getD i u0 = u at hq
 cases hoa : u.oa <;> cases hab : decide (u.a = u.b) <;> cases hob : u.ob
 all_goals
  simp only [atomsOf, hoa, hab, hob, cond_true, cond_false, List.nil_append, List.append_nil, List.cons_append] at hq
  simp only [step118, Int.toNat_natCast, hu]
  simp only [↓un_fold, ↓iv_fold, ↓ln_fold, ↓tm_fold, un_eta, iv_eta, take_un1, take_un2, take_iv1, take_iv2, tmV_cells, tmOk_cells, unV_cells, unOk_cells, ivV_lit, ivOk_lit, lineV_cells, lineOk_cells, unsOf_el, unsOk_units, sat_true, rev_fold, take_univ, unV_iv, unOk_iv, unsOf_join, unsOk_join, Bool.and_true, eq_self, decide_true, Nat.le_refl, hoa, hab, hob, hw2, c2, c4, d1, d2, d3, e1, e2, e3, Bool.not_true, Bool.not_false]
  repeat first
   | refine sat_need rfl ?_
   | refine sat_ite (fun h => Bool.noConfusion h) (fun _ => ?_)
   | refine sat_ite (fun _ => ?_) (fun h => Bool.noConfusion h)
  refine sat_ret ?_
  simpa only [List.append_assoc, List.cons_append, List.nil_append] using hq
theorem step118_end (U A : List Un) (Q : T118 ⊕ ((Unit × Unit) × List Un) → Prop) (hq : Q (.inr (((), ()), A))) (i : Int) (hi : ¬ i < (U.length : Nat)) : (step118 U (U.length : Nat) i A).sat Q := by
 have c4 : decide (i < (U.length : Int)) = false := decide_eq_false hi
 simp only [step118, ↓un_fold, ↓iv_fold, ↓ln_fold, ↓tm_fold, un_eta, iv_eta, take_un1, take_un2, take_iv1, take_iv2, tmV_cells, tmOk_cells, unV_cells, unOk_cells, ivV_lit, ivOk_lit, lineV_cells, lineOk_cells, unsOf_el, unsOk_units, sat_true, c4, eq_self, decide_true]
 repeat first
  | refine sat_need rfl ?_
  | refine sat_ite (fun h => Bool.noConfusion h) (fun _ => ?_)
  | refine sat_ite (fun _ => ?_) (fun h => Bool.noConfusion h)
 exact sat_ret hq
theorem runs118 (U : List Un) (Q : (Unit × Unit) × List Un → Prop) : ∀ (k i : Nat) (A : List Un), i + k = U.length → A.length + 3 * U.length ≤ 10000 + 3 * i → 3 * U.length ≤ 1000 → A.length ≤ 3 * i + 5000 → Q (((), ()), A ++ atomsU (U.drop i)) → RunsX (fun x : T118 => step118 x.1.2.2.1 x.1.2.2.2.1 x.1.2.2.2.2.1 x.2) Q (k + 1) (((), (), U, (U.length : Nat), (i : Nat), ()), A)
 | 0, i, A, he, h1, h2, h3, hq => by
   obtain rfl : i = U.length := by omega
   rw [List.drop_length] at hq
   refine step118_end U A _ ?_ ((U.length : Nat) : Int) (by omega)
   simpa [atomsU] using hq
 | k + 1, i, A, he, h1, h2, h3, hq => by
   have hl : i < U.length := by omega
   refine step118_in U A i hl (by omega) _ ?_
   have hu : U.getD i u0 = U[i] := by simp [List.getD_eq_getElem?_getD, hl]
   have hlen := atomsOf_len (U.getD i u0)
   refine runs118 U Q k (i + 1) _ (by omega) (by simp only [List.length_append]; omega) h2 (by simp only [List.length_append]; omega) ?_
   rw [List.drop_eq_getElem_cons hl] at hq
   simp only [atomsU, List.flatMap_cons] at hq ⊢
   rw [hu, List.append_assoc]
   exact hq
theorem f118_loops : BlocksOk Tryz.prog 0 L118 (codeOf Tryz.f118) := by
 refine blocksOk_of (d := fun id => Nat.beq id 0) (fun id => by unfold L118; cases Nat.beq id 0 <;> rfl) _ ?_
 have hb : blocksOf (fun id => Nat.beq id 0) (codeOf Tryz.f118) = [(0, .loop (loopOf 0 (codeOf Tryz.f118)))] := by kernel_rfl
 rw [hb]
 intro p hp g hg
 simp only [List.mem_singleton] at hp
 subst hp
 have hh : L118 0 = some ((lp118).g 0) := rfl
 rw [hh] at hg
 obtain rfl : g = (lp118).g 0 := (Option.some.inj hg).symm
 refine LoopSt.ok2 (N := 1010) prog_mixed (inlΓ_ok prog_mixed Γb118_ok 2) (L := noL) (blocksOk_none 0 _) lp118_good (fun x => step118_eq x) ?_
 rintro ⟨⟨⟨⟩, ⟨⟩, U, n, i, ⟨⟩⟩, A⟩ hx
 have hx : pre118 (((), (), U, n, i, ()), A) = true := hx
 simp only [pre118, Bool.and_eq_true, decide_eq_true_eq] at hx
 have h1 : n = (U.length : Nat) := hx.1
 have h2 : 0 ≤ i := hx.2.1
 have h3 : i ≤ (U.length : Nat) := hx.2.2.1
 have h4 : U.length ≤ 333 := hx.2.2.2.1
 have h5 : A.length ≤ 5000 := hx.2.2.2.2
 clear hx
 subst h1
 obtain ⟨i, rfl⟩ : ∃ m : Nat, i = m := ⟨i.toNat, by omega⟩
 exact ⟨_, runs118 U (· = lp118.res (((), (), U, (U.length : Nat), (i : Nat), ()), A)) (U.length - i) i A (by omega) (by omega) (by omega) (by omega) rfl⟩
theorem M118_sat (U : List Un) (h : U.length ≤ 333) : (M118 U).sat fun r => r = usA (atomsU U) := by
 have e0 : unsOf 0 (fun _ => ([] : List IV)) = [] := rfl
 have hp : pre118 (((), (), U, (U.length : Nat), 0, ()), []) = true := by
  simp only [pre118, decide_true, Bool.true_and, Bool.and_eq_true, decide_eq_true_eq, List.length_nil]
  omega
 have d0 : ∀ X : List Un, List.drop (Int.toNat 0) X = X := fun X => rfl
 simp only [M118, ↓un_fold, ↓iv_fold, ↓ln_fold, ↓tm_fold, un_eta, iv_eta, take_un1, take_un2, take_iv1, take_iv2, tmV_cells, tmOk_cells, unV_cells, unOk_cells, ivV_lit, ivOk_lit, lineV_cells, lineOk_cells, unsOf_el, unsOk_units, sat_true, e0, hp, d0, List.nil_append, Nat.le_refl, decide_true]
 repeat first
  | refine sat_need rfl ?_
  | refine sat_ite (fun h => Bool.noConfusion h) (fun _ => ?_)
  | refine sat_ite (fun _ => ?_) (fun h => Bool.noConfusion h)
 exact sat_ret rfl
def K118 : List AV → Option (AV × List Bool) := (F1 argUs).K (fun x => usA (atomsU x.1)) fun x => [decide (x.1.length ≤ 333)]
theorem f118_ok : PureOk Tryz.prog 118 K118 :=
 (F1 argUs).pureEq (N := 1010) (L := L118) prog_mixed (inlΓ_ok prog_mixed Γb118_ok 2) (fn := Tryz.f118) (c := codeOf Tryz.f118) (by kernel_rfl) (by kernel_rfl) (by kernel_rfl) f118_loops (fun _ => rfl) (M := fun x => M118 x.1) (fun x => M118_eq x.1)
  fun x h => M118_sat x.1 (dec (h (decide (x.1.length ≤ 333)) (by simp)))
end Go.Vse
set_option maxRecDepth 100000
namespace Go.Vse
open Go.Proofs
theorem Form.weaken {P : Program} {f : FuncId} {K : List AV → Option (AV × List Bool)} {X : Type} (F : Form X) {val : X → AV} {pre : X → List Bool} (h : PureOk P f K) (hv : ∀ x, Vse.noPtr (val x) = true)
  (hk : ∀ x, (∀ p ∈ pre x, p = true) → ∃ v cs, K (F.args x) = some (v, cs) ∧ (∀ p ∈ cs, p = true) ∧ v = val x) : PureOk P f (F.K val pre) where
 sound := by
  intro args v cs hK
  unfold Form.K at hK
  split at hK
  ·rename_i x ds hx
   simp only [Option.some.injEq, Prod.mk.injEq] at hK
   obtain ⟨rfl, rfl⟩ := hK
   refine ⟨hv x, fun A w vs hA hc hargs => ?_⟩
   have hs := F.ok args x ds hx fun p hp => hc p (by simp [hp])
   obtain ⟨v, cs, h1, h2, h3⟩ := hk x fun p hp => hc p (by simp [hp])
   have := (h.sound (F.args x) v cs h1).2 A w vs hA h2 (hs.rels hargs)
   rw [h3] at this
   exact this
  ·cases hK
theorem eqL_iff {x y : L4} : eqL x y = true ↔ x = y := by
 obtain ⟨a, b, c, d⟩ := x
 obtain ⟨a', b', c', d'⟩ := y
 simp only [eqL, Bool.and_eq_true, decide_eq_true_eq, L4.mk.injEq]
def tmB (t : Int) : Bool := decide (0 ≤ t) && decide (t ≤ 63)
theorem tm_tb {t : Int} (h : tmB t = true) : tbB ⟨(t : Rat), 0, false⟩ = true := by
 simp only [tmB, Bool.and_eq_true, decide_eq_true_eq] at h
 have : bndB 63 1 (t : Rat) = true := bndB_iff.2 ⟨by show t.natAbs ≤ 63; omega, Nat.le_refl _⟩
 simp only [tbB, this]
 simp
theorem tmB_sm {t : Int} (h : tmB t = true) : smB t = true := by
 simp only [tmB, Bool.and_eq_true, decide_eq_true_eq] at h
 exact smB_iff.2 (by omega)
theorem red0_self (p : Q3) (t : Rat) : red0 (subQ p p) ⟨t, 0, false⟩ = 0 := by
 unfold red0 subQ evalQ
 rw [Rat.sub_self, Rat.sub_self, Rat.sub_self, zmul, zadd, zmul, zadd]
 rfl
theorem red1_zero (q : Q3) (t : Rat) : red1 q ⟨t, 0, false⟩ = 0 := rfl
theorem sameQ_self (p : Q3) (t : Rat) : sameQ p p ⟨t, 0, false⟩ = true := by
 unfold sameQ
 rw [red0_self, red1_zero]
 rfl
abbrev F4 {X Y Z W : Type} (A : Arg X) (B : Arg Y) (C : Arg Z) (D : Arg W) : Form (X × Y × Z × W × Unit) := .cons A (.cons B (.cons C (.cons D .nil)))
def K393s : List AV → Option (AV × List Bool) := (F4 argUnit argLine argLine argTm).K (fun x => boolA true) fun x => [eqL x.2.1 x.2.2.1, lbB x.2.1, tmB x.2.2.2.1]
theorem f393s_ok : PureOk Tryz.prog 393 K393s :=
 Form.weaken _ f393_ok (fun _ => rfl) fun x h => by
  obtain ⟨⟨⟩, f, g, t, ⟨⟩⟩ := x
  have h1 : f = g := eqL_iff.1 (h (eqL f g) (by simp))
  have h2 : lbB f = true := h (lbB f) (by simp)
  have h3 := tm_tb (h (tmB t) (by simp))
  subst h1
  refine ⟨_, _, rfl, ?_, ?_⟩
  ·simp only [← tm_real, lineOk_cells, lineV_cells, h2, tm_real, realOk_cells, realV_cells, h3]
   simp
  ·simp only [lineV_cells, tm_real, realV_cells, sameQ_self]
   rfl
theorem red0_still {q : Q3} (h1 : q.c1 = 0) (h2 : q.c2 = 0) (t : Rat) : red0 q ⟨t, 0, false⟩ = q.c0 := by
 unfold red0 evalQ
 rw [h1, h2, zmul, zadd, zmul, zadd]
 rfl
def K392s : List AV → Option (AV × List Bool) := (F3 argUnit argLine argTm).K (fun x => lineA x.2.1) fun x => [decide (x.2.1.x1 = 0), decide (x.2.1.y1 = 0), lbB x.2.1, tmB x.2.2.1]
theorem f392s_ok : PureOk Tryz.prog 392 K392s :=
 Form.weaken _ f392_ok (fun _ => rfl) fun x h => by
  obtain ⟨⟨⟩, f, t, ⟨⟩⟩ := x
  have h1 : f.x1 = 0 := dec (h (decide (f.x1 = 0)) (by simp))
  have h2 : f.y1 = 0 := dec (h (decide (f.y1 = 0)) (by simp))
  have h3 : lbB f = true := h (lbB f) (by simp)
  have h4 := tm_tb (h (tmB t) (by simp))
  refine ⟨_, _, rfl, ?_, ?_⟩
  ·simp only [lineOk_cells, lineV_cells, h3, tm_real, realOk_cells, realV_cells, h4]
   simp
  ·simp only [lineV_cells, tm_real, realV_cells, hold_eq, red1_zero]
   rw [red0_still (q := xQ f) h1 rfl, red0_still (q := yQ f) h2 rfl]
   have e : (⟨(xQ f).c0, 0, (yQ f).c0, 0⟩ : L4) = f := by
    obtain ⟨a, b, c, d⟩ := f
    simp only at h1 h2
    subst h1
    subst h2
    rfl
   rw [e]
def K391s : List AV → Option (AV × List Bool) := (F3 argUnit argLine argLine).K (fun x => boolA (eqL x.2.1 x.2.2.1)) fun x => []
theorem f391s_ok : PureOk Tryz.prog 391 K391s :=
 Form.weaken _ f391_ok (fun _ => rfl) fun x h => by
  obtain ⟨⟨⟩, f, g, ⟨⟩⟩ := x
  refine ⟨_, _, rfl, ?_, ?_⟩
  ·simp only [lineOk_cells]
   simp
  ·simp only [lineV_cells]
end Go.Vse
