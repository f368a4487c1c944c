/- Helpers for the proof: no statement of its own. -/
import Derived.Test.YtpnbbgegfjefkaaGreatDoorUnB
set_option linter.unusedVariables false
set_option linter.unusedSimpArgs false
set_option linter.unnecessarySimpa false
set_option linter.deprecated false
set_option maxRecDepth 100000
namespace Go.Vse
open Go.Proofs
def Un.iv (u : Un) : Iv := ⟨u.a, u.b, u.oa, u.ob⟩
def argMs (b : Nat) : Arg Nat where
 get := fun a => match a with | .msl b' n 36 => bif Nat.beq b b' then some (n, []) else none | _ => none
 put := fun n => .msl b n 36
 ok := by
  intro a x cs h hc
  split at h
  ·rename_i b' n
   cases hb : Nat.beq b b' with
   | false => rw [hb] at h; cases h
   | true =>
    obtain rfl : b = b' := by simpa using hb
    rw [hb] at h
    simp only [cond_true, Option.some.injEq, Prod.mk.injEq] at h
    obtain ⟨rfl, _⟩ := h
    exact Sees.refl _
  ·cases h
def eArr : EForm (List Un) where
 parse := fun e => match e with | [some (.arr m 36 el 125)] => some (unsOf m el, [unsOk m el]) | _ => none
 ents := fun U => [some (.arr U.length 36 (unEl U) 125)]
 ok := by
  intro e x cs h hc
  split at h
  ·simp only [Option.some.injEq, Prod.mk.injEq] at h
   obtain ⟨rfl, rfl⟩ := h
   rename_i m el
   have := unsOk_el (n := m) (el := el) (hc _ (by simp))
   rw [unsOf_len]
   exact .cons (.arr _ _ _ _ _ this) .nil
  ·cases h
def Γn : FuncId → Option Spec := fun f => bif Nat.beq f 48 then some (pureSpec K48) else bif Nat.beq f 119 then some (pureSpec K119) else bif Nat.beq f 120 then some (pureSpec K120) else bif Nat.beq f 391 then some (pureSpec K391s) else bif Nat.beq f 392 then some (pureSpec K392s) else bif Nat.beq f 393 then some (pureSpec K393s) else bif Nat.beq f 117 then some (pureSpec K117) else bif Nat.beq f 118 then some (pureSpec K118) else none
abbrev T49a := Unit × List Un × Int × Int × Unit
abbrev F49a : Form T49a := .cons (argIface 85) (.cons argUs (.cons argInt (.cons argInt .nil)))
def apB (U : List Un) : Bool := (List.range (U.length - 1)).all fun k => apartB (U.getD k u0).iv (U.getD (k + 1) u0).iv
def pre49a (x : T49a) : Bool := apB x.2.1 && (allSm x.2.1 && (decide (x.2.2.1 = (x.2.1.length : Nat)) && (decide (0 ≤ x.2.2.2.1) && (decide (x.2.2.2.1 ≤ (x.2.1.length : Nat)) && decide (x.2.1.length ≤ 1000)))))
def lp49a : LoopSt T49a (Unit × List Un × Unit) := lpF { nt := 219, live := [0, 1, 17, 18] } { nt := 219, live := [0, 1] } (MForm.pure F49a) (MForm.pure (F2 (argIface 85) argUs)) (fun x => ((), x.2.1, ())) pre49a
theorem lp49a_good : lp49a.Good2 := lpF_good _ _ _ _ _ _
def eqU (u v : Un) : Bool := decide (u.a = v.a) && (decide (u.b = v.b) && (decide (u.oa = v.oa) && (decide (u.ob = v.ob) && eqL u.f v.f)))
theorem eqU_iff {u v : Un} : eqU u v = true ↔ u = v := by
 obtain ⟨a, b, c, d, e⟩ := u
 obtain ⟨a', b', c', d', e'⟩ := v
 simp only [eqU, Bool.and_eq_true, decide_eq_true_eq, eqL_iff, Un.mk.injEq]
def eqUs : List Un → List Un → Bool
 | [], [] => true
 | u :: l, v :: m => eqU u v && eqUs l m
 | _, _ => false
theorem eqUs_iff : ∀ {l m : List Un}, eqUs l m = true ↔ l = m
 | [], [] => by simp [eqUs]
 | [], _ :: _ => by simp [eqUs]
 | _ :: _, [] => by simp [eqUs]
 | u :: l, v :: m => by simp only [eqUs, Bool.and_eq_true, eqU_iff, eqUs_iff, List.cons.injEq]
abbrev T49b := (Unit × List Un × Nat × List Un × List Un × Int × Int × Unit) × List Un
abbrev F49b : Form (Unit × List Un × Nat × List Un × List Un × Int × Int × Unit) := .cons (argIface 85) (.cons argUs (.cons (argMs 0) (.cons argUs (.cons argUs (.cons argInt (.cons argInt .nil))))))
def pre49b (x : T49b) : Bool := rawOk x.1.2.1 && (decide (x.1.2.2.1 = 0) && (decide (x.2.length = 0) && (eqUs x.1.2.2.2.1 (atomsU x.1.2.1) && (eqUs x.1.2.2.2.2.1 (atomsU x.1.2.1) && (decide (x.1.2.2.2.2.2.1 = ((atomsU x.1.2.1).length : Nat)) && (decide (x.1.2.2.2.2.2.2.1 = 0) && decide (x.1.2.1.length ≤ 300)))))))
def lp49b : LoopSt T49b ((Nat × Unit) × List Un) := lpF { nt := 219, live := [0, 1, 7, 8, 41, 42, 43], lifts := [(7, 36, 125)] } { nt := 219, live := [7], lifts := [(7, 36, 125)] } (MForm.with eArr F49b) (MForm.with eArr (F1 (argMs 0))) (fun x => (((mergeU x.1.2.1).length, ()), mergeU x.1.2.1)) pre49b
theorem lp49b_good : lp49b.Good2 := lpF_good _ _ _ _ _ _
def L49 : Nat → Option (St → Tr (Ex × St)) := fun id => bif Nat.beq id 0 then some (lp49a.g 0) else bif Nat.beq id 2 then some (lp49b.g 0) else none
theorem Γn_ok : ∀ f s, Γn f = some s → SpecOk Tryz.prog f s := step_ok f48_ok.spec (step_ok f119_ok.spec (step_ok f120_ok.spec (step_ok f391s_ok.spec (step_ok f392s_ok.spec (step_ok f393s_ok.spec (step_ok f117_ok.spec (one_ok f118_ok.spec)))))))
def step49a (U : List Un) (n : Int) (i : Int) : Tr (T49a ⊕ Unit × List Un × Unit) :=
 let x1 : Bool := decide (i > 0)
 let x2 : Int := IntKind.i64.wrap (i - 1)
 let x3 : Int := ↑U.length
 let x4 : Int := (U.getD x2.toNat u0).a
 let x5 : Int := (U.getD x2.toNat u0).b
 let x6 : List AV := [.c (.v (.bool (decide (x4 < 0)))), .c (.v (.string ⟨⟨magB x4.natAbs⟩⟩)), .c (.v (.bool false)), .c (.v (.string ⟨⟨denB 1⟩⟩)), .c (.v (.bool false)), .c (.v (.string ⟨⟨[]⟩⟩)), .c (.v (.bool false)), .c (.v (.string ⟨⟨[]⟩⟩)), .c (.v (.bool false)), .c (.v (.bool (decide (x5 < 0)))), .c (.v (.string ⟨⟨magB x5.natAbs⟩⟩)), .c (.v (.bool false)), .c (.v (.string ⟨⟨denB 1⟩⟩)), .c (.v (.bool false)), .c (.v (.string ⟨⟨[]⟩⟩)), .c (.v (.bool false)), .c (.v (.string ⟨⟨[]⟩⟩)), .c (.v (.bool false)), .c (.v (.bool (U.getD x2.toNat u0).oa)), .c (.v (.bool (U.getD x2.toNat u0).ob))]
 let x7 : Int := (U.getD i.toNat u0).a
 let x8 : Int := (U.getD i.toNat u0).b
 let x9 : List AV := [.c (.v (.bool (decide (x7 < 0)))), .c (.v (.string ⟨⟨magB x7.natAbs⟩⟩)), .c (.v (.bool false)), .c (.v (.string ⟨⟨denB 1⟩⟩)), .c (.v (.bool false)), .c (.v (.string ⟨⟨[]⟩⟩)), .c (.v (.bool false)), .c (.v (.string ⟨⟨[]⟩⟩)), .c (.v (.bool false)), .c (.v (.bool (decide (x8 < 0)))), .c (.v (.string ⟨⟨magB x8.natAbs⟩⟩)), .c (.v (.bool false)), .c (.v (.string ⟨⟨denB 1⟩⟩)), .c (.v (.bool false)), .c (.v (.string ⟨⟨[]⟩⟩)), .c (.v (.bool false)), .c (.v (.string ⟨⟨[]⟩⟩)), .c (.v (.bool false)), .c (.v (.bool (U.getD i.toNat u0).oa)), .c (.v (.bool (U.getD i.toNat u0).ob))]
 let x10 : Bool := unsOk U.length (unEl U)
 let x11 : List Un := unsOf U.length (unEl U)
 .ite (decide (i < n)) (.need (bif x1 then decide (0 ≤ x2 ∧ x2 < x3) && (decide (0 ≤ i ∧ i < x3) && (ivOk x6 && (ivOk x9 && (smB (tmV (List.take 9 (List.drop 9 x6))) && (smB (tmV (List.take 9 x9)) && true))))) else true) (.ite (bif x1 then bif true then !apartB (ivV x6) (ivV x9) else false else false) (.fail "out") (.need x10 (.ret (Sum.inl ((), x11, n, IntKind.i64.wrap (i + 1), ())))))) (.need x10 (.ret (Sum.inr ((), x11, ()))))
def step49b (U : List Un) (m : Nat) (A : List Un) (B : List Un) (n : Int) (i : Int) (O : List Un) : Tr (T49b ⊕ (Nat × Unit) × List Un) :=
 let x1 : Int := ↑B.length
 let x2 : Int := ↑m
 let x3 : Bool := decide (x2 > 0)
 let x4 : Int := IntKind.i64.wrap (x2 - 1)
 let x5 : Bool := decide (0 ≤ x4 ∧ x4 < x2)
 let x6 : Nat := x4.toNat
 let x7 : Bool := decide (x6 < O.length)
 let x8 : Bool := false == false
 let x9 : List Bool := [x8]
 let x10 : Bool := andAll ((([] : List UInt8) == []) :: x9).reverse
 let x11 : Bool := andAll [x10, x10].reverse
 let x12 : List UInt8 := denB 1
 let x13 : Bool := andAll ((x12 == x12) :: x9).reverse
 let x14 : Int := (O.getD x6 u0).b
 let x15 : List UInt8 := magB x14.natAbs
 let x16 : Int := (B.getD i.toNat u0).a
 let x17 : List UInt8 := magB x16.natAbs
 let x18 : Bool := decide (x14 < 0)
 let x19 : Bool := decide (x16 < 0)
 let x20 : Bool := bif true then andAll [x8, x11, andAll [x13, andAll [x15 == x17, x18 == x19].reverse].reverse].reverse else false
 let x21 : Int := (O.getD x6 u0).a
 let x22 : IV := IV.v (Value.string ⟨⟨x12⟩⟩)
 let x23 : IV := IV.v (Value.string ⟨⟨[]⟩⟩)
 let x24 : Bool := (O.getD x6 u0).ob
 let x25 : List AV := [.c (.v (.bool (decide (x21 < 0)))), .c (.v (.string ⟨⟨magB x21.natAbs⟩⟩)), .c (.v (.bool false)), AV.c x22, .c (.v (.bool false)), AV.c x23, .c (.v (.bool false)), AV.c x23, .c (.v (.bool false)), .c (.v (.bool x18)), .c (.v (.string ⟨⟨x15⟩⟩)), .c (.v (.bool false)), AV.c x22, .c (.v (.bool false)), AV.c x23, .c (.v (.bool false)), AV.c x23, .c (.v (.bool false)), .c (.v (.bool (O.getD x6 u0).oa)), .c (.v (.bool x24))]
 let x26 : Bool := x5 && (x7 && (ivOk x25 && true))
 let x27 : Int := tmV (List.take 9 x25)
 let x28 : Int := tmV (List.take 9 (List.drop 9 x25))
 let x29 : Bool := bif true then !decide (x27 = x28) else false
 let x30 : IV := IV.v (Value.bool x19)
 let x31 : IV := IV.v (Value.string ⟨⟨x17⟩⟩)
 let x32 : Int := (B.getD i.toNat u0).b
 let x33 : IV := IV.v (Value.bool (decide (x32 < 0)))
 let x34 : IV := IV.v (Value.string ⟨⟨magB x32.natAbs⟩⟩)
 let x35 : IV := IV.v (Value.bool (B.getD i.toNat u0).oa)
 let x36 : IV := IV.v (Value.bool (B.getD i.toNat u0).ob)
 let x37 : List AV := [AV.c x30, AV.c x31, .c (.v (.bool false)), AV.c x22, .c (.v (.bool false)), AV.c x23, .c (.v (.bool false)), AV.c x23, .c (.v (.bool false)), AV.c x33, AV.c x34, .c (.v (.bool false)), AV.c x22, .c (.v (.bool false)), AV.c x23, .c (.v (.bool false)), AV.c x23, .c (.v (.bool false)), AV.c x35, AV.c x36]
 let x38 : Bool := ivOk x37
 let x39 : Int := tmV (List.take 9 x37)
 let x40 : Int := tmV (List.take 9 (List.drop 9 x37))
 let x41 : Bool := !decide (x39 = x40)
 let x42 : Bool := bif true then !x24 else false
 let x43 : Int := (O.getD x6 u0).f.x0.num
 let x44 : Int := (O.getD x6 u0).f.x1.num
 let x45 : Int := (O.getD x6 u0).f.y0.num
 let x46 : Int := (O.getD x6 u0).f.y1.num
 let x47 : List AV := [.c (.v (.bool (decide (x43 < 0)))), .c (.v (.string ⟨⟨magB x43.natAbs⟩⟩)), .c (.v (.bool false)), .c (.v (.string ⟨⟨denB (O.getD x6 u0).f.x0.den⟩⟩)), .c (.v (.bool (decide (x44 < 0)))), .c (.v (.string ⟨⟨magB x44.natAbs⟩⟩)), .c (.v (.bool false)), .c (.v (.string ⟨⟨denB (O.getD x6 u0).f.x1.den⟩⟩)), .c (.v (.bool (decide (x45 < 0)))), .c (.v (.string ⟨⟨magB x45.natAbs⟩⟩)), .c (.v (.bool false)), .c (.v (.string ⟨⟨denB (O.getD x6 u0).f.y0.den⟩⟩)), .c (.v (.bool (decide (x46 < 0)))), .c (.v (.string ⟨⟨magB x46.natAbs⟩⟩)), .c (.v (.bool false)), .c (.v (.string ⟨⟨denB (O.getD x6 u0).f.y1.den⟩⟩))]
 let x48 : Bool := lineOk x47
 let x49 : Int := (B.getD i.toNat u0).f.x0.num
 let x50 : IV := IV.v (Value.bool (decide (x49 < 0)))
 let x51 : IV := IV.v (Value.string ⟨⟨magB x49.natAbs⟩⟩)
 let x52 : IV := IV.v (Value.string ⟨⟨denB (B.getD i.toNat u0).f.x0.den⟩⟩)
 let x53 : Int := (B.getD i.toNat u0).f.x1.num
 let x54 : IV := IV.v (Value.bool (decide (x53 < 0)))
 let x55 : IV := IV.v (Value.string ⟨⟨magB x53.natAbs⟩⟩)
 let x56 : IV := IV.v (Value.string ⟨⟨denB (B.getD i.toNat u0).f.x1.den⟩⟩)
 let x57 : Int := (B.getD i.toNat u0).f.y0.num
 let x58 : IV := IV.v (Value.bool (decide (x57 < 0)))
 let x59 : IV := IV.v (Value.string ⟨⟨magB x57.natAbs⟩⟩)
 let x60 : IV := IV.v (Value.string ⟨⟨denB (B.getD i.toNat u0).f.y0.den⟩⟩)
 let x61 : Int := (B.getD i.toNat u0).f.y1.num
 let x62 : IV := IV.v (Value.bool (decide (x61 < 0)))
 let x63 : IV := IV.v (Value.string ⟨⟨magB x61.natAbs⟩⟩)
 let x64 : IV := IV.v (Value.string ⟨⟨denB (B.getD i.toNat u0).f.y1.den⟩⟩)
 let x65 : List AV := [AV.c x62, AV.c x63, .c (.v (.bool false)), AV.c x64]
 let x66 : List AV := AV.c x50 :: AV.c x51 :: .c (.v (.bool false)) :: AV.c x52 :: AV.c x54 :: AV.c x55 :: .c (.v (.bool false)) :: AV.c x56 :: AV.c x58 :: AV.c x59 :: .c (.v (.bool false)) :: AV.c x60 :: x65
 let x67 : Bool := lineOk x66
 let x68 : Bool := x7 && (x48 && (x67 && true))
 let x69 : Bool := eqL (lineV x47) (lineV x66)
 let x70 : Bool := bif true then x69 else false
 let x71 : Bool := unsOk U.length (unEl U)
 let x72 : Bool := unsOk A.length (unEl A)
 let x73 : Bool := unsOk B.length (unEl B)
 let x74 : Nat := 0 + 0
 let x75 : Nat := x74 + 19
 let x76 : List Un := unsOf U.length (unEl U)
 let x77 : Int := IntKind.i64.wrap (i + 1)
 let x78 : Bool := decide (i > 0)
 let x79 : Int := IntKind.i64.wrap (i - 1)
 let x80 : Int := ↑A.length
 let x81 : Bool := decide (0 ≤ x79 ∧ x79 < x80)
 let x82 : Int := (A.getD x79.toNat u0).a
 let x83 : Bool := decide (x82 < 0)
 let x84 : List UInt8 := magB x82.natAbs
 let x85 : Int := (A.getD x79.toNat u0).b
 let x86 : List AV := [.c (.v (.bool x83)), .c (.v (.string ⟨⟨x84⟩⟩)), .c (.v (.bool false)), AV.c x22, .c (.v (.bool false)), AV.c x23, .c (.v (.bool false)), AV.c x23, .c (.v (.bool false)), .c (.v (.bool (decide (x85 < 0)))), .c (.v (.string ⟨⟨magB x85.natAbs⟩⟩)), .c (.v (.bool false)), AV.c x22, .c (.v (.bool false)), AV.c x23, .c (.v (.bool false)), AV.c x23, .c (.v (.bool false)), .c (.v (.bool (A.getD x79.toNat u0).oa)), .c (.v (.bool (A.getD x79.toNat u0).ob))]
 let x87 : Int := tmV (List.take 9 x86)
 let x88 : Int := tmV (List.take 9 (List.drop 9 x86))
 let x89 : Bool := bif true then decide (x87 = x88) else false
 let x90 : Bool := bif true then andAll [x8, x11, andAll [x13, andAll [x84 == x17, x83 == x19].reverse].reverse].reverse else false
 let x91 : Bool := decide (m ≤ O.length)
 let x92 : List AV := [AV.c x30, AV.c x31, .c (.v (.bool false)), AV.c x22, .c (.v (.bool false)), AV.c x23, .c (.v (.bool false)), AV.c x23, .c (.v (.bool false))]
 let x93 : Bool := tmOk x92
 let x94 : List Un := unsOf m (unEl O)
 let x95 : Bool := x91 && (unsOk m (unEl O) && (x93 && (decide (x94.length ≤ 1000) && true)))
 let x96 : Bool := x81 && bif x90 then x95 else true
 let x97 : Bool := bif false then x95 else true
 let x98 : Int := tmV x92
 let x99 : Bool := bif true then !heldB x94 x98 else false
 let x100 : Bool := bif x90 then x99 else false
 let x101 : Bool := bif false then x99 else false
 let x102 : Nat := m + 1
 let x103 : Bool := decide (x102 ≤ 9223372036854775807)
 let x104 : Nat := x102 * 408
 let x105 : Bool := decide (x104 ≤ 140737488355328)
 let x106 : Nat := 35 + 1
 let x107 : List IV := [IV.v (Value.bool false), x23, IV.v (Value.bool false), x23, IV.v (Value.bool false), x22, IV.v (Value.bool false), x34, x33, IV.v (Value.bool false), x23, IV.v (Value.bool false), x23, IV.v (Value.bool false), x22, IV.v (Value.bool false), x31, x30]
 let x108 : List IV := x36 :: x35 :: x107
 let x109 : Bool := tmB x98
 let x110 : Bool := x109 && true
 let x111 : Bool := decide (x77 < x80)
 let x112 : Bool := decide (0 ≤ x77 ∧ x77 < x80)
 let x113 : Int := (A.getD x77.toNat u0).a
 let x114 : Bool := bif true then andAll [x8, x11, andAll [x13, andAll [magB x113.natAbs == x17, decide (x113 < 0) == x19].reverse].reverse].reverse else false
 let x115 : Int := (A.getD x77.toNat u0).f.x0.num
 let x116 : Int := (A.getD x77.toNat u0).f.x1.num
 let x117 : Int := (A.getD x77.toNat u0).f.y0.num
 let x118 : Int := (A.getD x77.toNat u0).f.y1.num
 let x119 : List AV := [.c (.v (.bool (decide (x115 < 0)))), .c (.v (.string ⟨⟨magB x115.natAbs⟩⟩)), .c (.v (.bool false)), .c (.v (.string ⟨⟨denB (A.getD x77.toNat u0).f.x0.den⟩⟩)), .c (.v (.bool (decide (x116 < 0)))), .c (.v (.string ⟨⟨magB x116.natAbs⟩⟩)), .c (.v (.bool false)), .c (.v (.string ⟨⟨denB (A.getD x77.toNat u0).f.x1.den⟩⟩)), .c (.v (.bool (decide (x117 < 0)))), .c (.v (.string ⟨⟨magB x117.natAbs⟩⟩)), .c (.v (.bool false)), .c (.v (.string ⟨⟨denB (A.getD x77.toNat u0).f.y0.den⟩⟩)), .c (.v (.bool (decide (x118 < 0)))), .c (.v (.string ⟨⟨magB x118.natAbs⟩⟩)), .c (.v (.bool false)), .c (.v (.string ⟨⟨denB (A.getD x77.toNat u0).f.y1.den⟩⟩))]
 let x120 : Bool := x112 && (lineOk x119 && (x67 && (x93 && (eqL (lineV x119) (lineV x66) && (lbB (lineV x119) && x110)))))
 let x121 : Bool := bif true then true else false
 let x122 : Bool := unsOk O.length (unEl O)
 let x123 : List Un := unsOf O.length (unEl O)
 let x124 : Int := (ratV x65).num
 let x125 : Int := (ratV [AV.c x58, AV.c x59, .c (.v (.bool false)), AV.c x60]).num
 let x126 : Int := (ratV [AV.c x54, AV.c x55, .c (.v (.bool false)), AV.c x56]).num
 let x127 : Int := (ratV [AV.c x50, AV.c x51, .c (.v (.bool false)), AV.c x52]).num
 .ite (decide (i < n)) (.need (decide (0 ≤ i ∧ i < x1)) (.need (bif x3 then x5 && (x7 && bif x20 then x26 else true) else bif false then x26 else true) (.ite (bif x3 then bif x20 then x29 else false else bif false then x29 else false) (.need x5 (.need x38 (.ite x41 (.need (bif !false then x7 && bif x42 then x68 else true else bif false then x68 else true) (.ite (bif !false then bif x42 then x70 else false else bif false then x70 else false) (.need x7 (.need x7 (.need x71 (.need x72 (.need x73 (.need (unsOk O.length (spliceE (spliceE (unEl O) x6 (x74 + 9) [IV.v (Value.bool false), x23, IV.v (Value.bool false), x23, IV.v (Value.bool false), x22, IV.v (Value.bool false), x34, x33].reverse) x6 x75 [IV.v (Value.bool true)].reverse)) (.ret (Sum.inl (((), x76, m, unsOf A.length (unEl A), unsOf B.length (unEl B), n, x77, ()), unsOf O.length (spliceE (spliceE (unEl O) x6 (x74 + 9) [IV.v (Value.bool false), x23, IV.v (Value.bool false), x23, IV.v (Value.bool false), x22, IV.v (Value.bool false), x34, x33].reverse) x6 x75 [IV.v (Value.bool true)].reverse)))))))))) (.need (bif x78 then x81 && (ivOk x86 && bif x89 then x96 else x97) else bif false then x96 else x97) (.ite (bif x78 then bif x89 then x100 else x101 else bif false then x100 else x101) (.need x91 (.need true (.need x103 (.need x105 (.need x71 (.need x72 (.need x73 (.need (unsOk x102 (joinE m (unEl O) fun k => List.take x106 (List.drop (k * x106) (x64 :: IV.v (Value.bool false) :: x63 :: x62 :: x60 :: IV.v (Value.bool false) :: x59 :: x58 :: x56 :: IV.v (Value.bool false) :: x55 :: x54 :: x52 :: IV.v (Value.bool false) :: x51 :: x50 :: x36 :: IV.v (Value.bool false) :: x107).reverse))) (.ret (Sum.inl (((), x76, x102, unsOf A.length (unEl A), unsOf B.length (unEl B), n, x77, ()), unsOf x102 (joinE m (unEl O) fun k => List.take x106 (List.drop (k * x106) (x64 :: IV.v (Value.bool false) :: x63 :: x62 :: x60 :: IV.v (Value.bool false) :: x59 :: x58 :: x56 :: IV.v (Value.bool false) :: x55 :: x54 :: x52 :: IV.v (Value.bool false) :: x51 :: x50 :: x36 :: IV.v (Value.bool false) :: x107).reverse))))))))))))) (.need x91 (.need true (.need x103 (.need x105 (.need x71 (.need x72 (.need x73 (.need (unsOk x102 (joinE m (unEl O) fun k => List.take x106 (List.drop (k * x106) (x64 :: IV.v (Value.bool false) :: x63 :: x62 :: x60 :: IV.v (Value.bool false) :: x59 :: x58 :: x56 :: IV.v (Value.bool false) :: x55 :: x54 :: x52 :: IV.v (Value.bool false) :: x51 :: x50 :: x108).reverse))) (.ret (Sum.inl (((), x76, x102, unsOf A.length (unEl A), unsOf B.length (unEl B), n, x77, ()), unsOf x102 (joinE m (unEl O) fun k => List.take x106 (List.drop (k * x106) (x64 :: IV.v (Value.bool false) :: x63 :: x62 :: x60 :: IV.v (Value.bool false) :: x59 :: x58 :: x56 :: IV.v (Value.bool false) :: x55 :: x54 :: x52 :: IV.v (Value.bool false) :: x51 :: x50 :: x108).reverse))))))))))))))))) (.need (bif !false then x7 && (x48 && (x67 && (x93 && (x69 && (lbB (lineV x47) && x110))))) else true) (.ite true (.need x7 (.need x71 (.need x72 (.need x73 (.need (unsOk O.length (spliceE (unEl O) x6 x75 [IV.v (Value.bool false)].reverse)) (.ret (Sum.inl (((), x76, m, unsOf A.length (unEl A), unsOf B.length (unEl B), n, x77, ()), unsOf O.length (spliceE (unEl O) x6 x75 [IV.v (Value.bool false)].reverse))))))))) (.need (bif x111 then x112 && bif x114 then x120 else true else bif false then x120 else true) (.ite (bif x111 then bif x114 then x121 else false else bif false then x121 else false) (.need x71 (.need x72 (.need x73 (.need x122 (.ret (Sum.inl (((), x76, m, unsOf A.length (unEl A), unsOf B.length (unEl B), n, x77, ()), x123))))))) (.need x67 (.need x93 (.need (decide (ratV [AV.c x54, AV.c x55, .c (.v (.bool false)), AV.c x56] = 0)) (.need (decide (ratV x65 = 0)) (.need (lbB (lineV x66)) (.need x109 (.need x91 (.need true (.need x103 (.need x105 (.need x71 (.need x72 (.need x73 (.need (unsOk x102 (joinE m (unEl O) fun k => List.take x106 (List.drop (k * x106) (IV.v (Value.string ⟨⟨denB (ratV x65).den⟩⟩) :: IV.v (Value.bool false) :: IV.v (Value.string ⟨⟨magB x124.natAbs⟩⟩) :: IV.v (Value.bool (decide (x124 < 0))) :: IV.v (Value.string ⟨⟨denB (ratV [AV.c x58, AV.c x59, .c (.v (.bool false)), AV.c x60]).den⟩⟩) :: IV.v (Value.bool false) :: IV.v (Value.string ⟨⟨magB x125.natAbs⟩⟩) :: IV.v (Value.bool (decide (x125 < 0))) :: IV.v (Value.string ⟨⟨denB (ratV [AV.c x54, AV.c x55, .c (.v (.bool false)), AV.c x56]).den⟩⟩) :: IV.v (Value.bool false) :: IV.v (Value.string ⟨⟨magB x126.natAbs⟩⟩) :: IV.v (Value.bool (decide (x126 < 0))) :: IV.v (Value.string ⟨⟨denB (ratV [AV.c x50, AV.c x51, .c (.v (.bool false)), AV.c x52]).den⟩⟩) :: IV.v (Value.bool false) :: IV.v (Value.string ⟨⟨magB x127.natAbs⟩⟩) :: IV.v (Value.bool (decide (x127 < 0))) :: x108).reverse))) (.ret (Sum.inl (((), x76, x102, unsOf A.length (unEl A), unsOf B.length (unEl B), n, x77, ()), unsOf x102 (joinE m (unEl O) fun k => List.take x106 (List.drop (k * x106) (IV.v (Value.string ⟨⟨denB (ratV x65).den⟩⟩) :: IV.v (Value.bool false) :: IV.v (Value.string ⟨⟨magB x124.natAbs⟩⟩) :: IV.v (Value.bool (decide (x124 < 0))) :: IV.v (Value.string ⟨⟨denB (ratV [AV.c x58, AV.c x59, .c (.v (.bool false)), AV.c x60]).den⟩⟩) :: IV.v (Value.bool false) :: IV.v (Value.string ⟨⟨magB x125.natAbs⟩⟩) :: IV.v (Value.bool (decide (x125 < 0))) :: IV.v (Value.string ⟨⟨denB (ratV [AV.c x54, AV.c x55, .c (.v (.bool false)), AV.c x56]).den⟩⟩) :: IV.v (Value.bool false) :: IV.v (Value.string ⟨⟨magB x126.natAbs⟩⟩) :: IV.v (Value.bool (decide (x126 < 0))) :: IV.v (Value.string ⟨⟨denB (ratV [AV.c x50, AV.c x51, .c (.v (.bool false)), AV.c x52]).den⟩⟩) :: IV.v (Value.bool false) :: IV.v (Value.string ⟨⟨magB x127.natAbs⟩⟩) :: IV.v (Value.bool (decide (x127 < 0))) :: x108).reverse)))))))))))))))))))))))))) (.need x38 (.ite x41 (.ite false (.fail "pieces.go:171") (.ite false (.fail "pieces.go:171") (.ite false (.fail "pieces.go:172") (.need (bif x78 then x81 && (ivOk x86 && bif x89 then x96 else x97) else bif false then x96 else x97) (.ite (bif x78 then bif x89 then x100 else x101 else bif false then x100 else x101) (.need x91 (.need true (.need x103 (.need x105 (.need x71 (.need x72 (.need x73 (.need (unsOk x102 (joinE m (unEl O) fun k => List.take x106 (List.drop (k * x106) (x64 :: IV.v (Value.bool false) :: x63 :: x62 :: x60 :: IV.v (Value.bool false) :: x59 :: x58 :: x56 :: IV.v (Value.bool false) :: x55 :: x54 :: x52 :: IV.v (Value.bool false) :: x51 :: x50 :: x36 :: IV.v (Value.bool false) :: x107).reverse))) (.ret (Sum.inl (((), x76, x102, unsOf A.length (unEl A), unsOf B.length (unEl B), n, x77, ()), unsOf x102 (joinE m (unEl O) fun k => List.take x106 (List.drop (k * x106) (x64 :: IV.v (Value.bool false) :: x63 :: x62 :: x60 :: IV.v (Value.bool false) :: x59 :: x58 :: x56 :: IV.v (Value.bool false) :: x55 :: x54 :: x52 :: IV.v (Value.bool false) :: x51 :: x50 :: x36 :: IV.v (Value.bool false) :: x107).reverse))))))))))))) (.need x91 (.need true (.need x103 (.need x105 (.need x71 (.need x72 (.need x73 (.need (unsOk x102 (joinE m (unEl O) fun k => List.take x106 (List.drop (k * x106) (x64 :: IV.v (Value.bool false) :: x63 :: x62 :: x60 :: IV.v (Value.bool false) :: x59 :: x58 :: x56 :: IV.v (Value.bool false) :: x55 :: x54 :: x52 :: IV.v (Value.bool false) :: x51 :: x50 :: x108).reverse))) (.ret (Sum.inl (((), x76, x102, unsOf A.length (unEl A), unsOf B.length (unEl B), n, x77, ()), unsOf x102 (joinE m (unEl O) fun k => List.take x106 (List.drop (k * x106) (x64 :: IV.v (Value.bool false) :: x63 :: x62 :: x60 :: IV.v (Value.bool false) :: x59 :: x58 :: x56 :: IV.v (Value.bool false) :: x55 :: x54 :: x52 :: IV.v (Value.bool false) :: x51 :: x50 :: x108).reverse)))))))))))))))))) (.ite false (.fail "pieces.go:180") (.ite false (.fail "pieces.go:181") (.need (bif x111 then x112 && bif x114 then x120 else true else bif false then x120 else true) (.ite (bif x111 then bif x114 then x121 else false else bif false then x121 else false) (.need x71 (.need x72 (.need x73 (.need x122 (.ret (Sum.inl (((), x76, m, unsOf A.length (unEl A), unsOf B.length (unEl B), n, x77, ()), x123))))))) (.need x67 (.need x93 (.need (decide (ratV [AV.c x54, AV.c x55, .c (.v (.bool false)), AV.c x56] = 0)) (.need (decide (ratV x65 = 0)) (.need (lbB (lineV x66)) (.need x109 (.need x91 (.need true (.need x103 (.need x105 (.need x71 (.need x72 (.need x73 (.need (unsOk x102 (joinE m (unEl O) fun k => List.take x106 (List.drop (k * x106) (IV.v (Value.string ⟨⟨denB (ratV x65).den⟩⟩) :: IV.v (Value.bool false) :: IV.v (Value.string ⟨⟨magB x124.natAbs⟩⟩) :: IV.v (Value.bool (decide (x124 < 0))) :: IV.v (Value.string ⟨⟨denB (ratV [AV.c x58, AV.c x59, .c (.v (.bool false)), AV.c x60]).den⟩⟩) :: IV.v (Value.bool false) :: IV.v (Value.string ⟨⟨magB x125.natAbs⟩⟩) :: IV.v (Value.bool (decide (x125 < 0))) :: IV.v (Value.string ⟨⟨denB (ratV [AV.c x54, AV.c x55, .c (.v (.bool false)), AV.c x56]).den⟩⟩) :: IV.v (Value.bool false) :: IV.v (Value.string ⟨⟨magB x126.natAbs⟩⟩) :: IV.v (Value.bool (decide (x126 < 0))) :: IV.v (Value.string ⟨⟨denB (ratV [AV.c x50, AV.c x51, .c (.v (.bool false)), AV.c x52]).den⟩⟩) :: IV.v (Value.bool false) :: IV.v (Value.string ⟨⟨magB x127.natAbs⟩⟩) :: IV.v (Value.bool (decide (x127 < 0))) :: x108).reverse))) (.ret (Sum.inl (((), x76, x102, unsOf A.length (unEl A), unsOf B.length (unEl B), n, x77, ()), unsOf x102 (joinE m (unEl O) fun k => List.take x106 (List.drop (k * x106) (IV.v (Value.string ⟨⟨denB (ratV x65).den⟩⟩) :: IV.v (Value.bool false) :: IV.v (Value.string ⟨⟨magB x124.natAbs⟩⟩) :: IV.v (Value.bool (decide (x124 < 0))) :: IV.v (Value.string ⟨⟨denB (ratV [AV.c x58, AV.c x59, .c (.v (.bool false)), AV.c x60]).den⟩⟩) :: IV.v (Value.bool false) :: IV.v (Value.string ⟨⟨magB x125.natAbs⟩⟩) :: IV.v (Value.bool (decide (x125 < 0))) :: IV.v (Value.string ⟨⟨denB (ratV [AV.c x54, AV.c x55, .c (.v (.bool false)), AV.c x56]).den⟩⟩) :: IV.v (Value.bool false) :: IV.v (Value.string ⟨⟨magB x126.natAbs⟩⟩) :: IV.v (Value.bool (decide (x126 < 0))) :: IV.v (Value.string ⟨⟨denB (ratV [AV.c x50, AV.c x51, .c (.v (.bool false)), AV.c x52]).den⟩⟩) :: IV.v (Value.bool false) :: IV.v (Value.string ⟨⟨magB x127.natAbs⟩⟩) :: IV.v (Value.bool (decide (x127 < 0))) :: x108).reverse)))))))))))))))))))))))))))) (.need x122 (.ret (Sum.inr ((m, ()), x123))))
def M49 (U : List Un) : Tr AV :=
 let x1 : List Un := unsOf U.length (unEl U)
 let x2 : Nat := x1.length
 let x3 : List Un := unsOf x2 (unEl x1)
 let x4 : Nat := x3.length
 let x5 : Bool := unsOk x4 (unEl x3)
 let x6 : List Un := unsOf x4 (unEl x3)
 let x7 : Nat := x6.length
 let x8 : List Un := atomsU x6
 let x9 : Nat := x8.length
 let x10 : Bool := unsOk x9 (unEl x8)
 let x11 : List Un := unsOf x9 (unEl x8)
 let x12 : List Un := mergeU x6
 let x13 : Nat := x12.length
 .need (unsOk U.length (unEl U)) (.need (srtB x1) (.need (allSm x1) (.need (decide (1 ≤ x2)) (.need (decide (x2 ≤ 19)) (.need (unsOk x2 (unEl x1)) (.need (pre49a ((), x3, ↑x2, 0, ())) (.need x5 (.need (decide (x7 ≤ 333)) (.need x5 (.need x10 (.need x10 (.need true (.need (pre49b (((), x6, 0, x11, x11, ↑x9, 0, ()), unsOf 0 fun x => [])) (.need (decide (x13 ≤ x13)) (.ret (AV.tup [AV.c (IV.sl x13 36 (unEl x12)), .c (.v (.int IntKind.i64 0))]))))))))))))))))
theorem step49a_eq (x : T49a) : (exec Tryz.prog Γn noL 1010 (loopOf 0 (codeOf Tryz.f49)) (mkSt lp49a.nIn (lp49a.head x))).bind (lp49a.fin 0 0) = step49a x.2.1 x.2.2.1 x.2.2.2.1 := by
 obtain ⟨⟨⟩, U, n, i, ⟨⟩⟩ := x
 kernel_rfl
theorem step49b_eq (x : T49b) : (exec Tryz.prog Γn noL 1010 (loopOf 2 (codeOf Tryz.f49)) (mkSt lp49b.nIn (lp49b.head x))).bind (lp49b.fin 0 2) = step49b x.1.2.1 x.1.2.2.1 x.1.2.2.2.1 x.1.2.2.2.2.1 x.1.2.2.2.2.2.1 x.1.2.2.2.2.2.2.1 x.2 := by
 obtain ⟨⟨⟨⟩, U, m, A, B, n, i, ⟨⟩⟩, O⟩ := x
 kernel_rfl
theorem M49_eq (U : List Un) : execFn Tryz.prog Γn L49 1010 Tryz.f49 [.c (.v (.iface 85 (.agg #[]))), usA U] = M49 U := by kernel_rfl
end Go.Vse
