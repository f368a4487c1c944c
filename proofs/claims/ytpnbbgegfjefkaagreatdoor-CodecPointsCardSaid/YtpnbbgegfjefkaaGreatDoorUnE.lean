/- Helpers for the proof: no statement of its own. -/
import Derived.Test.YtpnbbgegfjefkaaGreatDoorUnD
set_option linter.unusedVariables false
set_option linter.unusedSimpArgs false
set_option linter.unnecessarySimpa false
set_option linter.deprecated false
set_option maxRecDepth 100000
namespace Go.Vse
open Go.Proofs
def eArrT (t : Nat) : EForm (List Un) where
 parse := fun e => match e with | [some (.arr m 36 el t')] => bif Nat.beq t t' then some (unsOf m el, [unsOk m el]) else none | _ => none
 ents := fun U => [some (.arr U.length 36 (unEl U) t)]
 ok := by
  intro e x cs h hc
  split at h
  ·rename_i m el t'
   cases hb : Nat.beq t t' with
   | false => rw [hb] at h; cases h
   | true =>
    obtain rfl : t = t' := by simpa using hb
    rw [hb] at h
    simp only [cond_true, Option.some.injEq, Prod.mk.injEq] at h
    obtain ⟨rfl, rfl⟩ := h
    have := unsOk_el (n := m) (el := el) (hc _ (by simp))
    rw [unsOf_len]
    exact .cons (.arr _ _ _ _ _ this) .nil
  ·cases h
abbrev T106 := (List Un × Nat × Int × Unit) × List Un
abbrev F106 : Form (List Un × Nat × Int × Unit) := .cons argUs (.cons (argMs 0) (.cons argInt .nil))
def pre106 (x : T106) : Bool := decide (x.1.2.1 = x.2.length) && (decide (0 ≤ x.1.2.2.1) && (decide (x.1.2.2.1 ≤ (x.1.1.length : Nat)) && (decide (x.1.1.length ≤ 1000) && decide (x.2.length ≤ 1000))))
def lp106 (t : Nat) : LoopSt T106 ((Nat × Unit) × List Un) := lpF { nt := 26, live := [0, 3, 4], lifts := [(3, 36, t)] } { nt := 26, live := [3], lifts := [(3, 36, t)] } (MForm.with (eArrT t) F106) (MForm.with (eArrT t) (F1 (argMs 0))) (fun x => (((x.2 ++ x.1.1.drop x.1.2.2.1.toNat).length, ()), x.2 ++ x.1.1.drop x.1.2.2.1.toNat)) pre106
theorem lp106_good (t : Nat) : (lp106 t).Good2 := lpF_good _ _ _ _ _ _
abbrev T51 := (Unit × Nat × List Un × Int × Int × Unit) × List Un
abbrev F51 : Form (Unit × Nat × List Un × Int × Int × Unit) := .cons (argFnV 52) (.cons (argMs 0) (.cons argUs (.cons argInt (.cons argInt .nil))))
def pre51 (x : T51) : Bool := decide (x.1.2.1 = x.2.length) && (decide (x.1.2.2.2.1 = (x.1.2.2.1.length : Nat)) && (decide (0 ≤ x.1.2.2.2.2.1) && (decide (x.1.2.2.2.2.1 ≤ (x.1.2.2.1.length : Nat)) && (decide (x.1.2.2.1.length ≤ 1000) && decide (x.2.length ≤ 1000)))))
def lp51 : LoopSt T51 ((Nat × Unit) × List Un) := lpF { nt := 22, live := [1, 5, 8, 9, 10], lifts := [(5, 36, 125)] } { nt := 22, live := [5], lifts := [(5, 36, 125)] } (MForm.with (eArrT 125) F51) (MForm.with (eArrT 125) (F1 (argMs 0))) (fun x => (((x.2 ++ x.1.2.2.1.drop x.1.2.2.2.2.1.toNat).length, ()), x.2 ++ x.1.2.2.1.drop x.1.2.2.2.2.1.toNat)) pre51
theorem lp51_good : lp51.Good2 := lpF_good _ _ _ _ _ _
def L106 : Nat → Option (St → Tr (Ex × St)) := fun id => bif Nat.beq id 0 then some ((lp106 125).g 0) else none
def L107 : Nat → Option (St → Tr (Ex × St)) := fun id => bif Nat.beq id 0 then some ((lp106 51).g 0) else none
def L51 : Nat → Option (St → Tr (Ex × St)) := fun id => bif Nat.beq id 0 then some (lp51.g 0) else none
def step106 (U : List Un) (m : Nat) (i : Int) (O : List Un) : Tr (T106 ⊕ (Nat × Unit) × List Un) :=
 let x1 : Int := ↑U.length
 let x2 : Bool := decide (0 ≤ i ∧ i < x1)
 let x3 : Nat := m + 1
 let x4 : Nat := x3 * 408
 let x5 : Nat := 35 + 1
 let x6 : Int := (U.getD i.toNat u0).f.y1.num
 let x7 : Int := (U.getD i.toNat u0).f.y0.num
 let x8 : Int := (U.getD i.toNat u0).f.x1.num
 let x9 : Int := (U.getD i.toNat u0).f.x0.num
 let x10 : IV := IV.v (Value.string ⟨⟨[]⟩⟩)
 let x11 : IV := IV.v (Value.string ⟨⟨denB 1⟩⟩)
 let x12 : Int := (U.getD i.toNat u0).b
 let x13 : Int := (U.getD i.toNat u0).a
 .ite (decide (i < x1)) (.need x2 (.need x2 (.need (decide (m ≤ O.length)) (.need true (.need (decide (x3 ≤ 9223372036854775807)) (.need (decide (x4 ≤ 140737488355328)) (.need (unsOk U.length (unEl U)) (.need (unsOk x3 (joinE m (unEl O) fun k => List.take x5 (List.drop (k * x5) [IV.v (Value.string ⟨⟨denB (U.getD i.toNat u0).f.y1.den⟩⟩), IV.v (Value.bool false), IV.v (Value.string ⟨⟨magB x6.natAbs⟩⟩), IV.v (Value.bool (decide (x6 < 0))), IV.v (Value.string ⟨⟨denB (U.getD i.toNat u0).f.y0.den⟩⟩), IV.v (Value.bool false), IV.v (Value.string ⟨⟨magB x7.natAbs⟩⟩), IV.v (Value.bool (decide (x7 < 0))), IV.v (Value.string ⟨⟨denB (U.getD i.toNat u0).f.x1.den⟩⟩), IV.v (Value.bool false), IV.v (Value.string ⟨⟨magB x8.natAbs⟩⟩), IV.v (Value.bool (decide (x8 < 0))), IV.v (Value.string ⟨⟨denB (U.getD i.toNat u0).f.x0.den⟩⟩), IV.v (Value.bool false), IV.v (Value.string ⟨⟨magB x9.natAbs⟩⟩), IV.v (Value.bool (decide (x9 < 0))), IV.v (Value.bool (U.getD i.toNat u0).ob), IV.v (Value.bool (U.getD i.toNat u0).oa), IV.v (Value.bool false), x10, IV.v (Value.bool false), x10, IV.v (Value.bool false), x11, IV.v (Value.bool false), IV.v (Value.string ⟨⟨magB x12.natAbs⟩⟩), IV.v (Value.bool (decide (x12 < 0))), IV.v (Value.bool false), x10, IV.v (Value.bool false), x10, IV.v (Value.bool false), x11, IV.v (Value.bool false), IV.v (Value.string ⟨⟨magB x13.natAbs⟩⟩), IV.v (Value.bool (decide (x13 < 0)))].reverse))) (.ret (Sum.inl ((unsOf U.length (unEl U), x3, IntKind.i64.wrap (i + 1), ()), unsOf x3 (joinE m (unEl O) fun k => List.take x5 (List.drop (k * x5) [IV.v (Value.string ⟨⟨denB (U.getD i.toNat u0).f.y1.den⟩⟩), IV.v (Value.bool false), IV.v (Value.string ⟨⟨magB x6.natAbs⟩⟩), IV.v (Value.bool (decide (x6 < 0))), IV.v (Value.string ⟨⟨denB (U.getD i.toNat u0).f.y0.den⟩⟩), IV.v (Value.bool false), IV.v (Value.string ⟨⟨magB x7.natAbs⟩⟩), IV.v (Value.bool (decide (x7 < 0))), IV.v (Value.string ⟨⟨denB (U.getD i.toNat u0).f.x1.den⟩⟩), IV.v (Value.bool false), IV.v (Value.string ⟨⟨magB x8.natAbs⟩⟩), IV.v (Value.bool (decide (x8 < 0))), IV.v (Value.string ⟨⟨denB (U.getD i.toNat u0).f.x0.den⟩⟩), IV.v (Value.bool false), IV.v (Value.string ⟨⟨magB x9.natAbs⟩⟩), IV.v (Value.bool (decide (x9 < 0))), IV.v (Value.bool (U.getD i.toNat u0).ob), IV.v (Value.bool (U.getD i.toNat u0).oa), IV.v (Value.bool false), x10, IV.v (Value.bool false), x10, IV.v (Value.bool false), x11, IV.v (Value.bool false), IV.v (Value.string ⟨⟨magB x12.natAbs⟩⟩), IV.v (Value.bool (decide (x12 < 0))), IV.v (Value.bool false), x10, IV.v (Value.bool false), x10, IV.v (Value.bool false), x11, IV.v (Value.bool false), IV.v (Value.string ⟨⟨magB x13.natAbs⟩⟩), IV.v (Value.bool (decide (x13 < 0)))].reverse))))))))))))) (.need (unsOk O.length (unEl O)) (.ret (Sum.inr ((m, ()), unsOf O.length (unEl O)))))
def step107 (U : List Un) (m : Nat) (i : Int) (O : List Un) : Tr (T106 ⊕ (Nat × Unit) × List Un) :=
 let x1 : Int := ↑U.length
 let x2 : Bool := decide (0 ≤ i ∧ i < x1)
 let x3 : Nat := m + 1
 let x4 : Nat := x3 * 408
 let x5 : Nat := 35 + 1
 let x6 : Int := (U.getD i.toNat u0).f.y1.num
 let x7 : Int := (U.getD i.toNat u0).f.y0.num
 let x8 : Int := (U.getD i.toNat u0).f.x1.num
 let x9 : Int := (U.getD i.toNat u0).f.x0.num
 let x10 : IV := IV.v (Value.string ⟨⟨[]⟩⟩)
 let x11 : IV := IV.v (Value.string ⟨⟨denB 1⟩⟩)
 let x12 : Int := (U.getD i.toNat u0).b
 let x13 : Int := (U.getD i.toNat u0).a
 .ite (decide (i < x1)) (.need x2 (.need x2 (.need (decide (m ≤ O.length)) (.need true (.need (decide (x3 ≤ 9223372036854775807)) (.need (decide (x4 ≤ 140737488355328)) (.need (unsOk U.length (unEl U)) (.need (unsOk x3 (joinE m (unEl O) fun k => List.take x5 (List.drop (k * x5) [IV.v (Value.string ⟨⟨denB (U.getD i.toNat u0).f.y1.den⟩⟩), IV.v (Value.bool false), IV.v (Value.string ⟨⟨magB x6.natAbs⟩⟩), IV.v (Value.bool (decide (x6 < 0))), IV.v (Value.string ⟨⟨denB (U.getD i.toNat u0).f.y0.den⟩⟩), IV.v (Value.bool false), IV.v (Value.string ⟨⟨magB x7.natAbs⟩⟩), IV.v (Value.bool (decide (x7 < 0))), IV.v (Value.string ⟨⟨denB (U.getD i.toNat u0).f.x1.den⟩⟩), IV.v (Value.bool false), IV.v (Value.string ⟨⟨magB x8.natAbs⟩⟩), IV.v (Value.bool (decide (x8 < 0))), IV.v (Value.string ⟨⟨denB (U.getD i.toNat u0).f.x0.den⟩⟩), IV.v (Value.bool false), IV.v (Value.string ⟨⟨magB x9.natAbs⟩⟩), IV.v (Value.bool (decide (x9 < 0))), IV.v (Value.bool (U.getD i.toNat u0).ob), IV.v (Value.bool (U.getD i.toNat u0).oa), IV.v (Value.bool false), x10, IV.v (Value.bool false), x10, IV.v (Value.bool false), x11, IV.v (Value.bool false), IV.v (Value.string ⟨⟨magB x12.natAbs⟩⟩), IV.v (Value.bool (decide (x12 < 0))), IV.v (Value.bool false), x10, IV.v (Value.bool false), x10, IV.v (Value.bool false), x11, IV.v (Value.bool false), IV.v (Value.string ⟨⟨magB x13.natAbs⟩⟩), IV.v (Value.bool (decide (x13 < 0)))].reverse))) (.ret (Sum.inl ((unsOf U.length (unEl U), x3, IntKind.i64.wrap (i + 1), ()), unsOf x3 (joinE m (unEl O) fun k => List.take x5 (List.drop (k * x5) [IV.v (Value.string ⟨⟨denB (U.getD i.toNat u0).f.y1.den⟩⟩), IV.v (Value.bool false), IV.v (Value.string ⟨⟨magB x6.natAbs⟩⟩), IV.v (Value.bool (decide (x6 < 0))), IV.v (Value.string ⟨⟨denB (U.getD i.toNat u0).f.y0.den⟩⟩), IV.v (Value.bool false), IV.v (Value.string ⟨⟨magB x7.natAbs⟩⟩), IV.v (Value.bool (decide (x7 < 0))), IV.v (Value.string ⟨⟨denB (U.getD i.toNat u0).f.x1.den⟩⟩), IV.v (Value.bool false), IV.v (Value.string ⟨⟨magB x8.natAbs⟩⟩), IV.v (Value.bool (decide (x8 < 0))), IV.v (Value.string ⟨⟨denB (U.getD i.toNat u0).f.x0.den⟩⟩), IV.v (Value.bool false), IV.v (Value.string ⟨⟨magB x9.natAbs⟩⟩), IV.v (Value.bool (decide (x9 < 0))), IV.v (Value.bool (U.getD i.toNat u0).ob), IV.v (Value.bool (U.getD i.toNat u0).oa), IV.v (Value.bool false), x10, IV.v (Value.bool false), x10, IV.v (Value.bool false), x11, IV.v (Value.bool false), IV.v (Value.string ⟨⟨magB x12.natAbs⟩⟩), IV.v (Value.bool (decide (x12 < 0))), IV.v (Value.bool false), x10, IV.v (Value.bool false), x10, IV.v (Value.bool false), x11, IV.v (Value.bool false), IV.v (Value.string ⟨⟨magB x13.natAbs⟩⟩), IV.v (Value.bool (decide (x13 < 0)))].reverse))))))))))))) (.need (unsOk O.length (unEl O)) (.ret (Sum.inr ((m, ()), unsOf O.length (unEl O)))))
def step51 (m : Nat) (U : List Un) (n : Int) (i : Int) (O : List Un) : Tr (T51 ⊕ (Nat × Unit) × List Un) :=
 let x1 : Int := ↑U.length
 let x2 : Nat := m + 1
 let x3 : Nat := x2 * 408
 let x4 : Nat := 35 + 1
 let x5 : Int := (U.getD i.toNat u0).f.y1.num
 let x6 : Int := (U.getD i.toNat u0).f.y0.num
 let x7 : Int := (U.getD i.toNat u0).f.x1.num
 let x8 : Int := (U.getD i.toNat u0).f.x0.num
 let x9 : IV := IV.v (Value.string ⟨⟨[]⟩⟩)
 let x10 : IV := IV.v (Value.string ⟨⟨denB 1⟩⟩)
 let x11 : Int := (U.getD i.toNat u0).b
 let x12 : Int := (U.getD i.toNat u0).a
 .ite (decide (i < n)) (.need (decide (0 ≤ i ∧ i < x1)) (.need (decide (m ≤ O.length)) (.need true (.need (decide (x2 ≤ 9223372036854775807)) (.need (decide (x3 ≤ 140737488355328)) (.need (unsOk U.length (unEl U)) (.need (unsOk x2 (joinE m (unEl O) fun k => List.take x4 (List.drop (k * x4) [IV.v (Value.string ⟨⟨denB (U.getD i.toNat u0).f.y1.den⟩⟩), IV.v (Value.bool false), IV.v (Value.string ⟨⟨magB x5.natAbs⟩⟩), IV.v (Value.bool (decide (x5 < 0))), IV.v (Value.string ⟨⟨denB (U.getD i.toNat u0).f.y0.den⟩⟩), IV.v (Value.bool false), IV.v (Value.string ⟨⟨magB x6.natAbs⟩⟩), IV.v (Value.bool (decide (x6 < 0))), IV.v (Value.string ⟨⟨denB (U.getD i.toNat u0).f.x1.den⟩⟩), IV.v (Value.bool false), IV.v (Value.string ⟨⟨magB x7.natAbs⟩⟩), IV.v (Value.bool (decide (x7 < 0))), IV.v (Value.string ⟨⟨denB (U.getD i.toNat u0).f.x0.den⟩⟩), IV.v (Value.bool false), IV.v (Value.string ⟨⟨magB x8.natAbs⟩⟩), IV.v (Value.bool (decide (x8 < 0))), IV.v (Value.bool (U.getD i.toNat u0).ob), IV.v (Value.bool (U.getD i.toNat u0).oa), IV.v (Value.bool false), x9, IV.v (Value.bool false), x9, IV.v (Value.bool false), x10, IV.v (Value.bool false), IV.v (Value.string ⟨⟨magB x11.natAbs⟩⟩), IV.v (Value.bool (decide (x11 < 0))), IV.v (Value.bool false), x9, IV.v (Value.bool false), x9, IV.v (Value.bool false), x10, IV.v (Value.bool false), IV.v (Value.string ⟨⟨magB x12.natAbs⟩⟩), IV.v (Value.bool (decide (x12 < 0)))].reverse))) (.ret (Sum.inl (((), x2, unsOf U.length (unEl U), n, IntKind.i64.wrap (i + 1), ()), unsOf x2 (joinE m (unEl O) fun k => List.take x4 (List.drop (k * x4) [IV.v (Value.string ⟨⟨denB (U.getD i.toNat u0).f.y1.den⟩⟩), IV.v (Value.bool false), IV.v (Value.string ⟨⟨magB x5.natAbs⟩⟩), IV.v (Value.bool (decide (x5 < 0))), IV.v (Value.string ⟨⟨denB (U.getD i.toNat u0).f.y0.den⟩⟩), IV.v (Value.bool false), IV.v (Value.string ⟨⟨magB x6.natAbs⟩⟩), IV.v (Value.bool (decide (x6 < 0))), IV.v (Value.string ⟨⟨denB (U.getD i.toNat u0).f.x1.den⟩⟩), IV.v (Value.bool false), IV.v (Value.string ⟨⟨magB x7.natAbs⟩⟩), IV.v (Value.bool (decide (x7 < 0))), IV.v (Value.string ⟨⟨denB (U.getD i.toNat u0).f.x0.den⟩⟩), IV.v (Value.bool false), IV.v (Value.string ⟨⟨magB x8.natAbs⟩⟩), IV.v (Value.bool (decide (x8 < 0))), IV.v (Value.bool (U.getD i.toNat u0).ob), IV.v (Value.bool (U.getD i.toNat u0).oa), IV.v (Value.bool false), x9, IV.v (Value.bool false), x9, IV.v (Value.bool false), x10, IV.v (Value.bool false), IV.v (Value.string ⟨⟨magB x11.natAbs⟩⟩), IV.v (Value.bool (decide (x11 < 0))), IV.v (Value.bool false), x9, IV.v (Value.bool false), x9, IV.v (Value.bool false), x10, IV.v (Value.bool false), IV.v (Value.string ⟨⟨magB x12.natAbs⟩⟩), IV.v (Value.bool (decide (x12 < 0)))].reverse)))))))))))) (.need (unsOk O.length (unEl O)) (.ret (Sum.inr ((m, ()), unsOf O.length (unEl O)))))
def M106 (U : List Un) : Tr AV :=
 let x1 : List Un := unsOf U.length (unEl U)
 let x2 : List Un := unsOf 0 fun x => []
 let x3 : List Un := x2 ++ List.drop (Int.toNat 0) x1
 let x4 : Nat := x3.length
 .need (unsOk U.length (unEl U)) (.need true (.need (pre106 ((x1, 0, 0, ()), x2)) (.need (decide (x4 ≤ x4)) (.ret (AV.c (IV.sl x4 36 (unEl x3)))))))
def M107 (U : List Un) : Tr AV :=
 let x1 : List Un := unsOf U.length (unEl U)
 let x2 : List Un := unsOf 0 fun x => []
 let x3 : List Un := x2 ++ List.drop (Int.toNat 0) x1
 let x4 : Nat := x3.length
 .need (unsOk U.length (unEl U)) (.need true (.need (pre106 ((x1, 0, 0, ()), x2)) (.need (decide (x4 ≤ x4)) (.ret (AV.c (IV.sl x4 36 (unEl x3)))))))
def M51 (U : List Un) : Tr AV :=
 let x1 : List Un := unsOf U.length (unEl U)
 let x2 : List Un := unsOf 0 fun x => []
 let x3 : List Un := x2 ++ List.drop (Int.toNat 0) x1
 let x4 : Nat := x3.length
 .need (unsOk U.length (unEl U)) (.need true (.need (pre51 (((), 0, x1, ↑U.length, 0, ()), x2)) (.need (decide (x4 ≤ x4)) (.ret (AV.c (IV.sl x4 36 (unEl x3)))))))
theorem M106_eq (U : List Un) : execFn Tryz.prog (fun _ => none) L106 1010 Tryz.f106 [usA U] = M106 U := by kernel_rfl
theorem M107_eq (U : List Un) : execFn Tryz.prog (fun _ => none) L107 1010 Tryz.f107 [usA U] = M107 U := by kernel_rfl
theorem M51_eq (U : List Un) : execFn Tryz.prog (inlΓ Tryz.prog (fun _ => none) (fun _ => false) 1010 1) L51 1010 Tryz.f51 [usA U, .c (.v (fnV 52))] = M51 U := by kernel_rfl
theorem step106_eq (x : T106) : (exec Tryz.prog (fun _ => none) noL 1010 (loopOf 0 (codeOf Tryz.f106)) (mkSt (lp106 125).nIn ((lp106 125).head x))).bind ((lp106 125).fin 0 0) = step106 x.1.1 x.1.2.1 x.1.2.2.1 x.2 := by
 obtain ⟨⟨U, m, i, ⟨⟩⟩, O⟩ := x
 kernel_rfl
theorem step107_eq (x : T106) : (exec Tryz.prog (fun _ => none) noL 1010 (loopOf 0 (codeOf Tryz.f107)) (mkSt (lp106 51).nIn ((lp106 51).head x))).bind ((lp106 51).fin 0 0) = step107 x.1.1 x.1.2.1 x.1.2.2.1 x.2 := by
 obtain ⟨⟨U, m, i, ⟨⟩⟩, O⟩ := x
 kernel_rfl
theorem step51_eq (x : T51) : (exec Tryz.prog (inlΓ Tryz.prog (fun _ => none) (fun _ => false) 1010 1) noL 1010 (loopOf 0 (codeOf Tryz.f51)) (mkSt lp51.nIn (lp51.head x))).bind (lp51.fin 0 0) = step51 x.1.2.1 x.1.2.2.1 x.1.2.2.2.1 x.1.2.2.2.2.1 x.2 := by
 obtain ⟨⟨⟨⟩, m, U, n, i, ⟨⟩⟩, O⟩ := x
 kernel_rfl
theorem step106_in (U O : List Un) (i : Nat) (hl : i < U.length) (hn : U.length ≤ 1000) (hO : O.length ≤ 2000) (Q : T106 ⊕ (Nat × Unit) × List Un → Prop) (hq : Q (.inl ((U, O.length + 1, ((i + 1 : Nat) : Int), ()), O ++ [U.getD i u0]))) : (step106 U O.length (i : Nat) O).sat Q := by
 have hw1 : IntKind.i64.wrap ((i : Int) + 1) = ((i + 1 : Nat) : Int) := by rw [wrap_i64 (by omega)]; omega
 have c1 : decide ((0 : Int) ≤ (i : Int) ∧ (i : Int) < (U.length : Int)) = true := decide_eq_true (by omega)
 have c2 : decide ((i : Int) < (U.length : Int)) = true := decide_eq_true (by omega)
 have d1 : decide (O.length + 1 ≤ 9223372036854775807) = true := decide_eq_true (by omega)
 have d2 : decide ((O.length + 1) * 408 ≤ 140737488355328) = true := decide_eq_true (by omega)
 have d3 : decide (O.length ≤ 1000) = true ∨ True := .inr trivial
 simp only [step106, ↓un_fold, ↓iv_fold, ↓ln_fold, ↓tm_fold, un_eta, iv_eta, take_un1, take_un2, take_iv1, take_iv2, tmV_cells, tmOk_cells, unV_cells, unOk_cells, ivV_lit, ivOk_lit, lineV_cells, lineOk_cells, unsOf_el, unsOk_units, sat_true, rev_fold, take_univ, unV_iv, unOk_iv, unsOf_join, unsOk_join, Bool.and_true, eq_self, decide_true, Nat.le_refl, hw1, c1, c2, d1, d2, Int.toNat_natCast, Bool.and_self]
 repeat first
  | refine sat_need rfl ?_
  | refine sat_ite (fun h => Bool.noConfusion h) (fun _ => ?_)
  | refine sat_ite (fun _ => ?_) (fun h => Bool.noConfusion h)
 refine sat_ret ?_
 exact hq
theorem step106_end (U O : List Un) (hO : O.length ≤ 2000) (Q : T106 ⊕ (Nat × Unit) × List Un → Prop) (hq : Q (.inr ((O.length, ()), O))) : (step106 U O.length (U.length : Nat) O).sat Q := by
 have c2 : decide (((U.length : Nat) : Int) < (U.length : Int)) = false := decide_eq_false (by omega)
 simp only [step106, ↓un_fold, ↓iv_fold, ↓ln_fold, ↓tm_fold, un_eta, iv_eta, take_un1, take_un2, take_iv1, take_iv2, tmV_cells, tmOk_cells, unV_cells, unOk_cells, ivV_lit, ivOk_lit, lineV_cells, lineOk_cells, unsOf_el, unsOk_units, sat_true, rev_fold, take_univ, unV_iv, unOk_iv, unsOf_join, unsOk_join, Bool.and_true, eq_self, decide_true, Nat.le_refl, c2]
 repeat first
  | refine sat_need rfl ?_
  | refine sat_ite (fun h => Bool.noConfusion h) (fun _ => ?_)
  | refine sat_ite (fun _ => ?_) (fun h => Bool.noConfusion h)
 exact sat_ret hq
theorem runs106 (U : List Un) (hn : U.length ≤ 1000) (Q : (Nat × Unit) × List Un → Prop) : ∀ (k i : Nat) (O : List Un), i + k = U.length → O.length + k ≤ 2000 → Q (((O ++ U.drop i).length, ()), O ++ U.drop i) → RunsX (fun x : T106 => step106 x.1.1 x.1.2.1 x.1.2.2.1 x.2) Q (k + 1) ((U, O.length, (i : Nat), ()), O)
 | 0, i, O, he, hO, hq => by
  obtain rfl : i = U.length := by omega
  rw [List.drop_length, List.append_nil] at hq
  exact step106_end U O (by omega) _ hq
 | k + 1, i, O, he, hO, hq => by
  have hl : i < U.length := by omega
  refine step106_in U O i hl hn (by omega) _ ?_
  have hu : U.getD i u0 = U[i] := by simp [List.getD_eq_getElem?_getD, hl]
  rw [List.drop_eq_getElem_cons hl] at hq
  have h1 := runs106 U hn Q k (i + 1) (O ++ [U.getD i u0]) (by omega) (by simp; omega) (by rw [hu]; simpa using hq)
  simp only [List.length_append, List.length_singleton] at h1
  exact h1
theorem f106_loops : BlocksOk Tryz.prog 0 L106 (codeOf Tryz.f106) := by
 refine blocksOk_of (d := fun id => Nat.beq id 0) (fun id => by unfold L106; cases Nat.beq id 0 <;> rfl) _ ?_
 have hb : blocksOf (fun id => Nat.beq id 0) (codeOf Tryz.f106) = [(0, .loop (loopOf 0 (codeOf Tryz.f106)))] := by kernel_rfl
 rw [hb]
 intro p hp g hg
 simp only [List.mem_singleton] at hp
 subst hp
 have hh : L106 0 = some (((lp106 125)).g 0) := rfl
 rw [hh] at hg
 obtain rfl : g = ((lp106 125)).g 0 := (Option.some.inj hg).symm
 refine LoopSt.ok2 (N := 1010) prog_mixed noΓ_ok (L := noL) (blocksOk_none 0 _) (lp106_good 125) (fun x => step106_eq x) ?_
 rintro ⟨⟨U, m, i, ⟨⟩⟩, O⟩ hx
 have hx : pre106 ((U, m, i, ()), O) = true := hx
 simp only [pre106, Bool.and_eq_true, decide_eq_true_eq] at hx
 have h1 : m = O.length := hx.1
 have h2 : 0 ≤ i := hx.2.1
 have h3 : i ≤ (U.length : Nat) := hx.2.2.1
 have h4 : U.length ≤ 1000 := hx.2.2.2.1
 have h5 : O.length ≤ 1000 := hx.2.2.2.2
 clear hx
 subst h1
 obtain ⟨i, rfl⟩ : ∃ m : Nat, i = m := ⟨i.toNat, by omega⟩
 exact ⟨_, runs106 U h4 (· = (lp106 125).res ((U, O.length, (i : Nat), ()), O)) (U.length - i) i O (by omega) (by omega) rfl⟩
theorem M106_sat (U : List Un) (h : U.length ≤ 1000) : (M106 U).sat fun r => r = usA U := by
 have e0 : unsOf 0 (fun _ => ([] : List IV)) = [] := rfl
 have hp : pre106 ((U, 0, 0, ()), []) = true := by
  simp only [pre106, decide_true, Bool.true_and, Bool.and_eq_true, decide_eq_true_eq, List.length_nil]
  omega
 have d0 : ∀ X : List Un, List.drop (Int.toNat 0) X = X := fun X => rfl
 simp only [M106, ↓un_fold, ↓iv_fold, ↓ln_fold, ↓tm_fold, un_eta, iv_eta, take_un1, take_un2, take_iv1, take_iv2, tmV_cells, tmOk_cells, unV_cells, unOk_cells, ivV_lit, ivOk_lit, lineV_cells, lineOk_cells, unsOf_el, unsOk_units, sat_true, e0, hp, d0, List.nil_append, Nat.le_refl, decide_true]
 repeat first
  | refine sat_need rfl ?_
  | refine sat_ite (fun h => Bool.noConfusion h) (fun _ => ?_)
  | refine sat_ite (fun _ => ?_) (fun h => Bool.noConfusion h)
 exact sat_ret rfl
theorem step107_in (U O : List Un) (i : Nat) (hl : i < U.length) (hn : U.length ≤ 1000) (hO : O.length ≤ 2000) (Q : T106 ⊕ (Nat × Unit) × List Un → Prop) (hq : Q (.inl ((U, O.length + 1, ((i + 1 : Nat) : Int), ()), O ++ [U.getD i u0]))) : (step107 U O.length (i : Nat) O).sat Q := by
 have hw1 : IntKind.i64.wrap ((i : Int) + 1) = ((i + 1 : Nat) : Int) := by rw [wrap_i64 (by omega)]; omega
 have c1 : decide ((0 : Int) ≤ (i : Int) ∧ (i : Int) < (U.length : Int)) = true := decide_eq_true (by omega)
 have c2 : decide ((i : Int) < (U.length : Int)) = true := decide_eq_true (by omega)
 have d1 : decide (O.length + 1 ≤ 9223372036854775807) = true := decide_eq_true (by omega)
 have d2 : decide ((O.length + 1) * 408 ≤ 140737488355328) = true := decide_eq_true (by omega)
 have d3 : decide (O.length ≤ 1000) = true ∨ True := .inr trivial
 simp only [step107, ↓un_fold, ↓iv_fold, ↓ln_fold, ↓tm_fold, un_eta, iv_eta, take_un1, take_un2, take_iv1, take_iv2, tmV_cells, tmOk_cells, unV_cells, unOk_cells, ivV_lit, ivOk_lit, lineV_cells, lineOk_cells, unsOf_el, unsOk_units, sat_true, rev_fold, take_univ, unV_iv, unOk_iv, unsOf_join, unsOk_join, Bool.and_true, eq_self, decide_true, Nat.le_refl, hw1, c1, c2, d1, d2, Int.toNat_natCast, Bool.and_self]
 repeat first
  | refine sat_need rfl ?_
  | refine sat_ite (fun h => Bool.noConfusion h) (fun _ => ?_)
  | refine sat_ite (fun _ => ?_) (fun h => Bool.noConfusion h)
 refine sat_ret ?_
 exact hq
theorem step107_end (U O : List Un) (hO : O.length ≤ 2000) (Q : T106 ⊕ (Nat × Unit) × List Un → Prop) (hq : Q (.inr ((O.length, ()), O))) : (step107 U O.length (U.length : Nat) O).sat Q := by
 have c2 : decide (((U.length : Nat) : Int) < (U.length : Int)) = false := decide_eq_false (by omega)
 simp only [step107, ↓un_fold, ↓iv_fold, ↓ln_fold, ↓tm_fold, un_eta, iv_eta, take_un1, take_un2, take_iv1, take_iv2, tmV_cells, tmOk_cells, unV_cells, unOk_cells, ivV_lit, ivOk_lit, lineV_cells, lineOk_cells, unsOf_el, unsOk_units, sat_true, rev_fold, take_univ, unV_iv, unOk_iv, unsOf_join, unsOk_join, Bool.and_true, eq_self, decide_true, Nat.le_refl, c2]
 repeat first
  | refine sat_need rfl ?_
  | refine sat_ite (fun h => Bool.noConfusion h) (fun _ => ?_)
  | refine sat_ite (fun _ => ?_) (fun h => Bool.noConfusion h)
 exact sat_ret hq
theorem runs107 (U : List Un) (hn : U.length ≤ 1000) (Q : (Nat × Unit) × List Un → Prop) : ∀ (k i : Nat) (O : List Un), i + k = U.length → O.length + k ≤ 2000 → Q (((O ++ U.drop i).length, ()), O ++ U.drop i) → RunsX (fun x : T106 => step107 x.1.1 x.1.2.1 x.1.2.2.1 x.2) Q (k + 1) ((U, O.length, (i : Nat), ()), O)
 | 0, i, O, he, hO, hq => by
  obtain rfl : i = U.length := by omega
  rw [List.drop_length, List.append_nil] at hq
  exact step107_end U O (by omega) _ hq
 | k + 1, i, O, he, hO, hq => by
  have hl : i < U.length := by omega
  refine step107_in U O i hl hn (by omega) _ ?_
  have hu : U.getD i u0 = U[i] := by simp [List.getD_eq_getElem?_getD, hl]
  rw [List.drop_eq_getElem_cons hl] at hq
  have h1 := runs107 U hn Q k (i + 1) (O ++ [U.getD i u0]) (by omega) (by simp; omega) (by rw [hu]; simpa using hq)
  simp only [List.length_append, List.length_singleton] at h1
  exact h1
theorem f107_loops : BlocksOk Tryz.prog 0 L107 (codeOf Tryz.f107) := by
 refine blocksOk_of (d := fun id => Nat.beq id 0) (fun id => by unfold L107; cases Nat.beq id 0 <;> rfl) _ ?_
 have hb : blocksOf (fun id => Nat.beq id 0) (codeOf Tryz.f107) = [(0, .loop (loopOf 0 (codeOf Tryz.f107)))] := by kernel_rfl
 rw [hb]
 intro p hp g hg
 simp only [List.mem_singleton] at hp
 subst hp
 have hh : L107 0 = some (((lp106 51)).g 0) := rfl
 rw [hh] at hg
 obtain rfl : g = ((lp106 51)).g 0 := (Option.some.inj hg).symm
 refine LoopSt.ok2 (N := 1010) prog_mixed noΓ_ok (L := noL) (blocksOk_none 0 _) (lp106_good 51) (fun x => step107_eq x) ?_
 rintro ⟨⟨U, m, i, ⟨⟩⟩, O⟩ hx
 have hx : pre106 ((U, m, i, ()), O) = true := hx
 simp only [pre106, Bool.and_eq_true, decide_eq_true_eq] at hx
 have h1 : m = O.length := hx.1
 have h2 : 0 ≤ i := hx.2.1
 have h3 : i ≤ (U.length : Nat) := hx.2.2.1
 have h4 : U.length ≤ 1000 := hx.2.2.2.1
 have h5 : O.length ≤ 1000 := hx.2.2.2.2
 clear hx
 subst h1
 obtain ⟨i, rfl⟩ : ∃ m : Nat, i = m := ⟨i.toNat, by omega⟩
 exact ⟨_, runs107 U h4 (· = (lp106 51).res ((U, O.length, (i : Nat), ()), O)) (U.length - i) i O (by omega) (by omega) rfl⟩
theorem M107_sat (U : List Un) (h : U.length ≤ 1000) : (M107 U).sat fun r => r = usA U := by
 have e0 : unsOf 0 (fun _ => ([] : List IV)) = [] := rfl
 have hp : pre106 ((U, 0, 0, ()), []) = true := by
  simp only [pre106, decide_true, Bool.true_and, Bool.and_eq_true, decide_eq_true_eq, List.length_nil]
  omega
 have d0 : ∀ X : List Un, List.drop (Int.toNat 0) X = X := fun X => rfl
 simp only [M107, ↓un_fold, ↓iv_fold, ↓ln_fold, ↓tm_fold, un_eta, iv_eta, take_un1, take_un2, take_iv1, take_iv2, tmV_cells, tmOk_cells, unV_cells, unOk_cells, ivV_lit, ivOk_lit, lineV_cells, lineOk_cells, unsOf_el, unsOk_units, sat_true, e0, hp, d0, List.nil_append, Nat.le_refl, decide_true]
 repeat first
  | refine sat_need rfl ?_
  | refine sat_ite (fun h => Bool.noConfusion h) (fun _ => ?_)
  | refine sat_ite (fun _ => ?_) (fun h => Bool.noConfusion h)
 exact sat_ret rfl
theorem step51_in (U O : List Un) (i : Nat) (hl : i < U.length) (hn : U.length ≤ 1000) (hO : O.length ≤ 2000) (Q : T51 ⊕ (Nat × Unit) × List Un → Prop) (hq : Q (.inl (((), O.length + 1, U, (U.length : Nat), ((i + 1 : Nat) : Int), ()), O ++ [U.getD i u0]))) : (step51 O.length U (U.length : Nat) (i : Nat) O).sat Q := by
 have hw1 : IntKind.i64.wrap ((i : Int) + 1) = ((i + 1 : Nat) : Int) := by rw [wrap_i64 (by omega)]; omega
 have c1 : decide ((0 : Int) ≤ (i : Int) ∧ (i : Int) < (U.length : Int)) = true := decide_eq_true (by omega)
 have c2 : decide ((i : Int) < (U.length : Int)) = true := decide_eq_true (by omega)
 have d1 : decide (O.length + 1 ≤ 9223372036854775807) = true := decide_eq_true (by omega)
 have d2 : decide ((O.length + 1) * 408 ≤ 140737488355328) = true := decide_eq_true (by omega)
 have d3 : decide (O.length ≤ 1000) = true ∨ True := .inr trivial
 simp only [step51, ↓un_fold, ↓iv_fold, ↓ln_fold, ↓tm_fold, un_eta, iv_eta, take_un1, take_un2, take_iv1, take_iv2, tmV_cells, tmOk_cells, unV_cells, unOk_cells, ivV_lit, ivOk_lit, lineV_cells, lineOk_cells, unsOf_el, unsOk_units, sat_true, rev_fold, take_univ, unV_iv, unOk_iv, unsOf_join, unsOk_join, Bool.and_true, eq_self, decide_true, Nat.le_refl, hw1, c1, c2, d1, d2, Int.toNat_natCast, Bool.and_self]
 repeat first
  | refine sat_need rfl ?_
  | refine sat_ite (fun h => Bool.noConfusion h) (fun _ => ?_)
  | refine sat_ite (fun _ => ?_) (fun h => Bool.noConfusion h)
 refine sat_ret ?_
 exact hq
theorem step51_end (U O : List Un) (hO : O.length ≤ 2000) (Q : T51 ⊕ (Nat × Unit) × List Un → Prop) (hq : Q (.inr ((O.length, ()), O))) : (step51 O.length U (U.length : Nat) (U.length : Nat) O).sat Q := by
 have c2 : decide (((U.length : Nat) : Int) < (U.length : Int)) = false := decide_eq_false (by omega)
 simp only [step51, ↓un_fold, ↓iv_fold, ↓ln_fold, ↓tm_fold, un_eta, iv_eta, take_un1, take_un2, take_iv1, take_iv2, tmV_cells, tmOk_cells, unV_cells, unOk_cells, ivV_lit, ivOk_lit, lineV_cells, lineOk_cells, unsOf_el, unsOk_units, sat_true, rev_fold, take_univ, unV_iv, unOk_iv, unsOf_join, unsOk_join, Bool.and_true, eq_self, decide_true, Nat.le_refl, c2]
 repeat first
  | refine sat_need rfl ?_
  | refine sat_ite (fun h => Bool.noConfusion h) (fun _ => ?_)
  | refine sat_ite (fun _ => ?_) (fun h => Bool.noConfusion h)
 exact sat_ret hq
theorem runs51 (U : List Un) (hn : U.length ≤ 1000) (Q : (Nat × Unit) × List Un → Prop) : ∀ (k i : Nat) (O : List Un), i + k = U.length → O.length + k ≤ 2000 → Q (((O ++ U.drop i).length, ()), O ++ U.drop i) → RunsX (fun x : T51 => step51 x.1.2.1 x.1.2.2.1 x.1.2.2.2.1 x.1.2.2.2.2.1 x.2) Q (k + 1) (((), O.length, U, (U.length : Nat), (i : Nat), ()), O)
 | 0, i, O, he, hO, hq => by
  obtain rfl : i = U.length := by omega
  rw [List.drop_length, List.append_nil] at hq
  exact step51_end U O (by omega) _ hq
 | k + 1, i, O, he, hO, hq => by
  have hl : i < U.length := by omega
  refine step51_in U O i hl hn (by omega) _ ?_
  have hu : U.getD i u0 = U[i] := by simp [List.getD_eq_getElem?_getD, hl]
  rw [List.drop_eq_getElem_cons hl] at hq
  have h1 := runs51 U hn Q k (i + 1) (O ++ [U.getD i u0]) (by omega) (by simp; omega) (by rw [hu]; simpa using hq)
  simp only [List.length_append, List.length_singleton] at h1
  exact h1
theorem f51_loops : BlocksOk Tryz.prog 0 L51 (codeOf Tryz.f51) := by
 refine blocksOk_of (d := fun id => Nat.beq id 0) (fun id => by unfold L51; cases Nat.beq id 0 <;> rfl) _ ?_
 have hb : blocksOf (fun id => Nat.beq id 0) (codeOf Tryz.f51) = [(0, .loop (loopOf 0 (codeOf Tryz.f51)))] := by kernel_rfl
 rw [hb]
 intro p hp g hg
 simp only [List.mem_singleton] at hp
 subst hp
 have hh : L51 0 = some ((lp51).g 0) := rfl
 rw [hh] at hg
 obtain rfl : g = (lp51).g 0 := (Option.some.inj hg).symm
 refine LoopSt.ok2 (N := 1010) prog_mixed (inlΓ_ok prog_mixed noΓ_ok 1) (L := noL) (blocksOk_none 0 _) lp51_good (fun x => step51_eq x) ?_
 rintro ⟨⟨⟨⟩, m, U, n, i, ⟨⟩⟩, O⟩ hx
 have hx : pre51 (((), m, U, n, i, ()), O) = true := hx
 simp only [pre51, Bool.and_eq_true, decide_eq_true_eq] at hx
 have h1 : m = O.length := hx.1
 have h0 : n = (U.length : Nat) := hx.2.1
 have h2 : 0 ≤ i := hx.2.2.1
 have h3 : i ≤ (U.length : Nat) := hx.2.2.2.1
 have h4 : U.length ≤ 1000 := hx.2.2.2.2.1
 have h5 : O.length ≤ 1000 := hx.2.2.2.2.2
 clear hx
 subst h1 h0
 obtain ⟨i, rfl⟩ : ∃ m : Nat, i = m := ⟨i.toNat, by omega⟩
 exact ⟨_, runs51 U h4 (· = lp51.res (((), O.length, U, (U.length : Nat), (i : Nat), ()), O)) (U.length - i) i O (by omega) (by omega) rfl⟩
theorem M51_sat (U : List Un) (h : U.length ≤ 1000) : (M51 U).sat fun r => r = usA U := by
 have e0 : unsOf 0 (fun _ => ([] : List IV)) = [] := rfl
 have hp : pre51 (((), 0, U, (U.length : Nat), 0, ()), []) = true := by
  simp only [pre51, decide_true, Bool.true_and, Bool.and_eq_true, decide_eq_true_eq, List.length_nil]
  omega
 have d0 : ∀ X : List Un, List.drop (Int.toNat 0) X = X := fun X => rfl
 simp only [M51, ↓un_fold, ↓iv_fold, ↓ln_fold, ↓tm_fold, un_eta, iv_eta, take_un1, take_un2, take_iv1, take_iv2, tmV_cells, tmOk_cells, unV_cells, unOk_cells, ivV_lit, ivOk_lit, lineV_cells, lineOk_cells, unsOf_el, unsOk_units, sat_true, e0, hp, d0, List.nil_append, Nat.le_refl, decide_true]
 repeat first
  | refine sat_need rfl ?_
  | refine sat_ite (fun h => Bool.noConfusion h) (fun _ => ?_)
  | refine sat_ite (fun _ => ?_) (fun h => Bool.noConfusion h)
 exact sat_ret rfl
def K106 : List AV → Option (AV × List Bool) := (F1 argUs).K (fun x => usA x.1) fun x => [decide (x.1.length ≤ 1000)]
theorem f106_ok : PureOk Tryz.prog 106 K106 :=
 (F1 argUs).pureEq (N := 1010) (L := L106) prog_mixed noΓ_ok (fn := Tryz.f106) (c := codeOf Tryz.f106) (by kernel_rfl) (by kernel_rfl) (by kernel_rfl) f106_loops (fun _ => rfl) (M := fun x => M106 x.1) (fun x => M106_eq x.1)
  fun x h => M106_sat x.1 (dec (h (decide (x.1.length ≤ 1000)) (by simp)))
def K107 : List AV → Option (AV × List Bool) := (F1 argUs).K (fun x => usA x.1) fun x => [decide (x.1.length ≤ 1000)]
theorem f107_ok : PureOk Tryz.prog 107 K107 :=
 (F1 argUs).pureEq (N := 1010) (L := L107) prog_mixed noΓ_ok (fn := Tryz.f107) (c := codeOf Tryz.f107) (by kernel_rfl) (by kernel_rfl) (by kernel_rfl) f107_loops (fun _ => rfl) (M := fun x => M107 x.1) (fun x => M107_eq x.1)
  fun x h => M107_sat x.1 (dec (h (decide (x.1.length ≤ 1000)) (by simp)))
def K51 : List AV → Option (AV × List Bool) := (F2 argUs (argFnV 52)).K (fun x => usA x.1) fun x => [decide (x.1.length ≤ 1000)]
theorem f51_ok : PureOk Tryz.prog 51 K51 :=
 (F2 argUs (argFnV 52)).pureEq (N := 1010) (L := L51) prog_mixed (inlΓ_ok prog_mixed noΓ_ok 1) (fn := Tryz.f51) (c := codeOf Tryz.f51) (by kernel_rfl) (by kernel_rfl) (by kernel_rfl) f51_loops (fun _ => rfl) (M := fun x => M51 x.1) (fun x => M51_eq x.1)
  fun x h => M51_sat x.1 (dec (h (decide (x.1.length ≤ 1000)) (by simp)))
end Go.Vse
set_option maxRecDepth 100000
namespace Go.Vse
open Go.Proofs
def eIf (n : Nat) : EForm Unit where
 parse := fun e => match e with | [some (.cells [.c (.v (.iface t (.agg cs)))] ty)] => bif Nat.beq t 85 && (cs.isEmpty && Nat.beq ty n) then some ((), []) else none | _ => none
 ents := fun _ => [some (.cells [.c (.v (.iface 85 (.agg #[])))] n)]
 ok := by
  intro e x cs h hc
  split at h
  ·rename_i t es ty
   cases hb : (Nat.beq t 85 && (es.isEmpty && Nat.beq ty n)) with
   | false => rw [hb] at h; cases h
   | true =>
    simp only [Bool.and_eq_true, Array.isEmpty_iff] at hb
    obtain ⟨h0, rfl, h2⟩ := hb
    obtain rfl : t = 85 := by simpa using h0
    obtain rfl : ty = n := by simpa using h2
    exact EntsEqv.refl _
  ·cases h
abbrev T121 := (List Un × Unit × List Un × Int × Int × Unit) × Unit
abbrev F121 : Form (List Un × Unit × List Un × Int × Int × Unit) := .cons argUs (.cons (argFn1 122 0 0) (.cons argUs (.cons argInt (.cons argInt .nil))))
def pre121 (x : T121) : Bool := eqUs x.1.1 x.1.2.2.1 && (decide (x.1.2.2.2.1 = (x.1.2.2.1.length : Nat)) && (decide (0 ≤ x.1.2.2.2.2.1) && (decide (x.1.2.2.2.2.1 ≤ (x.1.2.2.1.length : Nat)) && decide (x.1.2.2.1.length ≤ 1000))))
def lp121 : LoopSt T121 (Unit × Unit) := lpF { nt := 32, live := [1, 2, 15, 16, 17] } { nt := 32, live := [] } (MForm.with (eIf 124) F121) (MForm.with (eIf 124) Form.nil) (fun _ => ((), ())) pre121
theorem lp121_good : lp121.Good2 := lpF_good _ _ _ _ _ _
def L121 : Nat → Option (St → Tr (Ex × St)) := fun id => bif Nat.beq id 0 then some (lp121.g 1) else none
def Γ121 : FuncId → Option Spec := fun f => bif Nat.beq f 391 then some (pureSpec K391s) else none
theorem Γ121_ok : ∀ f s, Γ121 f = some s → SpecOk Tryz.prog f s := one_ok f391s_ok.spec
def step121 (V : List Un) (U : List Un) (n : Int) (i : Int) : Tr (T121 ⊕ Unit × Unit) :=
 let x1 : Int := ↑U.length
 let x2 : Int := ↑V.length
 let x3 : Bool := false == false
 let x4 : List Bool := [x3]
 let x5 : Bool := andAll ((([] : List UInt8) == []) :: x4).reverse
 let x6 : Bool := andAll [x5, x5].reverse
 let x7 : List UInt8 := denB 1
 let x8 : Bool := andAll ((x7 == x7) :: x4).reverse
 let x9 : Int := (U.getD i.toNat u0).b
 let x10 : Int := (V.getD i.toNat u0).b
 let x11 : Int := (U.getD i.toNat u0).a
 let x12 : Int := (V.getD i.toNat u0).a
 let x13 : Bool := andAll [(U.getD i.toNat u0).ob == (V.getD i.toNat u0).ob, (U.getD i.toNat u0).oa == (V.getD i.toNat u0).oa, andAll [x3, x6, andAll [x8, andAll [magB x9.natAbs == magB x10.natAbs, decide (x9 < 0) == decide (x10 < 0)].reverse].reverse].reverse, andAll [x3, x6, andAll [x8, andAll [magB x11.natAbs == magB x12.natAbs, decide (x11 < 0) == decide (x12 < 0)].reverse].reverse].reverse].reverse
 let x14 : Int := (U.getD i.toNat u0).f.x0.num
 let x15 : Int := (U.getD i.toNat u0).f.x1.num
 let x16 : Int := (U.getD i.toNat u0).f.y0.num
 let x17 : Int := (U.getD i.toNat u0).f.y1.num
 let x18 : List AV := [.c (.v (.bool (decide (x14 < 0)))), .c (.v (.string ⟨⟨magB x14.natAbs⟩⟩)), .c (.v (.bool false)), .c (.v (.string ⟨⟨denB (U.getD i.toNat u0).f.x0.den⟩⟩)), .c (.v (.bool (decide (x15 < 0)))), .c (.v (.string ⟨⟨magB x15.natAbs⟩⟩)), .c (.v (.bool false)), .c (.v (.string ⟨⟨denB (U.getD i.toNat u0).f.x1.den⟩⟩)), .c (.v (.bool (decide (x16 < 0)))), .c (.v (.string ⟨⟨magB x16.natAbs⟩⟩)), .c (.v (.bool false)), .c (.v (.string ⟨⟨denB (U.getD i.toNat u0).f.y0.den⟩⟩)), .c (.v (.bool (decide (x17 < 0)))), .c (.v (.string ⟨⟨magB x17.natAbs⟩⟩)), .c (.v (.bool false)), .c (.v (.string ⟨⟨denB (U.getD i.toNat u0).f.y1.den⟩⟩))]
 let x19 : Int := (V.getD i.toNat u0).f.x0.num
 let x20 : Int := (V.getD i.toNat u0).f.x1.num
 let x21 : Int := (V.getD i.toNat u0).f.y0.num
 let x22 : Int := (V.getD i.toNat u0).f.y1.num
 let x23 : List AV := [.c (.v (.bool (decide (x19 < 0)))), .c (.v (.string ⟨⟨magB x19.natAbs⟩⟩)), .c (.v (.bool false)), .c (.v (.string ⟨⟨denB (V.getD i.toNat u0).f.x0.den⟩⟩)), .c (.v (.bool (decide (x20 < 0)))), .c (.v (.string ⟨⟨magB x20.natAbs⟩⟩)), .c (.v (.bool false)), .c (.v (.string ⟨⟨denB (V.getD i.toNat u0).f.x1.den⟩⟩)), .c (.v (.bool (decide (x21 < 0)))), .c (.v (.string ⟨⟨magB x21.natAbs⟩⟩)), .c (.v (.bool false)), .c (.v (.string ⟨⟨denB (V.getD i.toNat u0).f.y0.den⟩⟩)), .c (.v (.bool (decide (x22 < 0)))), .c (.v (.string ⟨⟨magB x22.natAbs⟩⟩)), .c (.v (.bool false)), .c (.v (.string ⟨⟨denB (V.getD i.toNat u0).f.y1.den⟩⟩))]
 .ite (decide (i < n)) (.need (decide (0 ≤ i ∧ i < x1)) (.need (decide (0 ≤ i ∧ i < x2)) (.need (bif x13 then lineOk x18 && (lineOk x23 && true) else true) (.ite (!bif x13 then bif true then eqL (lineV x18) (lineV x23) else false else false) (.fail "out") (.need (unsOk V.length (unEl V)) (.need (unsOk U.length (unEl U)) (.ret (Sum.inl ((unsOf V.length (unEl V), (), unsOf U.length (unEl U), n, IntKind.i64.wrap (i + 1), ()), ()))))))))) (.ret (Sum.inr ((), ())))
def M121 (U : List Un) (V : List Un) : Tr MemOut :=
 let x1 : Int := ↑U.length
 let x2 : List (Option Ent) := [some (Ent.cells [.c (.v (.iface 85 (Value.agg #[])))] 124)]
 .ite (x1 != ↑V.length) (.ret { val := .c (.v (.bool false)), outs := x2 }) (.need (unsOk V.length (unEl V)) (.need (unsOk U.length (unEl U)) (.need (pre121 ((unsOf V.length (unEl V), (), unsOf U.length (unEl U), x1, 0, ()), ())) (.ret { val := .c (.v (.bool true)), outs := x2 }))))
theorem step121_eq (x : T121) : (exec Tryz.prog (inlΓ Tryz.prog Γ121 (fun _ => false) 1010 1) noL 1010 (loopOf 0 (codeOf Tryz.f121)) (mkSt lp121.nIn (lp121.head x))).bind (lp121.fin 1 0) = step121 x.1.1 x.1.2.2.1 x.1.2.2.2.1 x.1.2.2.2.2.1 := by
 obtain ⟨⟨V, ⟨⟩, U, n, i, ⟨⟩⟩, ⟨⟩⟩ := x
 kernel_rfl
theorem M121_eq (U V : List Un) : execM Tryz.prog (inlΓ Tryz.prog Γ121 (fun _ => false) 1010 1) L121 1010 true Tryz.f121 [some (.cells [.c (.v (.iface 85 (.agg #[])))] 124)] [usA U, usA V, .fn 122 [.ptr 0 0]] = M121 U V := by kernel_rfl
theorem andAll4 (a b c d : Bool) : andAll (List.reverse [a, b, c, d]) = (d && (c && (b && a))) := rfl
theorem step121_in (U : List Un) (i : Nat) (hl : i < U.length) (hn : U.length ≤ 1000) (Q : T121 ⊕ Unit × Unit → Prop) (hq : Q (.inl ((U, (), U, (U.length : Nat), ((i + 1 : Nat) : Int), ()), ()))) : (step121 U U (U.length : Nat) (i : Nat)).sat Q := by
 have hw1 : IntKind.i64.wrap ((i : Int) + 1) = ((i + 1 : Nat) : Int) := by rw [wrap_i64 (by omega)]; omega
 have c1 : decide ((0 : Int) ≤ (i : Int) ∧ (i : Int) < (U.length : Int)) = true := decide_eq_true (by omega)
 have c2 : decide ((i : Int) < (U.length : Int)) = true := decide_eq_true (by omega)
 have hb : ∀ b : Bool, (b == b) = true := fun b => by cases b <;> rfl
 simp only [step121, Int.toNat_natCast, c1, c2, tm_test, andAll4]
 simp only [↓un_fold, ↓iv_fold, ↓ln_fold, ↓tm_fold, un_eta, iv_eta, take_un1, take_un2, take_iv1, take_iv2, tmV_cells, tmOk_cells, unV_cells, unOk_cells, ivV_lit, ivOk_lit, lineV_cells, lineOk_cells, unsOf_el, unsOk_units, sat_true, hb, eq_self, decide_true, Bool.and_self, cond_true, eqL_refl, Bool.not_true, hw1]
 repeat first
   | refine sat_need rfl ?_
   | refine sat_ite (fun h => Bool.noConfusion h) (fun _ => ?_)
   | refine sat_ite (fun _ => ?_) (fun h => Bool.noConfusion h)
 exact sat_ret hq
theorem runs121 (U : List Un) (hn : U.length ≤ 1000) (Q : Unit × Unit → Prop) (hq : Q ((), ())) : ∀ (k i : Nat), i + k = U.length → RunsX (fun x : T121 => step121 x.1.1 x.1.2.2.1 x.1.2.2.2.1 x.1.2.2.2.2.1) Q (k + 1) ((U, (), U, (U.length : Nat), (i : Nat), ()), ())
 | 0, i, he => by
  obtain rfl : i = U.length := by omega
  show (step121 U U (U.length : Nat) (U.length : Nat)).sat _
  have c2 : decide (((U.length : Nat) : Int) < (U.length : Int)) = false := decide_eq_false (by omega)
  simp only [step121, c2]
  repeat first
   | refine sat_need rfl ?_
   | refine sat_ite (fun h => Bool.noConfusion h) (fun _ => ?_)
   | refine sat_ite (fun _ => ?_) (fun h => Bool.noConfusion h)
  exact sat_ret hq
 | k + 1, i, he => step121_in U i (by omega) hn _ (runs121 U hn Q hq k (i + 1) (by omega))
theorem f121_loops : BlocksOk Tryz.prog 1 L121 (codeOf Tryz.f121) := by
 refine blocksOk_of (d := fun id => Nat.beq id 0) (fun id => by unfold L121; cases Nat.beq id 0 <;> rfl) _ ?_
 have hb : blocksOf (fun id => Nat.beq id 0) (codeOf Tryz.f121) = [(0, .loop (loopOf 0 (codeOf Tryz.f121)))] := by kernel_rfl
 rw [hb]
 intro p hp g hg
 simp only [List.mem_singleton] at hp
 subst hp
 have hh : L121 0 = some ((lp121).g 1) := rfl
 rw [hh] at hg
 obtain rfl : g = (lp121).g 1 := (Option.some.inj hg).symm
 refine LoopSt.ok2 (N := 1010) prog_mixed (inlΓ_ok prog_mixed Γ121_ok 1) (L := noL) (blocksOk_none 1 _) lp121_good (fun x => step121_eq x) ?_
 rintro ⟨⟨V, ⟨⟩, U, n, i, ⟨⟩⟩, ⟨⟩⟩ hx
 have hx : pre121 ((V, (), U, n, i, ()), ()) = true := hx
 simp only [pre121, Bool.and_eq_true, decide_eq_true_eq, eqUs_iff] at hx
 have h0 : V = U := hx.1
 have h1 : n = (U.length : Nat) := hx.2.1
 have h2 : 0 ≤ i := hx.2.2.1
 have h3 : i ≤ (U.length : Nat) := hx.2.2.2.1
 have h4 : U.length ≤ 1000 := hx.2.2.2.2
 clear hx
 subst h0 h1
 obtain ⟨i, rfl⟩ : ∃ m : Nat, i = m := ⟨i.toNat, by omega⟩
 exact ⟨_, runs121 V h4 (· = ((), ())) rfl (V.length - i) i (by omega)⟩
theorem M121_sat (U : List Un) (h : U.length ≤ 1000) : (M121 U U).sat (OutOf { val := boolA true, outs := [some (.cells [.c (.v (.iface 85 (.agg #[])))] 124)] }) := by
 have hp : pre121 ((U, (), U, (U.length : Nat), 0, ()), ()) = true := by
  simp only [pre121, eqUs_iff.2 rfl, decide_true, Bool.true_and, Bool.and_eq_true, decide_eq_true_eq]
  omega
 have hne : ((U.length : Int) != (U.length : Int)) = false := by simp
 simp only [M121, ↓un_fold, ↓iv_fold, ↓ln_fold, ↓tm_fold, un_eta, iv_eta, take_un1, take_un2, take_iv1, take_iv2, tmV_cells, tmOk_cells, unV_cells, unOk_cells, ivV_lit, ivOk_lit, lineV_cells, lineOk_cells, unsOf_el, unsOk_units, sat_true, hp, hne]
 repeat first
  | refine sat_need rfl ?_
  | refine sat_ite (fun h => Bool.noConfusion h) (fun _ => ?_)
  | refine sat_ite (fun _ => ?_) (fun h => Bool.noConfusion h)
 exact sat_ret (OutOf.refl _)
abbrev Fm121 : MForm ((List Un × List Un × Unit × Unit) × Unit) := MForm.with (eIf 124) (.cons argUs (.cons argUs (.cons (argFn1 122 0 0) .nil)))
theorem eIf_len {n : Nat} {e : List (Option Ent)} {x : Unit} {cs : List Bool} (h : (eIf n).parse e = some (x, cs)) : e.length = 1 := by
 simp only [eIf] at h
 split at h
 ·rfl
 ·cases h
theorem with_parse {X Y : Type} {E : EForm Y} {F : Form X} {e : List (Option Ent)} {l : List AV} {p : X × Y} {cs : List Bool} (h : (MForm.with E F).parse e l = some (p, cs)) : ∃ ds, E.parse e = some (p.2, ds) := by
 change (match F.parse l, E.parse e with | some (x, cs), some (y, ds) => some ((x, y), cs ++ ds) | _, _ => none) = some (p, cs) at h
 split at h
 ·rename_i x c1 y c2 h1 h2
  simp only [Option.some.injEq, Prod.mk.injEq] at h
  obtain ⟨rfl, rfl⟩ := h
  exact ⟨c2, h2⟩
 ·cases h
def K121 : MSpec := Fm121.K (fun _ => { val := boolA true, outs := [some (.cells [.c (.v (.iface 85 (.agg #[])))] 124)] }) fun x => [eqUs x.1.1 x.1.2.1, decide (x.1.1.length ≤ 1000)]
theorem f121_ok : MemOk Tryz.prog 121 K121 :=
 Fm121.memOk (N := 1010) (frz := true) (L := fun _ => L121) prog_mixed (inlΓ_ok prog_mixed Γ121_ok 1) (fn := Tryz.f121) (c := codeOf Tryz.f121) (by kernel_rfl) (by kernel_rfl) (by kernel_rfl)
  (fun e l x cs h => by
   obtain ⟨ds, h2⟩ := with_parse h
   rw [eIf_len h2]
   exact f121_loops)
  (fun _ _ _ => rfl) fun x h => by
   obtain ⟨⟨U, V, ⟨⟩, ⟨⟩⟩, ⟨⟩⟩ := x
   have h1 : U = V := eqUs_iff.1 (h (eqUs U V) (by simp))
   have h2 : U.length ≤ 1000 := dec (h (decide (U.length ≤ 1000)) (by simp))
   subst h1
   have := M121_sat U h2
   rw [← M121_eq] at this
   exact this
end Go.Vse
