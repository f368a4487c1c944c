/- Helpers for the proof: no statement of its own. -/
import Derived.Test.YtpnbbgegfjefkaaGreatDoorLineA
set_option linter.unusedVariables false
set_option linter.unusedSimpArgs false
set_option linter.unnecessarySimpa false
set_option linter.deprecated false
set_option maxRecDepth 100000
namespace Go.Vse
open Go.Proofs
def Γb116 : FuncId → Option Spec := fun f => bif Nat.beq f 154 then some (pureSpec K154) else bif Nat.beq f 159 then some (pureSpec K159) else bif Nat.beq f 160 then some (pureSpec K160) else bif Nat.beq f 161 then some (pureSpec K161) else bif Nat.beq f 157 then some (pureSpec K157) else none
theorem Γb116_ok : ∀ f s, Γb116 f = some s → SpecOk Tryz.prog f s := step_ok f154_ok.spec (step_ok f159_ok.spec (step_ok f160_ok.spec (step_ok f161_ok.spec (one_ok f157_ok.spec))))
def M116 (m : Int) (n : Int) : Tr AV :=
 let x1 : List AV := [.c (.v (.bool false)), .c (.v (.string ⟨⟨denB 1⟩⟩))]
 let x2 : List AV := .c (.v (.bool (decide (m < 0)))) :: .c (.v (.string ⟨⟨magB m.natAbs⟩⟩)) :: x1
 let x3 : List AV := .c (.v (.bool (decide (n < 0)))) :: .c (.v (.string ⟨⟨magB n.natAbs⟩⟩)) :: x1
 let x4 : List AV := [.c (.v (.bool false)), .c (.v (.string ⟨⟨denB 1⟩⟩)), .c (.v (.bool false)), .c (.v (.string ⟨⟨[]⟩⟩)), .c (.v (.bool false)), .c (.v (.string ⟨⟨[]⟩⟩)), .c (.v (.bool false))]
 let x5 : Int := (hold (ratV x2 - ratV x3)).num
 let x6 : List AV := [.c (.v (.bool (decide (x5 < 0)))), .c (.v (.string ⟨⟨magB x5.natAbs⟩⟩)), .c (.v (.bool false)), .c (.v (.string ⟨⟨denB (hold (ratV x2 - ratV x3)).den⟩⟩))]
 let x7 : Int := signV (ratV x6) (ratV (.c (.v (.bool false)) :: .c (.v (.string ⟨⟨magB (((1 : Nat) : Int)).natAbs⟩⟩)) :: x1)) (ratV [.c (.v (.bool false)), .c (.v (.string ⟨⟨[]⟩⟩)), .c (.v (.bool false)), .c (.v (.string ⟨⟨[]⟩⟩))])
 .need (ratOk x2) (.need (ratOk x3) (.need (fitA (ratV x2) (-ratV x3)) (.need (realOk (.c (.v (.bool (decide (m < 0)))) :: .c (.v (.string ⟨⟨magB m.natAbs⟩⟩)) :: x4)) (.need (realOk (.c (.v (.bool (decide (n < 0)))) :: .c (.v (.string ⟨⟨magB n.natAbs⟩⟩)) :: x4)) (.need true (.need (ratOk x6) (.need true (.need true (.need (fitSign (ratV x6) (ratV (.c (.v (.bool false)) :: .c (.v (.string ⟨⟨magB (((1 : Nat) : Int)).natAbs⟩⟩)) :: x1)) (ratV [.c (.v (.bool false)), .c (.v (.string ⟨⟨[]⟩⟩)), .c (.v (.bool false)), .c (.v (.string ⟨⟨[]⟩⟩))])) (.need true (.need true (.need true (.ite true (.ret (.c (.v (.int IntKind.i64 x7)))) (.ite (x7 == 0) (.ret (.c (.v (.int IntKind.i64 0)))) (.fail "real.go:128")))))))))))))))
theorem M116_eq (m n : Int) : execFn Tryz.prog Γb116 noL 1010 Tryz.f116 [.agg (tmCells m), .agg (tmCells n)] = M116 m n := by kernel_rfl
theorem smB_iff {n : Int} : smB n = true ↔ n.natAbs ≤ 1000000 := by unfold smB; exact decide_eq_true_iff
theorem sm_bnd {n : Int} (h : smB n = true) : Bnd 1000000 1 (n : Rat) := ⟨smB_iff.1 h, Nat.le_refl _⟩
theorem sub_int (m n : Int) : (m : Rat) - (n : Rat) = ((m - n : Int) : Rat) := by simp
theorem sgn_sub (m n : Int) : sgn (m - n) 0 = sgn m n := by
 unfold sgn
 by_cases h : m < n
 ·rw [if_pos h, if_pos (by omega)]
 ·rw [if_neg h, if_neg (by omega)]
  by_cases k : m > n
  ·rw [if_pos k, if_pos (by omega)]
  ·rw [if_neg k, if_neg (by omega)]
theorem sgn00 : sgn (0 : Rat).num 0 = 0 := by decide
theorem signV_zero (a b : Rat) : signV a b 0 = sgn a.num 0 := by
 unfold signV
 simp only [sgn00, Int.mul_zero, true_or, if_true]
theorem fitSign_int {n : Int} (h : n.natAbs ≤ 2000000) : fitSign (n : Rat) 1 0 = true := by
 have hn : Bnd 2000000 1 (n : Rat) := ⟨h, Nat.le_refl _⟩
 simp only [fitSign, Bool.and_eq_true]
 refine ⟨⟨⟨fitM_of hn hn ?_ ?_ ?_ ?_ ?_ ?_, fitM_of Bnd.one Bnd.one ?_ ?_ ?_ ?_ ?_ ?_⟩, fitM_of (Bnd.one.mul Bnd.one) Bnd.zero ?_ ?_ ?_ ?_ ?_ ?_⟩, fit4_of (hn.mul hn) ((Bnd.one.mul Bnd.one).mul Bnd.zero) ?_ ?_ ?_ ?_⟩
 all_goals decide
theorem ratV_one1 : ratV [AV.c (IV.v (Value.bool false)), AV.c (IV.v (Value.string { data := { toList := magB (((1 : Nat) : Int)).natAbs } })), AV.c (IV.v (Value.bool false)), AV.c (IV.v (Value.string { data := { toList := denB 1 } }))] = 1 := ratV_cells 1
theorem M116_sat (m n : Int) (hm : smB m = true) (hn : smB n = true) : (M116 m n).sat fun r => r = intA .i64 (sgn m n) := by
 have f1 : fitA (m : Rat) (-(n : Rat)) = true := fitA_of (sm_bnd hm) (sm_bnd hn).neg (by decide) (by decide) (by decide) (by decide) (by decide) (by decide)
 have f2 : fitSign (((m - n : Int)) : Rat) 1 0 = true := fitSign_int (by have := smB_iff.1 hm; have := smB_iff.1 hn; omega)
 simp only [M116, ratV_one1, ratV_int1, ratOk_int1, ratV_lit, ratOk_lit, ratV_zero', ratOk_zero', realV_lit, realOk_lit, lineV_lit, lineOk_lit, hold_eq, Bool.and_self, Bool.and_true, Bool.true_and, sat_true, f1, sub_int, f2, signV_zero]
 refine sat_ite (fun _ => sat_ret ?_) (fun h => by cases h)
 show AV.c (IV.v (Value.int IntKind.i64 (sgn (m - n) 0))) = _
 rw [sgn_sub]
 rfl
def K116 : List AV → Option (AV × List Bool) := (F2 argTm argTm).K (fun x => intA .i64 (sgn x.1 x.2.1)) fun x => [smB x.1, smB x.2.1]
theorem f116_ok : PureOk Tryz.prog 116 K116 :=
 (F2 argTm argTm).pureEq (N := 1010) (L := noL) prog_mixed Γb116_ok (fn := Tryz.f116) (c := codeOf Tryz.f116) (by kernel_rfl) (by kernel_rfl) (by kernel_rfl) (blocksOk_none _ _) (fun _ => rfl) (M := fun x => M116 x.1 x.2.1) (fun x => M116_eq x.1 x.2.1)
  fun x h => M116_sat x.1 x.2.1 (h _ (by simp)) (h _ (by simp))
end Go.Vse
set_option maxRecDepth 100000
namespace Go.Vse
open Go.Proofs
structure Bd where
 t : Int
 k : Bool
def bdCells (b : Bd) : List AV := tmCells b.t ++ [.c (.v (.bool b.k))]
def bdV (l : List AV) : Bd := ⟨tmV (l.take 9), boolV (l.drop 9)⟩
def bdOk (l : List AV) : Bool := tmOk (l.take 9) && boolOk (l.drop 9)
theorem bdOk_eq {l : List AV} (h : bdOk l = true) : l = bdCells (bdV l) := by
 simp only [bdOk, Bool.and_eq_true] at h
 have e1 := tmOk_eq h.1
 have e2 := boolOk_eq h.2
 show l = tmCells (tmV (l.take 9)) ++ [.c (.v (.bool (boolV (l.drop 9))))]
 rw [← e1, ← e2, List.take_append_drop]
def argBd : Arg Bd where
 get := fun a => match a with | .agg l => some (bdV l, [bdOk l]) | _ => none
 put := fun i => .agg (bdCells i)
 ok := by
  intro a x cs h hc
  split at h
  ·rename_i l
   simp only [Option.some.injEq, Prod.mk.injEq] at h
   obtain ⟨rfl, rfl⟩ := h
   have := bdOk_eq (l := l) (hc _ (by simp))
   rw [← this]; exact Sees.refl _
  ·cases h
def Γb48 : FuncId → Option Spec := fun f => bif Nat.beq f 116 then some (pureSpec K116) else none
theorem Γb48_ok : ∀ f s, Γb48 f = some s → SpecOk Tryz.prog f s := one_ok f116_ok.spec
def Γb112 : FuncId → Option Spec := fun f => bif Nat.beq f 62 then some (pureSpec K62) else bif Nat.beq f 157 then some (pureSpec K157) else none
theorem Γb112_ok : ∀ f s, Γb112 f = some s → SpecOk Tryz.prog f s := step_ok f62_ok.spec (one_ok f157_ok.spec)
def M48 (i : Iv) (j : Iv) : Tr AV :=
 let x1 : List AV := [.c (.v (.bool false)), .c (.v (.string ⟨⟨denB 1⟩⟩)), .c (.v (.bool false)), .c (.v (.string ⟨⟨[]⟩⟩)), .c (.v (.bool false)), .c (.v (.string ⟨⟨[]⟩⟩)), .c (.v (.bool false))]
 let x2 : List AV := .c (.v (.bool (decide (i.b < 0)))) :: .c (.v (.string ⟨⟨magB i.b.natAbs⟩⟩)) :: x1
 let x3 : List AV := .c (.v (.bool (decide (j.a < 0)))) :: .c (.v (.string ⟨⟨magB j.a.natAbs⟩⟩)) :: x1
 let x4 : Int := tmV x2
 let x5 : Int := tmV x3
 let x6 : Int := sgn x4 x5
 let x7 : Bool := decide (x6 < 0)
 let x8 : Bool := x6 == 0
 .need (tmOk x2) (.need (tmOk x3) (.need (smB x4) (.need (smB x5) (.need (bif x7 then true else bif x8 then bif i.ob then true else true else true) (.ret (.c (.v (.bool (bif x7 then true else bif x8 then bif i.ob then bif false then true else bif true then true else false else bif false then true else bif true then bif false then true else j.oa else false else bif false then true else false)))))))))
def M119 (i : Iv) : Tr AV :=
 let x1 : Bool := false == false
 let x2 : List Bool := [x1]
 let x3 : Bool := andAll ((([] : List UInt8) == []) :: x2).reverse
 let x4 : List UInt8 := denB 1
 .ret (.c (.v (.bool (andAll [x1, andAll [x3, x3].reverse, andAll [andAll ((x4 == x4) :: x2).reverse, andAll [magB i.a.natAbs == magB i.b.natAbs, decide (i.a < 0) == decide (i.b < 0)].reverse].reverse].reverse))))
def M120 (U : List Un) (t : Int) : Tr AV :=
 let x1 : Int := ↑U.length
 let x2 : Bool := decide (x1 > 0)
 let x3 : Int := IntKind.i64.wrap (x1 - 1)
 let x4 : Bool := decide (0 ≤ x3 ∧ x3 < x1)
 let x5 : Bool := false == false
 let x6 : List Bool := [x5]
 let x7 : Bool := andAll ((([] : List UInt8) == []) :: x6).reverse
 let x8 : List UInt8 := denB 1
 let x9 : Int := (U.getD x3.toNat u0).b
 let x10 : Bool := bif true then andAll [x5, andAll [x7, x7].reverse, andAll [andAll ((x8 == x8) :: x6).reverse, andAll [magB x9.natAbs == magB t.natAbs, decide (x9 < 0) == decide (t < 0)].reverse].reverse].reverse else false
 let x11 : Bool := x4 && true
 let x12 : Bool := bif true then !(U.getD x3.toNat u0).ob else false
 .need (bif x2 then x4 && bif x10 then x11 else true else bif false then x11 else true) (.ret (.c (.v (.bool (bif x2 then bif x10 then x12 else false else bif false then x12 else false)))))
def M112 (n : Int) : Tr AV :=
 let x1 : List AV := [.c (.v (.bool (decide (n < 0)))), .c (.v (.string ⟨⟨magB n.natAbs⟩⟩)), .c (.v (.bool false)), .c (.v (.string ⟨⟨denB 1⟩⟩))]
 .need (ratOk x1) (.need (w64 (ratV x1).num) (.need (w64 ↑(ratV x1).den) (.need true (.ite false (.ret (.c (.v (.int IntKind.i64 5)))) (.need true (.ite false (.ret (.c (.v (.int IntKind.i64 5)))) (.ite true (.ite false (.ret (.c (.v (.int IntKind.i64 5)))) (.ret (.c (.v (.int IntKind.i64 0))))) (.fail "real.go:29"))))))))
def M113 (a : Bd) (b : Bd) : Tr AV :=
 let x1 : List AV := [.c (.v (.bool false)), .c (.v (.string ⟨⟨denB 1⟩⟩)), .c (.v (.bool false)), .c (.v (.string ⟨⟨[]⟩⟩)), .c (.v (.bool false)), .c (.v (.string ⟨⟨[]⟩⟩)), .c (.v (.bool false))]
 let x2 : List AV := .c (.v (.bool (decide (a.t < 0)))) :: .c (.v (.string ⟨⟨magB a.t.natAbs⟩⟩)) :: x1
 let x3 : List AV := .c (.v (.bool (decide (b.t < 0)))) :: .c (.v (.string ⟨⟨magB b.t.natAbs⟩⟩)) :: x1
 let x4 : Int := tmV x2
 let x5 : Int := tmV x3
 let x6 : Int := sgn x4 x5
 .need (tmOk x2) (.need (tmOk x3) (.need (smB x4) (.need (smB x5) (.ite (x6 != 0) (.ret (.c (.v (.int IntKind.i64 x6)))) (.ite (a.k == b.k) (.ret (.c (.v (.int IntKind.i64 0)))) (.ite b.k (.ret (.c (.v (.int IntKind.i64 (-1))))) (.ret (.c (.v (.int IntKind.i64 1))))))))))
def M166 (i : Iv) : Tr AV :=
 .ite i.oa (.ret (.c (.v (.int IntKind.i64 1)))) (.ret (.c (.v (.int IntKind.i64 0))))
theorem M48_eq (i j : Iv) : execFn Tryz.prog Γb48 noL 1010 Tryz.f48 [.agg (ivCells i), .agg (ivCells j)] = M48 i j := by kernel_rfl
theorem M119_eq (i : Iv) : execFn Tryz.prog (fun _ => none) noL 1010 Tryz.f119 [.agg (ivCells i)] = M119 i := by kernel_rfl
theorem M120_eq (U : List Un) (t : Int) : execFn Tryz.prog (fun _ => none) noL 1010 Tryz.f120 [usA U, .agg (tmCells t)] = M120 U t := by kernel_rfl
theorem M112_eq (n : Int) : execFn Tryz.prog Γb112 noL 1010 Tryz.f112 [.agg (tmCells n)] = M112 n := by kernel_rfl
theorem M113_eq (a b : Bd) : execFn Tryz.prog Γb48 noL 1010 Tryz.f113 [.agg (bdCells a), .agg (bdCells b)] = M113 a b := by kernel_rfl
theorem M166_eq (i : Iv) : execFn Tryz.prog (fun _ => none) noL 1010 Tryz.f166 [.agg (ivCells i)] = M166 i := by kernel_rfl
theorem tmV_l (n : Int) : tmV [AV.c (IV.v (Value.bool (decide (n < 0)))), AV.c (IV.v (Value.string { data := { toList := magB n.natAbs } })), AV.c (IV.v (Value.bool false)), AV.c (IV.v (Value.string { data := { toList := denB 1 } })), AV.c (IV.v (Value.bool false)), AV.c (IV.v (Value.string { data := { toList := [] } })), AV.c (IV.v (Value.bool false)), AV.c (IV.v (Value.string { data := { toList := [] } })), AV.c (IV.v (Value.bool false))] = n := tmV_cells n
theorem tmOk_l (n : Int) : tmOk [AV.c (IV.v (Value.bool (decide (n < 0)))), AV.c (IV.v (Value.string { data := { toList := magB n.natAbs } })), AV.c (IV.v (Value.bool false)), AV.c (IV.v (Value.string { data := { toList := denB 1 } })), AV.c (IV.v (Value.bool false)), AV.c (IV.v (Value.string { data := { toList := [] } })), AV.c (IV.v (Value.bool false)), AV.c (IV.v (Value.string { data := { toList := [] } })), AV.c (IV.v (Value.bool false))] = true := tmOk_cells n
theorem tm_test (a b : Int) : andAll [false == false, andAll [andAll ((([] : List UInt8) == []) :: [false == false]).reverse, andAll ((([] : List UInt8) == []) :: [false == false]).reverse].reverse, andAll [andAll ((denB 1 == denB 1) :: [false == false]).reverse, andAll [magB a.natAbs == magB b.natAbs, decide (a < 0) == decide (b < 0)].reverse].reverse].reverse = decide (a = b) := by
 rw [eqI_cells]
 simp [andAll]
theorem sgn_ltD (a b : Int) : decide (sgn a b < 0) = decide (a < b) := by
 unfold sgn
 by_cases h : a < b
 ·rw [if_pos h]; simp [h]
 ·rw [if_neg h]
  by_cases k : a > b
  ·rw [if_pos k]; simp [h]
  ·rw [if_neg k]; simp [h]
theorem sgn_eqD (a b : Int) : (sgn a b == 0) = decide (a = b) := by
 unfold sgn
 by_cases h : a < b
 ·rw [if_pos h]; simp; omega
 ·rw [if_neg h]
  by_cases k : a > b
  ·rw [if_pos k]; simp; omega
  ·rw [if_neg k]; simp; omega
def apartB (i j : Iv) : Bool := decide (i.b < j.a) || (decide (i.b = j.a) && (i.ob || j.oa))
theorem M48_sat (i j : Iv) (h1 : smB i.b = true) (h2 : smB j.a = true) : (M48 i j).sat fun r => r = boolA (apartB i j) := by
 simp only [M48, tmV_l, tmOk_l, h1, h2, sat_true, sgn_ltD, sgn_eqD]
 refine sat_need ?_ (sat_ret ?_)
 ·cases decide (i.b < j.a) <;> cases decide (i.b = j.a) <;> cases i.ob <;> rfl
 ·unfold apartB
  cases decide (i.b < j.a) <;> cases decide (i.b = j.a) <;> cases i.ob <;> cases j.oa <;> rfl
theorem M119_sat (i : Iv) : (M119 i).sat fun r => r = boolA (decide (i.a = i.b)) := by
 simp only [M119, tm_test]
 exact sat_ret rfl
def heldB (U : List Un) (t : Int) : Bool := decide (0 < U.length) && (decide ((U.getD (U.length - 1) u0).b = t) && !(U.getD (U.length - 1) u0).ob)
theorem M120_sat (U : List Un) (t : Int) (h : decide (U.length ≤ 1000) = true) : (M120 U t).sat fun r => r = boolA (heldB U t) := by
 have h := of_decide_eq_true h
 simp only [M120, tm_test]
 by_cases hu : 0 < U.length
 ·have hw : IntKind.i64.wrap ((U.length : Int) - 1) = ((U.length - 1 : Nat) : Int) := by rw [wrap_i64 (by omega)]; omega
  have c1 : decide ((0 : Int) ≤ ((U.length - 1 : Nat) : Int) ∧ ((U.length - 1 : Nat) : Int) < (U.length : Int)) = true := decide_eq_true (by omega)
  have c2 : decide ((U.length : Int) > 0) = true := decide_eq_true (by omega)
  simp only [hw, c1, c2, Int.toNat_natCast, cond_true, Bool.and_self, Bool.true_and]
  refine sat_need ?_ (sat_ret ?_)
  ·cases decide ((U.getD (U.length - 1) u0).b = t) <;> rfl
  ·unfold heldB
   rw [decide_eq_true hu]
   cases decide ((U.getD (U.length - 1) u0).b = t) <;> cases (U.getD (U.length - 1) u0).ob <;> rfl
 ·have c2 : decide ((U.length : Int) > 0) = false := decide_eq_false (by omega)
  simp only [c2, cond_false]
  refine sat_need rfl (sat_ret ?_)
  unfold heldB
  rw [decide_eq_false hu]
  rfl
theorem sm_w64 {n : Int} (h : smB n = true) : w64 n = true := decide_eq_true (by have := smB_iff.1 h; omega)
theorem num_int (n : Int) : ((n : Rat)).num = n := rfl
theorem den_int (n : Int) : ((n : Rat)).den = 1 := rfl
theorem M112_sat (n : Int) (h : smB n = true) : (M112 n).sat fun r => r = intA .i64 0 := by
 have h1 : w64 ((1 : Nat) : Int) = true := by decide
 simp only [M112, ratV_int1, ratOk_int1, num_int, den_int, sm_w64 h, h1, sat_true]
 exact sat_ite (fun h => by cases h) fun _ => sat_need rfl (sat_ite (fun h => by cases h) fun _ => sat_ite (fun _ => sat_ite (fun h => by cases h) fun _ => sat_ret rfl) (fun h => by cases h))
def bdCmp (a b : Bd) : Int := bif sgn a.t b.t != 0 then sgn a.t b.t else bif a.k == b.k then 0 else bif b.k then -1 else 1
theorem M113_sat (a b : Bd) (h1 : smB a.t = true) (h2 : smB b.t = true) : (M113 a b).sat fun r => r = intA .i64 (bdCmp a b) := by
 simp only [M113, tmV_l, tmOk_l, h1, h2, sat_true]
 unfold bdCmp
 refine sat_ite (fun h => sat_ret (by rw [h]; rfl)) fun h => sat_ite (fun k => sat_ret (by rw [h, k]; rfl)) fun k => sat_ite (fun m => sat_ret (by rw [h, k, m]; rfl)) fun m => sat_ret (by rw [h, k, m]; rfl)
theorem M166_sat (i : Iv) : (M166 i).sat fun r => r = intA .i64 (bif i.oa then 1 else 0) := sat_ite (fun h => sat_ret (by rw [h]; rfl)) fun h => sat_ret (by rw [h]; rfl)
def K48 : List AV → Option (AV × List Bool) := (F2 argIv argIv).K (fun x => boolA (apartB x.1 x.2.1)) fun x => [smB x.1.b, smB x.2.1.a]
theorem f48_ok : PureOk Tryz.prog 48 K48 :=
 (F2 argIv argIv).pureEq (N := 1010) (L := noL) prog_mixed Γb48_ok (fn := Tryz.f48) (c := codeOf Tryz.f48) (by kernel_rfl) (by kernel_rfl) (by kernel_rfl) (blocksOk_none _ _) (fun _ => rfl) (M := fun x => M48 x.1 x.2.1) (fun x => M48_eq x.1 x.2.1)
  fun x h => M48_sat x.1 x.2.1 (h _ (by simp)) (h _ (by simp))
def K119 : List AV → Option (AV × List Bool) := (F1 argIv).K (fun x => boolA (decide (x.1.a = x.1.b))) fun x => []
theorem f119_ok : PureOk Tryz.prog 119 K119 :=
 (F1 argIv).pureEq (N := 1010) (L := noL) prog_mixed noΓ_ok (fn := Tryz.f119) (c := codeOf Tryz.f119) (by kernel_rfl) (by kernel_rfl) (by kernel_rfl) (blocksOk_none _ _) (fun _ => rfl) (M := fun x => M119 x.1) (fun x => M119_eq x.1)
  fun x h => M119_sat x.1
def K120 : List AV → Option (AV × List Bool) := (F2 argUs argTm).K (fun x => boolA (heldB x.1 x.2.1)) fun x => [decide (x.1.length ≤ 1000)]
theorem f120_ok : PureOk Tryz.prog 120 K120 :=
 (F2 argUs argTm).pureEq (N := 1010) (L := noL) prog_mixed noΓ_ok (fn := Tryz.f120) (c := codeOf Tryz.f120) (by kernel_rfl) (by kernel_rfl) (by kernel_rfl) (blocksOk_none _ _) (fun _ => rfl) (M := fun x => M120 x.1 x.2.1) (fun x => M120_eq x.1 x.2.1)
  fun x h => M120_sat x.1 x.2.1 (h _ (by simp))
def K112 : List AV → Option (AV × List Bool) := (F1 argTm).K (fun x => intA .i64 0) fun x => [smB x.1]
theorem f112_ok : PureOk Tryz.prog 112 K112 :=
 (F1 argTm).pureEq (N := 1010) (L := noL) prog_mixed Γb112_ok (fn := Tryz.f112) (c := codeOf Tryz.f112) (by kernel_rfl) (by kernel_rfl) (by kernel_rfl) (blocksOk_none _ _) (fun _ => rfl) (M := fun x => M112 x.1) (fun x => M112_eq x.1)
  fun x h => M112_sat x.1 (h _ (by simp))
def K113 : List AV → Option (AV × List Bool) := (F2 argBd argBd).K (fun x => intA .i64 (bdCmp x.1 x.2.1)) fun x => [smB x.1.t, smB x.2.1.t]
theorem f113_ok : PureOk Tryz.prog 113 K113 :=
 (F2 argBd argBd).pureEq (N := 1010) (L := noL) prog_mixed Γb48_ok (fn := Tryz.f113) (c := codeOf Tryz.f113) (by kernel_rfl) (by kernel_rfl) (by kernel_rfl) (blocksOk_none _ _) (fun _ => rfl) (M := fun x => M113 x.1 x.2.1) (fun x => M113_eq x.1 x.2.1)
  fun x h => M113_sat x.1 x.2.1 (h _ (by simp)) (h _ (by simp))
def K166 : List AV → Option (AV × List Bool) := (F1 argIv).K (fun x => intA .i64 (bif x.1.oa then 1 else 0)) fun x => []
theorem f166_ok : PureOk Tryz.prog 166 K166 :=
 (F1 argIv).pureEq (N := 1010) (L := noL) prog_mixed noΓ_ok (fn := Tryz.f166) (c := codeOf Tryz.f166) (by kernel_rfl) (by kernel_rfl) (by kernel_rfl) (blocksOk_none _ _) (fun _ => rfl) (M := fun x => M166 x.1) (fun x => M166_eq x.1)
  fun x h => M166_sat x.1
end Go.Vse
set_option maxRecDepth 100000
namespace Go.Vse
open Go.Proofs
def Γb47 : FuncId → Option Spec := fun f => bif Nat.beq f 112 then some (pureSpec K112) else bif Nat.beq f 113 then some (pureSpec K113) else none
theorem Γb47_ok : ∀ f s, Γb47 f = some s → SpecOk Tryz.prog f s := step_ok f112_ok.spec (one_ok f113_ok.spec)
def Γ165 : FuncId → Option Spec := fun f => bif Nat.beq f 116 then some (pureSpec K116) else bif Nat.beq f 166 then some (pureSpec K166) else bif Nat.beq f 167 then some (pureSpec K167) else bif Nat.beq f 168 then some (pureSpec K168) else none
theorem Γ165_ok : ∀ f s, Γ165 f = some s → SpecOk Tryz.prog f s := step_ok f116_ok.spec (step_ok f166_ok.spec (step_ok f167_ok.spec (one_ok f168_ok.spec)))
def M47 (i : Iv) : Tr AV :=
 let x1 : List AV := [.c (.v (.bool false)), .c (.v (.string ⟨⟨denB 1⟩⟩)), .c (.v (.bool false)), .c (.v (.string ⟨⟨[]⟩⟩)), .c (.v (.bool false)), .c (.v (.string ⟨⟨[]⟩⟩)), .c (.v (.bool false))]
 let x2 : List AV := .c (.v (.bool (decide (i.a < 0)))) :: .c (.v (.string ⟨⟨magB i.a.natAbs⟩⟩)) :: x1
 let x3 : List AV := .c (.v (.bool (decide (i.b < 0)))) :: .c (.v (.string ⟨⟨magB i.b.natAbs⟩⟩)) :: x1
 let x4 : List AV := [.c (.v (.bool (decide (i.a < 0)))), .c (.v (.string ⟨⟨magB i.a.natAbs⟩⟩)), .c (.v (.bool false)), .c (.v (.string ⟨⟨denB 1⟩⟩)), .c (.v (.bool false)), .c (.v (.string ⟨⟨[]⟩⟩)), .c (.v (.bool false)), .c (.v (.string ⟨⟨[]⟩⟩)), .c (.v (.bool false)), .c (.v (.bool i.oa))]
 let x5 : List AV := [.c (.v (.bool (decide (i.b < 0)))), .c (.v (.string ⟨⟨magB i.b.natAbs⟩⟩)), .c (.v (.bool false)), .c (.v (.string ⟨⟨denB 1⟩⟩)), .c (.v (.bool false)), .c (.v (.string ⟨⟨[]⟩⟩)), .c (.v (.bool false)), .c (.v (.string ⟨⟨[]⟩⟩)), .c (.v (.bool false)), .c (.v (.bool !i.ob))]
 let x6 : Int := bdCmp (bdV x4) (bdV x5)
 .need (tmOk x2) (.need (smB (tmV x2)) (.need (bif 0 != 0 then true else tmOk x3 && (smB (tmV x3) && true)) (.ite false (.ret (.c (.v (.int IntKind.i64 5)))) (.need (bdOk x4) (.need (bdOk x5) (.need (smB (tmV (List.take 9 x4))) (.need (smB (tmV (List.take 9 x5))) (.ite (decide (x6 ≥ 0)) (.ret (.c (.v (.int IntKind.i64 10)))) (.ret (.c (.v (.int IntKind.i64 0))))))))))))
def M165 (u : Un) (v : Un) : Tr AV :=
 let x1 : List AV := [.c (.v (.bool false)), .c (.v (.string ⟨⟨denB 1⟩⟩)), .c (.v (.bool false)), .c (.v (.string ⟨⟨[]⟩⟩)), .c (.v (.bool false)), .c (.v (.string ⟨⟨[]⟩⟩)), .c (.v (.bool false))]
 let x2 : List AV := .c (.v (.bool (decide (u.a < 0)))) :: .c (.v (.string ⟨⟨magB u.a.natAbs⟩⟩)) :: x1
 let x3 : List AV := .c (.v (.bool (decide (v.a < 0)))) :: .c (.v (.string ⟨⟨magB v.a.natAbs⟩⟩)) :: x1
 let x4 : Int := tmV x2
 let x5 : Int := tmV x3
 let x6 : List AV := .c (.v (.bool (decide (u.b < 0)))) :: .c (.v (.string ⟨⟨magB u.b.natAbs⟩⟩)) :: x1
 let x7 : List AV := .c (.v (.bool (decide (v.b < 0)))) :: .c (.v (.string ⟨⟨magB v.b.natAbs⟩⟩)) :: x1
 let x8 : Int := tmV x6
 let x9 : Int := tmV x7
 let x10 : Nat := 0 + 1
 .need (tmOk x2) (.need (tmOk x3) (.need (smB x4) (.need (smB x5) (.need (ivOk [.c (.v (.bool (decide (u.a < 0)))), .c (.v (.string ⟨⟨magB u.a.natAbs⟩⟩)), .c (.v (.bool false)), .c (.v (.string ⟨⟨denB 1⟩⟩)), .c (.v (.bool false)), .c (.v (.string ⟨⟨[]⟩⟩)), .c (.v (.bool false)), .c (.v (.string ⟨⟨[]⟩⟩)), .c (.v (.bool false)), .c (.v (.bool (decide (u.b < 0)))), .c (.v (.string ⟨⟨magB u.b.natAbs⟩⟩)), .c (.v (.bool false)), .c (.v (.string ⟨⟨denB 1⟩⟩)), .c (.v (.bool false)), .c (.v (.string ⟨⟨[]⟩⟩)), .c (.v (.bool false)), .c (.v (.string ⟨⟨[]⟩⟩)), .c (.v (.bool false)), .c (.v (.bool u.oa)), .c (.v (.bool u.ob))]) (.need (ivOk [.c (.v (.bool (decide (v.a < 0)))), .c (.v (.string ⟨⟨magB v.a.natAbs⟩⟩)), .c (.v (.bool false)), .c (.v (.string ⟨⟨denB 1⟩⟩)), .c (.v (.bool false)), .c (.v (.string ⟨⟨[]⟩⟩)), .c (.v (.bool false)), .c (.v (.string ⟨⟨[]⟩⟩)), .c (.v (.bool false)), .c (.v (.bool (decide (v.b < 0)))), .c (.v (.string ⟨⟨magB v.b.natAbs⟩⟩)), .c (.v (.bool false)), .c (.v (.string ⟨⟨denB 1⟩⟩)), .c (.v (.bool false)), .c (.v (.string ⟨⟨[]⟩⟩)), .c (.v (.bool false)), .c (.v (.string ⟨⟨[]⟩⟩)), .c (.v (.bool false)), .c (.v (.bool v.oa)), .c (.v (.bool v.ob))]) (.need (tmOk x6) (.need (tmOk x7) (.need (smB x8) (.need (smB x9) (.need true (.need true (.need true (.ret (.c (.v (.int IntKind.i64 (firstNZ (intsOf 3 fun k => List.take x10 (List.drop (k * x10) [IV.v (Value.int IntKind.i64 (sgn x8 x9)), IV.v (Value.int IntKind.i64 (sgn (bif boolV [.c (.v (.bool u.oa))] then 1 else 0) (bif boolV [.c (.v (.bool v.oa))] then 1 else 0))), IV.v (Value.int IntKind.i64 (sgn x4 x5))].reverse)))))))))))))))))))
theorem M47_eq (i : Iv) : execFn Tryz.prog (inlΓ Tryz.prog Γb47 (fun _ => false) 1010 2) noL 1010 Tryz.f47 [.agg (ivCells i)] = M47 i := by kernel_rfl
theorem M165_eq (u v : Un) : execFn Tryz.prog Γ165 noL 1010 Tryz.f165 [uniA u, uniA v] = M165 u v := by kernel_rfl
theorem ivOk_l (a b : Int) (p q : Bool) : ivOk [AV.c (IV.v (Value.bool (decide (a < 0)))), AV.c (IV.v (Value.string { data := { toList := magB a.natAbs } })), AV.c (IV.v (Value.bool false)), AV.c (IV.v (Value.string { data := { toList := denB 1 } })), AV.c (IV.v (Value.bool false)), AV.c (IV.v (Value.string { data := { toList := [] } })), AV.c (IV.v (Value.bool false)), AV.c (IV.v (Value.string { data := { toList := [] } })), AV.c (IV.v (Value.bool false)), AV.c (IV.v (Value.bool (decide (b < 0)))), AV.c (IV.v (Value.string { data := { toList := magB b.natAbs } })), AV.c (IV.v (Value.bool false)), AV.c (IV.v (Value.string { data := { toList := denB 1 } })), AV.c (IV.v (Value.bool false)), AV.c (IV.v (Value.string { data := { toList := [] } })), AV.c (IV.v (Value.bool false)), AV.c (IV.v (Value.string { data := { toList := [] } })), AV.c (IV.v (Value.bool false)), AV.c (IV.v (Value.bool p)), AV.c (IV.v (Value.bool q))] = true := ivOk_lit ⟨a, b, p, q⟩
theorem bdV_l (a : Int) (p : Bool) : bdV [AV.c (IV.v (Value.bool (decide (a < 0)))), AV.c (IV.v (Value.string { data := { toList := magB a.natAbs } })), AV.c (IV.v (Value.bool false)), AV.c (IV.v (Value.string { data := { toList := denB 1 } })), AV.c (IV.v (Value.bool false)), AV.c (IV.v (Value.string { data := { toList := [] } })), AV.c (IV.v (Value.bool false)), AV.c (IV.v (Value.string { data := { toList := [] } })), AV.c (IV.v (Value.bool false)), AV.c (IV.v (Value.bool p))] = ⟨a, p⟩ := by
 show Bd.mk (tmV (tmCells a)) p = _
 rw [tmV_cells]
theorem bdOk_l (a : Int) (p : Bool) : bdOk [AV.c (IV.v (Value.bool (decide (a < 0)))), AV.c (IV.v (Value.string { data := { toList := magB a.natAbs } })), AV.c (IV.v (Value.bool false)), AV.c (IV.v (Value.string { data := { toList := denB 1 } })), AV.c (IV.v (Value.bool false)), AV.c (IV.v (Value.string { data := { toList := [] } })), AV.c (IV.v (Value.bool false)), AV.c (IV.v (Value.string { data := { toList := [] } })), AV.c (IV.v (Value.bool false)), AV.c (IV.v (Value.bool p))] = true := by
 show (tmOk (tmCells a) && true) = true
 rw [tmOk_cells]; rfl
def okIv (i : Iv) : Bool := smB i.a && (smB i.b && (decide (i.a < i.b) || (decide (i.a = i.b) && (!i.oa && !i.ob))))
theorem M47_sat (i : Iv) (h : okIv i = true) : (M47 i).sat fun r => r = intA .i64 0 := by
 simp only [okIv, Bool.and_eq_true, Bool.or_eq_true, decide_eq_true_eq, Bool.not_eq_true'] at h
 obtain ⟨h1, h2, h3⟩ := h
 have hc : decide (bdCmp ⟨i.a, i.oa⟩ ⟨i.b, !i.ob⟩ ≥ 0) = false := by
  unfold bdCmp
  rcases h3 with h3 | ⟨h3, h4, h5⟩
  ·have : sgn i.a i.b = -1 := by unfold sgn; rw [if_pos h3]
   rw [this]; rfl
  ·have : sgn i.a i.b = 0 := by unfold sgn; rw [if_neg (by omega), if_neg (by omega)]
   rw [this, h4, h5]; rfl
 simp only [M47, tmV_l, tmOk_l, bdV_l, bdOk_l, List.take_succ_cons, List.take_zero, h1, h2, sat_true, hc]
 repeat first
  | refine sat_need rfl ?_
  | refine sat_ite (fun h => Bool.noConfusion h) (fun _ => ?_)
 exact sat_ret rfl
theorem M165_sat (u v : Un) (h1 : smB u.a = true) (h2 : smB v.a = true) (h3 : smB u.b = true) (h4 : smB v.b = true) (h : decide (v.a < u.a) = true) : (M165 u v).sat fun r => r = intA .i64 1 := by
 have hlt : v.a < u.a := of_decide_eq_true h
 simp only [M165, tmV_l, tmOk_l, ivOk_l, h1, h2, h3, h4, sat_true]
 refine sat_ret ?_
 have hs : sgn u.a v.a = 1 := by unfold sgn; rw [if_neg (by omega), if_pos (by omega)]
 show AV.c (IV.v (Value.int IntKind.i64 (firstNZ [sgn u.a v.a, _, _]))) = _
 rw [hs]
 rfl
def K47 : List AV → Option (AV × List Bool) := (F1 argIv).K (fun x => intA .i64 0) fun x => [okIv x.1]
theorem f47_ok : PureOk Tryz.prog 47 K47 :=
 (F1 argIv).pureEq (N := 1010) (L := noL) prog_mixed (inlΓ_ok prog_mixed Γb47_ok 2) (fn := Tryz.f47) (c := codeOf Tryz.f47) (by kernel_rfl) (by kernel_rfl) (by kernel_rfl) (blocksOk_none _ _) (fun _ => rfl) (M := fun x => M47 x.1) (fun x => M47_eq x.1)
  fun x h => M47_sat x.1 (h _ (by simp))
def K165 : List AV → Option (AV × List Bool) := (F2 argUn argUn).K (fun x => intA .i64 1) fun x => [smB x.1.a, smB x.2.1.a, smB x.1.b, smB x.2.1.b, decide (x.2.1.a < x.1.a)]
theorem f165_ok : PureOk Tryz.prog 165 K165 :=
 (F2 argUn argUn).pureEq (N := 1010) (L := noL) prog_mixed Γ165_ok (fn := Tryz.f165) (c := codeOf Tryz.f165) (by kernel_rfl) (by kernel_rfl) (by kernel_rfl) (blocksOk_none _ _) (fun _ => rfl) (M := fun x => M165 x.1 x.2.1) (fun x => M165_eq x.1 x.2.1)
  fun x h => M165_sat x.1 x.2.1 (h _ (by simp)) (h _ (by simp)) (h _ (by simp)) (h _ (by simp)) (h _ (by simp))
end Go.Vse
set_option maxRecDepth 100000
namespace Go.Vse
open Go.Proofs
theorem un_fold (a b : Int) (p q : Bool) (f : L4) : [AV.c (IV.v (Value.bool (decide (a < 0)))), AV.c (IV.v (Value.string { data := { toList := magB a.natAbs } })), AV.c (IV.v (Value.bool false)), AV.c (IV.v (Value.string { data := { toList := denB 1 } })), AV.c (IV.v (Value.bool false)), AV.c (IV.v (Value.string { data := { toList := [] } })), AV.c (IV.v (Value.bool false)), AV.c (IV.v (Value.string { data := { toList := [] } })), AV.c (IV.v (Value.bool false)), AV.c (IV.v (Value.bool (decide (b < 0)))), AV.c (IV.v (Value.string { data := { toList := magB b.natAbs } })), AV.c (IV.v (Value.bool false)), AV.c (IV.v (Value.string { data := { toList := denB 1 } })), AV.c (IV.v (Value.bool false)), AV.c (IV.v (Value.string { data := { toList := [] } })), AV.c (IV.v (Value.bool false)), AV.c (IV.v (Value.string { data := { toList := [] } })), AV.c (IV.v (Value.bool false)), AV.c (IV.v (Value.bool p)), AV.c (IV.v (Value.bool q)), AV.c (IV.v (Value.bool (decide (f.x0.num < 0)))), AV.c (IV.v (Value.string { data := { toList := magB f.x0.num.natAbs } })), AV.c (IV.v (Value.bool false)), AV.c (IV.v (Value.string { data := { toList := denB f.x0.den } })), AV.c (IV.v (Value.bool (decide (f.x1.num < 0)))), AV.c (IV.v (Value.string { data := { toList := magB f.x1.num.natAbs } })), AV.c (IV.v (Value.bool false)), AV.c (IV.v (Value.string { data := { toList := denB f.x1.den } })), AV.c (IV.v (Value.bool (decide (f.y0.num < 0)))), AV.c (IV.v (Value.string { data := { toList := magB f.y0.num.natAbs } })), AV.c (IV.v (Value.bool false)), AV.c (IV.v (Value.string { data := { toList := denB f.y0.den } })), AV.c (IV.v (Value.bool (decide (f.y1.num < 0)))), AV.c (IV.v (Value.string { data := { toList := magB f.y1.num.natAbs } })), AV.c (IV.v (Value.bool false)), AV.c (IV.v (Value.string { data := { toList := denB f.y1.den } }))] = unCells ⟨a, b, p, q, f⟩ := rfl
theorem iv_fold (a b : Int) (p q : Bool) : [AV.c (IV.v (Value.bool (decide (a < 0)))), AV.c (IV.v (Value.string { data := { toList := magB a.natAbs } })), AV.c (IV.v (Value.bool false)), AV.c (IV.v (Value.string { data := { toList := denB 1 } })), AV.c (IV.v (Value.bool false)), AV.c (IV.v (Value.string { data := { toList := [] } })), AV.c (IV.v (Value.bool false)), AV.c (IV.v (Value.string { data := { toList := [] } })), AV.c (IV.v (Value.bool false)), AV.c (IV.v (Value.bool (decide (b < 0)))), AV.c (IV.v (Value.string { data := { toList := magB b.natAbs } })), AV.c (IV.v (Value.bool false)), AV.c (IV.v (Value.string { data := { toList := denB 1 } })), AV.c (IV.v (Value.bool false)), AV.c (IV.v (Value.string { data := { toList := [] } })), AV.c (IV.v (Value.bool false)), AV.c (IV.v (Value.string { data := { toList := [] } })), AV.c (IV.v (Value.bool false)), AV.c (IV.v (Value.bool p)), AV.c (IV.v (Value.bool q))] = ivCells ⟨a, b, p, q⟩ := rfl
theorem ln_fold (f : L4) : [AV.c (IV.v (Value.bool (decide (f.x0.num < 0)))), AV.c (IV.v (Value.string { data := { toList := magB f.x0.num.natAbs } })), AV.c (IV.v (Value.bool false)), AV.c (IV.v (Value.string { data := { toList := denB f.x0.den } })), AV.c (IV.v (Value.bool (decide (f.x1.num < 0)))), AV.c (IV.v (Value.string { data := { toList := magB f.x1.num.natAbs } })), AV.c (IV.v (Value.bool false)), AV.c (IV.v (Value.string { data := { toList := denB f.x1.den } })), AV.c (IV.v (Value.bool (decide (f.y0.num < 0)))), AV.c (IV.v (Value.string { data := { toList := magB f.y0.num.natAbs } })), AV.c (IV.v (Value.bool false)), AV.c (IV.v (Value.string { data := { toList := denB f.y0.den } })), AV.c (IV.v (Value.bool (decide (f.y1.num < 0)))), AV.c (IV.v (Value.string { data := { toList := magB f.y1.num.natAbs } })), AV.c (IV.v (Value.bool false)), AV.c (IV.v (Value.string { data := { toList := denB f.y1.den } }))] = lineCells f := rfl
theorem tm_fold (n : Int) : [AV.c (IV.v (Value.bool (decide (n < 0)))), AV.c (IV.v (Value.string { data := { toList := magB n.natAbs } })), AV.c (IV.v (Value.bool false)), AV.c (IV.v (Value.string { data := { toList := denB 1 } })), AV.c (IV.v (Value.bool false)), AV.c (IV.v (Value.string { data := { toList := [] } })), AV.c (IV.v (Value.bool false)), AV.c (IV.v (Value.string { data := { toList := [] } })), AV.c (IV.v (Value.bool false))] = tmCells n := rfl
theorem un_eta (u : Un) : (⟨u.a, u.b, u.oa, u.ob, u.f⟩ : Un) = u := rfl
theorem iv_eta (u : Iv) : (⟨u.a, u.b, u.oa, u.ob⟩ : Iv) = u := rfl
theorem take_un1 (u : Un) : List.take 9 (unCells u) = tmCells u.a := rfl
theorem take_un2 (u : Un) : List.take 9 (List.drop 9 (unCells u)) = tmCells u.b := rfl
theorem take_iv1 (u : Iv) : List.take 9 (ivCells u) = tmCells u.a := rfl
theorem take_iv2 (u : Iv) : List.take 9 (List.drop 9 (ivCells u)) = tmCells u.b := rfl
def Γ224 : FuncId → Option Spec := fun f => bif Nat.beq f 165 then some (pureSpec K165) else none
abbrev F224 : Form (List Un × Int × Int × Unit × Int × Unit) := .cons argUs (.cons argInt (.cons argInt (.cons (argFnV 165) (.cons argInt .nil))))
def srtB (U : List Un) : Bool := (List.range (U.length - 1)).all fun k => decide ((U.getD k u0).a < (U.getD (k + 1) u0).a)
def allSm (U : List Un) : Bool := (List.range U.length).all fun k => smB (U.getD k u0).a && smB (U.getD k u0).b
def pre224 (x : List Un × Int × Int × Unit × Int × Unit) : Bool := srtB x.1 && (allSm x.1 && (decide (x.2.1 = 0) && (decide (x.2.2.1 = (x.1.length : Nat)) && (decide (1 ≤ x.2.2.2.2.1) && (decide (x.2.2.2.2.1 ≤ (x.1.length : Nat)) && decide (x.1.length ≤ 1000))))))
def lp224 : LoopSt (List Un × Int × Int × Unit × Int × Unit) Unit := lpF { nt := 53, live := [0, 1, 2, 3, 8] } { nt := 53, live := [] } (MForm.pure F224) (MForm.pure Form.nil) (fun _ => ()) pre224
theorem lp224_good : lp224.Good2 := lpF_good _ _ _ _ _ _
theorem Γ224_ok : ∀ f s, Γ224 f = some s → SpecOk Tryz.prog f s := one_ok f165_ok.spec
def step224 (U : List Un) (a : Int) (b : Int) (i : Int) : Tr (List Un × Int × Int × Unit × Int × Unit ⊕ Unit) :=
 let x1 : Bool := decide (i > a)
 let x2 : Int := ↑U.length
 let x3 : Bool := decide (0 ≤ i ∧ i < x2)
 let x4 : Int := IntKind.i64.wrap (i - 1)
 let x5 : Bool := decide (0 ≤ x4 ∧ x4 < x2)
 let x6 : Int := (U.getD i.toNat u0).a
 let x7 : Int := (U.getD i.toNat u0).b
 let x8 : Int := (U.getD i.toNat u0).f.x0.num
 let x9 : Int := (U.getD i.toNat u0).f.x1.num
 let x10 : Int := (U.getD i.toNat u0).f.y0.num
 let x11 : Int := (U.getD i.toNat u0).f.y1.num
 let x12 : List AV := [.c (.v (.bool (decide (x6 < 0)))), .c (.v (.string ⟨⟨magB x6.natAbs⟩⟩)), .c (.v (.bool false)), .c (.v (.string ⟨⟨denB 1⟩⟩)), .c (.v (.bool false)), .c (.v (.string ⟨⟨[]⟩⟩)), .c (.v (.bool false)), .c (.v (.string ⟨⟨[]⟩⟩)), .c (.v (.bool false)), .c (.v (.bool (decide (x7 < 0)))), .c (.v (.string ⟨⟨magB x7.natAbs⟩⟩)), .c (.v (.bool false)), .c (.v (.string ⟨⟨denB 1⟩⟩)), .c (.v (.bool false)), .c (.v (.string ⟨⟨[]⟩⟩)), .c (.v (.bool false)), .c (.v (.string ⟨⟨[]⟩⟩)), .c (.v (.bool false)), .c (.v (.bool (U.getD i.toNat u0).oa)), .c (.v (.bool (U.getD i.toNat u0).ob)), .c (.v (.bool (decide (x8 < 0)))), .c (.v (.string ⟨⟨magB x8.natAbs⟩⟩)), .c (.v (.bool false)), .c (.v (.string ⟨⟨denB (U.getD i.toNat u0).f.x0.den⟩⟩)), .c (.v (.bool (decide (x9 < 0)))), .c (.v (.string ⟨⟨magB x9.natAbs⟩⟩)), .c (.v (.bool false)), .c (.v (.string ⟨⟨denB (U.getD i.toNat u0).f.x1.den⟩⟩)), .c (.v (.bool (decide (x10 < 0)))), .c (.v (.string ⟨⟨magB x10.natAbs⟩⟩)), .c (.v (.bool false)), .c (.v (.string ⟨⟨denB (U.getD i.toNat u0).f.y0.den⟩⟩)), .c (.v (.bool (decide (x11 < 0)))), .c (.v (.string ⟨⟨magB x11.natAbs⟩⟩)), .c (.v (.bool false)), .c (.v (.string ⟨⟨denB (U.getD i.toNat u0).f.y1.den⟩⟩))]
 let x13 : Int := (U.getD x4.toNat u0).a
 let x14 : Int := (U.getD x4.toNat u0).b
 let x15 : Int := (U.getD x4.toNat u0).f.x0.num
 let x16 : Int := (U.getD x4.toNat u0).f.x1.num
 let x17 : Int := (U.getD x4.toNat u0).f.y0.num
 let x18 : Int := (U.getD x4.toNat u0).f.y1.num
 let x19 : List AV := [.c (.v (.bool (decide (x13 < 0)))), .c (.v (.string ⟨⟨magB x13.natAbs⟩⟩)), .c (.v (.bool false)), .c (.v (.string ⟨⟨denB 1⟩⟩)), .c (.v (.bool false)), .c (.v (.string ⟨⟨[]⟩⟩)), .c (.v (.bool false)), .c (.v (.string ⟨⟨[]⟩⟩)), .c (.v (.bool false)), .c (.v (.bool (decide (x14 < 0)))), .c (.v (.string ⟨⟨magB x14.natAbs⟩⟩)), .c (.v (.bool false)), .c (.v (.string ⟨⟨denB 1⟩⟩)), .c (.v (.bool false)), .c (.v (.string ⟨⟨[]⟩⟩)), .c (.v (.bool false)), .c (.v (.string ⟨⟨[]⟩⟩)), .c (.v (.bool false)), .c (.v (.bool (U.getD x4.toNat u0).oa)), .c (.v (.bool (U.getD x4.toNat u0).ob)), .c (.v (.bool (decide (x15 < 0)))), .c (.v (.string ⟨⟨magB x15.natAbs⟩⟩)), .c (.v (.bool false)), .c (.v (.string ⟨⟨denB (U.getD x4.toNat u0).f.x0.den⟩⟩)), .c (.v (.bool (decide (x16 < 0)))), .c (.v (.string ⟨⟨magB x16.natAbs⟩⟩)), .c (.v (.bool false)), .c (.v (.string ⟨⟨denB (U.getD x4.toNat u0).f.x1.den⟩⟩)), .c (.v (.bool (decide (x17 < 0)))), .c (.v (.string ⟨⟨magB x17.natAbs⟩⟩)), .c (.v (.bool false)), .c (.v (.string ⟨⟨denB (U.getD x4.toNat u0).f.y0.den⟩⟩)), .c (.v (.bool (decide (x18 < 0)))), .c (.v (.string ⟨⟨magB x18.natAbs⟩⟩)), .c (.v (.bool false)), .c (.v (.string ⟨⟨denB (U.getD x4.toNat u0).f.y1.den⟩⟩))]
 let x20 : Int := tmV (List.take 9 x12)
 let x21 : Int := tmV (List.take 9 x19)
 .ite (decide (i < b)) (.need (bif x1 then x3 && (x5 && (unOk x12 && (unOk x19 && (smB x20 && (smB x21 && (smB (tmV (List.take 9 (List.drop 9 x12))) && (smB (tmV (List.take 9 (List.drop 9 x19))) && (decide (x21 < x20) && true)))))))) else true) (.ite (bif x1 then bif true then decide ((1 : Int) < 0) else false else false) (.need x5 (.need x3 (.need x3 (.fail "zsortanyfunc.go:13")))) (.need (unsOk U.length (unEl U)) (.ret (Sum.inl (unsOf U.length (unEl U), a, b, (), IntKind.i64.wrap (i + 1), ())))))) (.ret (Sum.inr ()))
theorem step224_eq (x : List Un × Int × Int × Unit × Int × Unit) : (exec Tryz.prog Γ224 noL 1010 (loopOf 0 (codeOf Tryz.f224)) (mkSt lp224.nIn (lp224.head x))).bind (lp224.fin 0 0) = step224 x.1 x.2.1 x.2.2.1 x.2.2.2.2.1 := by
 obtain ⟨U, a, b, ⟨⟩, i, ⟨⟩⟩ := x
 kernel_rfl
theorem range_all {n : Nat} {p : Nat → Bool} (h : (List.range n).all p = true) {k : Nat} (hk : k < n) : p k = true := List.all_eq_true.1 h k (List.mem_range.2 hk)
theorem step224_in (U : List Un) (i : Nat) (h1 : srtB U = true) (h2 : allSm U = true) (hi : 1 ≤ i) (hl : i < U.length) (hn : U.length ≤ 1000) (Q : List Un × Int × Int × Unit × Int × Unit ⊕ Unit → Prop) (hq : Q (.inl (U, 0, (U.length : Nat), (), ((i + 1 : Nat) : Int), ()))) :
  (step224 U 0 (U.length : Nat) (i : Nat)).sat Q := by
 have hw : IntKind.i64.wrap ((i : Int) - 1) = ((i - 1 : Nat) : Int) := by rw [wrap_i64 (by omega)]; omega
 have hw2 : IntKind.i64.wrap ((i : Int) + 1) = ((i + 1 : Nat) : Int) := by rw [wrap_i64 (by omega)]; omega
 have c1 : decide ((i : Int) > 0) = true := decide_eq_true (by omega)
 have c2 : decide ((0 : Int) ≤ (i : Int) ∧ (i : Int) < (U.length : Int)) = true := decide_eq_true (by omega)
 have c3 : decide ((0 : Int) ≤ ((i - 1 : Nat) : Int) ∧ ((i - 1 : Nat) : Int) < (U.length : Int)) = true := decide_eq_true (by omega)
 have c4 : decide ((i : Int) < (U.length : Int)) = true := decide_eq_true (by omega)
 have s1 := range_all h2 hl
 have s2 := range_all h2 (show i - 1 < U.length by omega)
 have s3 := range_all h1 (show i - 1 < U.length - 1 by omega)
 simp only [show i - 1 + 1 = i by omega] at s3
 simp only [Bool.and_eq_true] at s1 s2
 simp only [step224, ↓un_fold, ↓iv_fold, ↓ln_fold, ↓tm_fold, un_eta, iv_eta, take_un1, take_un2, take_iv1, take_iv2, tmV_cells, tmOk_cells, unV_cells, unOk_cells, ivV_lit, ivOk_lit, lineV_cells, lineOk_cells, unsOf_el, unsOk_units, sat_true, hw, hw2, c1, c2, c3, c4, Int.toNat_natCast, s1.1, s1.2, s2.1, s2.2, s3, Bool.and_self, cond_true]
 repeat first
  | refine sat_need rfl ?_
  | refine sat_ite (fun h => Bool.noConfusion h) (fun _ => ?_)
  | refine sat_ite (fun _ => ?_) (fun h => Bool.noConfusion h)
 exact sat_ret hq
theorem step224_end (U : List Un) (Q : List Un × Int × Int × Unit × Int × Unit ⊕ Unit → Prop) (hq : Q (.inr ())) (i : Int) (hi : ¬ i < (U.length : Nat)) : (step224 U 0 (U.length : Nat) i).sat Q := by
 have c4 : decide (i < (U.length : Int)) = false := decide_eq_false hi
 simp only [step224, c4]
 exact sat_ite (fun h => by cases h) fun _ => sat_ret hq
theorem runs224 (U : List Un) (h1 : srtB U = true) (h2 : allSm U = true) (hn : U.length ≤ 1000) (Q : Unit → Prop) (hq : Q ()) : ∀ (k i : Nat), 1 ≤ i → i + k = U.length → RunsX (fun x : List Un × Int × Int × Unit × Int × Unit => step224 x.1 x.2.1 x.2.2.1 x.2.2.2.2.1) Q (k + 1) (U, 0, (U.length : Nat), (), (i : Nat), ())
 | 0, i, hi, he => step224_end U _ hq i (by omega)
 | k + 1, i, hi, he => step224_in U i h1 h2 hi (by omega) hn _ (runs224 U h1 h2 hn Q hq k (i + 1) (by omega) (by omega))
def L224 : Nat → Option (St → Tr (Ex × St)) := fun id => bif Nat.beq id 0 then some (lp224.g 0) else none
theorem f224_loops : BlocksOk Tryz.prog 0 L224 (codeOf Tryz.f224) := by
 refine blocksOk_of (d := fun id => Nat.beq id 0) (fun id => by unfold L224; cases Nat.beq id 0 <;> rfl) _ ?_
 have hb : blocksOf (fun id => Nat.beq id 0) (codeOf Tryz.f224) = [(0, .loop (loopOf 0 (codeOf Tryz.f224)))] := by kernel_rfl
 rw [hb]
 intro p hp g hg
 simp only [List.mem_singleton] at hp
 subst hp
 have hh : L224 0 = some ((lp224).g 0) := rfl
 rw [hh] at hg
 obtain rfl : g = (lp224).g 0 := (Option.some.inj hg).symm
 refine LoopSt.ok2 (N := 1010) prog_mixed Γ224_ok (L := noL) (blocksOk_none 0 _) lp224_good (fun x => step224_eq x) ?_
 rintro ⟨U, a, b, ⟨⟩, i, ⟨⟩⟩ hx
 have hx : pre224 (U, a, b, (), i, ()) = true := hx
 simp only [pre224, Bool.and_eq_true, decide_eq_true_eq] at hx
 obtain ⟨h1, h2, rfl, rfl, h5, h6, h7⟩ := hx
 obtain ⟨i, rfl⟩ : ∃ m : Nat, i = m := ⟨i.toNat, by omega⟩
 exact ⟨_, runs224 U h1 h2 h7 (· = ()) rfl (U.length - i) i (by omega) (by omega)⟩
end Go.Vse
set_option maxRecDepth 100000
namespace Go.Vse
open Go.Proofs
def fnV (f : Nat) : Value := .func (.func f) #[] #[]
def K224 : List AV → Option (AV × List Bool) := (Form.cons argUs (.cons argInt (.cons argInt (.cons (argFnV 165) .nil)))).K (fun x => .tup []) fun x => [srtB x.1, allSm x.1, decide (x.2.1 = 0), decide (x.2.2.1 = (x.1.length : Nat)), decide (1 ≤ x.1.length), decide (x.1.length ≤ 1000)]
def K193 : List AV → Option (AV × List Bool) := (Form.cons argUs (.cons argInt (.cons (argFnV 165) .nil))).K (fun x => .tup []) fun x => [srtB x.1, allSm x.1, decide (x.2.1 = (x.1.length : Nat)), decide (1 ≤ x.1.length), decide (x.1.length ≤ 19)]
def Γ193 : FuncId → Option Spec := fun f => bif Nat.beq f 224 then some (pureSpec K224) else none
def Γb117 : FuncId → Option Spec := fun f => bif Nat.beq f 193 then some (pureSpec K193) else none
def M224 (U : List Un) (a : Int) (b : Int) : Tr AV :=
 .need (unsOk U.length (unEl U)) (.need (pre224 (unsOf U.length (unEl U), a, b, (), IntKind.i64.wrap (a + 1), ())) (.ret (AV.tup [])))
def M193 (U : List Un) (n : Int) : Tr AV :=
 let x1 : Bool := unsOk U.length (unEl U)
 let x2 : List Un := unsOf U.length (unEl U)
 let x3 : Bool := srtB x2
 let x4 : Bool := allSm x2
 let x5 : Nat := x2.length
 let x6 : Int := ↑x5
 let x7 : Bool := decide (1 ≤ x5)
 let x8 : Bool := decide (x5 ≤ 1000)
 let x9 : Int := IntKind.i64.wrap (2 * 20)
 let x10 : Int := IntKind.i64.wrap (0 + 20)
 .ite (decide (20 ≤ n)) (.need x1 (.need x3 (.need x4 (.need true (.need (decide (20 = x6)) (.need x7 (.need x8 (.fail "rounds")))))))) (.need x1 (.need x3 (.need x4 (.need true (.need (decide (n = x6)) (.need x7 (.need x8 (.ite (decide (20 < n)) (.ite (decide (x9 ≤ n)) (.fail "zsortanyfunc.go:348") (.ite (decide (x10 < n)) (.fail "zsortanyfunc.go:353") (.fail "rounds"))) (.ret (AV.tup []))))))))))
def M117 (U : List Un) : Tr AV :=
 let x1 : Nat := 0 + U.length
 let x2 : Nat := x1 * 408
 let x3 : List Un := unsOf x1 (joinE 0 (fun x => []) (unEl U))
 let x4 : Int := ↑x1
 let x5 : Nat := x3.length
 let x6 : Int := ↑x5
 .need (decide (U.length ≠ 0)) (.need true (.need (decide (x1 ≤ 9223372036854775807)) (.need (decide (x2 ≤ 140737488355328)) (.need (decide (x1 ≤ x1)) (.need (unsOk x1 (joinE 0 (fun x => []) (unEl U))) (.need (srtB x3) (.need (allSm x3) (.need (decide (x4 = x6)) (.need (decide (1 ≤ x5)) (.need (decide (x5 ≤ 19)) (.ret (AV.c (IV.sl x1 36 (joinE 0 (fun x => []) (unEl U)))))))))))))))
theorem M224_eq (U : List Un) (a b : Int) : execFn Tryz.prog Γ224 L224 1010 Tryz.f224 [usA U, .c (.v (.int .i64 a)), .c (.v (.int .i64 b)), .c (.v (fnV 165))] = M224 U a b := by kernel_rfl
theorem M193_eq (U : List Un) (n : Int) : execFn Tryz.prog Γ193 noL 1001 Tryz.f193 [usA U, .c (.v (.int .i64 n)), .c (.v (fnV 165))] = M193 U n := by kernel_rfl
theorem M117_eq (U : List Un) : execFn Tryz.prog (inlΓ Tryz.prog Γb117 (fun _ => false) 1010 2) noL 1010 Tryz.f117 [usA U] = M117 U := by kernel_rfl
theorem join0 (e el : Nat → List IV) : joinE 0 e el = el := by
 funext k
 unfold joinE
 rw [if_neg (Nat.not_lt_zero k), Nat.sub_zero]
theorem M224_sat (U : List Un) (h1 : srtB U = true) (h2 : allSm U = true) (h3 : 1 ≤ U.length) (h4 : U.length ≤ 1000) : (M224 U 0 (U.length : Nat)).sat fun r => r = .tup [] := by
 simp only [M224, ↓un_fold, ↓iv_fold, ↓ln_fold, ↓tm_fold, un_eta, iv_eta, take_un1, take_un2, take_iv1, take_iv2, tmV_cells, tmOk_cells, unV_cells, unOk_cells, ivV_lit, ivOk_lit, lineV_cells, lineOk_cells, unsOf_el, unsOk_units, sat_true]
 refine sat_need ?_ (sat_ret rfl)
 simp only [pre224, h1, h2, decide_eq_true h4, Bool.true_and, Bool.and_true, Bool.and_eq_true, decide_eq_true_eq]
 refine ⟨trivial, trivial, ?_, ?_⟩
 ·decide
 ·show (1 : Int) ≤ (U.length : Nat)
  omega
theorem f224_ok : PureOk Tryz.prog 224 K224 :=
 Form.pureEq _ (N := 1010) (L := L224) prog_mixed Γ224_ok (fn := Tryz.f224) (c := codeOf Tryz.f224) (by kernel_rfl) (by kernel_rfl) (by kernel_rfl) f224_loops (fun _ => rfl) (M := fun x => M224 x.1 x.2.1 x.2.2.1) (fun x => M224_eq x.1 x.2.1 x.2.2.1)
  fun x h => by
   obtain ⟨U, a, b, ⟨⟩, ⟨⟩⟩ := x
   have h0 : a = 0 := dec (h (decide (a = 0)) (by simp))
   have h1 : b = (U.length : Nat) := dec (h (decide (b = (U.length : Nat))) (by simp))
   subst h0
   subst h1
   exact M224_sat U (h (srtB U) (by simp)) (h (allSm U) (by simp)) (dec (h (decide (1 ≤ U.length)) (by simp))) (dec (h (decide (U.length ≤ 1000)) (by simp)))
theorem Γ193_ok : ∀ f s, Γ193 f = some s → SpecOk Tryz.prog f s := one_ok f224_ok.spec
theorem M193_sat (U : List Un) (h1 : srtB U = true) (h2 : allSm U = true) (h3 : 1 ≤ U.length) (h4 : U.length ≤ 19) : (M193 U (U.length : Nat)).sat fun r => r = .tup [] := by
 have c1 : decide ((20 : Int) ≤ (U.length : Int)) = false := decide_eq_false (by omega)
 have c2 : decide ((20 : Int) < (U.length : Int)) = false := decide_eq_false (by omega)
 have c3 : decide (1 ≤ U.length) = true := decide_eq_true h3
 have c4 : decide (U.length ≤ 1000) = true := decide_eq_true (by omega)
 simp only [M193, ↓un_fold, ↓iv_fold, ↓ln_fold, ↓tm_fold, un_eta, iv_eta, take_un1, take_un2, take_iv1, take_iv2, tmV_cells, tmOk_cells, unV_cells, unOk_cells, ivV_lit, ivOk_lit, lineV_cells, lineOk_cells, unsOf_el, unsOk_units, sat_true, h1, h2, c1, c2, c3, c4, decide_true]
 repeat first
  | refine sat_need rfl ?_
  | refine sat_ite (fun h => Bool.noConfusion h) (fun _ => ?_)
  | refine sat_ite (fun _ => ?_) (fun h => Bool.noConfusion h)
 exact sat_ret rfl
theorem f193_ok : PureOk Tryz.prog 193 K193 :=
 Form.pureEq _ (N := 1001) (L := noL) prog_mixed Γ193_ok (fn := Tryz.f193) (c := codeOf Tryz.f193) (by kernel_rfl) (by kernel_rfl) (by kernel_rfl) (blocksOk_none _ _) (fun _ => rfl) (M := fun x => M193 x.1 x.2.1) (fun x => M193_eq x.1 x.2.1)
  fun x h => by
   obtain ⟨U, b, ⟨⟩, ⟨⟩⟩ := x
   have h1 : b = (U.length : Nat) := dec (h (decide (b = (U.length : Nat))) (by simp))
   subst h1
   exact M193_sat U (h (srtB U) (by simp)) (h (allSm U) (by simp)) (dec (h (decide (1 ≤ U.length)) (by simp))) (dec (h (decide (U.length ≤ 19)) (by simp)))
theorem Γb117_ok : ∀ f s, Γb117 f = some s → SpecOk Tryz.prog f s := one_ok f193_ok.spec
theorem M117_sat (U : List Un) (h1 : srtB U = true) (h2 : allSm U = true) (h3 : 1 ≤ U.length) (h4 : U.length ≤ 19) : (M117 U).sat fun r => r = usA U := by
 have c3 : decide (1 ≤ U.length) = true := decide_eq_true h3
 have c4 : decide (U.length ≤ 19) = true := decide_eq_true h4
 have c5 : decide (U.length ≠ 0) = true := decide_eq_true (by omega)
 have c6 : decide (U.length ≤ 9223372036854775807) = true := decide_eq_true (by omega)
 have c7 : decide (U.length * 408 ≤ 140737488355328) = true := decide_eq_true (by omega)
 simp only [M117, join0, Nat.zero_add, ↓un_fold, ↓iv_fold, ↓ln_fold, ↓tm_fold, un_eta, iv_eta, take_un1, take_un2, take_iv1, take_iv2, tmV_cells, tmOk_cells, unV_cells, unOk_cells, ivV_lit, ivOk_lit, lineV_cells, lineOk_cells, unsOf_el, unsOk_units, sat_true, h1, h2, c3, c4, c5, c6, c7, decide_true, Nat.le_refl]
 repeat first
  | refine sat_need rfl ?_
  | refine sat_ite (fun h => Bool.noConfusion h) (fun _ => ?_)
  | refine sat_ite (fun _ => ?_) (fun h => Bool.noConfusion h)
 exact sat_ret rfl
def K117 : List AV → Option (AV × List Bool) := (F1 argUs).K (fun x => usA x.1) fun x => [srtB x.1, allSm x.1, decide (1 ≤ x.1.length), decide (x.1.length ≤ 19)]
theorem f117_ok : PureOk Tryz.prog 117 K117 :=
 (F1 argUs).pureEq (N := 1010) (L := noL) prog_mixed (inlΓ_ok prog_mixed Γb117_ok 2) (fn := Tryz.f117) (c := codeOf Tryz.f117) (by kernel_rfl) (by kernel_rfl) (by kernel_rfl) (blocksOk_none _ _) (fun _ => rfl) (M := fun x => M117 x.1) (fun x => M117_eq x.1)
  fun x h => M117_sat x.1 (h _ (by simp)) (h _ (by simp)) (dec (h (decide (1 ≤ x.1.length)) (by simp))) (dec (h (decide (x.1.length ≤ 19)) (by simp)))
end Go.Vse
