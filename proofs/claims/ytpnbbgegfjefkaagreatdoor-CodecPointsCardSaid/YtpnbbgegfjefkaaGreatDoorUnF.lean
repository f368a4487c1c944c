/- Helpers for the proof: no statement of its own. -/
import Derived.Test.YtpnbbgegfjefkaaGreatDoorUnE
set_option linter.unusedVariables false
set_option linter.unusedSimpArgs false
set_option linter.unnecessarySimpa false
set_option linter.deprecated false
set_option maxRecDepth 100000
namespace Go.Vse
open Go.Proofs
def Γ50 : FuncId → Option Spec := fun f => bif Nat.beq f 121 then some (memSpec K121) else none
theorem Γ50_ok : ∀ f s, Γ50 f = some s → SpecOk Tryz.prog f s := one_ok f121_ok.spec
def Γ25 : FuncId → Option Spec := fun f => bif Nat.beq f 51 then some (pureSpec K51) else none
theorem Γ25_ok : ∀ f s, Γ25 f = some s → SpecOk Tryz.prog f s := one_ok f51_ok.spec
def Γ35 : FuncId → Option Spec := fun f => bif Nat.beq f 106 then some (pureSpec K106) else bif Nat.beq f 49 then some (pureSpec K49) else bif Nat.beq f 107 then some (pureSpec K107) else none
theorem Γ35_ok : ∀ f s, Γ35 f = some s → SpecOk Tryz.prog f s := step_ok f106_ok.spec (step_ok f49_ok.spec (one_ok f107_ok.spec))
def Γb24 : FuncId → Option Spec := fun f => bif Nat.beq f 47 then some (pureSpec K47) else bif Nat.beq f 48 then some (pureSpec K48) else bif Nat.beq f 62 then some (pureSpec K62) else bif Nat.beq f 49 then some (pureSpec K49) else none
theorem Γb24_ok : ∀ f s, Γb24 f = some s → SpecOk Tryz.prog f s := step_ok f47_ok.spec (step_ok f48_ok.spec (step_ok f62_ok.spec (one_ok f49_ok.spec)))
abbrev T24 := Unit × List Un × Int × List Un × Int × Int × Unit
abbrev F24 : Form T24 := .cons (argIface 85) (.cons argUs (.cons argInt (.cons argUs (.cons argInt (.cons argInt .nil)))))
abbrev G24 : Form (Unit × List Un × Int × Unit) := .cons (argIface 85) (.cons argUs (.cons argInt .nil))
def okU (u : Un) : Bool := okIv u.iv && lbB u.f
def backB (U : List Un) : Bool := decide (2 ≤ U.length) && (okU (U.getD 0 u0) && (okU (U.getD 1 u0) && !apartB (U.getD 0 u0).iv (U.getD 1 u0).iv))
def pre24 (x : T24) : Bool := eqUs x.2.1 x.2.2.2.1 && (decide (x.2.2.1 = 0) && (decide (x.2.2.2.2.1 = (x.2.1.length : Nat)) && (decide (x.2.2.2.2.2.1 = 0) && (decide (x.2.1.length ≤ 1000) && (goodU x.2.1 || backB x.2.1)))))
def lp24 : LoopSt T24 (Bool × (Unit × List Un × Int × Unit)) := lpR { nt := 64, live := [0, 1, 4, 14, 15, 16] } { nt := 64, live := [0, 1, 4] } (MForm.pure F24) (MForm.pure G24) (fun x => bif goodU x.2.1 then (false, ((), x.2.1, 0, ())) else (true, ((), x.2.1, 7, ()))) pre24
theorem lp24_good : lp24.Good2 := lpR_good _ _ _ _ _ _
def L24 : Nat → Option (St → Tr (Ex × St)) := fun id => bif Nat.beq id 0 then some (lp24.g 0) else none
def M25 (U : List Un) : Tr AV :=
 let x1 : List Un := unsOf U.length (unEl U)
 let x2 : Nat := x1.length
 .need (unsOk U.length (unEl U)) (.need (decide (x2 ≤ 1000)) (.ret (AV.c (IV.sl x2 36 (unEl x1)))))
def M35 (U : List Un) : Tr AV :=
 let x1 : List Un := unsOf U.length (unEl U)
 let x2 : Nat := x1.length
 let x3 : List Un := unsOf x2 (unEl x1)
 let x4 : Nat := x3.length
 let x5 : List Un := mergeU x3
 let x6 : Nat := x5.length
 let x7 : List Un := unsOf x6 (unEl x5)
 let x8 : Nat := x7.length
 .need (unsOk U.length (unEl U)) (.need (decide (x2 ≤ 1000)) (.need (unsOk x2 (unEl x1)) (.need (rawOk x3) (.need (decide (1 ≤ x4)) (.need (decide (x4 ≤ 19)) (.need (unsOk x6 (unEl x5)) (.need (decide (x8 ≤ 1000)) (.ret (AV.tup [AV.c (IV.sl x8 36 (unEl x7)), .c (.v (.int IntKind.i64 0))])))))))))
def M50 (U : List Un) (V : List Un) : Tr AV :=
 let x1 : List Un := unsOf U.length (unEl U)
 let x2 : Nat := x1.length
 .need (unsOk U.length (unEl U)) (.need (unsOk V.length (unEl V)) (.need (eqUs x1 (unsOf V.length (unEl V))) (.need (decide (x2 ≤ 1000)) (.ret (.c (.v (.bool true)))))))
def step24 (U : List Un) (e : Int) (V : List Un) (n : Int) (i : Int) : Tr (T24 ⊕ Bool × Unit × List Un × Int × Unit) :=
 let x1 : Int := ↑V.length
 let x2 : Int := (V.getD i.toNat u0).a
 let x3 : Int := (V.getD i.toNat u0).b
 let x4 : List AV := [.c (.v (.bool (decide (x2 < 0)))), .c (.v (.string ⟨⟨magB x2.natAbs⟩⟩)), .c (.v (.bool false)), .c (.v (.string ⟨⟨denB 1⟩⟩)), .c (.v (.bool false)), .c (.v (.string ⟨⟨[]⟩⟩)), .c (.v (.bool false)), .c (.v (.string ⟨⟨[]⟩⟩)), .c (.v (.bool false)), .c (.v (.bool (decide (x3 < 0)))), .c (.v (.string ⟨⟨magB x3.natAbs⟩⟩)), .c (.v (.bool false)), .c (.v (.string ⟨⟨denB 1⟩⟩)), .c (.v (.bool false)), .c (.v (.string ⟨⟨[]⟩⟩)), .c (.v (.bool false)), .c (.v (.string ⟨⟨[]⟩⟩)), .c (.v (.bool false)), .c (.v (.bool (V.getD i.toNat u0).oa)), .c (.v (.bool (V.getD i.toNat u0).ob))]
 let x5 : Bool := ivOk x4
 let x6 : Bool := unsOk U.length (unEl U)
 let x7 : List Un := unsOf U.length (unEl U)
 let x8 : Int := (V.getD i.toNat u0).f.x0.num
 let x9 : List AV := [.c (.v (.bool (decide (x8 < 0)))), .c (.v (.string ⟨⟨magB x8.natAbs⟩⟩)), .c (.v (.bool false)), .c (.v (.string ⟨⟨denB (V.getD i.toNat u0).f.x0.den⟩⟩))]
 let x10 : Int := (V.getD i.toNat u0).f.x1.num
 let x11 : List AV := [.c (.v (.bool (decide (x10 < 0)))), .c (.v (.string ⟨⟨magB x10.natAbs⟩⟩)), .c (.v (.bool false)), .c (.v (.string ⟨⟨denB (V.getD i.toNat u0).f.x1.den⟩⟩))]
 let x12 : Int := (V.getD i.toNat u0).f.y0.num
 let x13 : List AV := [.c (.v (.bool (decide (x12 < 0)))), .c (.v (.string ⟨⟨magB x12.natAbs⟩⟩)), .c (.v (.bool false)), .c (.v (.string ⟨⟨denB (V.getD i.toNat u0).f.y0.den⟩⟩))]
 let x14 : Int := (V.getD i.toNat u0).f.y1.num
 let x15 : List AV := [.c (.v (.bool (decide (x14 < 0)))), .c (.v (.string ⟨⟨magB x14.natAbs⟩⟩)), .c (.v (.bool false)), .c (.v (.string ⟨⟨denB (V.getD i.toNat u0).f.y1.den⟩⟩))]
 let x16 : Bool := decide (i > 0)
 let x17 : Int := IntKind.i64.wrap (i - 1)
 let x18 : Int := ↑U.length
 let x19 : Int := (U.getD x17.toNat u0).a
 let x20 : Int := (U.getD x17.toNat u0).b
 let x21 : List AV := [.c (.v (.bool (decide (x19 < 0)))), .c (.v (.string ⟨⟨magB x19.natAbs⟩⟩)), .c (.v (.bool false)), .c (.v (.string ⟨⟨denB 1⟩⟩)), .c (.v (.bool false)), .c (.v (.string ⟨⟨[]⟩⟩)), .c (.v (.bool false)), .c (.v (.string ⟨⟨[]⟩⟩)), .c (.v (.bool false)), .c (.v (.bool (decide (x20 < 0)))), .c (.v (.string ⟨⟨magB x20.natAbs⟩⟩)), .c (.v (.bool false)), .c (.v (.string ⟨⟨denB 1⟩⟩)), .c (.v (.bool false)), .c (.v (.string ⟨⟨[]⟩⟩)), .c (.v (.bool false)), .c (.v (.string ⟨⟨[]⟩⟩)), .c (.v (.bool false)), .c (.v (.bool (U.getD x17.toNat u0).oa)), .c (.v (.bool (U.getD x17.toNat u0).ob))]
 .ite (decide (i < n)) (.need (decide (0 ≤ i ∧ i < x1)) (.need x5 (.need (okIv (ivV x4)) (.ite false (.need x6 (.ret (Sum.inr (true, (), x7, 0, ())))) (.need true (.need (ratOk x9) (.need (w64 (ratV x9).num) (.need (w64 ↑(ratV x9).den) (.need true (.need (ratOk x11) (.need (w64 (ratV x11).num) (.need (w64 ↑(ratV x11).den) (.need true (.need (ratOk x13) (.need (w64 (ratV x13).num) (.need (w64 ↑(ratV x13).den) (.need true (.need (ratOk x15) (.need (w64 (ratV x15).num) (.need (w64 ↑(ratV x15).den) (.ite false (.need x6 (.ret (Sum.inr (true, (), x7, 0, ())))) (.need (bif x16 then decide (0 ≤ x17 ∧ x17 < x18) && (ivOk x21 && (x5 && (smB (tmV (List.take 9 (List.drop 9 x21))) && (smB (tmV (List.take 9 x4)) && true)))) else true) (.ite (bif x16 then bif true then !apartB (ivV x21) (ivV x4) else false else false) (.need x6 (.ret (Sum.inr (true, (), x7, 7, ())))) (.need x6 (.need (unsOk V.length (unEl V)) (.ret (Sum.inl ((), x7, e, unsOf V.length (unEl V), n, IntKind.i64.wrap (i + 1), ())))))))))))))))))))))))))))) (.need x6 (.ret (Sum.inr (false, (), x7, e, ()))))
theorem M25_eq (U : List Un) : execFn Tryz.prog Γ25 noL 1010 Tryz.f25 [usA U] = M25 U := by kernel_rfl
theorem M35_eq (U : List Un) : execFn Tryz.prog Γ35 noL 1010 Tryz.f35 [usA U] = M35 U := by kernel_rfl
theorem M50_eq (U V : List Un) : execFn Tryz.prog Γ50 noL 1010 Tryz.f50 [.c (.v (.iface 85 (.agg #[]))), usA U, usA V] = M50 U V := by kernel_rfl
theorem step24_eq (x : T24) : (exec Tryz.prog (inlΓ Tryz.prog Γb24 (fun _ => false) 1010 1) noL 1010 (loopOf 0 (codeOf Tryz.f24)) (mkSt lp24.nIn (lp24.head x))).bind (lp24.fin 0 0) = step24 x.2.1 x.2.2.1 x.2.2.2.1 x.2.2.2.2.1 x.2.2.2.2.2.1 := by
 obtain ⟨⟨⟩, U, e, V, n, i, ⟨⟩⟩ := x
 kernel_rfl
theorem M50_sat (U : List Un) (h : U.length ≤ 1000) : (M50 U U).sat fun r => r = boolA true := by
 simp only [M50, ↓un_fold, ↓iv_fold, ↓ln_fold, ↓tm_fold, un_eta, iv_eta, take_un1, take_un2, take_iv1, take_iv2, tmV_cells, tmOk_cells, unV_cells, unOk_cells, ivV_lit, ivOk_lit, lineV_cells, lineOk_cells, unsOf_el, unsOk_units, sat_true, eqUs_iff.2 (rfl : U = U), decide_eq_true h]
 repeat first
  | refine sat_need rfl ?_
  | refine sat_ite (fun h => Bool.noConfusion h) (fun _ => ?_)
  | refine sat_ite (fun _ => ?_) (fun h => Bool.noConfusion h)
 exact sat_ret rfl
theorem M25_sat (U : List Un) (h : U.length ≤ 1000) : (M25 U).sat fun r => r = usA U := by
 simp only [M25, ↓un_fold, ↓iv_fold, ↓ln_fold, ↓tm_fold, un_eta, iv_eta, take_un1, take_un2, take_iv1, take_iv2, tmV_cells, tmOk_cells, unV_cells, unOk_cells, ivV_lit, ivOk_lit, lineV_cells, lineOk_cells, unsOf_el, unsOk_units, sat_true, decide_eq_true h]
 repeat first
  | refine sat_need rfl ?_
  | refine sat_ite (fun h => Bool.noConfusion h) (fun _ => ?_)
  | refine sat_ite (fun _ => ?_) (fun h => Bool.noConfusion h)
 exact sat_ret rfl
theorem M35_sat (U : List Un) (h : rawOk U = true) (h1 : 1 ≤ U.length) (h2 : U.length ≤ 19) : (M35 U).sat fun r => r = .tup [usA (mergeU U), intA .i64 0] := by
 have hm := (mergeU_len U).1
 have c1 : decide (U.length ≤ 1000) = true := decide_eq_true (by omega)
 have c2 : decide ((mergeU U).length ≤ 1000) = true := decide_eq_true (by omega)
 simp only [M35, ↓un_fold, ↓iv_fold, ↓ln_fold, ↓tm_fold, un_eta, iv_eta, take_un1, take_un2, take_iv1, take_iv2, tmV_cells, tmOk_cells, unV_cells, unOk_cells, ivV_lit, ivOk_lit, lineV_cells, lineOk_cells, unsOf_el, unsOk_units, sat_true, h, c1, c2, decide_eq_true h1, decide_eq_true h2]
 repeat first
  | refine sat_need rfl ?_
  | refine sat_ite (fun h => Bool.noConfusion h) (fun _ => ?_)
  | refine sat_ite (fun _ => ?_) (fun h => Bool.noConfusion h)
 exact sat_ret rfl
theorem bnd_w64 {N D : Nat} {q : Rat} (h : bndB N D q = true) (hN : N < 18446744073709551616) (hD : D < 18446744073709551616) : w64 q.num = true ∧ w64 (q.den : Int) = true := by
 have := bndB_iff.1 h
 exact ⟨decide_eq_true (Nat.lt_of_le_of_lt this.1 hN), decide_eq_true (by rw [Int.natAbs_natCast]; exact Nat.lt_of_le_of_lt this.2 hD)⟩
theorem step24_go (U : List Un) (i : Nat) (hl : i < U.length) (hn : U.length ≤ 1000) (hu : okU (U.getD i u0) = true) (hp : 0 < i → apartB (U.getD (i - 1) u0).iv (U.getD i u0).iv = true ∧ okU (U.getD (i - 1) u0) = true)
  (Q : T24 ⊕ (Bool × (Unit × List Un × Int × Unit)) → Prop) (hq : Q (.inl ((), U, 0, U, (U.length : Nat), ((i + 1 : Nat) : Int), ()))) : (step24 U 0 U (U.length : Nat) (i : Nat)).sat Q := by
 have hw1 : IntKind.i64.wrap ((i : Int) + 1) = ((i + 1 : Nat) : Int) := by rw [wrap_i64 (by omega)]; omega
 have c1 : decide ((0 : Int) ≤ (i : Int) ∧ (i : Int) < (U.length : Int)) = true := decide_eq_true (by omega)
 have c2 : decide ((i : Int) < (U.length : Int)) = true := decide_eq_true (by omega)
 simp only [okU, Bool.and_eq_true] at hu
 obtain ⟨hi, hf⟩ := hu
 have hi2 := hi
 simp only [okIv, Bool.and_eq_true] at hi2
 simp only [Un.iv] at hi hi2
 have hf2 := hf
 simp only [lbB, Bool.and_eq_true] at hf2
 obtain ⟨w1, w2⟩ := bnd_w64 hf2.1.1 (by decide) (by decide)
 obtain ⟨w3, w4⟩ := bnd_w64 hf2.1.2 (by decide) (by decide)
 obtain ⟨w5, w6⟩ := bnd_w64 hf2.2.1 (by decide) (by decide)
 obtain ⟨w7, w8⟩ := bnd_w64 hf2.2.2 (by decide) (by decide)
 by_cases h0 : 0 < i
 ·have hw : IntKind.i64.wrap ((i : Int) - 1) = ((i - 1 : Nat) : Int) := by rw [wrap_i64 (by omega)]; omega
  have e1 : decide ((i : Int) > 0) = true := decide_eq_true (by omega)
  have c3 : decide ((0 : Int) ≤ ((i - 1 : Nat) : Int) ∧ ((i - 1 : Nat) : Int) < (U.length : Int)) = true := decide_eq_true (by omega)
  obtain ⟨ha, hk⟩ := hp h0
  simp only [okU, okIv, Bool.and_eq_true] at hk
  have hk2 := hk.1.2.1
  simp only [Un.iv] at ha hk2
  simp only [step24, hw, hw1, c1, c2, c3, e1, Int.toNat_natCast]
  simp only [↓un_fold, ↓iv_fold, ↓ln_fold, ↓tm_fold, un_eta, iv_eta, take_un1, take_un2, take_iv1, take_iv2, tmV_cells, tmOk_cells, unV_cells, unOk_cells, ivV_lit, ivOk_lit, lineV_cells, lineOk_cells, unsOf_el, unsOk_units, sat_true, ratV_lit, ratOk_lit, hi, hi2.1, hi2.2.1, hk2, ha, w1, w2, w3, w4, w5, w6, w7, w8, Bool.and_self, cond_true, Bool.not_true]
  repeat first
   | refine sat_need rfl ?_
   | refine sat_ite (fun h => Bool.noConfusion h) (fun _ => ?_)
   | refine sat_ite (fun _ => ?_) (fun h => Bool.noConfusion h)
  exact sat_ret hq
 ·have e1 : decide ((i : Int) > 0) = false := decide_eq_false (by omega)
  simp only [step24, hw1, c1, c2, e1, Int.toNat_natCast]
  simp only [↓un_fold, ↓iv_fold, ↓ln_fold, ↓tm_fold, un_eta, iv_eta, take_un1, take_un2, take_iv1, take_iv2, tmV_cells, tmOk_cells, unV_cells, unOk_cells, ivV_lit, ivOk_lit, lineV_cells, lineOk_cells, unsOf_el, unsOk_units, sat_true, ratV_lit, ratOk_lit, hi, w1, w2, w3, w4, w5, w6, w7, w8, cond_false]
  repeat first
   | refine sat_need rfl ?_
   | refine sat_ite (fun h => Bool.noConfusion h) (fun _ => ?_)
   | refine sat_ite (fun _ => ?_) (fun h => Bool.noConfusion h)
  exact sat_ret hq
theorem step24_bad (U : List Un) (hl : 1 < U.length) (hn : U.length ≤ 1000) (hu : okU (U.getD 1 u0) = true) (ha : apartB (U.getD 0 u0).iv (U.getD 1 u0).iv = false) (h0 : okU (U.getD 0 u0) = true)
  (Q : T24 ⊕ (Bool × (Unit × List Un × Int × Unit)) → Prop) (hq : Q (.inr (true, ((), U, 7, ())))) : (step24 U 0 U (U.length : Nat) ((1 : Nat) : Int)).sat Q := by
 have c1 : decide ((0 : Int) ≤ ((1 : Nat) : Int) ∧ ((1 : Nat) : Int) < (U.length : Int)) = true := decide_eq_true (by omega)
 have c2 : decide (((1 : Nat) : Int) < (U.length : Int)) = true := decide_eq_true (by omega)
 have hw : IntKind.i64.wrap (((1 : Nat) : Int) - 1) = ((0 : Nat) : Int) := by decide
 have e1 : decide (((1 : Nat) : Int) > 0) = true := by decide
 have c3 : decide ((0 : Int) ≤ ((0 : Nat) : Int) ∧ ((0 : Nat) : Int) < (U.length : Int)) = true := decide_eq_true (by omega)
 simp only [okU, Bool.and_eq_true] at hu
 obtain ⟨hi, hf⟩ := hu
 have hi2 := hi
 simp only [okIv, Bool.and_eq_true] at hi2
 simp only [Un.iv] at hi hi2 ha
 have hf2 := hf
 simp only [lbB, Bool.and_eq_true] at hf2
 obtain ⟨w1, w2⟩ := bnd_w64 hf2.1.1 (by decide) (by decide)
 obtain ⟨w3, w4⟩ := bnd_w64 hf2.1.2 (by decide) (by decide)
 obtain ⟨w5, w6⟩ := bnd_w64 hf2.2.1 (by decide) (by decide)
 obtain ⟨w7, w8⟩ := bnd_w64 hf2.2.2 (by decide) (by decide)
 simp only [okU, okIv, Bool.and_eq_true] at h0
 have hk2 := h0.1.2.1
 simp only [Un.iv] at hk2
 simp only [step24, hw, c1, c2, c3, e1, Int.toNat_natCast]
 simp only [↓un_fold, ↓iv_fold, ↓ln_fold, ↓tm_fold, un_eta, iv_eta, take_un1, take_un2, take_iv1, take_iv2, tmV_cells, tmOk_cells, unV_cells, unOk_cells, ivV_lit, ivOk_lit, lineV_cells, lineOk_cells, unsOf_el, unsOk_units, sat_true, ratV_lit, ratOk_lit, hi, hi2.1, hi2.2.1, hk2, ha, w1, w2, w3, w4, w5, w6, w7, w8, Bool.and_self, cond_true, Bool.not_false]
 repeat first
  | refine sat_need rfl ?_
  | refine sat_ite (fun h => Bool.noConfusion h) (fun _ => ?_)
  | refine sat_ite (fun _ => ?_) (fun h => Bool.noConfusion h)
 exact sat_ret hq
abbrev stp24 : T24 → Tr (T24 ⊕ (Bool × (Unit × List Un × Int × Unit))) := fun x => step24 x.2.1 x.2.2.1 x.2.2.2.1 x.2.2.2.2.1 x.2.2.2.2.2.1
theorem step24_end (U : List Un) (Q : T24 ⊕ (Bool × (Unit × List Un × Int × Unit)) → Prop) (hq : Q (.inr (false, ((), U, 0, ())))) : (step24 U 0 U (U.length : Nat) (U.length : Nat)).sat Q := by
 have c2 : decide (((U.length : Nat) : Int) < (U.length : Int)) = false := decide_eq_false (by omega)
 simp only [step24, ↓un_fold, ↓iv_fold, ↓ln_fold, ↓tm_fold, un_eta, iv_eta, take_un1, take_un2, take_iv1, take_iv2, tmV_cells, tmOk_cells, unV_cells, unOk_cells, ivV_lit, ivOk_lit, lineV_cells, lineOk_cells, unsOf_el, unsOk_units, sat_true, c2]
 repeat first
  | refine sat_need rfl ?_
  | refine sat_ite (fun h => Bool.noConfusion h) (fun _ => ?_)
  | refine sat_ite (fun _ => ?_) (fun h => Bool.noConfusion h)
 exact sat_ret hq
theorem good_ok {U : List Un} (h : goodU U = true) : (∀ k, k < U.length → okU (U.getD k u0) = true) ∧ ∀ k, 0 < k → k < U.length → apartB (U.getD (k - 1) u0).iv (U.getD k u0).iv = true := by
 unfold goodU at h
 rw [Bool.and_eq_true] at h
 obtain ⟨h1, _⟩ := raw_get (rawOk_raw h.1)
 refine ⟨fun k hk => ?_, fun k h0 hk => ?_⟩
 ·have h2 := h1 k hk
  obtain ⟨f, a, b⟩ := one_lb h2
  generalize U.getD k u0 = u at *
  simp only [okU, okIv, f, Bool.and_true, Bool.and_eq_true]
  refine ⟨tmB_sm a, tmB_sm b, ?_⟩
  show (decide (u.a < u.b) || (decide (u.a = u.b) && (!u.oa && !u.ob))) = true
  by_cases hl : u.a < u.b
  ·rw [decide_eq_true hl]; rfl
  ·obtain ⟨i1, i2, _, _⟩ := oneU_inst h2 hl
   rw [decide_eq_true i1, i2, (oneU_all h2).2.2.2]
   simp
 ·have := range_all (raw_srt h.1).2.2 (show k - 1 < U.length - 1 by omega)
  simp only [show k - 1 + 1 = k by omega] at this
  exact this
theorem runs24 (U : List Un) (h : goodU U = true) (hn : U.length ≤ 1000) (Q : Bool × (Unit × List Un × Int × Unit) → Prop) (hq : Q (false, ((), U, 0, ()))) : ∀ (k i : Nat), i + k = U.length → RunsX stp24 Q (k + 1) ((), U, 0, U, (U.length : Nat), (i : Nat), ())
 | 0, i, he => by
  obtain rfl : i = U.length := by omega
  exact step24_end U _ hq
 | k + 1, i, he => step24_go U i (by omega) hn ((good_ok h).1 i (by omega)) (fun h0 => ⟨(good_ok h).2 i h0 (by omega), (good_ok h).1 (i - 1) (by omega)⟩) _ (runs24 U h hn Q hq k (i + 1) (by omega))
theorem back_bad {U : List Un} (h : backB U = true) : goodU U = false := by
 simp only [backB, Bool.and_eq_true, decide_eq_true_eq, Bool.not_eq_true'] at h
 cases hg : goodU U with
 | false => rfl
 | true =>
  have := (good_ok hg).2 1 (by omega) (by omega)
  rw [h.2.2.2] at this
  cases this
theorem f24_loops : BlocksOk Tryz.prog 0 L24 (codeOf Tryz.f24) := by
 refine blocksOk_of (d := fun id => Nat.beq id 0) (fun id => by unfold L24; cases Nat.beq id 0 <;> rfl) _ ?_
 have hb : blocksOf (fun id => Nat.beq id 0) (codeOf Tryz.f24) = [(0, .loop (loopOf 0 (codeOf Tryz.f24)))] := by kernel_rfl
 rw [hb]
 intro p hp g hg
 simp only [List.mem_singleton] at hp
 subst hp
 have hh : L24 0 = some ((lp24).g 0) := rfl
 rw [hh] at hg
 obtain rfl : g = (lp24).g 0 := (Option.some.inj hg).symm
 refine LoopSt.ok2 (N := 1010) prog_mixed (inlΓ_ok prog_mixed Γb24_ok 1) (L := noL) (blocksOk_none 0 _) lp24_good (fun x => step24_eq x) ?_
 rintro ⟨⟨⟩, U, e, V, n, i, ⟨⟩⟩ hx
 have hx : pre24 ((), U, e, V, n, i, ()) = true := hx
 simp only [pre24, Bool.and_eq_true, Bool.or_eq_true, decide_eq_true_eq, eqUs_iff] at hx
 have h0 : U = V := hx.1
 have h1 : e = 0 := hx.2.1
 have h2 : n = (U.length : Nat) := hx.2.2.1
 have h3 : i = 0 := hx.2.2.2.1
 have h4 : U.length ≤ 1000 := hx.2.2.2.2.1
 have h5 : goodU U = true ∨ backB U = true := hx.2.2.2.2.2
 clear hx
 subst h0 h1 h2 h3
 rcases h5 with h5 | h5
 · have hr : lp24.res ((), U, 0, U, (U.length : Nat), 0, ()) = (false, ((), U, 0, ())) := by
     show (bif goodU U then (false, ((), U, 0, ())) else (true, ((), U, 7, ())) : Bool × (Unit × List Un × Int × Unit)) = _
     rw [h5]; rfl
   rw [hr]
   exact ⟨_, runs24 U h5 h4 (· = (false, ((), U, 0, ()))) rfl U.length 0 (by omega)⟩
 · have hb := back_bad h5
   have hr : lp24.res ((), U, 0, U, (U.length : Nat), 0, ()) = (true, ((), U, 7, ())) := by
     show (bif goodU U then (false, ((), U, 0, ())) else (true, ((), U, 7, ())) : Bool × (Unit × List Un × Int × Unit)) = _
     rw [hb]; rfl
   rw [hr]
   simp only [backB, Bool.and_eq_true, decide_eq_true_eq, Bool.not_eq_true'] at h5
   refine ⟨2, step24_go U 0 (by omega) h4 h5.2.1 (fun h => absurd h (by omega)) _ ?_⟩
   exact step24_bad U (by omega) h4 h5.2.2.1 h5.2.2.2 h5.2.1 _ rfl
def K50 : List AV → Option (AV × List Bool) := (F3 (argIface 85) argUs argUs).K (fun x => boolA true) fun x => [eqUs x.2.1 x.2.2.1, decide (x.2.1.length ≤ 1000)]
theorem f50_ok : PureOk Tryz.prog 50 K50 :=
 (F3 (argIface 85) argUs argUs).pureEq (N := 1010) (L := noL) prog_mixed Γ50_ok (fn := Tryz.f50) (c := codeOf Tryz.f50) (by kernel_rfl) (by kernel_rfl) (by kernel_rfl) (blocksOk_none _ _) (fun _ => rfl) (M := fun x => M50 x.2.1 x.2.2.1) (fun x => M50_eq x.2.1 x.2.2.1)
  fun x h => by
   have h1 : x.2.1 = x.2.2.1 := eqUs_iff.1 (h (eqUs x.2.1 x.2.2.1) (by simp))
   rw [← h1]
   exact M50_sat x.2.1 (dec (h (decide (x.2.1.length ≤ 1000)) (by simp)))
def K25 : List AV → Option (AV × List Bool) := (F1 argUs).K (fun x => usA x.1) fun x => [decide (x.1.length ≤ 1000)]
theorem f25_ok : PureOk Tryz.prog 25 K25 :=
 (F1 argUs).pureEq (N := 1010) (L := noL) prog_mixed Γ25_ok (fn := Tryz.f25) (c := codeOf Tryz.f25) (by kernel_rfl) (by kernel_rfl) (by kernel_rfl) (blocksOk_none _ _) (fun _ => rfl) (M := fun x => M25 x.1) (fun x => M25_eq x.1)
  fun x h => M25_sat x.1 (dec (h (decide (x.1.length ≤ 1000)) (by simp)))
def K35 : List AV → Option (AV × List Bool) := (F1 argUs).K (fun x => .tup [usA (mergeU x.1), intA .i64 0]) fun x => [rawOk x.1, decide (1 ≤ x.1.length), decide (x.1.length ≤ 19)]
theorem f35_ok : PureOk Tryz.prog 35 K35 :=
 (F1 argUs).pureEq (N := 1010) (L := noL) prog_mixed Γ35_ok (fn := Tryz.f35) (c := codeOf Tryz.f35) (by kernel_rfl) (by kernel_rfl) (by kernel_rfl) (blocksOk_none _ _) (fun _ => rfl) (M := fun x => M35 x.1) (fun x => M35_eq x.1)
  fun x h => M35_sat x.1 (h _ (by simp)) (dec (h (decide (1 ≤ x.1.length)) (by simp))) (dec (h (decide (x.1.length ≤ 19)) (by simp)))
end Go.Vse
set_option maxRecDepth 100000
namespace Go.Vse
open Go.Proofs
def Γb24x : FuncId → Option Spec := fun f => bif Nat.beq f 47 then some (pureSpec K47) else bif Nat.beq f 48 then some (pureSpec K48) else bif Nat.beq f 62 then some (pureSpec K62) else bif Nat.beq f 49 then some (pureSpec K49) else bif Nat.beq f 50 then some (pureSpec K50) else none
theorem Γb24x_ok : ∀ f s, Γb24x f = some s → SpecOk Tryz.prog f s := step_ok f47_ok.spec (step_ok f48_ok.spec (step_ok f62_ok.spec (step_ok f49_ok.spec (one_ok f50_ok.spec))))
def preK24 (U : List Un) : Bool := decide (1 ≤ U.length) && (decide (U.length ≤ 19) && (goodU U || backB U))
def K24 : List AV → Option (AV × List Bool) := (F2 (argIface 85) argUs).K (fun x => intA .i64 (bif goodU x.2.1 then 0 else 7)) fun x => [preK24 x.2.1]
def M24 (U : List Un) : Tr AV :=
 let x1 : Int := ↑U.length
 let x2 : Bool := unsOk U.length (unEl U)
 let x3 : List Un := unsOf U.length (unEl U)
 let x4 : List Un := (bif goodU x3 then (false, (), x3, (0 : Int), ()) else (true, (), x3, (7 : Int), ())).snd.snd.fst
 let x5 : Nat := x4.length
 let x6 : Bool := unsOk x5 (unEl x4)
 let x7 : List Un := unsOf x5 (unEl x4)
 let x8 : Nat := x7.length
 let x9 : List Un := mergeU x7
 let x10 : Nat := x9.length
 .ite (decide (x1 > 256)) (.ret (.c (.v (.int IntKind.i64 3)))) (.need x2 (.need x2 (.need (pre24 ((), x3, 0, x3, x1, 0, ())) (.ite (bif goodU x3 then (false, (), x3, (0 : Int), ()) else (true, (), x3, (7 : Int), ())).fst (.ret (.c (.v (.int IntKind.i64 (bif goodU x3 then (false, (), x3, (0 : Int), ()) else (true, (), x3, (7 : Int), ())).snd.snd.snd.fst)))) (.need x6 (.need (rawOk x7) (.need (decide (1 ≤ x8)) (.need (decide (x8 ≤ 19)) (.need (bif 0 != 0 then true else x6 && (unsOk x10 (unEl x9) && (eqUs x7 (unsOf x10 (unEl x9)) && (decide (x8 ≤ 1000) && true)))) (.ite false (.ret (.c (.v (.int IntKind.i64 5)))) (.ret (.c (.v (.int IntKind.i64 0))))))))))))))
theorem M24_eq (U : List Un) : execFn Tryz.prog (inlΓ Tryz.prog Γb24x (fun _ => false) 1010 1) L24 1010 Tryz.f24 [.c (.v (.iface 85 (.agg #[]))), usA U] = M24 U := by kernel_rfl
theorem f24x_loops : BlocksOk Tryz.prog 0 L24 (codeOf Tryz.f24) := f24_loops
theorem M24_sat (U : List Un) (h : preK24 U = true) : (M24 U).sat fun r => r = intA .i64 (bif goodU U then 0 else 7) := by
 simp only [preK24, Bool.and_eq_true, Bool.or_eq_true, decide_eq_true_eq] at h
 obtain ⟨h1, h2, h3⟩ := h
 have hp : pre24 ((), U, 0, U, (U.length : Nat), 0, ()) = true := by
  simp only [pre24, eqUs_iff.2 rfl, decide_true, Bool.true_and, Bool.and_eq_true, Bool.or_eq_true, decide_eq_true_eq]
  exact ⟨by omega, h3⟩
 have c0 : decide ((U.length : Int) > 256) = false := decide_eq_false (by omega)
 have c1 : decide (1 ≤ U.length) = true := decide_eq_true h1
 have c2 : decide (U.length ≤ 19) = true := decide_eq_true h2
 have c3 : decide (U.length ≤ 1000) = true := decide_eq_true (by omega)
 rcases h3 with h3 | h3
 ·have hm := merge_id h3
  have hr : rawOk U = true := by unfold goodU at h3; rw [Bool.and_eq_true] at h3; exact h3.1
  simp only [M24, ↓un_fold, ↓iv_fold, ↓ln_fold, ↓tm_fold, un_eta, iv_eta, take_un1, take_un2, take_iv1, take_iv2, tmV_cells, tmOk_cells, unV_cells, unOk_cells, ivV_lit, ivOk_lit, lineV_cells, lineOk_cells, unsOf_el, unsOk_units, sat_true, hp, c0, c1, c2, c3, h3, hm, hr, eqUs_iff.2 (rfl : U = U), cond_true, Bool.not_true]
  repeat first
   | refine sat_need rfl ?_
   | refine sat_ite (fun h => Bool.noConfusion h) (fun _ => ?_)
   | refine sat_ite (fun _ => ?_) (fun h => Bool.noConfusion h)
  exact sat_ret rfl
 ·have hb := back_bad h3
  simp only [M24, ↓un_fold, ↓iv_fold, ↓ln_fold, ↓tm_fold, un_eta, iv_eta, take_un1, take_un2, take_iv1, take_iv2, tmV_cells, tmOk_cells, unV_cells, unOk_cells, ivV_lit, ivOk_lit, lineV_cells, lineOk_cells, unsOf_el, unsOk_units, sat_true, hp, c0, hb, cond_false]
  repeat first
   | refine sat_need rfl ?_
   | refine sat_ite (fun h => Bool.noConfusion h) (fun _ => ?_)
   | refine sat_ite (fun _ => ?_) (fun h => Bool.noConfusion h)
  exact sat_ret rfl
theorem f24_ok : PureOk Tryz.prog 24 K24 :=
 (F2 (argIface 85) argUs).pureEq (N := 1010) (L := L24) prog_mixed (inlΓ_ok prog_mixed Γb24x_ok 1) (fn := Tryz.f24) (c := codeOf Tryz.f24) (by kernel_rfl) (by kernel_rfl) (by kernel_rfl) f24x_loops (fun _ => rfl) (M := fun x => M24 x.2.1) (fun x => M24_eq x.2.1)
  fun x h => M24_sat x.2.1 (h _ (by simp))
def Γb11 : FuncId → Option Spec := fun f => bif Nat.beq f 25 then some (pureSpec K25) else bif Nat.beq f 24 then some (pureSpec K24) else none
theorem Γb11_ok : ∀ f s, Γb11 f = some s → SpecOk Tryz.prog f s := step_ok f25_ok.spec (one_ok f24_ok.spec)
def M11 (U : List Un) : Tr AV :=
 let x1 : List Un := unsOf U.length (unEl U)
 let x2 : Nat := x1.length
 let x3 : List Un := unsOf x2 (unEl x1)
 .need (unsOk U.length (unEl U)) (.need (decide (x2 ≤ 1000)) (.need (unsOk x2 (unEl x1)) (.need (preK24 x3) (.ret (.c (.v (.int IntKind.i64 (bif goodU x3 then 0 else 7))))))))
theorem M11_eq (U : List Un) : execFn Tryz.prog Γb11 noL 1010 Tryz.f11 [usA U] = M11 U := by kernel_rfl
theorem M11_sat (U : List Un) (h : preK24 U = true) : (M11 U).sat fun r => r = intA .i64 (bif goodU U then 0 else 7) := by
 have h2 := h
 simp only [preK24, Bool.and_eq_true, decide_eq_true_eq] at h2
 have c3 : decide (U.length ≤ 1000) = true := decide_eq_true (by omega)
 simp only [M11, ↓un_fold, ↓iv_fold, ↓ln_fold, ↓tm_fold, un_eta, iv_eta, take_un1, take_un2, take_iv1, take_iv2, tmV_cells, tmOk_cells, unV_cells, unOk_cells, ivV_lit, ivOk_lit, lineV_cells, lineOk_cells, unsOf_el, unsOk_units, sat_true, h, c3]
 repeat first
  | refine sat_need rfl ?_
  | refine sat_ite (fun h => Bool.noConfusion h) (fun _ => ?_)
  | refine sat_ite (fun _ => ?_) (fun h => Bool.noConfusion h)
 exact sat_ret rfl
def K11 : List AV → Option (AV × List Bool) := (F1 argUs).K (fun x => intA .i64 (bif goodU x.1 then 0 else 7)) fun x => [preK24 x.1]
theorem f11_ok : PureOk Tryz.prog 11 K11 :=
 (F1 argUs).pureEq (N := 1010) (L := noL) prog_mixed Γb11_ok (fn := Tryz.f11) (c := codeOf Tryz.f11) (by kernel_rfl) (by kernel_rfl) (by kernel_rfl) (blocksOk_none _ _) (fun _ => rfl) (M := fun x => M11 x.1) (fun x => M11_eq x.1)
  fun x h => M11_sat x.1 (h _ (by simp))
end Go.Vse
