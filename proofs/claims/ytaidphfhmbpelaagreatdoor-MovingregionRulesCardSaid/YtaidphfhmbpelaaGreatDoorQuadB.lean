/- Helpers for the proof: no statement of its own. -/
import Derived.Test.YtaidphfhmbpelaaGreatDoorQuadA
set_option linter.unusedVariables false
set_option linter.unusedSimpArgs false
set_option linter.unnecessarySimpa false
set_option linter.deprecated false
set_option maxRecDepth 100000
namespace Go.Vse
open Go.Proofs
def K20 : List AV → Option (AV × List Bool)
 | [.agg l1, .agg l2] => some (quadA ⟨hold ((quadV l1).c0 - (quadV l2).c0), hold ((quadV l1).c1 - (quadV l2).c1), hold ((quadV l1).c2 - (quadV l2).c2)⟩, [quadOk l1, quadOk l2, fitSubQ (quadV l1) (quadV l2)])
 | _ => none
def K73 : List AV → Option (AV × List Bool)
 | [.agg l1, .agg l2] => some (ratA (hold (evalQ (quadV l1) (ratV l2))), [quadOk l1, ratOk l2, fitEval (quadV l1) (ratV l2)])
 | _ => none
def K74 : List AV → Option (AV × List Bool)
 | [.agg l1, .agg l2] => some (ratA (hold (slopeQ (quadV l1) (ratV l2))), [quadOk l1, ratOk l2, fitSlope (quadV l1) (ratV l2)])
 | _ => none
def K70 : List AV → Option (AV × List Bool)
 | [.agg l1, .agg l2, .agg l3] => some (intA .i64 (signV (ratV l1) (ratV l2) (ratV l3)), [ratOk l1, ratOk l2, ratOk l3, fitSign (ratV l1) (ratV l2) (ratV l3)])
 | _ => none
def Γ20 : FuncId → Option Spec := fun f => bif Nat.beq f 43 then some (pureSpec K43) else none
def Γ73 : FuncId → Option Spec := fun f => bif Nat.beq f 67 then some (pureSpec K67) else bif Nat.beq f 72 then some (pureSpec K72) else none
def Γ74 : FuncId → Option Spec := fun f => bif Nat.beq f 67 then some (pureSpec K67) else bif Nat.beq f 72 then some (pureSpec K72) else none
def Γ70 : FuncId → Option Spec := fun f => bif Nat.beq f 107 then some (pureSpec K107) else bif Nat.beq f 67 then some (pureSpec K67) else bif Nat.beq f 108 then some (pureSpec K108) else none
def M20 (v1 : Q3) (v2 : Q3) : Tr AV :=
 let x1 : List AV := [.c (.v (.bool (decide (v1.c0.num < 0)))), .c (.v (.string ⟨⟨magB v1.c0.num.natAbs⟩⟩)), .c (.v (.bool false)), .c (.v (.string ⟨⟨denB v1.c0.den⟩⟩))]
 let x2 : List AV := [.c (.v (.bool (decide (v2.c0.num < 0)))), .c (.v (.string ⟨⟨magB v2.c0.num.natAbs⟩⟩)), .c (.v (.bool false)), .c (.v (.string ⟨⟨denB v2.c0.den⟩⟩))]
 let x3 : List AV := [.c (.v (.bool (decide (v1.c1.num < 0)))), .c (.v (.string ⟨⟨magB v1.c1.num.natAbs⟩⟩)), .c (.v (.bool false)), .c (.v (.string ⟨⟨denB v1.c1.den⟩⟩))]
 let x4 : List AV := [.c (.v (.bool (decide (v2.c1.num < 0)))), .c (.v (.string ⟨⟨magB v2.c1.num.natAbs⟩⟩)), .c (.v (.bool false)), .c (.v (.string ⟨⟨denB v2.c1.den⟩⟩))]
 let x5 : List AV := [.c (.v (.bool (decide (v1.c2.num < 0)))), .c (.v (.string ⟨⟨magB v1.c2.num.natAbs⟩⟩)), .c (.v (.bool false)), .c (.v (.string ⟨⟨denB v1.c2.den⟩⟩))]
 let x6 : List AV := [.c (.v (.bool (decide (v2.c2.num < 0)))), .c (.v (.string ⟨⟨magB v2.c2.num.natAbs⟩⟩)), .c (.v (.bool false)), .c (.v (.string ⟨⟨denB v2.c2.den⟩⟩))]
 let x7 : Int := (hold (ratV x1 - ratV x2)).num
 let x8 : Int := (hold (ratV x3 - ratV x4)).num
 let x9 : Int := (hold (ratV x5 - ratV x6)).num
 .need (ratOk x1) (.need (ratOk x2) (.need (fitA (ratV x1) (-ratV x2)) (.need (ratOk x3) (.need (ratOk x4) (.need (fitA (ratV x3) (-ratV x4)) (.need (ratOk x5) (.need (ratOk x6) (.need (fitA (ratV x5) (-ratV x6)) (.ret (AV.agg [.c (.v (.bool (decide (x7 < 0)))), .c (.v (.string ⟨⟨magB x7.natAbs⟩⟩)), .c (.v (.bool false)), .c (.v (.string ⟨⟨denB (hold (ratV x1 - ratV x2)).den⟩⟩)), .c (.v (.bool (decide (x8 < 0)))), .c (.v (.string ⟨⟨magB x8.natAbs⟩⟩)), .c (.v (.bool false)), .c (.v (.string ⟨⟨denB (hold (ratV x3 - ratV x4)).den⟩⟩)), .c (.v (.bool (decide (x9 < 0)))), .c (.v (.string ⟨⟨magB x9.natAbs⟩⟩)), .c (.v (.bool false)), .c (.v (.string ⟨⟨denB (hold (ratV x5 - ratV x6)).den⟩⟩))]))))))))))
def M73 (v1 : Q3) (v2 : Rat) : Tr AV :=
 let x1 : List AV := [.c (.v (.bool (decide (v2.num < 0)))), .c (.v (.string ⟨⟨magB v2.num.natAbs⟩⟩)), .c (.v (.bool false)), .c (.v (.string ⟨⟨denB v2.den⟩⟩))]
 let x2 : List AV := [.c (.v (.bool (decide (v1.c2.num < 0)))), .c (.v (.string ⟨⟨magB v1.c2.num.natAbs⟩⟩)), .c (.v (.bool false)), .c (.v (.string ⟨⟨denB v1.c2.den⟩⟩))]
 let x3 : List AV := [.c (.v (.bool (decide (v1.c1.num < 0)))), .c (.v (.string ⟨⟨magB v1.c1.num.natAbs⟩⟩)), .c (.v (.bool false)), .c (.v (.string ⟨⟨denB v1.c1.den⟩⟩))]
 let x4 : Int := (hold (ratV x1 * ratV x2)).num
 let x5 : List AV := [.c (.v (.bool (decide (x4 < 0)))), .c (.v (.string ⟨⟨magB x4.natAbs⟩⟩)), .c (.v (.bool false)), .c (.v (.string ⟨⟨denB (hold (ratV x1 * ratV x2)).den⟩⟩))]
 let x6 : Int := (hold (ratV x3 + ratV x5)).num
 let x7 : List AV := [.c (.v (.bool (decide (x6 < 0)))), .c (.v (.string ⟨⟨magB x6.natAbs⟩⟩)), .c (.v (.bool false)), .c (.v (.string ⟨⟨denB (hold (ratV x3 + ratV x5)).den⟩⟩))]
 let x8 : List AV := [.c (.v (.bool (decide (v1.c0.num < 0)))), .c (.v (.string ⟨⟨magB v1.c0.num.natAbs⟩⟩)), .c (.v (.bool false)), .c (.v (.string ⟨⟨denB v1.c0.den⟩⟩))]
 let x9 : Int := (hold (ratV x1 * ratV x7)).num
 let x10 : List AV := [.c (.v (.bool (decide (x9 < 0)))), .c (.v (.string ⟨⟨magB x9.natAbs⟩⟩)), .c (.v (.bool false)), .c (.v (.string ⟨⟨denB (hold (ratV x1 * ratV x7)).den⟩⟩))]
 let x11 : Int := (hold (ratV x8 + ratV x10)).num
 .need (ratOk x1) (.need (ratOk x2) (.need (fitM (ratV x1) (ratV x2)) (.need (ratOk x3) (.need (ratOk x5) (.need (fitA (ratV x3) (ratV x5)) (.need (ratOk x1) (.need (ratOk x7) (.need (fitM (ratV x1) (ratV x7)) (.need (ratOk x8) (.need (ratOk x10) (.need (fitA (ratV x8) (ratV x10)) (.ret (AV.agg [.c (.v (.bool (decide (x11 < 0)))), .c (.v (.string ⟨⟨magB x11.natAbs⟩⟩)), .c (.v (.bool false)), .c (.v (.string ⟨⟨denB (hold (ratV x8 + ratV x10)).den⟩⟩))])))))))))))))
def M74 (v1 : Q3) (v2 : Rat) : Tr AV :=
 let x1 : List AV := [.c (.v (.bool (decide (v1.c2.num < 0)))), .c (.v (.string ⟨⟨magB v1.c2.num.natAbs⟩⟩)), .c (.v (.bool false)), .c (.v (.string ⟨⟨denB v1.c2.den⟩⟩))]
 let x2 : Int := (hold (ratV x1 + ratV x1)).num
 let x3 : List AV := [.c (.v (.bool (decide (x2 < 0)))), .c (.v (.string ⟨⟨magB x2.natAbs⟩⟩)), .c (.v (.bool false)), .c (.v (.string ⟨⟨denB (hold (ratV x1 + ratV x1)).den⟩⟩))]
 let x4 : List AV := [.c (.v (.bool (decide (v2.num < 0)))), .c (.v (.string ⟨⟨magB v2.num.natAbs⟩⟩)), .c (.v (.bool false)), .c (.v (.string ⟨⟨denB v2.den⟩⟩))]
 let x5 : List AV := [.c (.v (.bool (decide (v1.c1.num < 0)))), .c (.v (.string ⟨⟨magB v1.c1.num.natAbs⟩⟩)), .c (.v (.bool false)), .c (.v (.string ⟨⟨denB v1.c1.den⟩⟩))]
 let x6 : Int := (hold (ratV x3 * ratV x4)).num
 let x7 : List AV := [.c (.v (.bool (decide (x6 < 0)))), .c (.v (.string ⟨⟨magB x6.natAbs⟩⟩)), .c (.v (.bool false)), .c (.v (.string ⟨⟨denB (hold (ratV x3 * ratV x4)).den⟩⟩))]
 let x8 : Int := (hold (ratV x5 + ratV x7)).num
 .need (ratOk x1) (.need (ratOk x1) (.need (fitA (ratV x1) (ratV x1)) (.need (ratOk x3) (.need (ratOk x4) (.need (fitM (ratV x3) (ratV x4)) (.need (ratOk x5) (.need (ratOk x7) (.need (fitA (ratV x5) (ratV x7)) (.ret (AV.agg [.c (.v (.bool (decide (x8 < 0)))), .c (.v (.string ⟨⟨magB x8.natAbs⟩⟩)), .c (.v (.bool false)), .c (.v (.string ⟨⟨denB (hold (ratV x5 + ratV x7)).den⟩⟩))]))))))))))
def M70 (v1 : Rat) (v2 : Rat) (v3 : Rat) : Tr AV :=
 let x1 : List AV := [.c (.v (.bool (decide (v1.num < 0)))), .c (.v (.string ⟨⟨magB v1.num.natAbs⟩⟩)), .c (.v (.bool false)), .c (.v (.string ⟨⟨denB v1.den⟩⟩))]
 let x2 : List AV := [.c (.v (.bool (decide (v2.num < 0)))), .c (.v (.string ⟨⟨magB v2.num.natAbs⟩⟩)), .c (.v (.bool false)), .c (.v (.string ⟨⟨denB v2.den⟩⟩))]
 let x3 : List AV := [.c (.v (.bool (decide (v3.num < 0)))), .c (.v (.string ⟨⟨magB v3.num.natAbs⟩⟩)), .c (.v (.bool false)), .c (.v (.string ⟨⟨denB v3.den⟩⟩))]
 let x4 : Int := IntKind.i64.wrap (sgn (ratV x2).num 0 * sgn (ratV x3).num 0)
 let x5 : Int := sgn (ratV x1).num 0
 let x6 : Int := (hold (ratV x2 * ratV x2)).num
 let x7 : List AV := [.c (.v (.bool (decide (x6 < 0)))), .c (.v (.string ⟨⟨magB x6.natAbs⟩⟩)), .c (.v (.bool false)), .c (.v (.string ⟨⟨denB (hold (ratV x2 * ratV x2)).den⟩⟩))]
 let x8 : Int := (hold (ratV x1 * ratV x1)).num
 let x9 : List AV := [.c (.v (.bool (decide (x8 < 0)))), .c (.v (.string ⟨⟨magB x8.natAbs⟩⟩)), .c (.v (.bool false)), .c (.v (.string ⟨⟨denB (hold (ratV x1 * ratV x1)).den⟩⟩))]
 let x10 : Int := (hold (ratV x7 * ratV x3)).num
 let x11 : List AV := [.c (.v (.bool (decide (x10 < 0)))), .c (.v (.string ⟨⟨magB x10.natAbs⟩⟩)), .c (.v (.bool false)), .c (.v (.string ⟨⟨denB (hold (ratV x7 * ratV x3)).den⟩⟩))]
 .need (ratOk x1) (.need (ratOk x2) (.need (ratOk x3) (.need (bif x4 == 0 then true else true) (.ite (bif x4 == 0 then true else bif false then true else x5 == x4) (.ret (.c (.v (.int IntKind.i64 x5)))) (.ite (x5 == 0) (.ret (.c (.v (.int IntKind.i64 x4)))) (.need (ratOk x1) (.need (ratOk x1) (.need (fitM (ratV x1) (ratV x1)) (.need (ratOk x2) (.need (ratOk x2) (.need (fitM (ratV x2) (ratV x2)) (.need (ratOk x7) (.need (ratOk x3) (.need (fitM (ratV x7) (ratV x3)) (.need (ratOk x9) (.need (ratOk x11) (.need (fit4 (ratV x9) (ratV x11)) (.ret (.c (.v (.int IntKind.i64 (IntKind.i64.wrap (x5 * sgn ((ratV x9).num * ↑(ratV x11).den) ((ratV x11).num * ↑(ratV x9).den))))))))))))))))))))))))
theorem M20_eq (v1 : Q3) (v2 : Q3) : execFn Tryz.prog Γ20 noL 1010 Tryz.f20 [.agg (quadCells v1), .agg (quadCells v2)] = M20 v1 v2 := by kernel_rfl
theorem M73_eq (v1 : Q3) (v2 : Rat) : execFn Tryz.prog Γ73 noL 1010 Tryz.f73 [.agg (quadCells v1), .agg (ratCells v2)] = M73 v1 v2 := by kernel_rfl
theorem M74_eq (v1 : Q3) (v2 : Rat) : execFn Tryz.prog Γ74 noL 1010 Tryz.f74 [.agg (quadCells v1), .agg (ratCells v2)] = M74 v1 v2 := by kernel_rfl
theorem M70_eq (v1 : Rat) (v2 : Rat) (v3 : Rat) : execFn Tryz.prog Γ70 noL 1010 Tryz.f70 [.agg (ratCells v1), .agg (ratCells v2), .agg (ratCells v3)] = M70 v1 v2 v3 := by kernel_rfl
theorem M20_sat (v1 : Q3) (v2 : Q3) (c1 : fitSubQ v1 v2 = true) : (M20 v1 v2).sat fun r => r = quadA ⟨hold (v1.c0 - v2.c0), hold (v1.c1 - v2.c1), hold (v1.c2 - v2.c2)⟩ := by
 simp only [fitSubQ, fitSub, Bool.and_eq_true] at c1
 simp only [M20, ratV_lit, ratOk_lit, quadV_lit, quadOk_lit, realV_lit, realOk_lit, lineV_lit, lineOk_lit, ratV_int, ratOk_int, ratV_zero, ratOk_zero, hold_eq, Bool.and_self, sat_true, c1]
 exact sat_ret rfl
theorem M73_sat (v1 : Q3) (v2 : Rat) (c1 : fitEval v1 v2 = true) : (M73 v1 v2).sat fun r => r = ratA (hold (evalQ v1 v2)) := by
 simp only [fitEval, Bool.and_eq_true] at c1
 simp only [M73, ratV_lit, ratOk_lit, quadV_lit, quadOk_lit, realV_lit, realOk_lit, lineV_lit, lineOk_lit, ratV_int, ratOk_int, ratV_zero, ratOk_zero, hold_eq, Bool.and_self, sat_true, c1]
 exact sat_ret rfl
theorem M74_sat (v1 : Q3) (v2 : Rat) (c1 : fitSlope v1 v2 = true) : (M74 v1 v2).sat fun r => r = ratA (hold (slopeQ v1 v2)) := by
 simp only [fitSlope, Bool.and_eq_true] at c1
 simp only [M74, ratV_lit, ratOk_lit, quadV_lit, quadOk_lit, realV_lit, realOk_lit, lineV_lit, lineOk_lit, ratV_int, ratOk_int, ratV_zero, ratOk_zero, hold_eq, Bool.and_self, sat_true, c1]
 exact sat_ret rfl
theorem M70_sat (v1 : Rat) (v2 : Rat) (v3 : Rat) (c1 : fitSign v1 v2 v3 = true) : (M70 v1 v2 v3).sat fun r => r = intA .i64 (signV v1 v2 v3) := by
 simp only [fitSign, Bool.and_eq_true] at c1
 have hw : IntKind.i64.wrap (sgn v2.num 0 * sgn v3.num 0) = sgn v2.num 0 * sgn v3.num 0 := by
   rcases sgn_abs v2.num 0 with h | h | h <;> rcases sgn_abs v3.num 0 with k | k | k <;> rw [h, k] <;> rfl
 have hw2 : ∀ a b : Int, IntKind.i64.wrap (sgn v1.num 0 * sgn a b) = sgn v1.num 0 * sgn a b := by
   intro a b
   rcases sgn_abs v1.num 0 with h | h | h <;> rcases sgn_abs a b with k | k | k <;> rw [h, k] <;> rfl
 simp only [M70, ratV_lit, ratOk_lit, quadV_lit, quadOk_lit, realV_lit, realOk_lit, lineV_lit, lineOk_lit, ratV_int, ratOk_int, ratV_zero, ratOk_zero, hold_eq, Bool.and_self, sat_true, c1, hw, hw2]
 have hs : ∀ z : Int, z = signV v1 v2 v3 → AV.c (.v (.int .i64 z)) = intA .i64 (signV v1 v2 v3) := fun z hz => by rw [hz]; rfl
 refine sat_need (by cases (sgn v2.num 0 * sgn v3.num 0 == 0) <;> rfl) (sat_ite (fun h => sat_ret (hs _ ?_)) (fun h => sat_ite (fun k => sat_ret (hs _ ?_)) (fun k => ?_)))
 · unfold signV
   simp only []
   rw [if_pos]
   cases h0 : (sgn v2.num 0 * sgn v3.num 0 == 0) with
   | true => exact .inl (eq_of_beq h0)
   | false => rw [h0] at h; exact .inr (eq_of_beq h)
 · unfold signV
   simp only []
   cases h0 : (sgn v2.num 0 * sgn v3.num 0 == 0) with
   | true => rw [h0] at h; cases h
   | false =>
     rw [h0] at h
     have h1 : ¬ (sgn v2.num 0 * sgn v3.num 0 = 0 ∨ sgn v1.num 0 = sgn v2.num 0 * sgn v3.num 0) := by
       rintro (h1 | h1)
       · rw [h1] at h0; cases h0
       · have : (sgn v1.num 0 == sgn v2.num 0 * sgn v3.num 0) = true := by rw [h1]; simp
         rw [this] at h; cases h
     rw [if_neg h1, if_pos (eq_of_beq k)]
 · simp only [sat_true]
   refine sat_ret (hs _ ?_)
   unfold signV
   simp only []
   cases h0 : (sgn v2.num 0 * sgn v3.num 0 == 0) with
   | true => rw [h0] at h; cases h
   | false =>
     rw [h0] at h
     have h1 : ¬ (sgn v2.num 0 * sgn v3.num 0 = 0 ∨ sgn v1.num 0 = sgn v2.num 0 * sgn v3.num 0) := by
       rintro (h1 | h1)
       · rw [h1] at h0; cases h0
       · have : (sgn v1.num 0 == sgn v2.num 0 * sgn v3.num 0) = true := by rw [h1]; simp
         rw [this] at h; cases h
     have k1 : ¬ sgn v1.num 0 = 0 := by
       intro hh
       rw [hh] at k; cases k
     rw [if_neg h1, if_neg k1]
theorem Γ20_ok : ∀ f s, Γ20 f = some s → SpecOk Tryz.prog f s := one_ok f43_ok.spec
theorem f20_ok : PureOk Tryz.prog 20 K20 := by
 refine pureOk_of_exec prog_mixed Γ20_ok (fn := Tryz.f20) (c := codeOf Tryz.f20) (by kernel_rfl) (by kernel_rfl) (callFunc_enter (fn := Tryz.f20) (c := codeOf Tryz.f20) (by kernel_rfl) (by kernel_rfl) (by kernel_rfl)) (L := noL) (N := 1010) (blocksOk_none _ _) ?_ ?_
 · intro args v cs h
   unfold K20 at h
   split at h
   · cases h; rfl
   · cases h
 · intro args v cs h hc
   unfold K20 at h
   split at h
   · rename_i l1 l2
     cases h
     have h1 : quadOk l1 = true := hc (quadOk l1) (by simp)
     have h2 : quadOk l2 = true := hc (quadOk l2) (by simp)
     have c1 : fitSubQ (quadV l1) (quadV l2) = true := hc (fitSubQ (quadV l1) (quadV l2)) (by simp)
     obtain ⟨v1, rfl⟩ : ∃ x, l1 = quadCells x := ⟨_, quadOk_eq h1⟩
     obtain ⟨v2, rfl⟩ : ∃ x, l2 = quadCells x := ⟨_, quadOk_eq h2⟩
     simp only [quadV_cells] at *
     have hs := M20_sat v1 v2 c1
     rw [← M20_eq] at hs
     generalize execFn Tryz.prog Γ20 noL 1010 Tryz.f20 [.agg (quadCells v1), .agg (quadCells v2)] = T at hs ⊢
     generalize hold (v1.c0 - v2.c0) = z0 at hs ⊢
     generalize hold (v1.c1 - v2.c1) = z1 at hs ⊢
     generalize hold (v1.c2 - v2.c2) = z2 at hs ⊢
     exact Tr.sat_mono (fun r hr => ⟨by subst hr; rfl, Sees.of_eq hr⟩) hs
   · cases h
theorem Γ73_ok : ∀ f s, Γ73 f = some s → SpecOk Tryz.prog f s := step_ok f67_ok.spec (one_ok f72_ok.spec)
theorem f73_ok : PureOk Tryz.prog 73 K73 := by
 refine pureOk_of_exec prog_mixed Γ73_ok (fn := Tryz.f73) (c := codeOf Tryz.f73) (by kernel_rfl) (by kernel_rfl) (callFunc_enter (fn := Tryz.f73) (c := codeOf Tryz.f73) (by kernel_rfl) (by kernel_rfl) (by kernel_rfl)) (L := noL) (N := 1010) (blocksOk_none _ _) ?_ ?_
 · intro args v cs h
   unfold K73 at h
   split at h
   · cases h; rfl
   · cases h
 · intro args v cs h hc
   unfold K73 at h
   split at h
   · rename_i l1 l2
     cases h
     have h1 : quadOk l1 = true := hc (quadOk l1) (by simp)
     have h2 : ratOk l2 = true := hc (ratOk l2) (by simp)
     have c1 : fitEval (quadV l1) (ratV l2) = true := hc (fitEval (quadV l1) (ratV l2)) (by simp)
     obtain ⟨v1, rfl⟩ : ∃ x, l1 = quadCells x := ⟨_, quadOk_eq h1⟩
     obtain ⟨v2, rfl⟩ : ∃ x, l2 = ratCells x := ⟨_, ratOk_eq h2⟩
     simp only [quadV_cells, ratV_cells] at *
     have hs := M73_sat v1 v2 c1
     rw [← M73_eq] at hs
     generalize execFn Tryz.prog Γ73 noL 1010 Tryz.f73 [.agg (quadCells v1), .agg (ratCells v2)] = T at hs ⊢
     generalize hold (evalQ v1 v2) = z at hs ⊢
     exact Tr.sat_mono (fun r hr => ⟨by subst hr; rfl, Sees.of_eq hr⟩) hs
   · cases h
theorem Γ74_ok : ∀ f s, Γ74 f = some s → SpecOk Tryz.prog f s := step_ok f67_ok.spec (one_ok f72_ok.spec)
theorem f74_ok : PureOk Tryz.prog 74 K74 := by
 refine pureOk_of_exec prog_mixed Γ74_ok (fn := Tryz.f74) (c := codeOf Tryz.f74) (by kernel_rfl) (by kernel_rfl) (callFunc_enter (fn := Tryz.f74) (c := codeOf Tryz.f74) (by kernel_rfl) (by kernel_rfl) (by kernel_rfl)) (L := noL) (N := 1010) (blocksOk_none _ _) ?_ ?_
 · intro args v cs h
   unfold K74 at h
   split at h
   · cases h; rfl
   · cases h
 · intro args v cs h hc
   unfold K74 at h
   split at h
   · rename_i l1 l2
     cases h
     have h1 : quadOk l1 = true := hc (quadOk l1) (by simp)
     have h2 : ratOk l2 = true := hc (ratOk l2) (by simp)
     have c1 : fitSlope (quadV l1) (ratV l2) = true := hc (fitSlope (quadV l1) (ratV l2)) (by simp)
     obtain ⟨v1, rfl⟩ : ∃ x, l1 = quadCells x := ⟨_, quadOk_eq h1⟩
     obtain ⟨v2, rfl⟩ : ∃ x, l2 = ratCells x := ⟨_, ratOk_eq h2⟩
     simp only [quadV_cells, ratV_cells] at *
     have hs := M74_sat v1 v2 c1
     rw [← M74_eq] at hs
     generalize execFn Tryz.prog Γ74 noL 1010 Tryz.f74 [.agg (quadCells v1), .agg (ratCells v2)] = T at hs ⊢
     generalize hold (slopeQ v1 v2) = z at hs ⊢
     exact Tr.sat_mono (fun r hr => ⟨by subst hr; rfl, Sees.of_eq hr⟩) hs
   · cases h
theorem Γ70_ok : ∀ f s, Γ70 f = some s → SpecOk Tryz.prog f s := step_ok f107_ok.spec (step_ok f67_ok.spec (one_ok f108_ok.spec))
theorem f70_ok : PureOk Tryz.prog 70 K70 := by
 refine pureOk_of_exec prog_mixed Γ70_ok (fn := Tryz.f70) (c := codeOf Tryz.f70) (by kernel_rfl) (by kernel_rfl) (callFunc_enter (fn := Tryz.f70) (c := codeOf Tryz.f70) (by kernel_rfl) (by kernel_rfl) (by kernel_rfl)) (L := noL) (N := 1010) (blocksOk_none _ _) ?_ ?_
 · intro args v cs h
   unfold K70 at h
   split at h
   · cases h; rfl
   · cases h
 · intro args v cs h hc
   unfold K70 at h
   split at h
   · rename_i l1 l2 l3
     cases h
     have h1 : ratOk l1 = true := hc (ratOk l1) (by simp)
     have h2 : ratOk l2 = true := hc (ratOk l2) (by simp)
     have h3 : ratOk l3 = true := hc (ratOk l3) (by simp)
     have c1 : fitSign (ratV l1) (ratV l2) (ratV l3) = true := hc (fitSign (ratV l1) (ratV l2) (ratV l3)) (by simp)
     obtain ⟨v1, rfl⟩ : ∃ x, l1 = ratCells x := ⟨_, ratOk_eq h1⟩
     obtain ⟨v2, rfl⟩ : ∃ x, l2 = ratCells x := ⟨_, ratOk_eq h2⟩
     obtain ⟨v3, rfl⟩ : ∃ x, l3 = ratCells x := ⟨_, ratOk_eq h3⟩
     simp only [ratV_cells] at *
     have hs := M70_sat v1 v2 v3 c1
     rw [← M70_eq] at hs
     generalize execFn Tryz.prog Γ70 noL 1010 Tryz.f70 [.agg (ratCells v1), .agg (ratCells v2), .agg (ratCells v3)] = T at hs ⊢
     generalize signV v1 v2 v3 = z at hs ⊢
     exact Tr.sat_mono (fun r hr => ⟨by subst hr; rfl, Sees.of_eq hr⟩) hs
   · cases h
end Go.Vse
set_option maxRecDepth 100000
namespace Go.Vse
open Go.Proofs
def facV (b : Bool) : Rat := bif b then -1 else 1
def byQ (q : Q3) (t : R3) : Rat := bif t.neg then -(slopeQ q t.p) else slopeQ q t.p
def baseQ (q : Q3) (t : R3) : Rat := evalQ q t.p + q.c2 * t.r
def fitAt (q : Q3) (t : R3) : Bool := fitEval q t.p && fitM q.c2 t.r && fitA (evalQ q t.p) (q.c2 * t.r) && fitSlope q t.p && fitMake (baseQ q t) (byQ q t) t.r
def atP (q : Q3) (t : R3) : Rat := mkP (baseQ q t) (byQ q t) t.r
def atR (q : Q3) (t : R3) : Rat := mkR (baseQ q t) (byQ q t) t.r
def atN (q : Q3) (t : R3) : Bool := mkN (baseQ q t) (byQ q t) t.r
def red0 (q : Q3) (t : R3) : Rat := bif decide (t.r = 0) then evalQ q t.p else q.c0 + q.c2 * (t.r - t.p * t.p)
def red1 (q : Q3) (t : R3) : Rat := bif decide (t.r = 0) then 0 else slopeQ q t.p
def fitRed (q : Q3) (t : R3) : Bool := bif decide (t.r = 0) then fitEval q t.p else fitM t.p t.p && fitSub t.r (t.p * t.p) && fitM q.c2 (t.r - t.p * t.p) && fitA q.c0 (q.c2 * (t.r - t.p * t.p)) && fitSlope q t.p
def slopeB (t v u w : Rat) : Rat := (w - v) / (u - t)
def fitBet (t v u w : Rat) : Bool := fitSub w v && fitSub u t && fitD (w - v) (u - t) && decide (u - t ≠ 0) && fitM (slopeB t v u w) t && fitSub v (slopeB t v u w * t)
theorem ratV_zero' : ratV [.c (.v (.bool false)), .c (.v (.string ⟨⟨[]⟩⟩)), .c (.v (.bool false)), .c (.v (.string ⟨⟨[]⟩⟩))] = 0 := ratV_zero
theorem ratOk_zero' : ratOk [.c (.v (.bool false)), .c (.v (.string ⟨⟨[]⟩⟩)), .c (.v (.bool false)), .c (.v (.string ⟨⟨[]⟩⟩))] = true := ratOk_zero
theorem sgn_lt (n : Int) : decide (sgn n 0 < 0) = decide (n < 0) := by
 unfold sgn
 by_cases h : n < 0
 · rw [if_pos h, decide_eq_true h]; rfl
 · rw [if_neg h, decide_eq_false h]
   by_cases k : n > 0
   · rw [if_pos k]; rfl
   · rw [if_neg k]; rfl
theorem boolV_lit (b : Bool) : boolV [.c (.v (.bool b))] = b := rfl
theorem rat_test0 (x : Rat) : (andAll [andAll [denB x.den == [], false == false].reverse, andAll [magB x.num.natAbs == [], decide (x.num < 0) == false].reverse].reverse) = decide (x = 0) := by
 have h := rat_test x 0
 have e1 : denB (0 : Rat).den = [] := rfl
 have e2 : magB (0 : Rat).num.natAbs = [] := magB_zero
 have e3 : decide ((0 : Rat).num < 0) = false := rfl
 rw [e1, e2, e3] at h
 exact h
theorem cells0 : ratCells 0 = litZ := by
 unfold ratCells strA litZ
 rw [show (0 : Rat).num.natAbs = 0 from rfl, magB_zero]
 rfl
theorem cells2 : ratCells 2 = litB 2 := by
 unfold ratCells strA litB
 rw [show (2 : Rat).num.natAbs = 2 from rfl, magB_pos (by omega), show (2 : Nat) / 256 = 0 from rfl, magB_zero]
 rfl
def K112 : List AV → Option (AV × List Bool)
 | [.agg l1] => some (.tup [.agg litZ, boolA (decide ((ratV l1) = 0))], [ratOk l1, decide ((ratV l1) = 0) || decide ((ratV l1) = 2)])
 | _ => none
theorem f112_ok : PureOk Tryz.prog 112 K112 where
 sound := by
   intro args v cs h
   unfold K112 at h
   split at h
   · rename_i l
     cases h
     refine ⟨rfl, fun A w vs hA hc hargs => ?_⟩
     have h1 : ratOk l = true := hc (ratOk l) (by simp)
     have h2 : (decide (ratV l = 0) || decide (ratV l = 2)) = true := hc (decide (ratV l = 0) || decide (ratV l = 2)) (by simp)
     have e := ratOk_eq h1
     have hp := concPure_ok (N := 70) prog_mixed (concΓ_ok (N := 70) prog_mixed Γb_ok 14) (f := 112) (fn := Tryz.f112) (c := codeOf Tryz.f112) (by kernel_rfl) (by kernel_rfl) (by kernel_rfl)
     by_cases h0 : ratV l = 0
     · rw [h0, cells0] at e
       subst e
       rw [h0]
       exact (hp.sound _ _ _ root0).2 A w vs hA (fun p hp => by cases hp) hargs
     · have h2 : ratV l = 2 := by simpa [h0] using h2
       rw [h2, cells2] at e
       subst e
       rw [decide_eq_false h0]
       exact (hp.sound _ _ _ root2).2 A w vs hA (fun p hp => by cases hp) hargs
   · cases h
def K71 : List AV → Option (AV × List Bool)
 | [.agg l1] => some (ratA (hold (facV (realV l1).neg)), [realOk l1])
 | _ => none
def K76 : List AV → Option (AV × List Bool)
 | [.agg l1, .agg l2, .agg l3] => some (.tup [realA ⟨hold (mkP (ratV l1) (ratV l2) (ratV l3)), hold (mkR (ratV l1) (ratV l2) (ratV l3)), mkN (ratV l1) (ratV l2) (ratV l3)⟩, intA .i64 0], [ratOk l1, ratOk l2, ratOk l3, fitMake (ratV l1) (ratV l2) (ratV l3)])
 | _ => none
def K42 : List AV → Option (AV × List Bool)
 | [.agg l1, .agg l2] => some (realA ⟨hold (atP (quadV l1) (realV l2)), hold (atR (quadV l1) (realV l2)), atN (quadV l1) (realV l2)⟩, [quadOk l1, realOk l2, fitAt (quadV l1) (realV l2)])
 | _ => none
def K41 : List AV → Option (AV × List Bool)
 | [.agg l1] => some (intA .i64 (signV (realV l1).p (facV (realV l1).neg) (realV l1).r), [realOk l1, fitSign (realV l1).p (facV (realV l1).neg) (realV l1).r])
 | _ => none
def K19 : List AV → Option (AV × List Bool)
 | [.agg l1, .agg l2] => some (intA .i64 (signV (atP (quadV l1) (realV l2)) (facV (atN (quadV l1) (realV l2))) (atR (quadV l1) (realV l2))), [quadOk l1, realOk l2, fitAt (quadV l1) (realV l2), fitSign (atP (quadV l1) (realV l2)) (facV (atN (quadV l1) (realV l2))) (atR (quadV l1) (realV l2))])
 | _ => none
def K77 : List AV → Option (AV × List Bool)
 | [.agg l1] => some (.tup [ratA (hold (bif decide ((realV l1).r = 0) then (realV l1).p else 0)), boolA (decide ((realV l1).r = 0))], [realOk l1])
 | _ => none
def K51 : List AV → Option (AV × List Bool)
 | [.agg l1, .agg l2] => some (.agg (ratCells (hold (red0 (quadV l1) (realV l2))) ++ (ratCells (hold (red1 (quadV l1) (realV l2))) ++ litZ)), [quadOk l1, realOk l2, fitRed (quadV l1) (realV l2)])
 | _ => none
def K49 : List AV → Option (AV × List Bool)
 | [.agg l1, .agg l2, .agg l3] => some (boolA (decide (red0 (subQ (quadV l1) (quadV l2)) (realV l3) = 0) && decide (red1 (subQ (quadV l1) (quadV l2)) (realV l3) = 0)), [quadOk l1, quadOk l2, realOk l3, fitSubQ (quadV l1) (quadV l2), fitRed (subQ (quadV l1) (quadV l2)) (realV l3)])
 | _ => none
def K39 : List AV → Option (AV × List Bool)
 | [.agg l1, .agg l2, .agg l3, .agg l4] => some (.tup [.agg (ratCells (hold ((ratV l2) - slopeB (ratV l1) (ratV l2) (ratV l3) (ratV l4) * (ratV l1))) ++ (ratCells (hold (slopeB (ratV l1) (ratV l2) (ratV l3) (ratV l4))) ++ litZ)), intA .i64 0], [ratOk l1, ratOk l2, ratOk l3, ratOk l4, fitBet (ratV l1) (ratV l2) (ratV l3) (ratV l4)])
 | _ => none
def Γ71 : FuncId → Option Spec := fun f => bif Nat.beq f 18 then some (pureSpec K18) else none
def Γ76 : FuncId → Option Spec := fun f => bif Nat.beq f 107 then some (pureSpec K107) else bif Nat.beq f 112 then some (pureSpec K112) else bif Nat.beq f 67 then some (pureSpec K67) else bif Nat.beq f 72 then some (pureSpec K72) else none
def Γ42 : FuncId → Option Spec := fun f => bif Nat.beq f 73 then some (pureSpec K73) else bif Nat.beq f 67 then some (pureSpec K67) else bif Nat.beq f 72 then some (pureSpec K72) else bif Nat.beq f 74 then some (pureSpec K74) else bif Nat.beq f 75 then some (pureSpec K75) else bif Nat.beq f 76 then some (pureSpec K76) else none
def Γ41 : FuncId → Option Spec := fun f => bif Nat.beq f 71 then some (pureSpec K71) else bif Nat.beq f 70 then some (pureSpec K70) else none
def Γ19 : FuncId → Option Spec := fun f => bif Nat.beq f 42 then some (pureSpec K42) else bif Nat.beq f 41 then some (pureSpec K41) else none
def Γb51 : FuncId → Option Spec := fun f => bif Nat.beq f 77 then some (pureSpec K77) else bif Nat.beq f 73 then some (pureSpec K73) else bif Nat.beq f 67 then some (pureSpec K67) else bif Nat.beq f 43 then some (pureSpec K43) else bif Nat.beq f 72 then some (pureSpec K72) else bif Nat.beq f 74 then some (pureSpec K74) else none
def Γ49 : FuncId → Option Spec := fun f => bif Nat.beq f 20 then some (pureSpec K20) else bif Nat.beq f 51 then some (pureSpec K51) else none
def Γb39 : FuncId → Option Spec := fun f => bif Nat.beq f 43 then some (pureSpec K43) else bif Nat.beq f 66 then some (pureSpec K66) else bif Nat.beq f 67 then some (pureSpec K67) else none
def M71 (v1 : R3) : Tr AV :=
 let x1 : List AV := [.c (.v (.bool false)), .c (.v (.string ⟨⟨denB 1⟩⟩))]
 .ite v1.neg (.need true (.need true (.ret (AV.agg (.c (.v (.bool true)) :: .c (.v (.string ⟨⟨magB (-1).natAbs⟩⟩)) :: x1))))) (.need true (.need true (.ret (AV.agg (.c (.v (.bool false)) :: .c (.v (.string ⟨⟨magB (Int.natAbs 1)⟩⟩)) :: x1)))))
def M76 (v1 : Rat) (v2 : Rat) (v3 : Rat) : Tr AV :=
 let x1 : List AV := [.c (.v (.bool (decide (v3.num < 0)))), .c (.v (.string ⟨⟨magB v3.num.natAbs⟩⟩)), .c (.v (.bool false)), .c (.v (.string ⟨⟨denB v3.den⟩⟩))]
 let x2 : Int := sgn (ratV x1).num 0
 let x3 : List AV := [.c (.v (.bool false)), .c (.v (.string { data := #[] })), .c (.v (.bool false)), .c (.v (.string { data := #[] })), .c (.v (.bool false))]
 let x4 : List AV := [.c (.v (.bool (decide (v2.num < 0)))), .c (.v (.string ⟨⟨magB v2.num.natAbs⟩⟩)), .c (.v (.bool false)), .c (.v (.string ⟨⟨denB v2.den⟩⟩))]
 let x5 : List AV := [.c (.v (.bool (decide (v1.num < 0)))), .c (.v (.string ⟨⟨magB v1.num.natAbs⟩⟩)), .c (.v (.bool false)), .c (.v (.string ⟨⟨denB v1.den⟩⟩))]
 let x6 : Int := (hold (ratV x4 * ratV [.c (.v (.bool false)), .c (.v (.string ⟨⟨[]⟩⟩)), .c (.v (.bool false)), .c (.v (.string ⟨⟨[]⟩⟩))])).num
 let x7 : List AV := [.c (.v (.bool (decide (x6 < 0)))), .c (.v (.string ⟨⟨magB x6.natAbs⟩⟩)), .c (.v (.bool false)), .c (.v (.string { data := { toList := denB (hold (ratV x4 * ratV [.c (.v (.bool false)), .c (.v (.string ⟨⟨[]⟩⟩)), .c (.v (.bool false)), .c (.v (.string ⟨⟨[]⟩⟩))])).den } }))]
 let x8 : Int := (hold (ratV x5 + ratV x7)).num
 let x9 : List AV := [.c (.v (.int IntKind.i64 0))]
 let x10 : Int := (hold (ratV x4 * ratV x4)).num
 let x11 : List AV := [.c (.v (.bool (decide (x10 < 0)))), .c (.v (.string ⟨⟨magB x10.natAbs⟩⟩)), .c (.v (.bool false)), .c (.v (.string ⟨⟨denB (hold (ratV x4 * ratV x4)).den⟩⟩))]
 let x12 : Int := (hold (ratV x11 * ratV x1)).num
 let x13 : Int := sgn (ratV x4).num 0
 .need (ratOk x1) (.ite (decide (x2 < 0)) (.ret (AV.tup [AV.agg (.c (.v (.bool false)) :: .c (.v (.string { data := #[] })) :: .c (.v (.bool false)) :: .c (.v (.string { data := #[] })) :: x3), .c (.v (.int IntKind.i64 2))])) (.need (ratOk x1) (.need (decide (ratV x1 = 0) || decide (ratV x1 = 2)) (.ite (decide (ratV x1 = 0)) (.need (ratOk x4) (.need true (.need (fitM (ratV x4) (ratV [.c (.v (.bool false)), .c (.v (.string ⟨⟨[]⟩⟩)), .c (.v (.bool false)), .c (.v (.string ⟨⟨[]⟩⟩))])) (.need (ratOk x5) (.need (ratOk x7) (.need (fitA (ratV x5) (ratV x7)) (.ret (AV.tup (AV.agg (.c (.v (.bool (decide (x8 < 0)))) :: .c (.v (.string ⟨⟨magB x8.natAbs⟩⟩)) :: .c (.v (.bool false)) :: .c (.v (.string ⟨⟨denB (hold (ratV x5 + ratV x7)).den⟩⟩)) :: x3) :: x9))))))))) (.need (ratOk x4) (.need (ratOk x4) (.need (fitM (ratV x4) (ratV x4)) (.need (ratOk x11) (.need (ratOk x1) (.need (fitM (ratV x11) (ratV x1)) (.need (ratOk x4) (.ret (AV.tup (AV.agg [.c (.v (.bool (decide (v1.num < 0)))), .c (.v (.string ⟨⟨magB v1.num.natAbs⟩⟩)), .c (.v (.bool false)), .c (.v (.string ⟨⟨denB v1.den⟩⟩)), .c (.v (.bool (decide (x12 < 0)))), .c (.v (.string ⟨⟨magB x12.natAbs⟩⟩)), .c (.v (.bool false)), .c (.v (.string ⟨⟨denB (hold (ratV x11 * ratV x1)).den⟩⟩)), .c (.v (.bool (decide (x13 < 0))))] :: x9))))))))))))))
def M42 (v1 : Q3) (v2 : R3) : Tr AV :=
 let x1 : List AV := [.c (.v (.bool (decide (v1.c2.num < 0)))), .c (.v (.string ⟨⟨magB v1.c2.num.natAbs⟩⟩)), .c (.v (.bool false)), .c (.v (.string ⟨⟨denB v1.c2.den⟩⟩))]
 let x2 : List AV := .c (.v (.bool (decide (v1.c0.num < 0)))) :: .c (.v (.string ⟨⟨magB v1.c0.num.natAbs⟩⟩)) :: .c (.v (.bool false)) :: .c (.v (.string ⟨⟨denB v1.c0.den⟩⟩)) :: .c (.v (.bool (decide (v1.c1.num < 0)))) :: .c (.v (.string ⟨⟨magB v1.c1.num.natAbs⟩⟩)) :: .c (.v (.bool false)) :: .c (.v (.string ⟨⟨denB v1.c1.den⟩⟩)) :: x1
 let x3 : List AV := [.c (.v (.bool (decide (v2.p.num < 0)))), .c (.v (.string ⟨⟨magB v2.p.num.natAbs⟩⟩)), .c (.v (.bool false)), .c (.v (.string ⟨⟨denB v2.p.den⟩⟩))]
 let x4 : List AV := [.c (.v (.bool (decide (v2.r.num < 0)))), .c (.v (.string ⟨⟨magB v2.r.num.natAbs⟩⟩)), .c (.v (.bool false)), .c (.v (.string ⟨⟨denB v2.r.den⟩⟩))]
 let x5 : Int := (hold (evalQ (quadV x2) (ratV x3))).num
 let x6 : List AV := [.c (.v (.bool (decide (x5 < 0)))), .c (.v (.string ⟨⟨magB x5.natAbs⟩⟩)), .c (.v (.bool false)), .c (.v (.string ⟨⟨denB (hold (evalQ (quadV x2) (ratV x3))).den⟩⟩))]
 let x7 : Int := (hold (ratV x1 * ratV x4)).num
 let x8 : List AV := [.c (.v (.bool (decide (x7 < 0)))), .c (.v (.string ⟨⟨magB x7.natAbs⟩⟩)), .c (.v (.bool false)), .c (.v (.string ⟨⟨denB (hold (ratV x1 * ratV x4)).den⟩⟩))]
 let x9 : Int := (hold (slopeQ (quadV x2) (ratV x3))).num
 let x10 : List AV := [.c (.v (.bool (decide (x9 < 0)))), .c (.v (.string ⟨⟨magB x9.natAbs⟩⟩)), .c (.v (.bool false)), .c (.v (.string ⟨⟨denB (hold (slopeQ (quadV x2) (ratV x3))).den⟩⟩))]
 let x11 : Int := (hold (ratV x6 + ratV x8)).num
 let x12 : List AV := [.c (.v (.bool (decide (x11 < 0)))), .c (.v (.string ⟨⟨magB x11.natAbs⟩⟩)), .c (.v (.bool false)), .c (.v (.string ⟨⟨denB (hold (ratV x6 + ratV x8)).den⟩⟩))]
 let x13 : Int := (hold (-ratV x10)).num
 let x14 : List AV := [.c (.v (.bool (decide (x13 < 0)))), .c (.v (.string ⟨⟨magB x13.natAbs⟩⟩)), .c (.v (.bool false)), .c (.v (.string ⟨⟨denB (hold (-ratV x10)).den⟩⟩))]
 let x15 : Int := (hold (mkP (ratV x12) (ratV x14) (ratV x4))).num
 let x16 : Int := (hold (mkR (ratV x12) (ratV x14) (ratV x4))).num
 let x17 : Int := (hold (mkP (ratV x12) (ratV x10) (ratV x4))).num
 let x18 : Int := (hold (mkR (ratV x12) (ratV x10) (ratV x4))).num
 .need (quadOk x2) (.need (ratOk x3) (.need (fitEval (quadV x2) (ratV x3)) (.need (ratOk x1) (.need (ratOk x4) (.need (fitM (ratV x1) (ratV x4)) (.need (ratOk x6) (.need (ratOk x8) (.need (fitA (ratV x6) (ratV x8)) (.need (quadOk x2) (.need (ratOk x3) (.need (fitSlope (quadV x2) (ratV x3)) (.ite v2.neg (.need (ratOk x10) (.need (ratOk x12) (.need (ratOk x14) (.need (ratOk x4) (.need (fitMake (ratV x12) (ratV x14) (ratV x4)) (.ret (AV.agg [.c (.v (.bool (decide (x15 < 0)))), .c (.v (.string ⟨⟨magB x15.natAbs⟩⟩)), .c (.v (.bool false)), .c (.v (.string ⟨⟨denB (hold (mkP (ratV x12) (ratV x14) (ratV x4))).den⟩⟩)), .c (.v (.bool (decide (x16 < 0)))), .c (.v (.string ⟨⟨magB x16.natAbs⟩⟩)), .c (.v (.bool false)), .c (.v (.string ⟨⟨denB (hold (mkR (ratV x12) (ratV x14) (ratV x4))).den⟩⟩)), .c (.v (.bool (mkN (ratV x12) (ratV x14) (ratV x4))))]))))))) (.need (ratOk x12) (.need (ratOk x10) (.need (ratOk x4) (.need (fitMake (ratV x12) (ratV x10) (ratV x4)) (.ret (AV.agg [.c (.v (.bool (decide (x17 < 0)))), .c (.v (.string ⟨⟨magB x17.natAbs⟩⟩)), .c (.v (.bool false)), .c (.v (.string ⟨⟨denB (hold (mkP (ratV x12) (ratV x10) (ratV x4))).den⟩⟩)), .c (.v (.bool (decide (x18 < 0)))), .c (.v (.string ⟨⟨magB x18.natAbs⟩⟩)), .c (.v (.bool false)), .c (.v (.string ⟨⟨denB (hold (mkR (ratV x12) (ratV x10) (ratV x4))).den⟩⟩)), .c (.v (.bool (mkN (ratV x12) (ratV x10) (ratV x4))))]))))))))))))))))))
def M41 (v1 : R3) : Tr AV :=
 let x1 : List AV := [.c (.v (.bool (decide (v1.p.num < 0)))), .c (.v (.string ⟨⟨magB v1.p.num.natAbs⟩⟩)), .c (.v (.bool false)), .c (.v (.string ⟨⟨denB v1.p.den⟩⟩)), .c (.v (.bool (decide (v1.r.num < 0)))), .c (.v (.string ⟨⟨magB v1.r.num.natAbs⟩⟩)), .c (.v (.bool false)), .c (.v (.string ⟨⟨denB v1.r.den⟩⟩)), .c (.v (.bool v1.neg))]
 let x2 : List AV := [.c (.v (.bool (decide (v1.p.num < 0)))), .c (.v (.string ⟨⟨magB v1.p.num.natAbs⟩⟩)), .c (.v (.bool false)), .c (.v (.string ⟨⟨denB v1.p.den⟩⟩))]
 let x3 : Int := (hold (facV (boolV (List.drop 8 x1)))).num
 let x4 : List AV := [.c (.v (.bool (decide (x3 < 0)))), .c (.v (.string ⟨⟨magB x3.natAbs⟩⟩)), .c (.v (.bool false)), .c (.v (.string ⟨⟨denB (hold (facV (boolV (List.drop 8 x1)))).den⟩⟩))]
 let x5 : List AV := [.c (.v (.bool (decide (v1.r.num < 0)))), .c (.v (.string ⟨⟨magB v1.r.num.natAbs⟩⟩)), .c (.v (.bool false)), .c (.v (.string ⟨⟨denB v1.r.den⟩⟩))]
 .need (realOk x1) (.need (ratOk x2) (.need (ratOk x4) (.need (ratOk x5) (.need (fitSign (ratV x2) (ratV x4) (ratV x5)) (.ret (.c (.v (.int IntKind.i64 (signV (ratV x2) (ratV x4) (ratV x5))))))))))
def M19 (v1 : Q3) (v2 : R3) : Tr AV :=
 let x1 : List AV := [.c (.v (.bool (decide (v1.c0.num < 0)))), .c (.v (.string ⟨⟨magB v1.c0.num.natAbs⟩⟩)), .c (.v (.bool false)), .c (.v (.string ⟨⟨denB v1.c0.den⟩⟩)), .c (.v (.bool (decide (v1.c1.num < 0)))), .c (.v (.string ⟨⟨magB v1.c1.num.natAbs⟩⟩)), .c (.v (.bool false)), .c (.v (.string ⟨⟨denB v1.c1.den⟩⟩)), .c (.v (.bool (decide (v1.c2.num < 0)))), .c (.v (.string ⟨⟨magB v1.c2.num.natAbs⟩⟩)), .c (.v (.bool false)), .c (.v (.string ⟨⟨denB v1.c2.den⟩⟩))]
 let x2 : List AV := [.c (.v (.bool (decide (v2.p.num < 0)))), .c (.v (.string ⟨⟨magB v2.p.num.natAbs⟩⟩)), .c (.v (.bool false)), .c (.v (.string ⟨⟨denB v2.p.den⟩⟩)), .c (.v (.bool (decide (v2.r.num < 0)))), .c (.v (.string ⟨⟨magB v2.r.num.natAbs⟩⟩)), .c (.v (.bool false)), .c (.v (.string ⟨⟨denB v2.r.den⟩⟩)), .c (.v (.bool v2.neg))]
 let x3 : Int := (hold (atP (quadV x1) (realV x2))).num
 let x4 : Int := (hold (atR (quadV x1) (realV x2))).num
 let x5 : List AV := [.c (.v (.bool (decide (x3 < 0)))), .c (.v (.string ⟨⟨magB x3.natAbs⟩⟩)), .c (.v (.bool false)), .c (.v (.string ⟨⟨denB (hold (atP (quadV x1) (realV x2))).den⟩⟩)), .c (.v (.bool (decide (x4 < 0)))), .c (.v (.string ⟨⟨magB x4.natAbs⟩⟩)), .c (.v (.bool false)), .c (.v (.string ⟨⟨denB (hold (atR (quadV x1) (realV x2))).den⟩⟩)), .c (.v (.bool (atN (quadV x1) (realV x2))))]
 .need (quadOk x1) (.need (realOk x2) (.need (fitAt (quadV x1) (realV x2)) (.need (realOk x5) (.need (fitSign (ratV (List.take 4 x5)) (facV (boolV (List.drop 8 x5))) (ratV (List.take 4 (List.drop 4 x5)))) (.ret (.c (.v (.int IntKind.i64 (signV (ratV (List.take 4 x5)) (facV (boolV (List.drop 8 x5))) (ratV (List.take 4 (List.drop 4 x5))))))))))))
def M77 (v1 : R3) : Tr AV :=
 .ite (!andAll [andAll [denB v1.r.den == [], false == false].reverse, andAll [magB v1.r.num.natAbs == [], decide (v1.r.num < 0) == false].reverse].reverse) (.ret (AV.tup [AV.agg [.c (.v (.bool false)), .c (.v (.string { data := #[] })), .c (.v (.bool false)), .c (.v (.string { data := #[] }))], .c (.v (.bool false))])) (.ret (AV.tup [AV.agg [.c (.v (.bool (decide (v1.p.num < 0)))), .c (.v (.string ⟨⟨magB v1.p.num.natAbs⟩⟩)), .c (.v (.bool false)), .c (.v (.string ⟨⟨denB v1.p.den⟩⟩))], .c (.v (.bool true))]))
def M51 (v1 : Q3) (v2 : R3) : Tr AV :=
 let x1 : List AV := [.c (.v (.bool (decide (v2.p.num < 0)))), .c (.v (.string ⟨⟨magB v2.p.num.natAbs⟩⟩)), .c (.v (.bool false)), .c (.v (.string ⟨⟨denB v2.p.den⟩⟩)), .c (.v (.bool (decide (v2.r.num < 0)))), .c (.v (.string ⟨⟨magB v2.r.num.natAbs⟩⟩)), .c (.v (.bool false)), .c (.v (.string ⟨⟨denB v2.r.den⟩⟩)), .c (.v (.bool v2.neg))]
 let x2 : List AV := [.c (.v (.bool (decide (v1.c2.num < 0)))), .c (.v (.string ⟨⟨magB v1.c2.num.natAbs⟩⟩)), .c (.v (.bool false)), .c (.v (.string ⟨⟨denB v1.c2.den⟩⟩))]
 let x3 : List AV := .c (.v (.bool (decide (v1.c0.num < 0)))) :: .c (.v (.string ⟨⟨magB v1.c0.num.natAbs⟩⟩)) :: .c (.v (.bool false)) :: .c (.v (.string ⟨⟨denB v1.c0.den⟩⟩)) :: .c (.v (.bool (decide (v1.c1.num < 0)))) :: .c (.v (.string ⟨⟨magB v1.c1.num.natAbs⟩⟩)) :: .c (.v (.bool false)) :: .c (.v (.string ⟨⟨denB v1.c1.den⟩⟩)) :: x2
 let x4 : Int := (hold (bif decide (ratV (List.take 4 (List.drop 4 x1)) = 0) then ratV (List.take 4 x1) else 0)).num
 let x5 : List AV := [.c (.v (.bool (decide (x4 < 0)))), .c (.v (.string ⟨⟨magB x4.natAbs⟩⟩)), .c (.v (.bool false)), .c (.v (.string ⟨⟨denB (hold (bif decide (ratV (List.take 4 (List.drop 4 x1)) = 0) then ratV (List.take 4 x1) else 0)).den⟩⟩))]
 let x6 : Int := (hold (evalQ (quadV x3) (ratV x5))).num
 let x7 : List AV := [.c (.v (.bool false)), .c (.v (.string { data := #[] })), .c (.v (.bool false)), .c (.v (.string { data := #[] }))]
 let x8 : List AV := [.c (.v (.bool (decide (v2.p.num < 0)))), .c (.v (.string ⟨⟨magB v2.p.num.natAbs⟩⟩)), .c (.v (.bool false)), .c (.v (.string ⟨⟨denB v2.p.den⟩⟩))]
 let x9 : List AV := [.c (.v (.bool (decide (v2.r.num < 0)))), .c (.v (.string ⟨⟨magB v2.r.num.natAbs⟩⟩)), .c (.v (.bool false)), .c (.v (.string ⟨⟨denB v2.r.den⟩⟩))]
 let x10 : Int := (hold (ratV x8 * ratV x8)).num
 let x11 : List AV := [.c (.v (.bool (decide (x10 < 0)))), .c (.v (.string ⟨⟨magB x10.natAbs⟩⟩)), .c (.v (.bool false)), .c (.v (.string ⟨⟨denB (hold (ratV x8 * ratV x8)).den⟩⟩))]
 let x12 : Int := (hold (ratV x9 - ratV x11)).num
 let x13 : List AV := [.c (.v (.bool (decide (x12 < 0)))), .c (.v (.string ⟨⟨magB x12.natAbs⟩⟩)), .c (.v (.bool false)), .c (.v (.string ⟨⟨denB (hold (ratV x9 - ratV x11)).den⟩⟩))]
 let x14 : List AV := [.c (.v (.bool (decide (v1.c0.num < 0)))), .c (.v (.string ⟨⟨magB v1.c0.num.natAbs⟩⟩)), .c (.v (.bool false)), .c (.v (.string ⟨⟨denB v1.c0.den⟩⟩))]
 let x15 : Int := (hold (ratV x2 * ratV x13)).num
 let x16 : List AV := [.c (.v (.bool (decide (x15 < 0)))), .c (.v (.string ⟨⟨magB x15.natAbs⟩⟩)), .c (.v (.bool false)), .c (.v (.string ⟨⟨denB (hold (ratV x2 * ratV x13)).den⟩⟩))]
 let x17 : Int := (hold (ratV x14 + ratV x16)).num
 let x18 : Int := (hold (slopeQ (quadV x3) (ratV x8))).num
 .need (realOk x1) (.ite (decide (ratV (List.take 4 (List.drop 4 x1)) = 0)) (.need (quadOk x3) (.need (ratOk x5) (.need (fitEval (quadV x3) (ratV x5)) (.ret (AV.agg (.c (.v (.bool (decide (x6 < 0)))) :: .c (.v (.string ⟨⟨magB x6.natAbs⟩⟩)) :: .c (.v (.bool false)) :: .c (.v (.string ⟨⟨denB (hold (evalQ (quadV x3) (ratV x5))).den⟩⟩)) :: .c (.v (.bool false)) :: .c (.v (.string { data := #[] })) :: .c (.v (.bool false)) :: .c (.v (.string { data := #[] })) :: x7)))))) (.need (ratOk x8) (.need (ratOk x8) (.need (fitM (ratV x8) (ratV x8)) (.need (ratOk x9) (.need (ratOk x11) (.need (fitA (ratV x9) (-ratV x11)) (.need (ratOk x2) (.need (ratOk x13) (.need (fitM (ratV x2) (ratV x13)) (.need (ratOk x14) (.need (ratOk x16) (.need (fitA (ratV x14) (ratV x16)) (.need (quadOk x3) (.need (ratOk x8) (.need (fitSlope (quadV x3) (ratV x8)) (.ret (AV.agg (.c (.v (.bool (decide (x17 < 0)))) :: .c (.v (.string ⟨⟨magB x17.natAbs⟩⟩)) :: .c (.v (.bool false)) :: .c (.v (.string ⟨⟨denB (hold (ratV x14 + ratV x16)).den⟩⟩)) :: .c (.v (.bool (decide (x18 < 0)))) :: .c (.v (.string ⟨⟨magB x18.natAbs⟩⟩)) :: .c (.v (.bool false)) :: .c (.v (.string ⟨⟨denB (hold (slopeQ (quadV x3) (ratV x8))).den⟩⟩)) :: x7)))))))))))))))))))
def M49 (v1 : Q3) (v2 : Q3) (v3 : R3) : Tr AV :=
 let x1 : List AV := [.c (.v (.bool (decide (v1.c0.num < 0)))), .c (.v (.string ⟨⟨magB v1.c0.num.natAbs⟩⟩)), .c (.v (.bool false)), .c (.v (.string ⟨⟨denB v1.c0.den⟩⟩)), .c (.v (.bool (decide (v1.c1.num < 0)))), .c (.v (.string ⟨⟨magB v1.c1.num.natAbs⟩⟩)), .c (.v (.bool false)), .c (.v (.string ⟨⟨denB v1.c1.den⟩⟩)), .c (.v (.bool (decide (v1.c2.num < 0)))), .c (.v (.string ⟨⟨magB v1.c2.num.natAbs⟩⟩)), .c (.v (.bool false)), .c (.v (.string ⟨⟨denB v1.c2.den⟩⟩))]
 let x2 : List AV := [.c (.v (.bool (decide (v2.c0.num < 0)))), .c (.v (.string ⟨⟨magB v2.c0.num.natAbs⟩⟩)), .c (.v (.bool false)), .c (.v (.string ⟨⟨denB v2.c0.den⟩⟩)), .c (.v (.bool (decide (v2.c1.num < 0)))), .c (.v (.string ⟨⟨magB v2.c1.num.natAbs⟩⟩)), .c (.v (.bool false)), .c (.v (.string ⟨⟨denB v2.c1.den⟩⟩)), .c (.v (.bool (decide (v2.c2.num < 0)))), .c (.v (.string ⟨⟨magB v2.c2.num.natAbs⟩⟩)), .c (.v (.bool false)), .c (.v (.string ⟨⟨denB v2.c2.den⟩⟩))]
 let x3 : Int := (hold (ratV (List.take 4 x1) - ratV (List.take 4 x2))).num
 let x4 : Int := (hold (ratV (List.take 4 (List.drop 4 x1)) - ratV (List.take 4 (List.drop 4 x2)))).num
 let x5 : Int := (hold (ratV (List.drop 8 x1) - ratV (List.drop 8 x2))).num
 let x6 : List AV := [.c (.v (.bool (decide (x3 < 0)))), .c (.v (.string ⟨⟨magB x3.natAbs⟩⟩)), .c (.v (.bool false)), .c (.v (.string ⟨⟨denB (hold (ratV (List.take 4 x1) - ratV (List.take 4 x2))).den⟩⟩)), .c (.v (.bool (decide (x4 < 0)))), .c (.v (.string ⟨⟨magB x4.natAbs⟩⟩)), .c (.v (.bool false)), .c (.v (.string ⟨⟨denB (hold (ratV (List.take 4 (List.drop 4 x1)) - ratV (List.take 4 (List.drop 4 x2)))).den⟩⟩)), .c (.v (.bool (decide (x5 < 0)))), .c (.v (.string ⟨⟨magB x5.natAbs⟩⟩)), .c (.v (.bool false)), .c (.v (.string ⟨⟨denB (hold (ratV (List.drop 8 x1) - ratV (List.drop 8 x2))).den⟩⟩))]
 let x7 : List AV := [.c (.v (.bool (decide (v3.p.num < 0)))), .c (.v (.string ⟨⟨magB v3.p.num.natAbs⟩⟩)), .c (.v (.bool false)), .c (.v (.string ⟨⟨denB v3.p.den⟩⟩)), .c (.v (.bool (decide (v3.r.num < 0)))), .c (.v (.string ⟨⟨magB v3.r.num.natAbs⟩⟩)), .c (.v (.bool false)), .c (.v (.string ⟨⟨denB v3.r.den⟩⟩)), .c (.v (.bool v3.neg))]
 let x8 : List Bool := [false == false]
 let x9 : Int := (hold (red1 (quadV x6) (realV x7))).num
 let x10 : Int := (hold (red0 (quadV x6) (realV x7))).num
 .need (quadOk x1) (.need (quadOk x2) (.need (fitSubQ (quadV x1) (quadV x2)) (.need (quadOk x6) (.need (realOk x7) (.need (fitRed (quadV x6) (realV x7)) (.ret (.c (.v (.bool (andAll [andAll [andAll ((([] : List UInt8) == []) :: x8).reverse, andAll ((([] : List UInt8) == []) :: x8).reverse].reverse, andAll [andAll ((denB (hold (red1 (quadV x6) (realV x7))).den == []) :: x8).reverse, andAll [magB x9.natAbs == [], decide (x9 < 0) == false].reverse].reverse, andAll [andAll ((denB (hold (red0 (quadV x6) (realV x7))).den == []) :: x8).reverse, andAll [magB x10.natAbs == [], decide (x10 < 0) == false].reverse].reverse].reverse))))))))))
def M39 (v1 : Rat) (v2 : Rat) (v3 : Rat) (v4 : Rat) : Tr AV :=
 let x1 : List AV := [.c (.v (.bool (decide (v4.num < 0)))), .c (.v (.string ⟨⟨magB v4.num.natAbs⟩⟩)), .c (.v (.bool false)), .c (.v (.string ⟨⟨denB v4.den⟩⟩))]
 let x2 : List AV := [.c (.v (.bool (decide (v2.num < 0)))), .c (.v (.string ⟨⟨magB v2.num.natAbs⟩⟩)), .c (.v (.bool false)), .c (.v (.string ⟨⟨denB v2.den⟩⟩))]
 let x3 : List AV := [.c (.v (.bool (decide (v3.num < 0)))), .c (.v (.string ⟨⟨magB v3.num.natAbs⟩⟩)), .c (.v (.bool false)), .c (.v (.string ⟨⟨denB v3.den⟩⟩))]
 let x4 : List AV := [.c (.v (.bool (decide (v1.num < 0)))), .c (.v (.string ⟨⟨magB v1.num.natAbs⟩⟩)), .c (.v (.bool false)), .c (.v (.string ⟨⟨denB v1.den⟩⟩))]
 let x5 : Int := (hold (ratV x1 - ratV x2)).num
 let x6 : List AV := [.c (.v (.bool (decide (x5 < 0)))), .c (.v (.string ⟨⟨magB x5.natAbs⟩⟩)), .c (.v (.bool false)), .c (.v (.string ⟨⟨denB (hold (ratV x1 - ratV x2)).den⟩⟩))]
 let x7 : Int := (hold (ratV x3 - ratV x4)).num
 let x8 : List AV := [.c (.v (.bool (decide (x7 < 0)))), .c (.v (.string ⟨⟨magB x7.natAbs⟩⟩)), .c (.v (.bool false)), .c (.v (.string ⟨⟨denB (hold (ratV x3 - ratV x4)).den⟩⟩))]
 let x9 : List AV := [.c (.v (.bool false)), .c (.v (.string { data := #[] })), .c (.v (.bool false)), .c (.v (.string { data := #[] }))]
 let x10 : List AV := [.c (.v (.int IntKind.i64 0))]
 let x11 : Int := (hold (ratV x6 / ratV x8)).num
 let x12 : List AV := [.c (.v (.bool (decide (x11 < 0)))), .c (.v (.string ⟨⟨magB x11.natAbs⟩⟩)), .c (.v (.bool false)), .c (.v (.string ⟨⟨denB (hold (ratV x6 / ratV x8)).den⟩⟩))]
 let x13 : Int := (hold (ratV x12 * ratV x4)).num
 let x14 : List AV := [.c (.v (.bool (decide (x13 < 0)))), .c (.v (.string ⟨⟨magB x13.natAbs⟩⟩)), .c (.v (.bool false)), .c (.v (.string ⟨⟨denB (hold (ratV x12 * ratV x4)).den⟩⟩))]
 let x15 : Int := (hold (ratV x2 - ratV x14)).num
 .need (ratOk x1) (.need (ratOk x2) (.need (fitA (ratV x1) (-ratV x2)) (.need (ratOk x3) (.need (ratOk x4) (.need (fitA (ratV x3) (-ratV x4)) (.need (ratOk x6) (.need (ratOk x8) (.need (fitD (ratV x6) (ratV x8)) (.need (decide (ratV x8 ≠ 0)) (.ite false (.ret (AV.tup (AV.agg (.c (.v (.bool false)) :: .c (.v (.string { data := #[] })) :: .c (.v (.bool false)) :: .c (.v (.string { data := #[] })) :: .c (.v (.bool false)) :: .c (.v (.string { data := #[] })) :: .c (.v (.bool false)) :: .c (.v (.string { data := #[] })) :: x9) :: x10))) (.need (ratOk x12) (.need (ratOk x4) (.need (fitM (ratV x12) (ratV x4)) (.need (ratOk x2) (.need (ratOk x14) (.need (fitA (ratV x2) (-ratV x14)) (.ret (AV.tup (AV.agg (.c (.v (.bool (decide (x15 < 0)))) :: .c (.v (.string ⟨⟨magB x15.natAbs⟩⟩)) :: .c (.v (.bool false)) :: .c (.v (.string ⟨⟨denB (hold (ratV x2 - ratV x14)).den⟩⟩)) :: .c (.v (.bool (decide (x11 < 0)))) :: .c (.v (.string ⟨⟨magB x11.natAbs⟩⟩)) :: .c (.v (.bool false)) :: .c (.v (.string ⟨⟨denB (hold (ratV x6 / ratV x8)).den⟩⟩)) :: x9) :: x10)))))))))))))))))))
theorem M71_eq (v1 : R3) : execFn Tryz.prog Γ71 noL 1010 Tryz.f71 [.agg (realCells v1)] = M71 v1 := by kernel_rfl
theorem M76_eq (v1 : Rat) (v2 : Rat) (v3 : Rat) : execFn Tryz.prog Γ76 noL 1010 Tryz.f76 [.agg (ratCells v1), .agg (ratCells v2), .agg (ratCells v3)] = M76 v1 v2 v3 := by kernel_rfl
theorem M42_eq (v1 : Q3) (v2 : R3) : execFn Tryz.prog Γ42 noL 1010 Tryz.f42 [.agg (quadCells v1), .agg (realCells v2)] = M42 v1 v2 := by kernel_rfl
theorem M41_eq (v1 : R3) : execFn Tryz.prog Γ41 noL 1010 Tryz.f41 [.agg (realCells v1)] = M41 v1 := by kernel_rfl
theorem M19_eq (v1 : Q3) (v2 : R3) : execFn Tryz.prog Γ19 noL 1010 Tryz.f19 [.agg (quadCells v1), .agg (realCells v2)] = M19 v1 v2 := by kernel_rfl
theorem M77_eq (v1 : R3) : execFn Tryz.prog (fun _ => none) noL 1010 Tryz.f77 [.agg (realCells v1)] = M77 v1 := by kernel_rfl
theorem M51_eq (v1 : Q3) (v2 : R3) : execFn Tryz.prog (concΓ Tryz.prog Γb51 70 3) noL 1010 Tryz.f51 [.agg (quadCells v1), .agg (realCells v2)] = M51 v1 v2 := by kernel_rfl
theorem M49_eq (v1 : Q3) (v2 : Q3) (v3 : R3) : execFn Tryz.prog Γ49 noL 1010 Tryz.f49 [.agg (quadCells v1), .agg (quadCells v2), .agg (realCells v3)] = M49 v1 v2 v3 := by kernel_rfl
theorem M39_eq (v1 : Rat) (v2 : Rat) (v3 : Rat) (v4 : Rat) : execFn Tryz.prog (concΓ Tryz.prog Γb39 70 3) noL 1010 Tryz.f39 [.agg (ratCells v1), .agg (ratCells v2), .agg (ratCells v3), .agg (ratCells v4)] = M39 v1 v2 v3 v4 := by kernel_rfl
theorem M71_sat (v1 : R3)  : (M71 v1).sat fun r => r = ratA (hold (facV v1.neg)) := by
 obtain ⟨p, r, neg⟩ := v1
 simp only [M71, sat_true, hold_eq]
 cases neg
 · refine sat_ite (fun h => by cases h) (fun _ => ?_)
   simp only [sat_true]
   exact sat_ret rfl
 · refine sat_ite (fun _ => ?_) (fun h => by cases h)
   simp only [sat_true]
   exact sat_ret rfl
theorem M76_sat (v1 : Rat) (v2 : Rat) (v3 : Rat) (c1 : fitMake v1 v2 v3 = true) : (M76 v1 v2 v3).sat fun r => r = .tup [realA ⟨hold (mkP v1 v2 v3), hold (mkR v1 v2 v3), mkN v1 v2 v3⟩, intA .i64 0] := by
 simp only [fitMake, Bool.and_eq_true] at c1
 obtain ⟨⟨⟨⟨c1, c2⟩, c3⟩, c4⟩, c5⟩ := c1
 have hs : decide (sgn v3.num 0 < 0) = false := by
   simp only [Bool.or_eq_true, decide_eq_true_eq] at c1
   rcases c1 with h | h <;> rw [h] <;> rfl
 simp only [M76, ratV_lit, ratOk_lit, quadV_lit, quadOk_lit, realV_lit, realOk_lit, lineV_lit, lineOk_lit, ratV_int, ratOk_int, ratV_zero, ratOk_zero, ratV_zero', ratOk_zero', boolV_lit, List.take_succ_cons, List.take_zero, List.drop_succ_cons, List.drop_zero, hold_eq, Bool.and_self, rat_test0, sat_true, c1, c2, c3, c4, c5, hs]
 refine sat_ite (fun h => by cases h) (fun _ => ?_)
 simp only [sat_true]
 refine sat_ite (fun h => ?_) (fun h => ?_)
 · simp only [sat_true]
   refine sat_ret ?_
   simp only [mkP, mkR, mkN, h, cond_true, realA, realCells, cells0]
   rfl
 · simp only [sat_true]
   refine sat_ret ?_
   simp only [mkP, mkR, mkN, h, cond_false, sgn_lt]
   rfl
theorem M42_sat (v1 : Q3) (v2 : R3) (c1 : fitAt v1 v2 = true) : (M42 v1 v2).sat fun r => r = realA ⟨hold (atP v1 v2), hold (atR v1 v2), atN v1 v2⟩ := by
 obtain ⟨a0, a1, a2⟩ := v1
 obtain ⟨p, r, neg⟩ := v2
 cases neg
 · simp only [fitAt, byQ, baseQ, cond_false, Bool.and_eq_true] at c1
   simp only [M42, ratV_lit, ratOk_lit, quadV_lit, quadOk_lit, realV_lit, realOk_lit, lineV_lit, lineOk_lit, ratV_int, ratOk_int, ratV_zero, ratOk_zero, ratV_zero', ratOk_zero', boolV_lit, List.take_succ_cons, List.take_zero, List.drop_succ_cons, List.drop_zero, hold_eq, Bool.and_self, rat_test0, sat_true, c1, atP, atR, atN, byQ, baseQ, cond_false]
   refine sat_ite (fun h => by cases h) (fun _ => ?_)
   simp only [sat_true]
   exact sat_ret rfl
 · simp only [fitAt, byQ, baseQ, cond_true, Bool.and_eq_true] at c1
   simp only [M42, ratV_lit, ratOk_lit, quadV_lit, quadOk_lit, realV_lit, realOk_lit, lineV_lit, lineOk_lit, ratV_int, ratOk_int, ratV_zero, ratOk_zero, ratV_zero', ratOk_zero', boolV_lit, List.take_succ_cons, List.take_zero, List.drop_succ_cons, List.drop_zero, hold_eq, Bool.and_self, rat_test0, sat_true, c1, atP, atR, atN, byQ, baseQ, cond_true]
   refine sat_ite (fun _ => ?_) (fun h => by cases h)
   simp only [sat_true]
   exact sat_ret rfl
theorem M41_sat (v1 : R3) (c1 : fitSign v1.p (facV v1.neg) v1.r = true) : (M41 v1).sat fun r => r = intA .i64 (signV v1.p (facV v1.neg) v1.r) := by
 obtain ⟨p, r, neg⟩ := v1
 simp only [M41, ratV_lit, ratOk_lit, quadV_lit, quadOk_lit, realV_lit, realOk_lit, lineV_lit, lineOk_lit, ratV_int, ratOk_int, ratV_zero, ratOk_zero, ratV_zero', ratOk_zero', boolV_lit, List.take_succ_cons, List.take_zero, List.drop_succ_cons, List.drop_zero, hold_eq, Bool.and_self, rat_test0, sat_true, c1]
 exact sat_ret rfl
theorem M19_sat (v1 : Q3) (v2 : R3) (c1 : fitAt v1 v2 = true) (c2 : fitSign (atP v1 v2) (facV (atN v1 v2)) (atR v1 v2) = true) : (M19 v1 v2).sat fun r => r = intA .i64 (signV (atP v1 v2) (facV (atN v1 v2)) (atR v1 v2)) := by
 obtain ⟨a0, a1, a2⟩ := v1
 obtain ⟨p, r, neg⟩ := v2
 simp only [M19, ratV_lit, ratOk_lit, quadV_lit, quadOk_lit, realV_lit, realOk_lit, lineV_lit, lineOk_lit, ratV_int, ratOk_int, ratV_zero, ratOk_zero, ratV_zero', ratOk_zero', boolV_lit, List.take_succ_cons, List.take_zero, List.drop_succ_cons, List.drop_zero, hold_eq, Bool.and_self, rat_test0, sat_true, c1, c2]
 exact sat_ret rfl
theorem M77_sat (v1 : R3)  : (M77 v1).sat fun r => r = .tup [ratA (hold (bif decide (v1.r = 0) then v1.p else 0)), boolA (decide (v1.r = 0))] := by
 obtain ⟨p, r, neg⟩ := v1
 simp only [M77, ratV_lit, ratOk_lit, quadV_lit, quadOk_lit, realV_lit, realOk_lit, lineV_lit, lineOk_lit, ratV_int, ratOk_int, ratV_zero, ratOk_zero, ratV_zero', ratOk_zero', boolV_lit, List.take_succ_cons, List.take_zero, List.drop_succ_cons, List.drop_zero, hold_eq, Bool.and_self, rat_test0, sat_true]
 refine sat_ite (fun h => ?_) (fun h => ?_)
 · have h : decide (r = 0) = false := by simpa using h
   rw [h]
   refine sat_ret ?_
   simp only [cond_false, ratA, cells0]
   rfl
 · have h : decide (r = 0) = true := by simpa using h
   rw [h]
   exact sat_ret rfl
theorem M51_sat (v1 : Q3) (v2 : R3) (c1 : fitRed v1 v2 = true) : (M51 v1 v2).sat fun r => r = .agg (ratCells (hold (red0 v1 v2)) ++ (ratCells (hold (red1 v1 v2)) ++ litZ)) := by
 obtain ⟨a0, a1, a2⟩ := v1
 obtain ⟨p, r, neg⟩ := v2
 simp only [M51, ratV_lit, ratOk_lit, quadV_lit, quadOk_lit, realV_lit, realOk_lit, lineV_lit, lineOk_lit, ratV_int, ratOk_int, ratV_zero, ratOk_zero, ratV_zero', ratOk_zero', boolV_lit, List.take_succ_cons, List.take_zero, List.drop_succ_cons, List.drop_zero, hold_eq, Bool.and_self, rat_test0, sat_true]
 refine sat_ite (fun h => ?_) (fun h => ?_)
 · simp only [fitRed, h, cond_true, Bool.and_eq_true] at c1
   simp only [ratV_lit, ratOk_lit, quadV_lit, quadOk_lit, realV_lit, realOk_lit, lineV_lit, lineOk_lit, ratV_int, ratOk_int, ratV_zero, ratOk_zero, ratV_zero', ratOk_zero', boolV_lit, List.take_succ_cons, List.take_zero, List.drop_succ_cons, List.drop_zero, hold_eq, Bool.and_self, rat_test0, sat_true, h, cond_true, c1, red0, red1, cells0]
   exact sat_ret rfl
 · simp only [fitRed, fitSub, h, cond_false, Bool.and_eq_true] at c1
   simp only [ratV_lit, ratOk_lit, quadV_lit, quadOk_lit, realV_lit, realOk_lit, lineV_lit, lineOk_lit, ratV_int, ratOk_int, ratV_zero, ratOk_zero, ratV_zero', ratOk_zero', boolV_lit, List.take_succ_cons, List.take_zero, List.drop_succ_cons, List.drop_zero, hold_eq, Bool.and_self, rat_test0, sat_true, c1]
   refine sat_ret ?_
   simp only [red0, red1, h, cond_false]
   rfl
theorem M49_sat (v1 : Q3) (v2 : Q3) (v3 : R3) (c1 : fitSubQ v1 v2 = true) (c2 : fitRed (subQ v1 v2) v3 = true) : (M49 v1 v2 v3).sat fun r => r = boolA (decide (red0 (subQ v1 v2) v3 = 0) && decide (red1 (subQ v1 v2) v3 = 0)) := by
 obtain ⟨a0, a1, a2⟩ := v1
 obtain ⟨b0, b1, b2⟩ := v2
 obtain ⟨p, r, neg⟩ := v3
 simp only [subQ] at c2 ⊢
 simp only [M49, ratV_lit, ratOk_lit, quadV_lit, quadOk_lit, realV_lit, realOk_lit, lineV_lit, lineOk_lit, ratV_int, ratOk_int, ratV_zero, ratOk_zero, ratV_zero', ratOk_zero', boolV_lit, List.take_succ_cons, List.take_zero, List.drop_succ_cons, List.drop_zero, hold_eq, Bool.and_self, rat_test0, sat_true, c1, c2]
 refine sat_ret ?_
 show AV.c (.v (.bool (decide (red0 ⟨a0 - b0, a1 - b1, a2 - b2⟩ ⟨p, r, neg⟩ = 0) && (decide (red1 ⟨a0 - b0, a1 - b1, a2 - b2⟩ ⟨p, r, neg⟩ = 0) && true)))) = _
 rw [Bool.and_true]
 rfl
theorem M39_sat (v1 : Rat) (v2 : Rat) (v3 : Rat) (v4 : Rat) (c1 : fitBet v1 v2 v3 v4 = true) : (M39 v1 v2 v3 v4).sat fun r => r = .tup [.agg (ratCells (hold (v2 - slopeB v1 v2 v3 v4 * v1)) ++ (ratCells (hold (slopeB v1 v2 v3 v4)) ++ litZ)), intA .i64 0] := by
 simp only [fitBet, fitSub, Bool.and_eq_true] at c1
 obtain ⟨⟨⟨⟨⟨c1, c2⟩, c3⟩, c4⟩, c5⟩, c6⟩ := c1
 unfold slopeB at c5 c6
 simp only [M39, slopeB, ratV_lit, ratOk_lit, quadV_lit, quadOk_lit, realV_lit, realOk_lit, lineV_lit, lineOk_lit, ratV_int, ratOk_int, ratV_zero, ratOk_zero, ratV_zero', ratOk_zero', boolV_lit, List.take_succ_cons, List.take_zero, List.drop_succ_cons, List.drop_zero, hold_eq, Bool.and_self, rat_test0, sat_true, c1, c2, c3, c4, c5, c6]
 refine sat_ite (fun h => by cases h) (fun _ => ?_)
 simp only [sat_true]
 exact sat_ret rfl
theorem Γ71_ok : ∀ f s, Γ71 f = some s → SpecOk Tryz.prog f s := one_ok f18_ok.spec
theorem f71_ok : PureOk Tryz.prog 71 K71 := by
 refine pureOk_of_exec prog_mixed Γ71_ok (fn := Tryz.f71) (c := codeOf Tryz.f71) (by kernel_rfl) (by kernel_rfl) (callFunc_enter (fn := Tryz.f71) (c := codeOf Tryz.f71) (by kernel_rfl) (by kernel_rfl) (by kernel_rfl)) (L := noL) (N := 1010) (blocksOk_none _ _) ?_ ?_
 · intro args v cs h
   unfold K71 at h
   split at h
   · cases h; rfl
   · cases h
 · intro args v cs h hc
   unfold K71 at h
   split at h
   · rename_i l1
     cases h
     have h1 : realOk l1 = true := hc (realOk l1) (by simp)
     obtain ⟨v1, rfl⟩ : ∃ x, l1 = realCells x := ⟨_, realOk_eq h1⟩
     simp only [realV_cells] at *
     have hs := M71_sat v1
     rw [← M71_eq] at hs
     generalize execFn Tryz.prog Γ71 noL 1010 Tryz.f71 [.agg (realCells v1)] = T at hs ⊢
     generalize hold (facV v1.neg) = z at hs ⊢
     exact Tr.sat_mono (fun r hr => ⟨by subst hr; rfl, Sees.of_eq hr⟩) hs
   · cases h
theorem Γ76_ok : ∀ f s, Γ76 f = some s → SpecOk Tryz.prog f s := step_ok f107_ok.spec (step_ok f112_ok.spec (step_ok f67_ok.spec (one_ok f72_ok.spec)))
theorem f76_ok : PureOk Tryz.prog 76 K76 := by
 refine pureOk_of_exec prog_mixed Γ76_ok (fn := Tryz.f76) (c := codeOf Tryz.f76) (by kernel_rfl) (by kernel_rfl) (callFunc_enter (fn := Tryz.f76) (c := codeOf Tryz.f76) (by kernel_rfl) (by kernel_rfl) (by kernel_rfl)) (L := noL) (N := 1010) (blocksOk_none _ _) ?_ ?_
 · intro args v cs h
   unfold K76 at h
   split at h
   · cases h; rfl
   · cases h
 · intro args v cs h hc
   unfold K76 at h
   split at h
   · rename_i l1 l2 l3
     cases h
     have h1 : ratOk l1 = true := hc (ratOk l1) (by simp)
     have h2 : ratOk l2 = true := hc (ratOk l2) (by simp)
     have h3 : ratOk l3 = true := hc (ratOk l3) (by simp)
     have c1 : fitMake (ratV l1) (ratV l2) (ratV l3) = true := hc (fitMake (ratV l1) (ratV l2) (ratV l3)) (by simp)
     obtain ⟨v1, rfl⟩ : ∃ x, l1 = ratCells x := ⟨_, ratOk_eq h1⟩
     obtain ⟨v2, rfl⟩ : ∃ x, l2 = ratCells x := ⟨_, ratOk_eq h2⟩
     obtain ⟨v3, rfl⟩ : ∃ x, l3 = ratCells x := ⟨_, ratOk_eq h3⟩
     simp only [ratV_cells] at *
     have hs := M76_sat v1 v2 v3 c1
     rw [← M76_eq] at hs
     generalize execFn Tryz.prog Γ76 noL 1010 Tryz.f76 [.agg (ratCells v1), .agg (ratCells v2), .agg (ratCells v3)] = T at hs ⊢
     generalize hold (mkP v1 v2 v3) = z0 at hs ⊢
     generalize hold (mkR v1 v2 v3) = z1 at hs ⊢
     generalize mkN v1 v2 v3 = z2 at hs ⊢
     exact Tr.sat_mono (fun r hr => ⟨by subst hr; rfl, Sees.of_eq hr⟩) hs
   · cases h
theorem Γ42_ok : ∀ f s, Γ42 f = some s → SpecOk Tryz.prog f s := step_ok f73_ok.spec (step_ok f67_ok.spec (step_ok f72_ok.spec (step_ok f74_ok.spec (step_ok f75_ok.spec (one_ok f76_ok.spec)))))
theorem f42_ok : PureOk Tryz.prog 42 K42 := by
 refine pureOk_of_exec prog_mixed Γ42_ok (fn := Tryz.f42) (c := codeOf Tryz.f42) (by kernel_rfl) (by kernel_rfl) (callFunc_enter (fn := Tryz.f42) (c := codeOf Tryz.f42) (by kernel_rfl) (by kernel_rfl) (by kernel_rfl)) (L := noL) (N := 1010) (blocksOk_none _ _) ?_ ?_
 · intro args v cs h
   unfold K42 at h
   split at h
   · cases h; rfl
   · cases h
 · intro args v cs h hc
   unfold K42 at h
   split at h
   · rename_i l1 l2
     cases h
     have h1 : quadOk l1 = true := hc (quadOk l1) (by simp)
     have h2 : realOk l2 = true := hc (realOk l2) (by simp)
     have c1 : fitAt (quadV l1) (realV l2) = true := hc (fitAt (quadV l1) (realV l2)) (by simp)
     obtain ⟨v1, rfl⟩ : ∃ x, l1 = quadCells x := ⟨_, quadOk_eq h1⟩
     obtain ⟨v2, rfl⟩ : ∃ x, l2 = realCells x := ⟨_, realOk_eq h2⟩
     simp only [quadV_cells, realV_cells] at *
     have hs := M42_sat v1 v2 c1
     rw [← M42_eq] at hs
     generalize execFn Tryz.prog Γ42 noL 1010 Tryz.f42 [.agg (quadCells v1), .agg (realCells v2)] = T at hs ⊢
     generalize hold (atP v1 v2) = z0 at hs ⊢
     generalize hold (atR v1 v2) = z1 at hs ⊢
     generalize atN v1 v2 = z2 at hs ⊢
     exact Tr.sat_mono (fun r hr => ⟨by subst hr; rfl, Sees.of_eq hr⟩) hs
   · cases h
theorem Γ41_ok : ∀ f s, Γ41 f = some s → SpecOk Tryz.prog f s := step_ok f71_ok.spec (one_ok f70_ok.spec)
theorem f41_ok : PureOk Tryz.prog 41 K41 := by
 refine pureOk_of_exec prog_mixed Γ41_ok (fn := Tryz.f41) (c := codeOf Tryz.f41) (by kernel_rfl) (by kernel_rfl) (callFunc_enter (fn := Tryz.f41) (c := codeOf Tryz.f41) (by kernel_rfl) (by kernel_rfl) (by kernel_rfl)) (L := noL) (N := 1010) (blocksOk_none _ _) ?_ ?_
 · intro args v cs h
   unfold K41 at h
   split at h
   · cases h; rfl
   · cases h
 · intro args v cs h hc
   unfold K41 at h
   split at h
   · rename_i l1
     cases h
     have h1 : realOk l1 = true := hc (realOk l1) (by simp)
     have c1 : fitSign (realV l1).p (facV (realV l1).neg) (realV l1).r = true := hc (fitSign (realV l1).p (facV (realV l1).neg) (realV l1).r) (by simp)
     obtain ⟨v1, rfl⟩ : ∃ x, l1 = realCells x := ⟨_, realOk_eq h1⟩
     simp only [realV_cells] at *
     have hs := M41_sat v1 c1
     rw [← M41_eq] at hs
     generalize execFn Tryz.prog Γ41 noL 1010 Tryz.f41 [.agg (realCells v1)] = T at hs ⊢
     generalize signV v1.p (facV v1.neg) v1.r = z at hs ⊢
     exact Tr.sat_mono (fun r hr => ⟨by subst hr; rfl, Sees.of_eq hr⟩) hs
   · cases h
theorem Γ19_ok : ∀ f s, Γ19 f = some s → SpecOk Tryz.prog f s := step_ok f42_ok.spec (one_ok f41_ok.spec)
theorem f19_ok : PureOk Tryz.prog 19 K19 := by
 refine pureOk_of_exec prog_mixed Γ19_ok (fn := Tryz.f19) (c := codeOf Tryz.f19) (by kernel_rfl) (by kernel_rfl) (callFunc_enter (fn := Tryz.f19) (c := codeOf Tryz.f19) (by kernel_rfl) (by kernel_rfl) (by kernel_rfl)) (L := noL) (N := 1010) (blocksOk_none _ _) ?_ ?_
 · intro args v cs h
   unfold K19 at h
   split at h
   · cases h; rfl
   · cases h
 · intro args v cs h hc
   unfold K19 at h
   split at h
   · rename_i l1 l2
     cases h
     have h1 : quadOk l1 = true := hc (quadOk l1) (by simp)
     have h2 : realOk l2 = true := hc (realOk l2) (by simp)
     have c1 : fitAt (quadV l1) (realV l2) = true := hc (fitAt (quadV l1) (realV l2)) (by simp)
     have c2 : fitSign (atP (quadV l1) (realV l2)) (facV (atN (quadV l1) (realV l2))) (atR (quadV l1) (realV l2)) = true := hc (fitSign (atP (quadV l1) (realV l2)) (facV (atN (quadV l1) (realV l2))) (atR (quadV l1) (realV l2))) (by simp)
     obtain ⟨v1, rfl⟩ : ∃ x, l1 = quadCells x := ⟨_, quadOk_eq h1⟩
     obtain ⟨v2, rfl⟩ : ∃ x, l2 = realCells x := ⟨_, realOk_eq h2⟩
     simp only [quadV_cells, realV_cells] at *
     have hs := M19_sat v1 v2 c1 c2
     rw [← M19_eq] at hs
     generalize execFn Tryz.prog Γ19 noL 1010 Tryz.f19 [.agg (quadCells v1), .agg (realCells v2)] = T at hs ⊢
     generalize signV (atP v1 v2) (facV (atN v1 v2)) (atR v1 v2) = z at hs ⊢
     exact Tr.sat_mono (fun r hr => ⟨by subst hr; rfl, Sees.of_eq hr⟩) hs
   · cases h
theorem f77_ok : PureOk Tryz.prog 77 K77 := by
 refine pureOk_of_exec prog_mixed noΓ_ok (fn := Tryz.f77) (c := codeOf Tryz.f77) (by kernel_rfl) (by kernel_rfl) (callFunc_enter (fn := Tryz.f77) (c := codeOf Tryz.f77) (by kernel_rfl) (by kernel_rfl) (by kernel_rfl)) (L := noL) (N := 1010) (blocksOk_none _ _) ?_ ?_
 · intro args v cs h
   unfold K77 at h
   split at h
   · cases h; rfl
   · cases h
 · intro args v cs h hc
   unfold K77 at h
   split at h
   · rename_i l1
     cases h
     have h1 : realOk l1 = true := hc (realOk l1) (by simp)
     obtain ⟨v1, rfl⟩ : ∃ x, l1 = realCells x := ⟨_, realOk_eq h1⟩
     simp only [realV_cells] at *
     have hs := M77_sat v1
     rw [← M77_eq] at hs
     generalize execFn Tryz.prog (fun _ => none) noL 1010 Tryz.f77 [.agg (realCells v1)] = T at hs ⊢
     generalize hold (bif decide (v1.r = 0) then v1.p else 0) = z0 at hs ⊢
     generalize decide (v1.r = 0) = z1 at hs ⊢
     exact Tr.sat_mono (fun r hr => ⟨by subst hr; rfl, Sees.of_eq hr⟩) hs
   · cases h
theorem Γb51_ok : ∀ f s, Γb51 f = some s → SpecOk Tryz.prog f s := step_ok f77_ok.spec (step_ok f73_ok.spec (step_ok f67_ok.spec (step_ok f43_ok.spec (step_ok f72_ok.spec (one_ok f74_ok.spec)))))
theorem f51_ok : PureOk Tryz.prog 51 K51 := by
 refine pureOk_of_exec prog_mixed (concΓ_ok (N := 70) prog_mixed Γb51_ok 3) (fn := Tryz.f51) (c := codeOf Tryz.f51) (by kernel_rfl) (by kernel_rfl) (callFunc_enter (fn := Tryz.f51) (c := codeOf Tryz.f51) (by kernel_rfl) (by kernel_rfl) (by kernel_rfl)) (L := noL) (N := 1010) (blocksOk_none _ _) ?_ ?_
 · intro args v cs h
   unfold K51 at h
   split at h
   · cases h; rfl
   · cases h
 · intro args v cs h hc
   unfold K51 at h
   split at h
   · rename_i l1 l2
     cases h
     have h1 : quadOk l1 = true := hc (quadOk l1) (by simp)
     have h2 : realOk l2 = true := hc (realOk l2) (by simp)
     have c1 : fitRed (quadV l1) (realV l2) = true := hc (fitRed (quadV l1) (realV l2)) (by simp)
     obtain ⟨v1, rfl⟩ : ∃ x, l1 = quadCells x := ⟨_, quadOk_eq h1⟩
     obtain ⟨v2, rfl⟩ : ∃ x, l2 = realCells x := ⟨_, realOk_eq h2⟩
     simp only [quadV_cells, realV_cells] at *
     have hs := M51_sat v1 v2 c1
     rw [← M51_eq] at hs
     generalize execFn Tryz.prog (concΓ Tryz.prog Γb51 70 3) noL 1010 Tryz.f51 [.agg (quadCells v1), .agg (realCells v2)] = T at hs ⊢
     generalize hold (red0 v1 v2) = z0 at hs ⊢
     generalize hold (red1 v1 v2) = z1 at hs ⊢
     exact Tr.sat_mono (fun r hr => ⟨by subst hr; rfl, Sees.of_eq hr⟩) hs
   · cases h
theorem Γ49_ok : ∀ f s, Γ49 f = some s → SpecOk Tryz.prog f s := step_ok f20_ok.spec (one_ok f51_ok.spec)
theorem f49_ok : PureOk Tryz.prog 49 K49 := by
 refine pureOk_of_exec prog_mixed Γ49_ok (fn := Tryz.f49) (c := codeOf Tryz.f49) (by kernel_rfl) (by kernel_rfl) (callFunc_enter (fn := Tryz.f49) (c := codeOf Tryz.f49) (by kernel_rfl) (by kernel_rfl) (by kernel_rfl)) (L := noL) (N := 1010) (blocksOk_none _ _) ?_ ?_
 · intro args v cs h
   unfold K49 at h
   split at h
   · cases h; rfl
   · cases h
 · intro args v cs h hc
   unfold K49 at h
   split at h
   · rename_i l1 l2 l3
     cases h
     have h1 : quadOk l1 = true := hc (quadOk l1) (by simp)
     have h2 : quadOk l2 = true := hc (quadOk l2) (by simp)
     have h3 : realOk l3 = true := hc (realOk l3) (by simp)
     have c1 : fitSubQ (quadV l1) (quadV l2) = true := hc (fitSubQ (quadV l1) (quadV l2)) (by simp)
     have c2 : fitRed (subQ (quadV l1) (quadV l2)) (realV l3) = true := hc (fitRed (subQ (quadV l1) (quadV l2)) (realV l3)) (by simp)
     obtain ⟨v1, rfl⟩ : ∃ x, l1 = quadCells x := ⟨_, quadOk_eq h1⟩
     obtain ⟨v2, rfl⟩ : ∃ x, l2 = quadCells x := ⟨_, quadOk_eq h2⟩
     obtain ⟨v3, rfl⟩ : ∃ x, l3 = realCells x := ⟨_, realOk_eq h3⟩
     simp only [quadV_cells, realV_cells] at *
     have hs := M49_sat v1 v2 v3 c1 c2
     rw [← M49_eq] at hs
     generalize execFn Tryz.prog Γ49 noL 1010 Tryz.f49 [.agg (quadCells v1), .agg (quadCells v2), .agg (realCells v3)] = T at hs ⊢
     generalize (decide (red0 (subQ v1 v2) v3 = 0) && decide (red1 (subQ v1 v2) v3 = 0)) = z at hs ⊢
     exact Tr.sat_mono (fun r hr => ⟨by subst hr; rfl, Sees.of_eq hr⟩) hs
   · cases h
theorem Γb39_ok : ∀ f s, Γb39 f = some s → SpecOk Tryz.prog f s := step_ok f43_ok.spec (step_ok f66_ok.spec (one_ok f67_ok.spec))
theorem f39_ok : PureOk Tryz.prog 39 K39 := by
 refine pureOk_of_exec prog_mixed (concΓ_ok (N := 70) prog_mixed Γb39_ok 3) (fn := Tryz.f39) (c := codeOf Tryz.f39) (by kernel_rfl) (by kernel_rfl) (callFunc_enter (fn := Tryz.f39) (c := codeOf Tryz.f39) (by kernel_rfl) (by kernel_rfl) (by kernel_rfl)) (L := noL) (N := 1010) (blocksOk_none _ _) ?_ ?_
 · intro args v cs h
   unfold K39 at h
   split at h
   · cases h; rfl
   · cases h
 · intro args v cs h hc
   unfold K39 at h
   split at h
   · rename_i l1 l2 l3 l4
     cases h
     have h1 : ratOk l1 = true := hc (ratOk l1) (by simp)
     have h2 : ratOk l2 = true := hc (ratOk l2) (by simp)
     have h3 : ratOk l3 = true := hc (ratOk l3) (by simp)
     have h4 : ratOk l4 = true := hc (ratOk l4) (by simp)
     have c1 : fitBet (ratV l1) (ratV l2) (ratV l3) (ratV l4) = true := hc (fitBet (ratV l1) (ratV l2) (ratV l3) (ratV l4)) (by simp)
     obtain ⟨v1, rfl⟩ : ∃ x, l1 = ratCells x := ⟨_, ratOk_eq h1⟩
     obtain ⟨v2, rfl⟩ : ∃ x, l2 = ratCells x := ⟨_, ratOk_eq h2⟩
     obtain ⟨v3, rfl⟩ : ∃ x, l3 = ratCells x := ⟨_, ratOk_eq h3⟩
     obtain ⟨v4, rfl⟩ : ∃ x, l4 = ratCells x := ⟨_, ratOk_eq h4⟩
     simp only [ratV_cells] at *
     have hs := M39_sat v1 v2 v3 v4 c1
     rw [← M39_eq] at hs
     generalize execFn Tryz.prog (concΓ Tryz.prog Γb39 70 3) noL 1010 Tryz.f39 [.agg (ratCells v1), .agg (ratCells v2), .agg (ratCells v3), .agg (ratCells v4)] = T at hs ⊢
     generalize hold (v2 - slopeB v1 v2 v3 v4 * v1) = z0 at hs ⊢
     generalize hold (slopeB v1 v2 v3 v4) = z1 at hs ⊢
     exact Tr.sat_mono (fun r hr => ⟨by subst hr; rfl, Sees.of_eq hr⟩) hs
   · cases h
end Go.Vse
