/- Helpers for the proof: no statement of its own. -/
import Derived.Test.YtpnbbgegfjefkaaGreatDoorQuadB
import Derived.Test.YtpnbbgegfjefkaaGreatDoorVseD
set_option linter.unusedVariables false
set_option linter.unusedSimpArgs false
set_option linter.unnecessarySimpa false
set_option linter.deprecated false
set_option maxRecDepth 100000
namespace Go.Vse
open Go.Proofs
theorem fit4_of {x y : Rat} {N D N' D' : Nat} (hx : Bnd N D x) (hy : Bnd N' D' y) (h1 : N < 18446744073709551616) (h2 : D < 18446744073709551616) (h3 : N' < 18446744073709551616) (h4 : D' < 18446744073709551616) : fit4 x y = true := by
 obtain ⟨a1, a2⟩ := hx
 obtain ⟨b1, b2⟩ := hy
 simp only [fit4, w64, Bool.and_eq_true, decide_eq_true_eq, Int.natAbs_natCast]
 omega
theorem fitA_of {x y : Rat} {N D N' D' : Nat} (hx : Bnd N D x) (hy : Bnd N' D' y) (h1 : N < 18446744073709551616) (h2 : D < 18446744073709551616) (h3 : N' < 18446744073709551616) (h4 : D' < 18446744073709551616)
  (h5 : N * D' + N' * D < 18446744073709551616) (h6 : D * D' < 18446744073709551616) : fitA x y = true := by
 have h0 := fit4_of hx hy h1 h2 h3 h4
 obtain ⟨a1, a2⟩ := hx
 obtain ⟨b1, b2⟩ := hy
 have e1 := Nat.mul_le_mul a1 b2
 have e2 := Nat.mul_le_mul b1 a2
 have e3 := Nat.mul_le_mul a2 b2
 have e4 := Int.natAbs_add_le (x.num * y.den) (y.num * x.den)
 rw [Int.natAbs_mul, Int.natAbs_mul, Int.natAbs_natCast, Int.natAbs_natCast] at e4
 have e5 : ((x.den : Int) * (y.den : Int)).natAbs = x.den * y.den := by rw [Int.natAbs_mul, Int.natAbs_natCast, Int.natAbs_natCast]
 simp only [fitA, h0, w64, Bool.and_eq_true, decide_eq_true_eq, e5]
 exact ⟨⟨trivial, Nat.lt_of_le_of_lt (Nat.le_trans e4 (Nat.add_le_add e1 e2)) h5⟩, Nat.lt_of_le_of_lt e3 h6⟩
theorem fitM_of {x y : Rat} {N D N' D' : Nat} (hx : Bnd N D x) (hy : Bnd N' D' y) (h1 : N < 18446744073709551616) (h2 : D < 18446744073709551616) (h3 : N' < 18446744073709551616) (h4 : D' < 18446744073709551616)
  (h5 : N * N' < 18446744073709551616) (h6 : D * D' < 18446744073709551616) : fitM x y = true := by
 have h0 := fit4_of hx hy h1 h2 h3 h4
 obtain ⟨a1, a2⟩ := hx
 obtain ⟨b1, b2⟩ := hy
 have e1 := Nat.mul_le_mul a1 b1
 have e3 := Nat.mul_le_mul a2 b2
 have e4 : (x.num * y.num).natAbs = x.num.natAbs * y.num.natAbs := Int.natAbs_mul ..
 have e5 : ((x.den : Int) * (y.den : Int)).natAbs = x.den * y.den := by rw [Int.natAbs_mul, Int.natAbs_natCast, Int.natAbs_natCast]
 simp only [fitM, h0, w64, Bool.and_eq_true, decide_eq_true_eq, e4, e5]
 exact ⟨⟨trivial, Nat.lt_of_le_of_lt e1 h5⟩, Nat.lt_of_le_of_lt e3 h6⟩
theorem fitD_of {x y : Rat} {N D N' D' : Nat} (hx : Bnd N D x) (hy : Bnd N' D' y) (h1 : N < 18446744073709551616) (h2 : D < 18446744073709551616) (h3 : N' < 18446744073709551616) (h4 : D' < 18446744073709551616)
  (h5 : N * D' < 18446744073709551616) (h6 : D * N' < 18446744073709551616) : fitD x y = true := by
 have h0 := fit4_of hx hy h1 h2 h3 h4
 obtain ⟨a1, a2⟩ := hx
 obtain ⟨b1, b2⟩ := hy
 have e1 := Nat.mul_le_mul a1 b2
 have e3 := Nat.mul_le_mul a2 b1
 have e4 : (x.num * (y.den : Int)).natAbs = x.num.natAbs * y.den := by rw [Int.natAbs_mul, Int.natAbs_natCast]
 have e5 : ((x.den : Int) * y.num).natAbs = x.den * y.num.natAbs := by rw [Int.natAbs_mul, Int.natAbs_natCast]
 simp only [fitD, h0, w64, Bool.and_eq_true, decide_eq_true_eq, e4, e5]
 exact ⟨⟨trivial, Nat.lt_of_le_of_lt e1 h5⟩, Nat.lt_of_le_of_lt e3 h6⟩
def bndB (N D : Nat) (q : Rat) : Bool := decide (q.num.natAbs ≤ N ∧ q.den ≤ D)
theorem bndB_iff {N D : Nat} {q : Rat} : bndB N D q = true ↔ Bnd N D q := by unfold bndB Bnd; exact decide_eq_true_iff
def xQ (l : L4) : Q3 := ⟨l.x0, l.x1, 0⟩
def yQ (l : L4) : Q3 := ⟨l.y0, l.y1, 0⟩
def lbB (x : L4) : Bool := bndB 32768 8 x.x0 && bndB 63 8 x.x1 && (bndB 32768 8 x.y0 && bndB 63 8 x.y1)
def tbB (t : R3) : Bool := (decide (t.r = 0) || decide (t.r = 2)) && !t.neg && bndB 63 1 t.p
theorem Bnd.zero : Bnd 0 1 0 := ⟨Nat.le_refl _, Nat.le_refl _⟩
theorem Bnd.one : Bnd 1 1 1 := ⟨Nat.le_refl _, Nat.le_refl _⟩
theorem Bnd.two : Bnd 2 1 2 := ⟨Nat.le_refl _, Nat.le_refl _⟩
theorem Bnd.sub {x y : Rat} {N D N' D' : Nat} (h : Bnd N D x) (h' : Bnd N' D' y) : Bnd (N * D' + N' * D) (D * D') (x - y) := by
 rw [Rat.sub_eq_add_neg]
 exact h.add h'.neg
structure Lin (q : Q3) : Prop where
 c0 : Bnd 524288 64 q.c0
 c1 : Bnd 1008 64 q.c1
 c2 : q.c2 = 0
theorem lin_sub {p q : Q3} (h0 : Bnd 32768 8 p.c0) (h1 : Bnd 63 8 p.c1) (h2 : p.c2 = 0) (k0 : Bnd 32768 8 q.c0) (k1 : Bnd 63 8 q.c1) (k2 : q.c2 = 0) : Lin (subQ p q) ∧ fitSubQ p q = true := by
 refine ⟨⟨h0.sub k0, h1.sub k1, ?_⟩, ?_⟩
 ·show p.c2 - q.c2 = 0
  rw [h2, k2]; exact Rat.sub_self
 ·simp only [fitSubQ, fitSub, Bool.and_eq_true]
  refine ⟨⟨fitA_of h0 k0.neg ?_ ?_ ?_ ?_ ?_ ?_, fitA_of h1 k1.neg ?_ ?_ ?_ ?_ ?_ ?_⟩, ?_⟩
  any_goals decide
  rw [h2, k2]
  exact fitA_of Bnd.zero Bnd.zero.neg (by decide) (by decide) (by decide) (by decide) (by decide) (by decide)
theorem zadd (x : Rat) : x + 0 = x := Rat.add_zero x
theorem zmul (x : Rat) : x * 0 = 0 := Rat.mul_zero x
theorem mulz (x : Rat) : 0 * x = 0 := Rat.zero_mul x
theorem lin_fitEval {q : Q3} (h : Lin q) {t : Rat} (ht : Bnd 63 1 t) : fitEval q t = true := by
 simp only [fitEval, h.c2, zmul, zadd, Bool.and_eq_true]
 refine ⟨⟨⟨fitM_of ht Bnd.zero ?_ ?_ ?_ ?_ ?_ ?_, fitA_of h.c1 Bnd.zero ?_ ?_ ?_ ?_ ?_ ?_⟩, fitM_of ht h.c1 ?_ ?_ ?_ ?_ ?_ ?_⟩, fitA_of h.c0 (ht.mul h.c1) ?_ ?_ ?_ ?_ ?_ ?_⟩
 all_goals decide
theorem lin_fitSlope {q : Q3} (h : Lin q) {t : Rat} (ht : Bnd 63 1 t) : fitSlope q t = true := by
 simp only [fitSlope, h.c2, zadd, mulz, Bool.and_eq_true]
 refine ⟨⟨fitA_of Bnd.zero Bnd.zero ?_ ?_ ?_ ?_ ?_ ?_, fitM_of Bnd.zero ht ?_ ?_ ?_ ?_ ?_ ?_⟩, fitA_of h.c1 Bnd.zero ?_ ?_ ?_ ?_ ?_ ?_⟩
 all_goals decide
theorem tb_r {t : R3} (h : tbB t = true) : (t.r = 0 ∨ t.r = 2) ∧ t.neg = false ∧ Bnd 63 1 t.p := by
 simp only [tbB, Bool.and_eq_true, Bool.or_eq_true, decide_eq_true_eq, Bool.not_eq_true', bndB_iff] at h
 exact ⟨h.1.1, h.1.2, h.2⟩
theorem tb_bnd {t : R3} (h : tbB t = true) : Bnd 2 1 t.r := by
 rcases (tb_r h).1 with h | h
 ·rw [h]; exact Bnd.zero.mono (by decide) (by decide)
 ·rw [h]; exact Bnd.two
theorem lin_fitRed {q : Q3} (h0 : Bnd 524288 64 q.c0) (h1 : Bnd 1008 64 q.c1) (h2 : q.c2 = 0) {t : R3} (ht : tbB t = true) : fitRed q t = true := by
 obtain ⟨hr, hn, hp⟩ := tb_r ht
 have h : Lin q := ⟨h0, h1, h2⟩
 have hb := tb_bnd ht
 unfold fitRed
 cases decide (t.r = 0)
 ·simp only [cond_false, fitSub, h2, mulz, lin_fitSlope h hp, Bool.and_eq_true]
  refine ⟨⟨⟨⟨fitM_of hp hp ?_ ?_ ?_ ?_ ?_ ?_, fitA_of hb (hp.mul hp).neg ?_ ?_ ?_ ?_ ?_ ?_⟩, fitM_of Bnd.zero (hb.sub (hp.mul hp)) ?_ ?_ ?_ ?_ ?_ ?_⟩, fitA_of h0 Bnd.zero ?_ ?_ ?_ ?_ ?_ ?_⟩, trivial⟩
  all_goals decide
 ·exact lin_fitEval h hp
end Go.Vse
set_option maxRecDepth 100000
namespace Go.Vse
open Go.Proofs
def sameQ (p q : Q3) (t : R3) : Bool := decide (red0 (subQ p q) t = 0) && decide (red1 (subQ p q) t = 0)
def eqL (x y : L4) : Bool := decide (x.x0 = y.x0) && (decide (x.x1 = y.x1) && (decide (x.y0 = y.y0) && decide (x.y1 = y.y1)))
theorem ratV_int1 (n : Int) : ratV [.c (.v (.bool (decide (n < 0)))), .c (.v (.string ⟨⟨magB n.natAbs⟩⟩)), .c (.v (.bool false)), .c (.v (.string ⟨⟨denB 1⟩⟩))] = (n : Rat) := ratV_cells (n : Rat)
theorem ratOk_int1 (n : Int) : ratOk [.c (.v (.bool (decide (n < 0)))), .c (.v (.string ⟨⟨magB n.natAbs⟩⟩)), .c (.v (.bool false)), .c (.v (.string ⟨⟨denB 1⟩⟩))] = true := ratOk_cells (n : Rat)
theorem lb_all {x : L4} (h : lbB x = true) : Bnd 32768 8 x.x0 ∧ Bnd 63 8 x.x1 ∧ Bnd 32768 8 x.y0 ∧ Bnd 63 8 x.y1 := by
 simp only [lbB, Bool.and_eq_true, bndB_iff] at h
 exact ⟨h.1.1, h.1.2, h.2.1, h.2.2⟩
theorem lx_sub {x y : L4} (h : lbB x = true) (k : lbB y = true) : Lin (subQ (xQ x) (xQ y)) ∧ fitSubQ (xQ x) (xQ y) = true :=
 lin_sub (lb_all h).1 (lb_all h).2.1 rfl (lb_all k).1 (lb_all k).2.1 rfl
theorem ly_sub {x y : L4} (h : lbB x = true) (k : lbB y = true) : Lin (subQ (yQ x) (yQ y)) ∧ fitSubQ (yQ x) (yQ y) = true :=
 lin_sub (lb_all h).2.2.1 (lb_all h).2.2.2 rfl (lb_all k).2.2.1 (lb_all k).2.2.2 rfl
theorem bif_and (x y : Bool) : (bif x then bif true then y else false else false) = (x && y) := by cases x <;> rfl
theorem okI_den (d : Nat) : okI false ⟨⟨denB d⟩⟩ = true := by
 unfold okI
 show (canon (denB d) && (!false || _)) = true
 rw [canon_denB]; rfl
def K393 : List AV → Option (AV × List Bool)
 | [.agg [], .agg l1, .agg l2, .agg l3] => some (boolA (sameQ (xQ (lineV l1)) (xQ (lineV l2)) (realV l3) && sameQ (yQ (lineV l1)) (yQ (lineV l2)) (realV l3)), [lineOk l1, lineOk l2, realOk l3, lbB (lineV l1), lbB (lineV l2), tbB (realV l3)])
 | _ => none
def K392 : List AV → Option (AV × List Bool)
 | [.agg [], .agg l1, .agg l2] => some (lineA ⟨hold (red0 (xQ (lineV l1)) (realV l2)), hold (red1 (xQ (lineV l1)) (realV l2)), hold (red0 (yQ (lineV l1)) (realV l2)), hold (red1 (yQ (lineV l1)) (realV l2))⟩, [lineOk l1, realOk l2, lbB (lineV l1), tbB (realV l2)])
 | _ => none
def K391 : List AV → Option (AV × List Bool)
 | [.agg [], .agg l1, .agg l2] => some (boolA (eqL (lineV l1) (lineV l2)), [lineOk l1, lineOk l2])
 | _ => none
def K62 : List AV → Option (AV × List Bool)
 | [.agg l1] => some (intA .i64 0, [ratOk l1, w64 (ratV l1).num, w64 (ratV l1).den])
 | _ => none
def Γb393 : FuncId → Option Spec := fun f => bif Nat.beq f 396 then some (pureSpec K396) else none
def Γb392 : FuncId → Option Spec := fun f => bif Nat.beq f 395 then some (pureSpec K395) else none
def Γ62 : FuncId → Option Spec := fun f => bif Nat.beq f 123 then some (pureSpec K123) else bif Nat.beq f 125 then some (pureSpec K125) else bif Nat.beq f 124 then some (pureSpec K124) else bif Nat.beq f 126 then some (pureSpec K126) else none
def M393 (v1 : L4) (v2 : L4) (v3 : R3) : Tr AV :=
 let x1 : List AV := [.c (.v (.bool false)), .c (.v (.string { data := #[] })), .c (.v (.bool false)), .c (.v (.string { data := #[] }))]
 let x2 : List AV := .c (.v (.bool (decide (v1.x0.num < 0)))) :: .c (.v (.string ⟨⟨magB v1.x0.num.natAbs⟩⟩)) :: .c (.v (.bool false)) :: .c (.v (.string ⟨⟨denB v1.x0.den⟩⟩)) :: .c (.v (.bool (decide (v1.x1.num < 0)))) :: .c (.v (.string ⟨⟨magB v1.x1.num.natAbs⟩⟩)) :: .c (.v (.bool false)) :: .c (.v (.string ⟨⟨denB v1.x1.den⟩⟩)) :: x1
 let x3 : List AV := .c (.v (.bool (decide (v2.x0.num < 0)))) :: .c (.v (.string ⟨⟨magB v2.x0.num.natAbs⟩⟩)) :: .c (.v (.bool false)) :: .c (.v (.string ⟨⟨denB v2.x0.den⟩⟩)) :: .c (.v (.bool (decide (v2.x1.num < 0)))) :: .c (.v (.string ⟨⟨magB v2.x1.num.natAbs⟩⟩)) :: .c (.v (.bool false)) :: .c (.v (.string ⟨⟨denB v2.x1.den⟩⟩)) :: x1
 let x4 : List AV := [.c (.v (.bool (decide (v3.p.num < 0)))), .c (.v (.string ⟨⟨magB v3.p.num.natAbs⟩⟩)), .c (.v (.bool false)), .c (.v (.string ⟨⟨denB v3.p.den⟩⟩)), .c (.v (.bool (decide (v3.r.num < 0)))), .c (.v (.string ⟨⟨magB v3.r.num.natAbs⟩⟩)), .c (.v (.bool false)), .c (.v (.string ⟨⟨denB v3.r.den⟩⟩)), .c (.v (.bool v3.neg))]
 let x5 : List AV := .c (.v (.bool (decide (v1.y0.num < 0)))) :: .c (.v (.string ⟨⟨magB v1.y0.num.natAbs⟩⟩)) :: .c (.v (.bool false)) :: .c (.v (.string ⟨⟨denB v1.y0.den⟩⟩)) :: .c (.v (.bool (decide (v1.y1.num < 0)))) :: .c (.v (.string ⟨⟨magB v1.y1.num.natAbs⟩⟩)) :: .c (.v (.bool false)) :: .c (.v (.string ⟨⟨denB v1.y1.den⟩⟩)) :: x1
 let x6 : List AV := .c (.v (.bool (decide (v2.y0.num < 0)))) :: .c (.v (.string ⟨⟨magB v2.y0.num.natAbs⟩⟩)) :: .c (.v (.bool false)) :: .c (.v (.string ⟨⟨denB v2.y0.den⟩⟩)) :: .c (.v (.bool (decide (v2.y1.num < 0)))) :: .c (.v (.string ⟨⟨magB v2.y1.num.natAbs⟩⟩)) :: .c (.v (.bool false)) :: .c (.v (.string ⟨⟨denB v2.y1.den⟩⟩)) :: x1
 .need (quadOk x2) (.need (quadOk x3) (.need (realOk x4) (.need (fitSubQ (quadV x2) (quadV x3)) (.need (fitRed (subQ (quadV x2) (quadV x3)) (realV x4)) (.need (bif decide (red0 (subQ (quadV x2) (quadV x3)) (realV x4) = 0) && decide (red1 (subQ (quadV x2) (quadV x3)) (realV x4) = 0) then quadOk x5 && (quadOk x6 && (realOk x4 && (fitSubQ (quadV x5) (quadV x6) && (fitRed (subQ (quadV x5) (quadV x6)) (realV x4) && true)))) else true) (.ret (.c (.v (.bool (bif decide (red0 (subQ (quadV x2) (quadV x3)) (realV x4) = 0) && decide (red1 (subQ (quadV x2) (quadV x3)) (realV x4) = 0) then bif true then decide (red0 (subQ (quadV x5) (quadV x6)) (realV x4) = 0) && decide (red1 (subQ (quadV x5) (quadV x6)) (realV x4) = 0) else false else false))))))))))
def M392 (v1 : L4) (v2 : R3) : Tr AV :=
 let x1 : List AV := [.c (.v (.bool false)), .c (.v (.string { data := #[] })), .c (.v (.bool false)), .c (.v (.string { data := #[] }))]
 let x2 : List AV := .c (.v (.bool (decide (v1.x0.num < 0)))) :: .c (.v (.string ⟨⟨magB v1.x0.num.natAbs⟩⟩)) :: .c (.v (.bool false)) :: .c (.v (.string ⟨⟨denB v1.x0.den⟩⟩)) :: .c (.v (.bool (decide (v1.x1.num < 0)))) :: .c (.v (.string ⟨⟨magB v1.x1.num.natAbs⟩⟩)) :: .c (.v (.bool false)) :: .c (.v (.string ⟨⟨denB v1.x1.den⟩⟩)) :: x1
 let x3 : List AV := [.c (.v (.bool (decide (v2.p.num < 0)))), .c (.v (.string ⟨⟨magB v2.p.num.natAbs⟩⟩)), .c (.v (.bool false)), .c (.v (.string ⟨⟨denB v2.p.den⟩⟩)), .c (.v (.bool (decide (v2.r.num < 0)))), .c (.v (.string ⟨⟨magB v2.r.num.natAbs⟩⟩)), .c (.v (.bool false)), .c (.v (.string ⟨⟨denB v2.r.den⟩⟩)), .c (.v (.bool v2.neg))]
 let x4 : List AV := .c (.v (.bool (decide (v1.y0.num < 0)))) :: .c (.v (.string ⟨⟨magB v1.y0.num.natAbs⟩⟩)) :: .c (.v (.bool false)) :: .c (.v (.string ⟨⟨denB v1.y0.den⟩⟩)) :: .c (.v (.bool (decide (v1.y1.num < 0)))) :: .c (.v (.string ⟨⟨magB v1.y1.num.natAbs⟩⟩)) :: .c (.v (.bool false)) :: .c (.v (.string ⟨⟨denB v1.y1.den⟩⟩)) :: x1
 let x5 : Int := (hold (red0 (quadV x2) (realV x3))).num
 let x6 : Int := (hold (red1 (quadV x2) (realV x3))).num
 let x7 : Int := (hold (red0 (quadV x4) (realV x3))).num
 let x8 : Int := (hold (red1 (quadV x4) (realV x3))).num
 .need (quadOk x2) (.need (realOk x3) (.need (fitRed (quadV x2) (realV x3)) (.need (quadOk x4) (.need (realOk x3) (.need (fitRed (quadV x4) (realV x3)) (.ret (AV.agg [.c (.v (.bool (decide (x5 < 0)))), .c (.v (.string ⟨⟨magB x5.natAbs⟩⟩)), .c (.v (.bool false)), .c (.v (.string ⟨⟨denB (hold (red0 (quadV x2) (realV x3))).den⟩⟩)), .c (.v (.bool (decide (x6 < 0)))), .c (.v (.string ⟨⟨magB x6.natAbs⟩⟩)), .c (.v (.bool false)), .c (.v (.string ⟨⟨denB (hold (red1 (quadV x2) (realV x3))).den⟩⟩)), .c (.v (.bool (decide (x7 < 0)))), .c (.v (.string ⟨⟨magB x7.natAbs⟩⟩)), .c (.v (.bool false)), .c (.v (.string ⟨⟨denB (hold (red0 (quadV x4) (realV x3))).den⟩⟩)), .c (.v (.bool (decide (x8 < 0)))), .c (.v (.string ⟨⟨magB x8.natAbs⟩⟩)), .c (.v (.bool false)), .c (.v (.string ⟨⟨denB (hold (red1 (quadV x4) (realV x3))).den⟩⟩))])))))))
def M391 (v1 : L4) (v2 : L4) : Tr AV :=
 let x1 : List Bool := [false == false]
 .ret (.c (.v (.bool (andAll [andAll [andAll ((denB v1.y1.den == denB v2.y1.den) :: x1).reverse, andAll [magB v1.y1.num.natAbs == magB v2.y1.num.natAbs, decide (v1.y1.num < 0) == decide (v2.y1.num < 0)].reverse].reverse, andAll [andAll ((denB v1.y0.den == denB v2.y0.den) :: x1).reverse, andAll [magB v1.y0.num.natAbs == magB v2.y0.num.natAbs, decide (v1.y0.num < 0) == decide (v2.y0.num < 0)].reverse].reverse, andAll [andAll ((denB v1.x1.den == denB v2.x1.den) :: x1).reverse, andAll [magB v1.x1.num.natAbs == magB v2.x1.num.natAbs, decide (v1.x1.num < 0) == decide (v2.x1.num < 0)].reverse].reverse, andAll [andAll ((denB v1.x0.den == denB v2.x0.den) :: x1).reverse, andAll [magB v1.x0.num.natAbs == magB v2.x0.num.natAbs, decide (v1.x0.num < 0) == decide (v2.x0.num < 0)].reverse].reverse].reverse))))
def M62 (v1 : Rat) : Tr AV :=
 let x1 : List UInt8 := magB v1.num.natAbs
 let x2 : ByteArray := ⟨⟨x1⟩⟩
 let x3 : ByteArray := ⟨⟨denB v1.den⟩⟩
 let x4 : Int := iv false x3
 let x5 : List UInt8 := magB (Int.natAbs 1)
 let x6 : Int := sgn x4 (iv (decide ((1 : Int) < 0)) ⟨⟨x5⟩⟩)
 let x7 : Int := ↑((iv (decide (v1.num < 0)) x2).gcd x4)
 .need (bif (if okI (decide (v1.num < 0)) x2 = true then (0 : Int) else 5) != 0 then true else true) (.ite (bif (if okI (decide (v1.num < 0)) x2 = true then (0 : Int) else 5) != 0 then true else bif false then true else (if okI false x3 = true then (0 : Int) else 5) != 0) (.ret (.c (.v (.int IntKind.i64 5)))) (.ite (andAll [denB v1.den == [], false == false].reverse) (.ret (.c (.v (.int IntKind.i64 0)))) (.need (okI false x3) (.need true (.need (bif decide (x6 ≤ 0) then true else okI (decide (v1.num < 0)) x2 && (okI false x3 && (decide (x1.length ≤ 8) && (decide ((denB v1.den).length ≤ 8) && true)))) (.ite (bif decide (x6 ≤ 0) then true else bif false then true else !andAll [magB x7.natAbs == x5, decide (x7 < 0) == decide ((1 : Int) < 0)].reverse) (.ret (.c (.v (.int IntKind.i64 5)))) (.ret (.c (.v (.int IntKind.i64 0))))))))))
theorem M393_eq (v1 : L4) (v2 : L4) (v3 : R3) : execFn Tryz.prog (concΓ Tryz.prog Γb393 70 3) noL 1010 Tryz.f393 [.agg [], .agg (lineCells v1), .agg (lineCells v2), .agg (realCells v3)] = M393 v1 v2 v3 := by kernel_rfl
theorem M392_eq (v1 : L4) (v2 : R3) : execFn Tryz.prog (concΓ Tryz.prog Γb392 70 3) noL 1010 Tryz.f392 [.agg [], .agg (lineCells v1), .agg (realCells v2)] = M392 v1 v2 := by kernel_rfl
theorem M391_eq (v1 : L4) (v2 : L4) : execFn Tryz.prog (fun _ => none) noL 1010 Tryz.f391 [.agg [], .agg (lineCells v1), .agg (lineCells v2)] = M391 v1 v2 := by kernel_rfl
theorem M62_eq (v1 : Rat) : execFn Tryz.prog Γ62 noL 1010 Tryz.f62 [.agg (ratCells v1)] = M62 v1 := by kernel_rfl
theorem M393_sat (v1 : L4) (v2 : L4) (v3 : R3) (c1 : lbB v1 = true) (c2 : lbB v2 = true) (c3 : tbB v3 = true) : (M393 v1 v2 v3).sat fun r => r = boolA (sameQ (xQ v1) (xQ v2) v3 && sameQ (yQ v1) (yQ v2) v3) := by
 obtain ⟨h1, h2⟩ := lx_sub c1 c2
 obtain ⟨k1, k2⟩ := ly_sub c1 c2
 have h3 := lin_fitRed h1.c0 h1.c1 h1.c2 c3
 have k3 := lin_fitRed k1.c0 k1.c1 k1.c2 c3
 obtain ⟨a, b, c, d⟩ := v1
 obtain ⟨a', b', c', d'⟩ := v2
 obtain ⟨p, r, neg⟩ := v3
 simp only [xQ, yQ] at h2 h3 k2 k3
 simp only [M393, ratV_lit, ratOk_lit, quadV_lit, quadOk_lit, realV_lit, realOk_lit, lineV_lit, lineOk_lit, ratV_int, ratOk_int, ratV_zero, ratOk_zero, ratV_zero', ratOk_zero', boolV_lit, List.take_succ_cons, List.take_zero, List.drop_succ_cons, List.drop_zero, hold_eq, Bool.and_self, rat_test0, rat_test, sat_true, ratV_int1, ratOk_int1, h2, h3, k2, k3]
 refine sat_need ?_ (sat_ret ?_)
 ·cases (decide (red0 (subQ ⟨a, b, 0⟩ ⟨a', b', 0⟩) ⟨p, r, neg⟩ = 0) && decide (red1 (subQ ⟨a, b, 0⟩ ⟨a', b', 0⟩) ⟨p, r, neg⟩ = 0)) <;> rfl
 ·rw [bif_and]
  rfl
theorem M392_sat (v1 : L4) (v2 : R3) (c1 : lbB v1 = true) (c2 : tbB v2 = true) : (M392 v1 v2).sat fun r => r = lineA ⟨hold (red0 (xQ v1) v2), hold (red1 (xQ v1) v2), hold (red0 (yQ v1) v2), hold (red1 (yQ v1) v2)⟩ := by
 obtain ⟨h1, h2, h3, h4⟩ := lb_all c1
 have f1 := lin_fitRed (q := xQ v1) (h1.mono (by decide) (by decide)) (h2.mono (by decide) (by decide)) rfl c2
 have f2 := lin_fitRed (q := yQ v1) (h3.mono (by decide) (by decide)) (h4.mono (by decide) (by decide)) rfl c2
 obtain ⟨a, b, c, d⟩ := v1
 obtain ⟨p, r, neg⟩ := v2
 simp only [xQ, yQ] at f1 f2
 simp only [M392, ratV_lit, ratOk_lit, quadV_lit, quadOk_lit, realV_lit, realOk_lit, lineV_lit, lineOk_lit, ratV_int, ratOk_int, ratV_zero, ratOk_zero, ratV_zero', ratOk_zero', boolV_lit, List.take_succ_cons, List.take_zero, List.drop_succ_cons, List.drop_zero, hold_eq, Bool.and_self, rat_test0, rat_test, sat_true, ratV_int1, ratOk_int1, f1, f2, xQ, yQ]
 exact sat_ret rfl
theorem M391_sat (v1 : L4) (v2 : L4)  : (M391 v1 v2).sat fun r => r = boolA (eqL v1 v2) := by
 obtain ⟨a, b, c, d⟩ := v1
 obtain ⟨a', b', c', d'⟩ := v2
 simp only [M391, rat_test]
 exact sat_ret rfl
theorem M62_sat (v1 : Rat) (c1 : w64 v1.num = true) (c2 : w64 v1.den = true) : (M62 v1).sat fun r => r = intA .i64 0 := by
 have h0 := v1.den_nz
 simp only [M62, okI_form, okI_den, iv_form, denB_nil _ h0]
 refine sat_need rfl (sat_ite (fun h => by cases h) (fun _ => sat_ite (fun h => sat_ret rfl) (fun h => ?_)))
 have hd : v1.den ≠ 1 := by
  intro hh
  rw [show (andAll [decide (v1.den = 1), false == false].reverse) = decide (v1.den = 1) by simp [andAll], decide_eq_true hh] at h
  cases h
 have e1 : denB v1.den = magB v1.den := by
  unfold denB
  rw [nbeq hd]; rfl
 have e2 : iv false ⟨⟨denB v1.den⟩⟩ = (v1.den : Int) := by
  rw [e1]
  show ((magN (magB v1.den) : Nat) : Int) = _
  rw [magN_magB]
 have e3 : Int.gcd v1.num (v1.den : Int) = 1 := v1.reduced
 have e4 : decide (sgn (v1.den : Int) 1 ≤ 0) = false := by
  refine decide_eq_false ?_
  unfold sgn
  have : 0 < v1.den := v1.den_pos
  rw [if_neg (by omega), if_pos (by omega)]
  omega
 have hi : iv (decide ((1 : Int) < 0)) ⟨⟨magB (Int.natAbs 1)⟩⟩ = 1 := iv_form 1
 have l1 : decide ((magB v1.num.natAbs).length ≤ 8) = true := len88 c1
 have l2 : decide ((denB v1.den).length ≤ 8) = true := by
  rw [e1]
  have := len88 c2
  rw [Int.natAbs_natCast] at this
  exact this
 simp only [e2, e3, hi, e4, l1, l2, Bool.and_self, sat_true, cond_false, eqI_cells]
 refine sat_ite (fun hh => ?_) (fun _ => sat_ret rfl)
 simp at hh
theorem Γb393_ok : ∀ f s, Γb393 f = some s → SpecOk Tryz.prog f s := one_ok f396_ok.spec
theorem f393_ok : PureOk Tryz.prog 393 K393 := by
 refine pureOk_of_exec prog_mixed (concΓ_ok (N := 70) prog_mixed Γb393_ok 3) (fn := Tryz.f393) (c := codeOf Tryz.f393) (by kernel_rfl) (by kernel_rfl) (callFunc_enter (fn := Tryz.f393) (c := codeOf Tryz.f393) (by kernel_rfl) (by kernel_rfl) (by kernel_rfl)) (L := noL) (N := 1010) (blocksOk_none _ _) ?_ ?_
 ·intro args v cs h
  unfold K393 at h
  split at h
  ·cases h; rfl
  ·cases h
 ·intro args v cs h hc
  unfold K393 at h
  split at h
  ·rename_i l1 l2 l3
   cases h
   have h1 : lineOk l1 = true := hc (lineOk l1) (by simp)
   have h2 : lineOk l2 = true := hc (lineOk l2) (by simp)
   have h3 : realOk l3 = true := hc (realOk l3) (by simp)
   have c1 : lbB (lineV l1) = true := hc (lbB (lineV l1)) (by simp)
   have c2 : lbB (lineV l2) = true := hc (lbB (lineV l2)) (by simp)
   have c3 : tbB (realV l3) = true := hc (tbB (realV l3)) (by simp)
   obtain ⟨v1, rfl⟩ : ∃ x, l1 = lineCells x := ⟨_, lineOk_eq h1⟩
   obtain ⟨v2, rfl⟩ : ∃ x, l2 = lineCells x := ⟨_, lineOk_eq h2⟩
   obtain ⟨v3, rfl⟩ : ∃ x, l3 = realCells x := ⟨_, realOk_eq h3⟩
   try simp only [lineV_cells, realV_cells] at *
   have hs := M393_sat v1 v2 v3 c1 c2 c3
   rw [← M393_eq] at hs
   generalize execFn Tryz.prog (concΓ Tryz.prog Γb393 70 3) noL 1010 Tryz.f393 [.agg [], .agg (lineCells v1), .agg (lineCells v2), .agg (realCells v3)] = T at hs ⊢
   generalize (sameQ (xQ v1) (xQ v2) v3 && sameQ (yQ v1) (yQ v2) v3) = z at hs ⊢
   exact Tr.sat_mono (fun r hr => ⟨by subst hr; rfl, Sees.of_eq hr⟩) hs
  ·cases h
theorem Γb392_ok : ∀ f s, Γb392 f = some s → SpecOk Tryz.prog f s := one_ok f395_ok.spec
theorem f392_ok : PureOk Tryz.prog 392 K392 := by
 refine pureOk_of_exec prog_mixed (concΓ_ok (N := 70) prog_mixed Γb392_ok 3) (fn := Tryz.f392) (c := codeOf Tryz.f392) (by kernel_rfl) (by kernel_rfl) (callFunc_enter (fn := Tryz.f392) (c := codeOf Tryz.f392) (by kernel_rfl) (by kernel_rfl) (by kernel_rfl)) (L := noL) (N := 1010) (blocksOk_none _ _) ?_ ?_
 ·intro args v cs h
  unfold K392 at h
  split at h
  ·cases h; rfl
  ·cases h
 ·intro args v cs h hc
  unfold K392 at h
  split at h
  ·rename_i l1 l2
   cases h
   have h1 : lineOk l1 = true := hc (lineOk l1) (by simp)
   have h2 : realOk l2 = true := hc (realOk l2) (by simp)
   have c1 : lbB (lineV l1) = true := hc (lbB (lineV l1)) (by simp)
   have c2 : tbB (realV l2) = true := hc (tbB (realV l2)) (by simp)
   obtain ⟨v1, rfl⟩ : ∃ x, l1 = lineCells x := ⟨_, lineOk_eq h1⟩
   obtain ⟨v2, rfl⟩ : ∃ x, l2 = realCells x := ⟨_, realOk_eq h2⟩
   try simp only [lineV_cells, realV_cells] at *
   have hs := M392_sat v1 v2 c1 c2
   rw [← M392_eq] at hs
   generalize execFn Tryz.prog (concΓ Tryz.prog Γb392 70 3) noL 1010 Tryz.f392 [.agg [], .agg (lineCells v1), .agg (realCells v2)] = T at hs ⊢
   generalize hold (red0 (xQ v1) v2) = z0 at hs ⊢
   generalize hold (red1 (xQ v1) v2) = z1 at hs ⊢
   generalize hold (red0 (yQ v1) v2) = z2 at hs ⊢
   generalize hold (red1 (yQ v1) v2) = z3 at hs ⊢
   exact Tr.sat_mono (fun r hr => ⟨by subst hr; rfl, Sees.of_eq hr⟩) hs
  ·cases h
theorem f391_ok : PureOk Tryz.prog 391 K391 := by
 refine pureOk_of_exec prog_mixed noΓ_ok (fn := Tryz.f391) (c := codeOf Tryz.f391) (by kernel_rfl) (by kernel_rfl) (callFunc_enter (fn := Tryz.f391) (c := codeOf Tryz.f391) (by kernel_rfl) (by kernel_rfl) (by kernel_rfl)) (L := noL) (N := 1010) (blocksOk_none _ _) ?_ ?_
 ·intro args v cs h
  unfold K391 at h
  split at h
  ·cases h; rfl
  ·cases h
 ·intro args v cs h hc
  unfold K391 at h
  split at h
  ·rename_i l1 l2
   cases h
   have h1 : lineOk l1 = true := hc (lineOk l1) (by simp)
   have h2 : lineOk l2 = true := hc (lineOk l2) (by simp)
   obtain ⟨v1, rfl⟩ : ∃ x, l1 = lineCells x := ⟨_, lineOk_eq h1⟩
   obtain ⟨v2, rfl⟩ : ∃ x, l2 = lineCells x := ⟨_, lineOk_eq h2⟩
   try simp only [lineV_cells] at *
   have hs := M391_sat v1 v2
   rw [← M391_eq] at hs
   generalize execFn Tryz.prog (fun _ => none) noL 1010 Tryz.f391 [.agg [], .agg (lineCells v1), .agg (lineCells v2)] = T at hs ⊢
   generalize eqL v1 v2 = z at hs ⊢
   exact Tr.sat_mono (fun r hr => ⟨by subst hr; rfl, Sees.of_eq hr⟩) hs
  ·cases h
theorem Γ62_ok : ∀ f s, Γ62 f = some s → SpecOk Tryz.prog f s := step_ok f123_ok.spec (step_ok f125_ok.spec (step_ok f124_ok.spec (one_ok f126_ok.spec)))
theorem f62_ok : PureOk Tryz.prog 62 K62 := by
 refine pureOk_of_exec prog_mixed Γ62_ok (fn := Tryz.f62) (c := codeOf Tryz.f62) (by kernel_rfl) (by kernel_rfl) (callFunc_enter (fn := Tryz.f62) (c := codeOf Tryz.f62) (by kernel_rfl) (by kernel_rfl) (by kernel_rfl)) (L := noL) (N := 1010) (blocksOk_none _ _) ?_ ?_
 ·intro args v cs h
  unfold K62 at h
  split at h
  ·cases h; rfl
  ·cases h
 ·intro args v cs h hc
  unfold K62 at h
  split at h
  ·rename_i l1
   cases h
   have h1 : ratOk l1 = true := hc (ratOk l1) (by simp)
   have c1 : w64 (ratV l1).num = true := hc (w64 (ratV l1).num) (by simp)
   have c2 : w64 (ratV l1).den = true := hc (w64 (ratV l1).den) (by simp)
   obtain ⟨v1, rfl⟩ : ∃ x, l1 = ratCells x := ⟨_, ratOk_eq h1⟩
   try simp only [ratV_cells] at *
   have hs := M62_sat v1 c1 c2
   rw [← M62_eq] at hs
   generalize execFn Tryz.prog Γ62 noL 1010 Tryz.f62 [.agg (ratCells v1)] = T at hs ⊢
   exact Tr.sat_mono (fun r hr => ⟨by subst hr; rfl, Sees.of_eq hr⟩) hs
  ·cases h
end Go.Vse
set_option maxRecDepth 100000
namespace Go.Vse
open Go.Proofs
def ivR (q : Rat) : List IV := [.v (.bool (decide (q.num < 0))), .v (.string ⟨⟨magB q.num.natAbs⟩⟩), .v (.bool false), .v (.string ⟨⟨denB q.den⟩⟩)]
def lineIV (x : L4) : List IV := ivR x.x0 ++ (ivR x.x1 ++ (ivR x.y0 ++ ivR x.y1))
def l40 : L4 := ⟨0, 0, 0, 0⟩
theorem map_c_inj : ∀ {l m : List IV}, l.map AV.c = m.map AV.c → l = m
 | [], [], _ => rfl
 | [], _ :: _, h => by cases h
 | _ :: _, [], h => by cases h
 | x :: l, y :: m, h => by
   simp only [List.map_cons, List.cons.injEq, AV.c.injEq] at h
   rw [h.1, map_c_inj h.2]
theorem lineOk_cells (x : L4) : lineOk (lineCells x) = true := by
 show (ratOk (ratCells x.x0) && ratOk (ratCells x.x1) && ratOk (ratCells x.y0) && ratOk (ratCells x.y1)) = true
 rw [ratOk_cells, ratOk_cells, ratOk_cells, ratOk_cells]; rfl
theorem realOk_cells (x : R3) : realOk (realCells x) = true := by
 show (ratOk (ratCells x.p) && ratOk (ratCells x.r) && boolOk [.c (.v (.bool x.neg))]) = true
 rw [ratOk_cells, ratOk_cells]; rfl
end Go.Vse
set_option maxRecDepth 100000
namespace Go.Vse
open Go.Proofs
structure Un where
 a : Int
 b : Int
 oa : Bool
 ob : Bool
 f : L4
def zIV : List IV := [.v (.bool false), .v (.string ⟨⟨[]⟩⟩), .v (.bool false), .v (.string ⟨⟨[]⟩⟩)]
def tmIV (n : Int) : List IV := ivR (n : Rat) ++ (zIV ++ [.v (.bool false)])
def unIV (u : Un) : List IV := tmIV u.a ++ (tmIV u.b ++ ([.v (.bool u.oa), .v (.bool u.ob)] ++ lineIV u.f))
def tmCells (n : Int) : List AV := ratCells (n : Rat) ++ (litZ ++ [.c (.v (.bool false))])
def unCells (u : Un) : List AV := tmCells u.a ++ (tmCells u.b ++ ([.c (.v (.bool u.oa)), .c (.v (.bool u.ob))] ++ lineCells u.f))
def uniA (u : Un) : AV := .agg (unCells u)
theorem unIV_c (u : Un) : (unIV u).map AV.c = unCells u := rfl
def tmV (l : List AV) : Int := (realV l).p.num
def tmOk (l : List AV) : Bool := realOk l && (decide ((realV l).r = 0) && (!(realV l).neg && decide ((realV l).p.den = 1)))
def unV (l : List AV) : Un := ⟨tmV (l.take 9), tmV ((l.drop 9).take 9), boolV ((l.drop 18).take 1), boolV ((l.drop 19).take 1), lineV (l.drop 20)⟩
def unOk (l : List AV) : Bool := tmOk (l.take 9) && (tmOk ((l.drop 9).take 9) && (boolOk ((l.drop 18).take 1) && (boolOk ((l.drop 19).take 1) && lineOk (l.drop 20))))
theorem tm_real (n : Int) : tmCells n = realCells ⟨(n : Rat), 0, false⟩ := by
 show _ = ratCells (n : Rat) ++ (ratCells 0 ++ [.c (.v (.bool false))])
 rw [cells0]; rfl
theorem rat_of_den {q : Rat} (h : q.den = 1) : ((q.num : Int) : Rat) = q := Rat.ext rfl h.symm
theorem tmOk_eq {l : List AV} (h : tmOk l = true) : l = tmCells (tmV l) := by
 simp only [tmOk, Bool.and_eq_true, decide_eq_true_eq, Bool.not_eq_true'] at h
 obtain ⟨h1, h2, h3, h4⟩ := h
 have e := realOk_eq h1
 rw [tm_real]
 unfold tmV
 rw [rat_of_den h4]
 have : realV l = ⟨(realV l).p, 0, false⟩ := by rw [← h2, ← h3]
 rw [← this]
 exact e
theorem tmOk_cells (n : Int) : tmOk (tmCells n) = true := by
 rw [tm_real]
 simp only [tmOk, realOk_cells, realV_cells]
 simp
theorem tmV_cells (n : Int) : tmV (tmCells n) = n := by
 rw [tm_real]
 simp only [tmV, realV_cells]
 rfl
theorem boolOk_eq {l : List AV} (h : boolOk l = true) : l = [.c (.v (.bool (boolV l)))] := by
 unfold boolOk at h
 split at h
 ·rfl
 ·cases h
theorem unOk_eq {l : List AV} (h : unOk l = true) : l = unCells (unV l) := by
 simp only [unOk, Bool.and_eq_true] at h
 obtain ⟨h1, h2, h3, h4, h5⟩ := h
 have e1 := tmOk_eq h1
 have e2 := tmOk_eq h2
 have e3 := boolOk_eq h3
 have e4 := boolOk_eq h4
 have e5 := lineOk_eq h5
 show l = tmCells (tmV (l.take 9)) ++ (tmCells (tmV ((l.drop 9).take 9)) ++ (([.c (.v (.bool (boolV ((l.drop 18).take 1))))] ++ [.c (.v (.bool (boolV ((l.drop 19).take 1))))]) ++ lineCells (lineV (l.drop 20))))
 rw [← e1, ← e2, ← e3, ← e4, ← e5]
 have a1 := List.take_append_drop 1 (l.drop 19)
 rw [List.drop_drop] at a1
 have a2 := List.take_append_drop 1 (l.drop 18)
 rw [List.drop_drop] at a2
 have a3 := List.take_append_drop 9 (l.drop 9)
 rw [List.drop_drop] at a3
 rw [List.append_assoc, a1, a2, a3, List.take_append_drop]
theorem unV_cells (u : Un) : unV (unCells u) = u := by
 show Un.mk (tmV (tmCells u.a)) (tmV (tmCells u.b)) u.oa u.ob (lineV (lineCells u.f)) = u
 rw [tmV_cells, tmV_cells, lineV_cells]
theorem unOk_cells (u : Un) : unOk (unCells u) = true := by
 show (tmOk (tmCells u.a) && (tmOk (tmCells u.b) && (true && (true && lineOk (lineCells u.f))))) = true
 rw [tmOk_cells, tmOk_cells, lineOk_cells]; rfl
def u0 : Un := ⟨0, 0, false, false, l40⟩
def unEl (U : List Un) : Nat → List IV := fun k => unIV (U.getD k u0)
def unsOf (n : Nat) (el : Nat → List IV) : List Un := (List.range n).map fun k => unV ((el k).map .c)
def unsOk (n : Nat) (el : Nat → List IV) : Bool := (List.range n).all fun k => unOk ((el k).map .c)
def usA (U : List Un) : AV := .c (.sl U.length 36 (unEl U))
theorem unsOf_len (n : Nat) (el : Nat → List IV) : (unsOf n el).length = n := by simp [unsOf]
theorem unsOf_getD (n : Nat) (el : Nat → List IV) (k : Nat) (hk : k < n) : (unsOf n el).getD k u0 = unV ((el k).map .c) := by
 simp [unsOf, List.getD_eq_getElem?_getD, hk]
theorem unsOk_el {n : Nat} {el : Nat → List IV} (h : unsOk n el = true) : ∀ k, k < n → el k = unEl (unsOf n el) k := fun k hk => by
 have h1 := List.all_eq_true.1 h k (List.mem_range.2 hk)
 have h2 := unOk_eq h1
 unfold unEl
 rw [unsOf_getD n el k hk]
 exact map_c_inj (h2.trans (unIV_c _).symm)
theorem unsOf_el (U : List Un) : unsOf U.length (unEl U) = U := by
 apply List.ext_getElem
 ·simp [unsOf]
 ·intro i h1 h2
  simp [unsOf, unEl, unIV_c, unV_cells, List.getD_eq_getElem?_getD, h2]
theorem unsOk_units (U : List Un) : unsOk U.length (unEl U) = true := by
 refine List.all_eq_true.2 fun k _ => ?_
 show unOk (unCells _) = true
 exact unOk_cells _
theorem unsOf_congr {n : Nat} {el el' : Nat → List IV} (h : ∀ k, k < n → el k = el' k) : unsOf n el = unsOf n el' := by
 unfold unsOf
 refine List.map_congr_left fun k hk => ?_
 rw [h k (List.mem_range.1 hk)]
theorem unsOk_congr {n : Nat} {el el' : Nat → List IV} (h : ∀ k, k < n → el k = el' k) : unsOk n el = unsOk n el' := by
 have : ∀ l : List Nat, (∀ k ∈ l, k < n) → (l.all fun k => unOk ((el k).map .c)) = (l.all fun k => unOk ((el' k).map .c)) := by
  intro l hl
  induction l with
  | nil => rfl
  | cons x l ih =>
   simp only [List.all_cons]
   rw [h x (hl x (by simp)), ih fun k hk => hl k (by simp [hk])]
 exact this _ fun k hk => List.mem_range.1 hk
theorem uns_set (U : List Un) (i : Nat) (hi : i < U.length) (j : Nat) (c : List IV) (u : Un) (he : (unIV (U.getD i u0)).take j ++ c ++ (unIV (U.getD i u0)).drop (j + c.length) = unIV u) :
  unsOf U.length (spliceE (unEl U) i j c) = U.set i u ∧ unsOk U.length (spliceE (unEl U) i j c) = true := by
 have key : ∀ k, k < U.length → spliceE (unEl U) i j c k = unEl (U.set i u) k := by
  intro k hk
  unfold spliceE
  by_cases hk2 : k = i
  ·subst hk2
   rw [if_pos rfl]
   unfold unEl
   rw [he]
   simp [List.getD_eq_getElem?_getD, hk]
  ·rw [if_neg hk2]
   unfold unEl
   simp [List.getD_eq_getElem?_getD, List.getElem?_set_ne (Ne.symm hk2)]
 have hl : U.length = (U.set i u).length := by simp
 rw [unsOf_congr key, unsOk_congr key]
 constructor
 ·have := unsOf_el (U.set i u)
  rw [← hl] at this
  exact this
 ·have := unsOk_units (U.set i u)
  rw [← hl] at this
  exact this
end Go.Vse
namespace Go.Vse
def oneU (u : Un) : Bool :=
 decide (0 ≤ u.a) && (decide (u.b ≤ 63) && (!u.ob && (bndB 32768 8 u.f.x0 && (bndB 63 8 u.f.x1 && (bndB 32768 8 u.f.y0 && (bndB 63 8 u.f.y1 &&
  (decide (u.a < u.b) || (decide (u.a = u.b) && (!u.oa && (decide (u.f.x1 = 0) && decide (u.f.y1 = 0)))))))))))
def linkU (u v : Un) : Bool := decide (u.a < u.b) && bif v.oa then decide (u.b = v.a) else decide (u.b < v.a)
def rawU : List Un → Bool
 | [] => true
 | u :: l => oneU u && (match l with | [] => true | v :: _ => linkU u v) && rawU l
def rawOk (l : List Un) : Bool := rawU l && (match l with | [] => true | u :: _ => !u.oa)
def joinB (u v : Un) : Bool := v.oa && eqL u.f v.f
def joinU : Un → List Un → List Un
 | p, [] => [p]
 | p, u :: l => bif joinB p u then joinU { p with b := u.b } l else p :: joinU u l
def mergeU : List Un → List Un
 | [] => []
 | u :: l => joinU u l
def apartU : List Un → Bool
 | [] => true
 | u :: l => (match l with | [] => true | v :: _ => !joinB u v) && apartU l
theorem rawU_tail {u : Un} {l : List Un} (h : rawU (u :: l) = true) : rawU l = true := by
 simp only [rawU, Bool.and_eq_true] at h
 exact h.2
theorem rawU_head {u : Un} {l : List Un} (h : rawU (u :: l) = true) : oneU u = true := by
 simp only [rawU, Bool.and_eq_true] at h
 exact h.1.1
theorem rawU_link {u v : Un} {l : List Un} (h : rawU (u :: v :: l) = true) : linkU u v = true := by
 rw [rawU, Bool.and_eq_true, Bool.and_eq_true] at h
 exact h.1.2
theorem oneU_all {u : Un} (h : oneU u = true) : 0 ≤ u.a ∧ u.a ≤ u.b ∧ u.b ≤ 63 ∧ u.ob = false := by
 simp only [oneU, Bool.and_eq_true, Bool.or_eq_true, decide_eq_true_eq, Bool.not_eq_true'] at h
 obtain ⟨h1, h2, h3, _, _, _, _, h4⟩ := h
 refine ⟨h1, ?_, h2, h3⟩
 rcases h4 with h4 | h4
 ·omega
 ·omega
theorem oneU_long {u : Un} (h : oneU u = true) (ho : u.oa = true) : u.a < u.b := by
 simp only [oneU, Bool.and_eq_true, Bool.or_eq_true, decide_eq_true_eq, Bool.not_eq_true'] at h
 obtain ⟨h1, h2, h3, _, _, _, _, h4⟩ := h
 rcases h4 with h4 | h4
 ·exact h4
 ·rw [ho] at h4
  exact absurd h4.2.1 (by simp)
theorem oneU_inst {u : Un} (h : oneU u = true) (ho : ¬ u.a < u.b) : u.a = u.b ∧ u.oa = false ∧ u.f.x1 = 0 ∧ u.f.y1 = 0 := by
 simp only [oneU, Bool.and_eq_true, Bool.or_eq_true, decide_eq_true_eq, Bool.not_eq_true'] at h
 obtain ⟨h1, h2, h3, _, _, _, _, h4⟩ := h
 rcases h4 with h4 | h4
 ·exact absurd h4 ho
 ·exact ⟨h4.1, h4.2.1, h4.2.2.1, h4.2.2.2⟩
theorem linkU_touch {u v : Un} (h : linkU u v = true) (ho : v.oa = true) : u.b = v.a ∧ u.a < u.b := by
 unfold linkU at h
 rw [ho] at h
 simp only [cond_true, Bool.and_eq_true, decide_eq_true_eq] at h
 exact ⟨h.2, h.1⟩
theorem linkU_gap {u v : Un} (h : linkU u v = true) (ho : v.oa = false) : u.b < v.a := by
 unfold linkU at h
 rw [ho] at h
 simp only [cond_false, Bool.and_eq_true, decide_eq_true_eq] at h
 exact h.2
theorem linkU_long {u v : Un} (h : linkU u v = true) : u.a < u.b := by
 unfold linkU at h
 simp only [Bool.and_eq_true, decide_eq_true_eq] at h
 exact h.1
theorem linkU_le {u v : Un} (h : linkU u v = true) : u.b ≤ v.a := by
 cases ho : v.oa with
 | true => have := linkU_touch h ho; omega
 | false => have := linkU_gap h ho; omega
theorem oneU_grow {p u : Un} (hp : oneU p = true) (hu : oneU u = true) (hl : linkU p u = true) (ho : u.oa = true) : oneU { p with b := u.b } = true := by
 have h1 := oneU_all hu
 have h2 := linkU_touch hl ho
 have h3 := oneU_long hu ho
 simp only [oneU, Bool.and_eq_true, Bool.or_eq_true, decide_eq_true_eq, Bool.not_eq_true'] at hp ⊢
 obtain ⟨a1, a2, a3, a4, a5, a6, a7, _⟩ := hp
 exact ⟨a1, h1.2.2.1, a3, a4, a5, a6, a7, .inl (by show p.a < u.b; omega)⟩
theorem raw_grow {p u : Un} {l : List Un} (h : rawU (p :: u :: l) = true) (ho : u.oa = true) : rawU ({ p with b := u.b } :: l) = true := by
 have hp := rawU_head h
 have hl := rawU_link h
 have ht := rawU_tail h
 have hu := rawU_head ht
 have hg := oneU_grow hp hu hl ho
 have h2 := linkU_touch hl ho
 have h3 := oneU_long hu ho
 cases l with
 | nil => simp only [rawU, hg, Bool.and_self]
 | cons v l =>
  have hl2 := rawU_link ht
  have ht2 := rawU_tail ht
  have : linkU { p with b := u.b } v = true := by
   unfold linkU at hl2 ⊢
   rw [Bool.and_eq_true] at hl2 ⊢
   exact ⟨decide_eq_true (by show p.a < u.b; omega), hl2.2⟩
  rw [rawU, hg, this, ht2]
  rfl
theorem joinU_head (l : List Un) : ∀ p : Un, ∃ q m, joinU p l = q :: m ∧ q.a = p.a ∧ q.oa = p.oa := by
 induction l with
 | nil => intro p; exact ⟨p, [], rfl, rfl, rfl⟩
 | cons u l ih =>
  intro p
  simp only [joinU]
  cases joinB p u with
  | true =>
   obtain ⟨q, m, h1, h2, h3⟩ := ih { p with b := u.b }
   exact ⟨q, m, h1, h2, h3⟩
  | false => exact ⟨p, joinU u l, rfl, rfl, rfl⟩
theorem joinU_headf (l : List Un) : ∀ p : Un, ∃ q m, joinU p l = q :: m ∧ q.a = p.a ∧ q.oa = p.oa ∧ q.f = p.f := by
 induction l with
 | nil => intro p; exact ⟨p, [], rfl, rfl, rfl, rfl⟩
 | cons u l ih =>
  intro p
  simp only [joinU]
  cases joinB p u with
  | true =>
   obtain ⟨q, m, h1, h2, h3, h4⟩ := ih { p with b := u.b }
   exact ⟨q, m, h1, h2, h3, h4⟩
  | false => exact ⟨p, joinU u l, rfl, rfl, rfl, rfl⟩
theorem join_raw : ∀ (l : List Un) (p : Un), rawU (p :: l) = true → rawU (joinU p l) = true ∧ apartU (joinU p l) = true
 | [], p, h => ⟨h, rfl⟩
 | u :: l, p, h => by
   simp only [joinU]
   cases hj : joinB p u with
   | true =>
     have ho : u.oa = true := by simp only [joinB, Bool.and_eq_true] at hj; exact hj.1
     exact join_raw l _ (raw_grow h ho)
   | false =>
     obtain ⟨h1, h2⟩ := join_raw l u (rawU_tail h)
     obtain ⟨q, m, h3, h4, h5, h6⟩ := joinU_headf l u
     have hp := rawU_head h
     have hl := rawU_link h
     have hl' : linkU p q = true := by unfold linkU at hl ⊢; rw [h4, h5]; exact hl
     have hj' : joinB p q = false := by unfold joinB at hj ⊢; rw [h5, h6]; exact hj
     simp only [cond_false]
     rw [h3] at h1 h2 ⊢
     constructor
     · rw [rawU, hp, hl', h1]; rfl
     · rw [apartU, hj', h2]; rfl
theorem join_id : ∀ (l : List Un) (p : Un), apartU (p :: l) = true → joinU p l = p :: l
 | [], p, h => rfl
 | u :: l, p, h => by
  rw [apartU, Bool.and_eq_true] at h
  have hj : joinB p u = false := by simpa using h.1
  simp only [joinU, hj, cond_false]
  rw [join_id l u h.2]
def goodU (l : List Un) : Bool := rawOk l && apartU l
theorem merge_good {l : List Un} (h : rawOk l = true) : goodU (mergeU l) = true := by
 unfold rawOk at h
 cases l with
 | nil => rfl
 | cons u l =>
  rw [Bool.and_eq_true] at h
  obtain ⟨h1, h2⟩ := join_raw l u h.1
  obtain ⟨q, m, h3, h4, h5⟩ := joinU_head l u
  show goodU (joinU u l) = true
  unfold goodU rawOk
  rw [h3] at h1 h2 ⊢
  rw [h1, h2, Bool.true_and, Bool.and_true]
  show (!q.oa) = true
  rw [h5]; exact h.2
theorem merge_id {l : List Un} (h : goodU l = true) : mergeU l = l := by
 unfold goodU at h
 rw [Bool.and_eq_true] at h
 cases l with
 | nil => rfl
 | cons u l => exact join_id l u h.2
theorem joinU_len : ∀ (l : List Un) (p : Un), 1 ≤ (joinU p l).length ∧ (joinU p l).length ≤ l.length + 1
 | [], p => ⟨Nat.le_refl _, Nat.le_refl _⟩
 | u :: l, p => by
  simp only [joinU]
  cases joinB p u with
  | true => have := joinU_len l { p with b := u.b }; simp only [cond_true, List.length_cons]; omega
  | false => have := joinU_len l u; simp only [cond_false, List.length_cons]; omega
theorem mergeU_len (l : List Un) : (mergeU l).length ≤ l.length ∧ (l ≠ [] → 1 ≤ (mergeU l).length) := by
 cases l with
 | nil => exact ⟨Nat.le_refl _, fun h => absurd rfl h⟩
 | cons u l => have := joinU_len l u; exact ⟨this.2, fun _ => this.1⟩
theorem not_apart {u v : Un} (hu : oneU u = true) (hv : oneU v = true) (h : linkU u v = true) : u.a < v.b := by
 have h1 := oneU_all hu
 have h2 := oneU_all hv
 cases ho : v.oa with
 | true => have := linkU_touch h ho; omega
 | false => have := linkU_gap h ho; omega
end Go.Vse
set_option maxRecDepth 100000
namespace Go.Vse
open Go.Proofs
def argTm : Arg Int where
 get := fun a => match a with | .agg l => some (tmV l, [tmOk l]) | _ => none
 put := fun n => .agg (tmCells n)
 ok := by
  intro a x cs h hc
  split at h
  ·rename_i l
   simp only [Option.some.injEq, Prod.mk.injEq] at h
   obtain ⟨rfl, rfl⟩ := h
   have := tmOk_eq (l := l) (hc _ (by simp))
   rw [← this]; exact Sees.refl _
  ·cases h
def argLine : Arg L4 where
 get := fun a => match a with | .agg l => some (lineV l, [lineOk l]) | _ => none
 put := lineA
 ok := by
  intro a x cs h hc
  split at h
  ·rename_i l
   simp only [Option.some.injEq, Prod.mk.injEq] at h
   obtain ⟨rfl, rfl⟩ := h
   have := lineOk_eq (l := l) (hc _ (by simp))
   unfold lineA
   rw [← this]; exact Sees.refl _
  ·cases h
structure Iv where
 a : Int
 b : Int
 oa : Bool
 ob : Bool
def ivCells (i : Iv) : List AV := tmCells i.a ++ (tmCells i.b ++ [.c (.v (.bool i.oa)), .c (.v (.bool i.ob))])
def ivV (l : List AV) : Iv := ⟨tmV (l.take 9), tmV ((l.drop 9).take 9), boolV ((l.drop 18).take 1), boolV (l.drop 19)⟩
def ivOk (l : List AV) : Bool := tmOk (l.take 9) && (tmOk ((l.drop 9).take 9) && (boolOk ((l.drop 18).take 1) && boolOk (l.drop 19)))
theorem ivOk_eq {l : List AV} (h : ivOk l = true) : l = ivCells (ivV l) := by
 simp only [ivOk, Bool.and_eq_true] at h
 obtain ⟨h1, h2, h3, h4⟩ := h
 have e1 := tmOk_eq h1
 have e2 := tmOk_eq h2
 have e3 := boolOk_eq h3
 have e4 := boolOk_eq h4
 show l = tmCells (tmV (l.take 9)) ++ (tmCells (tmV ((l.drop 9).take 9)) ++ ([.c (.v (.bool (boolV ((l.drop 18).take 1))))] ++ [.c (.v (.bool (boolV (l.drop 19))))]))
 rw [← e1, ← e2, ← e3, ← e4]
 have a2 := List.take_append_drop 1 (l.drop 18)
 rw [List.drop_drop] at a2
 have a3 := List.take_append_drop 9 (l.drop 9)
 rw [List.drop_drop] at a3
 rw [a2, a3, List.take_append_drop]
def argIv : Arg Iv where
 get := fun a => match a with | .agg l => some (ivV l, [ivOk l]) | _ => none
 put := fun i => .agg (ivCells i)
 ok := by
  intro a x cs h hc
  split at h
  ·rename_i l
   simp only [Option.some.injEq, Prod.mk.injEq] at h
   obtain ⟨rfl, rfl⟩ := h
   have := ivOk_eq (l := l) (hc _ (by simp))
   rw [← this]; exact Sees.refl _
  ·cases h
def argUn : Arg Un where
 get := fun a => match a with | .agg l => some (unV l, [unOk l]) | _ => none
 put := uniA
 ok := by
  intro a x cs h hc
  split at h
  ·rename_i l
   simp only [Option.some.injEq, Prod.mk.injEq] at h
   obtain ⟨rfl, rfl⟩ := h
   have := unOk_eq (l := l) (hc _ (by simp))
   unfold uniA
   rw [← this]; exact Sees.refl _
  ·cases h
def argUs : Arg (List Un) where
 get := fun a => match a with | .c (.sl n 36 el) => some (unsOf n el, [unsOk n el]) | _ => none
 put := usA
 ok := by
  intro a x cs h hc
  split at h
  ·rename_i n el
   simp only [Option.some.injEq, Prod.mk.injEq] at h
   obtain ⟨rfl, rfl⟩ := h
   unfold usA
   rw [unsOf_len]
   exact Sees.sl (unsOk_el (hc _ (by simp)))
  ·cases h
theorem ivV_lit (x : Iv) : ivV (ivCells x) = x := by
 show Iv.mk (tmV (tmCells x.a)) (tmV (tmCells x.b)) x.oa x.ob = x
 rw [tmV_cells, tmV_cells]
theorem ivOk_lit (x : Iv) : ivOk (ivCells x) = true := by
 show (tmOk (tmCells x.a) && (tmOk (tmCells x.b) && (true && true))) = true
 rw [tmOk_cells, tmOk_cells]; rfl
abbrev F1 {X : Type} (A : Arg X) : Form (X × Unit) := .cons A .nil
abbrev F2 {X Y : Type} (A : Arg X) (B : Arg Y) : Form (X × Y × Unit) := .cons A (.cons B .nil)
abbrev F3 {X Y Z : Type} (A : Arg X) (B : Arg Y) (C : Arg Z) : Form (X × Y × Z × Unit) := .cons A (.cons B (.cons C .nil))
def smB (n : Int) : Bool := decide (n.natAbs ≤ 1000000)
end Go.Vse
