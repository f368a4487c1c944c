/- Helpers for the proof: no statement of its own. -/
import Derived.Test.YtaidphfhmbpelaaGreatDoorQuadB
set_option linter.unusedVariables false
set_option linter.unusedSimpArgs false
set_option linter.unnecessarySimpa false
set_option linter.deprecated false
set_option maxRecDepth 100000
namespace Go.Vse
open Go.Proofs
theorem fit4_of {x y : Rat} {N D N' D' : Nat} (hx : Bnd N D x) (hy : Bnd N' D' y) (h1 : N < 18446744073709551616) (h2 : D < 18446744073709551616) (h3 : N' < 18446744073709551616) (h4 : D' < 18446744073709551616) : fit4 x y = true := by
 obtain ⟨a1, a2⟩ := hx
 obtain ⟨b1, b2⟩ := hy
 simp only [fit4, w64, Bool.and_eq_true, decide_eq_true_eq, Int.natAbs_natCast]
 omega
theorem fitA_of {x y : Rat} {N D N' D' : Nat} (hx : Bnd N D x) (hy : Bnd N' D' y) (h1 : N < 18446744073709551616) (h2 : D < 18446744073709551616) (h3 : N' < 18446744073709551616) (h4 : D' < 18446744073709551616)
   (h5 : N * D' + N' * D < 18446744073709551616) (h6 : D * D' < 18446744073709551616) : fitA x y = true := by
 have h0 := fit4_of hx hy h1 h2 h3 h4
 obtain ⟨a1, a2⟩ := hx
 obtain ⟨b1, b2⟩ := hy
 have e1 := Nat.mul_le_mul a1 b2
 have e2 := Nat.mul_le_mul b1 a2
 have e3 := Nat.mul_le_mul a2 b2
 have e4 := Int.natAbs_add_le (x.num * y.den) (y.num * x.den)
 rw [Int.natAbs_mul, Int.natAbs_mul, Int.natAbs_natCast, Int.natAbs_natCast] at e4
 have e5 : ((x.den : Int) * (y.den : Int)).natAbs = x.den * y.den := by rw [Int.natAbs_mul, Int.natAbs_natCast, Int.natAbs_natCast]
 simp only [fitA, h0, w64, Bool.and_eq_true, decide_eq_true_eq, e5]
 exact ⟨⟨trivial, Nat.lt_of_le_of_lt (Nat.le_trans e4 (Nat.add_le_add e1 e2)) h5⟩, Nat.lt_of_le_of_lt e3 h6⟩
theorem fitM_of {x y : Rat} {N D N' D' : Nat} (hx : Bnd N D x) (hy : Bnd N' D' y) (h1 : N < 18446744073709551616) (h2 : D < 18446744073709551616) (h3 : N' < 18446744073709551616) (h4 : D' < 18446744073709551616)
   (h5 : N * N' < 18446744073709551616) (h6 : D * D' < 18446744073709551616) : fitM x y = true := by
 have h0 := fit4_of hx hy h1 h2 h3 h4
 obtain ⟨a1, a2⟩ := hx
 obtain ⟨b1, b2⟩ := hy
 have e1 := Nat.mul_le_mul a1 b1
 have e3 := Nat.mul_le_mul a2 b2
 have e4 : (x.num * y.num).natAbs = x.num.natAbs * y.num.natAbs := Int.natAbs_mul ..
 have e5 : ((x.den : Int) * (y.den : Int)).natAbs = x.den * y.den := by rw [Int.natAbs_mul, Int.natAbs_natCast, Int.natAbs_natCast]
 simp only [fitM, h0, w64, Bool.and_eq_true, decide_eq_true_eq, e4, e5]
 exact ⟨⟨trivial, Nat.lt_of_le_of_lt e1 h5⟩, Nat.lt_of_le_of_lt e3 h6⟩
theorem fitD_of {x y : Rat} {N D N' D' : Nat} (hx : Bnd N D x) (hy : Bnd N' D' y) (h1 : N < 18446744073709551616) (h2 : D < 18446744073709551616) (h3 : N' < 18446744073709551616) (h4 : D' < 18446744073709551616)
   (h5 : N * D' < 18446744073709551616) (h6 : D * N' < 18446744073709551616) : fitD x y = true := by
 have h0 := fit4_of hx hy h1 h2 h3 h4
 obtain ⟨a1, a2⟩ := hx
 obtain ⟨b1, b2⟩ := hy
 have e1 := Nat.mul_le_mul a1 b2
 have e3 := Nat.mul_le_mul a2 b1
 have e4 : (x.num * (y.den : Int)).natAbs = x.num.natAbs * y.den := by rw [Int.natAbs_mul, Int.natAbs_natCast]
 have e5 : ((x.den : Int) * y.num).natAbs = x.den * y.num.natAbs := by rw [Int.natAbs_mul, Int.natAbs_natCast]
 simp only [fitD, h0, w64, Bool.and_eq_true, decide_eq_true_eq, e4, e5]
 exact ⟨⟨trivial, Nat.lt_of_le_of_lt e1 h5⟩, Nat.lt_of_le_of_lt e3 h6⟩
def bndB (N D : Nat) (q : Rat) : Bool := decide (q.num.natAbs ≤ N ∧ q.den ≤ D)
theorem bndB_iff {N D : Nat} {q : Rat} : bndB N D q = true ↔ Bnd N D q := by unfold bndB Bnd; exact decide_eq_true_iff
def xQ (l : L4) : Q3 := ⟨l.x0, l.x1, 0⟩
def yQ (l : L4) : Q3 := ⟨l.y0, l.y1, 0⟩
def lbB (x : L4) : Bool := bndB 16384 16 x.x0 && bndB 256 4 x.x1 && (bndB 16384 16 x.y0 && bndB 256 4 x.y1)
def tbB (t : R3) : Bool := (decide (t.r = 0) || decide (t.r = 2)) && !t.neg && bndB 7 1 t.p
theorem Bnd.zero : Bnd 0 1 0 := ⟨Nat.le_refl _, Nat.le_refl _⟩
theorem Bnd.one : Bnd 1 1 1 := ⟨Nat.le_refl _, Nat.le_refl _⟩
theorem Bnd.two : Bnd 2 1 2 := ⟨Nat.le_refl _, Nat.le_refl _⟩
theorem Bnd.sub {x y : Rat} {N D N' D' : Nat} (h : Bnd N D x) (h' : Bnd N' D' y) : Bnd (N * D' + N' * D) (D * D') (x - y) := by
 rw [Rat.sub_eq_add_neg]
 exact h.add h'.neg
structure Lin (q : Q3) : Prop where
 c0 : Bnd 524288 256 q.c0
 c1 : Bnd 2048 16 q.c1
 c2 : q.c2 = 0
theorem lin_sub {p q : Q3} (h0 : Bnd 16384 16 p.c0) (h1 : Bnd 256 4 p.c1) (h2 : p.c2 = 0) (k0 : Bnd 16384 16 q.c0) (k1 : Bnd 256 4 q.c1) (k2 : q.c2 = 0) : Lin (subQ p q) ∧ fitSubQ p q = true := by
 refine ⟨⟨h0.sub k0, h1.sub k1, ?_⟩, ?_⟩
 · show p.c2 - q.c2 = 0
   rw [h2, k2]; exact Rat.sub_self
 · simp only [fitSubQ, fitSub, Bool.and_eq_true]
   refine ⟨⟨fitA_of h0 k0.neg ?_ ?_ ?_ ?_ ?_ ?_, fitA_of h1 k1.neg ?_ ?_ ?_ ?_ ?_ ?_⟩, ?_⟩
   any_goals decide
   rw [h2, k2]
   exact fitA_of Bnd.zero Bnd.zero.neg (by decide) (by decide) (by decide) (by decide) (by decide) (by decide)
theorem zadd (x : Rat) : x + 0 = x := Rat.add_zero x
theorem zmul (x : Rat) : x * 0 = 0 := Rat.mul_zero x
theorem mulz (x : Rat) : 0 * x = 0 := Rat.zero_mul x
theorem evalQ_lin {q : Q3} (h : q.c2 = 0) (t : Rat) : evalQ q t = q.c0 + t * q.c1 := by unfold evalQ; rw [h, zmul, zadd]
theorem slopeQ_lin {q : Q3} (h : q.c2 = 0) (t : Rat) : slopeQ q t = q.c1 := by unfold slopeQ; rw [h, zadd, mulz, zadd]
theorem lin_eval {q : Q3} (h : Lin q) {t : Rat} (ht : Bnd 7 1 t) : Bnd 12058624 4096 (evalQ q t) := by
 rw [evalQ_lin h.c2]
 exact h.c0.add (ht.mul h.c1)
theorem lin_fitEval {q : Q3} (h : Lin q) {t : Rat} (ht : Bnd 7 1 t) : fitEval q t = true := by
 simp only [fitEval, h.c2, zmul, zadd, Bool.and_eq_true]
 refine ⟨⟨⟨fitM_of ht Bnd.zero ?_ ?_ ?_ ?_ ?_ ?_, fitA_of h.c1 Bnd.zero ?_ ?_ ?_ ?_ ?_ ?_⟩, fitM_of ht h.c1 ?_ ?_ ?_ ?_ ?_ ?_⟩, fitA_of h.c0 (ht.mul h.c1) ?_ ?_ ?_ ?_ ?_ ?_⟩
 all_goals decide
theorem lin_fitSlope {q : Q3} (h : Lin q) {t : Rat} (ht : Bnd 7 1 t) : fitSlope q t = true := by
 simp only [fitSlope, h.c2, zadd, mulz, Bool.and_eq_true]
 refine ⟨⟨fitA_of Bnd.zero Bnd.zero ?_ ?_ ?_ ?_ ?_ ?_, fitM_of Bnd.zero ht ?_ ?_ ?_ ?_ ?_ ?_⟩, fitA_of h.c1 Bnd.zero ?_ ?_ ?_ ?_ ?_ ?_⟩
 all_goals decide
theorem tb_r {t : R3} (h : tbB t = true) : (t.r = 0 ∨ t.r = 2) ∧ t.neg = false ∧ Bnd 7 1 t.p := by
 simp only [tbB, Bool.and_eq_true, Bool.or_eq_true, decide_eq_true_eq, Bool.not_eq_true', bndB_iff] at h
 exact ⟨h.1.1, h.1.2, h.2⟩
theorem tb_bnd {t : R3} (h : tbB t = true) : Bnd 2 1 t.r := by
 rcases (tb_r h).1 with h | h
 · rw [h]; exact Bnd.zero.mono (by decide) (by decide)
 · rw [h]; exact Bnd.two
theorem lin_base {q : Q3} (h : Lin q) (t : R3) : baseQ q t = evalQ q t.p := by unfold baseQ; rw [h.c2, mulz, zadd]
theorem lin_by {q : Q3} (h : Lin q) {t : R3} (ht : t.neg = false) : byQ q t = q.c1 := by unfold byQ; rw [ht, slopeQ_lin h.c2]; rfl
theorem lin_fitAt {q : Q3} (h : Lin q) {t : R3} (ht : tbB t = true) : fitAt q t = true := by
 obtain ⟨hr, hn, hp⟩ := tb_r ht
 have hb := tb_bnd ht
 have he := lin_eval h hp
 simp only [fitAt, lin_fitEval h hp, lin_fitSlope h hp, lin_base h t, lin_by h hn, h.c2, mulz, zmul, fitMake, Bool.and_eq_true, Bool.or_eq_true, decide_eq_true_eq]
 refine ⟨⟨⟨⟨trivial, fitM_of Bnd.zero hb ?_ ?_ ?_ ?_ ?_ ?_⟩, fitA_of he Bnd.zero ?_ ?_ ?_ ?_ ?_ ?_⟩, trivial⟩, ⟨⟨⟨hr, fitM_of h.c1 Bnd.zero ?_ ?_ ?_ ?_ ?_ ?_⟩, fitA_of he Bnd.zero ?_ ?_ ?_ ?_ ?_ ?_⟩, fitM_of h.c1 h.c1 ?_ ?_ ?_ ?_ ?_ ?_⟩, fitM_of (h.c1.mul h.c1) hb ?_ ?_ ?_ ?_ ?_ ?_⟩
 all_goals decide
theorem lin_atP {q : Q3} (h : Lin q) {t : R3} (ht : tbB t = true) : atP q t = evalQ q t.p := by
 unfold atP mkP
 rw [lin_base h t, zmul, zadd]
 cases decide (t.r = 0) <;> rfl
theorem lin_atR {q : Q3} (h : Lin q) {t : R3} (ht : tbB t = true) : Bnd 8388608 256 (atR q t) := by
 obtain ⟨hr, hn, hp⟩ := tb_r ht
 have hb := tb_bnd ht
 unfold atR mkR
 rw [lin_by h hn]
 cases decide (t.r = 0)
 · exact (h.c1.mul h.c1).mul hb
 · exact Bnd.zero.mono (by decide) (by decide)
theorem lin_fitSign {q : Q3} (h : Lin q) {t : R3} (ht : tbB t = true) : fitSign (atP q t) (facV (atN q t)) (atR q t) = true := by
 obtain ⟨hr, hn, hp⟩ := tb_r ht
 have he := lin_eval h hp
 have hR := lin_atR h ht
 have hf : Bnd 1 1 (facV (atN q t)) := by
   unfold facV
   cases atN q t
   · exact Bnd.one
   · exact Bnd.one.neg
 rw [lin_atP h ht]
 simp only [fitSign, Bool.and_eq_true]
 refine ⟨⟨⟨fitM_of he he ?_ ?_ ?_ ?_ ?_ ?_, fitM_of hf hf ?_ ?_ ?_ ?_ ?_ ?_⟩, fitM_of (hf.mul hf) hR ?_ ?_ ?_ ?_ ?_ ?_⟩, fit4_of (he.mul he) ((hf.mul hf).mul hR) ?_ ?_ ?_ ?_⟩
 all_goals decide
theorem lin_fitRed {q : Q3} (h0 : Bnd 524288 256 q.c0) (h1 : Bnd 2048 16 q.c1) (h2 : q.c2 = 0) {t : R3} (ht : tbB t = true) : fitRed q t = true := by
 obtain ⟨hr, hn, hp⟩ := tb_r ht
 have h : Lin q := ⟨h0, h1, h2⟩
 have hb := tb_bnd ht
 unfold fitRed
 cases decide (t.r = 0)
 · simp only [cond_false, fitSub, h2, mulz, lin_fitSlope h hp, Bool.and_eq_true]
   refine ⟨⟨⟨⟨fitM_of hp hp ?_ ?_ ?_ ?_ ?_ ?_, fitA_of hb (hp.mul hp).neg ?_ ?_ ?_ ?_ ?_ ?_⟩, fitM_of Bnd.zero (hb.sub (hp.mul hp)) ?_ ?_ ?_ ?_ ?_ ?_⟩, fitA_of h0 Bnd.zero ?_ ?_ ?_ ?_ ?_ ?_⟩, trivial⟩
   all_goals decide
 · exact lin_fitEval h hp
theorem red0_lin {q : Q3} (h : q.c2 = 0) (t : R3) : red0 q t = bif decide (t.r = 0) then q.c0 + t.p * q.c1 else q.c0 := by
 unfold red0
 rw [evalQ_lin h, h, mulz, zadd]
theorem red1_lin {q : Q3} (h : q.c2 = 0) (t : R3) : red1 q t = bif decide (t.r = 0) then 0 else q.c1 := by
 unfold red1
 rw [slopeQ_lin h]
end Go.Vse
set_option maxRecDepth 100000
namespace Go.Vse
open Go.Proofs
def zr (l : L4) : Rat := match l.x0.num.natAbs with
 | 0 => 0
 | _ + 1 => 0
theorem zr_eq (l : L4) : zr l = 0 := by unfold zr; split <;> rfl
def xZ (l : L4) : Q3 := ⟨l.x0, l.x1, zr l⟩
def yZ (l : L4) : Q3 := ⟨l.y0, l.y1, zr l⟩
theorem xZ_eq (l : L4) : xZ l = xQ l := by unfold xZ xQ; rw [zr_eq]
theorem yZ_eq (l : L4) : yZ l = yQ l := by unfold yZ yQ; rw [zr_eq]
def sgnL (p q : Q3) (t : R3) : Int := signV (atP (subQ p q) t) (facV (atN (subQ p q) t)) (atR (subQ p q) t)
def sameQ (p q : Q3) (t : R3) : Bool := decide (red0 (subQ p q) t = 0) && decide (red1 (subQ p q) t = 0)
def eqL (x y : L4) : Bool := decide (x.x0 = y.x0) && (decide (x.x1 = y.x1) && (decide (x.y0 = y.y0) && decide (x.y1 = y.y1)))
def lineOf (p q r s a b : Int) : L4 := ⟨(p : Rat) - slopeB a p b r * (a : Rat), slopeB a p b r, (q : Rat) - slopeB a q b s * (a : Rat), slopeB a q b s⟩
def i8B (p : Int) : Bool := decide (-128 ≤ p) && decide (p ≤ 127)
def K8 : List AV → Option (AV × List Bool)
 | [.c (.v (.int .i64 n))] => some (ratA (n : Rat), [decide (-9223372036854775808 ≤ n), decide (n ≤ 9223372036854775807)])
 | _ => none
def K7 : List AV → Option (AV × List Bool)
 | [.c (.v (.int .i64 n))] => some (.agg (ratCells (n : Rat) ++ (litZ ++ [.c (.v (.bool false))])), [decide (-9223372036854775808 ≤ n), decide (n ≤ 9223372036854775807)])
 | _ => none
def K17 : List AV → Option (AV × List Bool)
 | [.agg [.c (.v (.int .i8 p)), .c (.v (.int .i8 q)), .c (.v (.int .i8 r)), .c (.v (.int .i8 s))], .c (.v (.int .i64 a)), .c (.v (.int .i64 b))] =>
   some (lineA ⟨hold (lineOf p q r s a b).x0, hold (lineOf p q r s a b).x1, hold (lineOf p q r s a b).y0, hold (lineOf p q r s a b).y1⟩, [i8B p, i8B q, i8B r, i8B s, decide (0 ≤ a), decide (a ≤ 7), decide (a < b), decide (b ≤ a + 4)])
 | _ => none
theorem ratV_int1 (n : Int) : ratV [.c (.v (.bool (decide (n < 0)))), .c (.v (.string ⟨⟨magB n.natAbs⟩⟩)), .c (.v (.bool false)), .c (.v (.string ⟨⟨denB 1⟩⟩))] = (n : Rat) := ratV_cells (n : Rat)
theorem ratOk_int1 (n : Int) : ratOk [.c (.v (.bool (decide (n < 0)))), .c (.v (.string ⟨⟨magB n.natAbs⟩⟩)), .c (.v (.bool false)), .c (.v (.string ⟨⟨denB 1⟩⟩))] = true := ratOk_cells (n : Rat)
theorem lb_all {x : L4} (h : lbB x = true) : Bnd 16384 16 x.x0 ∧ Bnd 256 4 x.x1 ∧ Bnd 16384 16 x.y0 ∧ Bnd 256 4 x.y1 := by
 simp only [lbB, Bool.and_eq_true, bndB_iff] at h
 exact ⟨h.1.1, h.1.2, h.2.1, h.2.2⟩
theorem lx_sub {x y : L4} (h : lbB x = true) (k : lbB y = true) : Lin (subQ (xQ x) (xQ y)) ∧ fitSubQ (xQ x) (xQ y) = true :=
 lin_sub (lb_all h).1 (lb_all h).2.1 rfl (lb_all k).1 (lb_all k).2.1 rfl
theorem ly_sub {x y : L4} (h : lbB x = true) (k : lbB y = true) : Lin (subQ (yQ x) (yQ y)) ∧ fitSubQ (yQ x) (yQ y) = true :=
 lin_sub (lb_all h).2.2.1 (lb_all h).2.2.2 rfl (lb_all k).2.2.1 (lb_all k).2.2.2 rfl
theorem slope_bnd {a b v w : Int} (hv : -128 ≤ v ∧ v ≤ 127) (hw : -128 ≤ w ∧ w ≤ 127) (ha : 0 ≤ a ∧ a ≤ 7) (hb : a < b ∧ b ≤ a + 4) :
   fitBet a v b w = true ∧ Bnd 256 4 (slopeB a v b w) ∧ Bnd 16384 16 ((v : Rat) - slopeB a v b w * (a : Rat)) := by
 have ew : (w : Rat) - (v : Rat) = ((w - v : Int) : Rat) := by simp
 have eb : (b : Rat) - (a : Rat) = ((b - a : Int) : Rat) := by simp
 have n1 : Bnd 255 1 (((w - v : Int) : Rat)) := ⟨by show (w - v).natAbs ≤ 255; omega, Nat.le_refl _⟩
 have n2 : Bnd 4 1 (((b - a : Int) : Rat)) := ⟨by show (b - a).natAbs ≤ 4; omega, Nat.le_refl _⟩
 have nv : Bnd 128 1 ((v : Rat)) := ⟨by show v.natAbs ≤ 128; omega, Nat.le_refl _⟩
 have nw : Bnd 128 1 ((w : Rat)) := ⟨by show w.natAbs ≤ 128; omega, Nat.le_refl _⟩
 have na : Bnd 7 1 ((a : Rat)) := ⟨by show a.natAbs ≤ 7; omega, Nat.le_refl _⟩
 have nb : Bnd 11 1 ((b : Rat)) := ⟨by show b.natAbs ≤ 11; omega, Nat.le_refl _⟩
 have hs : Bnd 256 4 (slopeB a v b w) := by
   unfold slopeB
   rw [ew, eb, ← div_divInt]
   have := Bnd.divInt (n := ((w - v : Int) : Rat).num * (((b - a : Int) : Rat).den : Int)) (d := (((w - v : Int) : Rat).den : Int) * ((b - a : Int) : Rat).num) (N := 256) (D := 4) (by show (0 : Int) < 1 * (b - a); omega) (by show ((w - v) * 1).natAbs ≤ 256; omega) (by show ((1 : Int) * (b - a)).natAbs ≤ 4; omega)
   exact this
 have hne : (b : Rat) - (a : Rat) ≠ 0 := by
   rw [eb]
   intro h
   have : (b - a : Int) = 0 := by have := congrArg Rat.num h; exact this
   omega
 refine ⟨?_, hs, (nv.sub (hs.mul na)).mono (by decide) (by decide)⟩
 simp only [fitBet, fitSub, Bool.and_eq_true, decide_eq_true_eq]
 refine ⟨⟨⟨⟨⟨fitA_of nw nv.neg ?_ ?_ ?_ ?_ ?_ ?_, fitA_of nb na.neg ?_ ?_ ?_ ?_ ?_ ?_⟩, ?_⟩, hne⟩, fitM_of hs na ?_ ?_ ?_ ?_ ?_ ?_⟩, fitA_of nv (hs.mul na).neg ?_ ?_ ?_ ?_ ?_ ?_⟩
 any_goals decide
 rw [ew, eb]
 exact fitD_of n1 n2 (by decide) (by decide) (by decide) (by decide) (by decide) (by decide)
theorem bif_and (x y : Bool) : (bif x then bif true then y else false else false) = (x && y) := by cases x <;> rfl
theorem okI_den (d : Nat) : okI false ⟨⟨denB d⟩⟩ = true := by
 unfold okI
 show (canon (denB d) && (!false || _)) = true
 rw [canon_denB]; rfl
def K21 : List AV → Option (AV × List Bool)
 | [.agg l1] => some (quadA (xZ (lineV l1)), [lineOk l1])
 | _ => none
def K22 : List AV → Option (AV × List Bool)
 | [.agg l1] => some (quadA (yZ (lineV l1)), [lineOk l1])
 | _ => none
def K10 : List AV → Option (AV × List Bool)
 | [.agg l1, .agg l2, .agg l3] => some (intA .i64 (sgnL (xQ (lineV l1)) (xQ (lineV l2)) (realV l3)), [lineOk l1, lineOk l2, realOk l3, lbB (lineV l1), lbB (lineV l2), tbB (realV l3)])
 | _ => none
def K11 : List AV → Option (AV × List Bool)
 | [.agg l1, .agg l2, .agg l3] => some (intA .i64 (sgnL (yQ (lineV l1)) (yQ (lineV l2)) (realV l3)), [lineOk l1, lineOk l2, realOk l3, lbB (lineV l1), lbB (lineV l2), tbB (realV l3)])
 | _ => none
def K25 : List AV → Option (AV × List Bool)
 | [.agg [], .agg l1, .agg l2, .agg l3] => some (boolA (sameQ (xQ (lineV l1)) (xQ (lineV l2)) (realV l3) && sameQ (yQ (lineV l1)) (yQ (lineV l2)) (realV l3)), [lineOk l1, lineOk l2, realOk l3, lbB (lineV l1), lbB (lineV l2), tbB (realV l3)])
 | _ => none
def K29 : List AV → Option (AV × List Bool)
 | [.agg [], .agg l1, .agg l2] => some (lineA ⟨hold (red0 (xQ (lineV l1)) (realV l2)), hold (red1 (xQ (lineV l1)) (realV l2)), hold (red0 (yQ (lineV l1)) (realV l2)), hold (red1 (yQ (lineV l1)) (realV l2))⟩, [lineOk l1, realOk l2, lbB (lineV l1), tbB (realV l2)])
 | _ => none
def K26 : List AV → Option (AV × List Bool)
 | [.agg [], .agg l1, .agg l2] => some (boolA (eqL (lineV l1) (lineV l2)), [lineOk l1, lineOk l2])
 | _ => none
def K54 : List AV → Option (AV × List Bool)
 | [.agg l1] => some (intA .i64 0, [ratOk l1, w64 (ratV l1).num, w64 (ratV l1).den])
 | _ => none
def Γb21 : FuncId → Option Spec := fun f => bif Nat.beq f 18 then some (pureSpec K18) else none
def Γb22 : FuncId → Option Spec := fun f => bif Nat.beq f 18 then some (pureSpec K18) else none
def Γ10 : FuncId → Option Spec := fun f => bif Nat.beq f 21 then some (pureSpec K21) else bif Nat.beq f 20 then some (pureSpec K20) else bif Nat.beq f 19 then some (pureSpec K19) else none
def Γ11 : FuncId → Option Spec := fun f => bif Nat.beq f 22 then some (pureSpec K22) else bif Nat.beq f 20 then some (pureSpec K20) else bif Nat.beq f 19 then some (pureSpec K19) else none
def Γb25 : FuncId → Option Spec := fun f => bif Nat.beq f 49 then some (pureSpec K49) else none
def Γb29 : FuncId → Option Spec := fun f => bif Nat.beq f 51 then some (pureSpec K51) else none
def Γ54 : FuncId → Option Spec := fun f => bif Nat.beq f 79 then some (pureSpec K79) else bif Nat.beq f 81 then some (pureSpec K81) else bif Nat.beq f 80 then some (pureSpec K80) else bif Nat.beq f 82 then some (pureSpec K82) else none
def Γ8 : FuncId → Option Spec := fun f => bif Nat.beq f 18 then some (pureSpec K18) else none
def Γ7 : FuncId → Option Spec := fun f => bif Nat.beq f 18 then some (pureSpec K18) else none
def Γ17 : FuncId → Option Spec := fun f => bif Nat.beq f 8 then some (pureSpec K8) else bif Nat.beq f 39 then some (pureSpec K39) else none
def M21 (v1 : L4) : Tr AV :=
 .ret (AV.agg [.c (.v (.bool (decide (v1.x0.num < 0)))), .c (.v (.string ⟨⟨magB v1.x0.num.natAbs⟩⟩)), .c (.v (.bool false)), .c (.v (.string ⟨⟨denB v1.x0.den⟩⟩)), .c (.v (.bool (decide (v1.x1.num < 0)))), .c (.v (.string ⟨⟨magB v1.x1.num.natAbs⟩⟩)), .c (.v (.bool false)), .c (.v (.string ⟨⟨denB v1.x1.den⟩⟩)), .c (.v (.bool false)), .c (.v (.string { data := #[] })), .c (.v (.bool false)), .c (.v (.string { data := #[] }))])
def M22 (v1 : L4) : Tr AV :=
 .ret (AV.agg [.c (.v (.bool (decide (v1.y0.num < 0)))), .c (.v (.string ⟨⟨magB v1.y0.num.natAbs⟩⟩)), .c (.v (.bool false)), .c (.v (.string ⟨⟨denB v1.y0.den⟩⟩)), .c (.v (.bool (decide (v1.y1.num < 0)))), .c (.v (.string ⟨⟨magB v1.y1.num.natAbs⟩⟩)), .c (.v (.bool false)), .c (.v (.string ⟨⟨denB v1.y1.den⟩⟩)), .c (.v (.bool false)), .c (.v (.string { data := #[] })), .c (.v (.bool false)), .c (.v (.string { data := #[] }))])
def M10 (v1 : L4) (v2 : L4) (v3 : R3) : Tr AV :=
 let x1 : List AV := [.c (.v (.bool (decide (v1.x0.num < 0)))), .c (.v (.string ⟨⟨magB v1.x0.num.natAbs⟩⟩)), .c (.v (.bool false)), .c (.v (.string ⟨⟨denB v1.x0.den⟩⟩)), .c (.v (.bool (decide (v1.x1.num < 0)))), .c (.v (.string ⟨⟨magB v1.x1.num.natAbs⟩⟩)), .c (.v (.bool false)), .c (.v (.string ⟨⟨denB v1.x1.den⟩⟩)), .c (.v (.bool (decide (v1.y0.num < 0)))), .c (.v (.string ⟨⟨magB v1.y0.num.natAbs⟩⟩)), .c (.v (.bool false)), .c (.v (.string ⟨⟨denB v1.y0.den⟩⟩)), .c (.v (.bool (decide (v1.y1.num < 0)))), .c (.v (.string ⟨⟨magB v1.y1.num.natAbs⟩⟩)), .c (.v (.bool false)), .c (.v (.string ⟨⟨denB v1.y1.den⟩⟩))]
 let x2 : List AV := [.c (.v (.bool (decide (v2.x0.num < 0)))), .c (.v (.string ⟨⟨magB v2.x0.num.natAbs⟩⟩)), .c (.v (.bool false)), .c (.v (.string ⟨⟨denB v2.x0.den⟩⟩)), .c (.v (.bool (decide (v2.x1.num < 0)))), .c (.v (.string ⟨⟨magB v2.x1.num.natAbs⟩⟩)), .c (.v (.bool false)), .c (.v (.string ⟨⟨denB v2.x1.den⟩⟩)), .c (.v (.bool (decide (v2.y0.num < 0)))), .c (.v (.string ⟨⟨magB v2.y0.num.natAbs⟩⟩)), .c (.v (.bool false)), .c (.v (.string ⟨⟨denB v2.y0.den⟩⟩)), .c (.v (.bool (decide (v2.y1.num < 0)))), .c (.v (.string ⟨⟨magB v2.y1.num.natAbs⟩⟩)), .c (.v (.bool false)), .c (.v (.string ⟨⟨denB v2.y1.den⟩⟩))]
 let x3 : Int := (ratV (List.take 4 x1)).num
 let x4 : Int := (ratV (List.take 4 (List.drop 4 x1))).num
 let x5 : Int := (zr (lineV x1)).num
 let x6 : List AV := [.c (.v (.bool (decide (x3 < 0)))), .c (.v (.string ⟨⟨magB x3.natAbs⟩⟩)), .c (.v (.bool false)), .c (.v (.string ⟨⟨denB (ratV (List.take 4 x1)).den⟩⟩)), .c (.v (.bool (decide (x4 < 0)))), .c (.v (.string ⟨⟨magB x4.natAbs⟩⟩)), .c (.v (.bool false)), .c (.v (.string ⟨⟨denB (ratV (List.take 4 (List.drop 4 x1))).den⟩⟩)), .c (.v (.bool (decide (x5 < 0)))), .c (.v (.string ⟨⟨magB x5.natAbs⟩⟩)), .c (.v (.bool false)), .c (.v (.string ⟨⟨denB (zr (lineV x1)).den⟩⟩))]
 let x7 : Int := (ratV (List.take 4 x2)).num
 let x8 : Int := (ratV (List.take 4 (List.drop 4 x2))).num
 let x9 : Int := (zr (lineV x2)).num
 let x10 : List AV := [.c (.v (.bool (decide (x7 < 0)))), .c (.v (.string ⟨⟨magB x7.natAbs⟩⟩)), .c (.v (.bool false)), .c (.v (.string ⟨⟨denB (ratV (List.take 4 x2)).den⟩⟩)), .c (.v (.bool (decide (x8 < 0)))), .c (.v (.string ⟨⟨magB x8.natAbs⟩⟩)), .c (.v (.bool false)), .c (.v (.string ⟨⟨denB (ratV (List.take 4 (List.drop 4 x2))).den⟩⟩)), .c (.v (.bool (decide (x9 < 0)))), .c (.v (.string ⟨⟨magB x9.natAbs⟩⟩)), .c (.v (.bool false)), .c (.v (.string ⟨⟨denB (zr (lineV x2)).den⟩⟩))]
 let x11 : Int := (hold (ratV (List.take 4 x6) - ratV (List.take 4 x10))).num
 let x12 : Int := (hold (ratV (List.take 4 (List.drop 4 x6)) - ratV (List.take 4 (List.drop 4 x10)))).num
 let x13 : Int := (hold (ratV (List.drop 8 x6) - ratV (List.drop 8 x10))).num
 let x14 : List AV := [.c (.v (.bool (decide (x11 < 0)))), .c (.v (.string ⟨⟨magB x11.natAbs⟩⟩)), .c (.v (.bool false)), .c (.v (.string ⟨⟨denB (hold (ratV (List.take 4 x6) - ratV (List.take 4 x10))).den⟩⟩)), .c (.v (.bool (decide (x12 < 0)))), .c (.v (.string ⟨⟨magB x12.natAbs⟩⟩)), .c (.v (.bool false)), .c (.v (.string ⟨⟨denB (hold (ratV (List.take 4 (List.drop 4 x6)) - ratV (List.take 4 (List.drop 4 x10)))).den⟩⟩)), .c (.v (.bool (decide (x13 < 0)))), .c (.v (.string ⟨⟨magB x13.natAbs⟩⟩)), .c (.v (.bool false)), .c (.v (.string ⟨⟨denB (hold (ratV (List.drop 8 x6) - ratV (List.drop 8 x10))).den⟩⟩))]
 let x15 : List AV := [.c (.v (.bool (decide (v3.p.num < 0)))), .c (.v (.string ⟨⟨magB v3.p.num.natAbs⟩⟩)), .c (.v (.bool false)), .c (.v (.string ⟨⟨denB v3.p.den⟩⟩)), .c (.v (.bool (decide (v3.r.num < 0)))), .c (.v (.string ⟨⟨magB v3.r.num.natAbs⟩⟩)), .c (.v (.bool false)), .c (.v (.string ⟨⟨denB v3.r.den⟩⟩)), .c (.v (.bool v3.neg))]
 .need (lineOk x1) (.need (lineOk x2) (.need (quadOk x6) (.need (quadOk x10) (.need (fitSubQ (quadV x6) (quadV x10)) (.need (quadOk x14) (.need (realOk x15) (.need (fitAt (quadV x14) (realV x15)) (.need (fitSign (atP (quadV x14) (realV x15)) (facV (atN (quadV x14) (realV x15))) (atR (quadV x14) (realV x15))) (.ret (.c (.v (.int IntKind.i64 (signV (atP (quadV x14) (realV x15)) (facV (atN (quadV x14) (realV x15))) (atR (quadV x14) (realV x15)))))))))))))))
def M11 (v1 : L4) (v2 : L4) (v3 : R3) : Tr AV :=
 let x1 : List AV := [.c (.v (.bool (decide (v1.x0.num < 0)))), .c (.v (.string ⟨⟨magB v1.x0.num.natAbs⟩⟩)), .c (.v (.bool false)), .c (.v (.string ⟨⟨denB v1.x0.den⟩⟩)), .c (.v (.bool (decide (v1.x1.num < 0)))), .c (.v (.string ⟨⟨magB v1.x1.num.natAbs⟩⟩)), .c (.v (.bool false)), .c (.v (.string ⟨⟨denB v1.x1.den⟩⟩)), .c (.v (.bool (decide (v1.y0.num < 0)))), .c (.v (.string ⟨⟨magB v1.y0.num.natAbs⟩⟩)), .c (.v (.bool false)), .c (.v (.string ⟨⟨denB v1.y0.den⟩⟩)), .c (.v (.bool (decide (v1.y1.num < 0)))), .c (.v (.string ⟨⟨magB v1.y1.num.natAbs⟩⟩)), .c (.v (.bool false)), .c (.v (.string ⟨⟨denB v1.y1.den⟩⟩))]
 let x2 : List AV := [.c (.v (.bool (decide (v2.x0.num < 0)))), .c (.v (.string ⟨⟨magB v2.x0.num.natAbs⟩⟩)), .c (.v (.bool false)), .c (.v (.string ⟨⟨denB v2.x0.den⟩⟩)), .c (.v (.bool (decide (v2.x1.num < 0)))), .c (.v (.string ⟨⟨magB v2.x1.num.natAbs⟩⟩)), .c (.v (.bool false)), .c (.v (.string ⟨⟨denB v2.x1.den⟩⟩)), .c (.v (.bool (decide (v2.y0.num < 0)))), .c (.v (.string ⟨⟨magB v2.y0.num.natAbs⟩⟩)), .c (.v (.bool false)), .c (.v (.string ⟨⟨denB v2.y0.den⟩⟩)), .c (.v (.bool (decide (v2.y1.num < 0)))), .c (.v (.string ⟨⟨magB v2.y1.num.natAbs⟩⟩)), .c (.v (.bool false)), .c (.v (.string ⟨⟨denB v2.y1.den⟩⟩))]
 let x3 : Int := (ratV (List.take 4 (List.drop 8 x1))).num
 let x4 : Int := (ratV (List.drop 12 x1)).num
 let x5 : Int := (zr (lineV x1)).num
 let x6 : List AV := [.c (.v (.bool (decide (x3 < 0)))), .c (.v (.string ⟨⟨magB x3.natAbs⟩⟩)), .c (.v (.bool false)), .c (.v (.string ⟨⟨denB (ratV (List.take 4 (List.drop 8 x1))).den⟩⟩)), .c (.v (.bool (decide (x4 < 0)))), .c (.v (.string ⟨⟨magB x4.natAbs⟩⟩)), .c (.v (.bool false)), .c (.v (.string ⟨⟨denB (ratV (List.drop 12 x1)).den⟩⟩)), .c (.v (.bool (decide (x5 < 0)))), .c (.v (.string ⟨⟨magB x5.natAbs⟩⟩)), .c (.v (.bool false)), .c (.v (.string ⟨⟨denB (zr (lineV x1)).den⟩⟩))]
 let x7 : Int := (ratV (List.take 4 (List.drop 8 x2))).num
 let x8 : Int := (ratV (List.drop 12 x2)).num
 let x9 : Int := (zr (lineV x2)).num
 let x10 : List AV := [.c (.v (.bool (decide (x7 < 0)))), .c (.v (.string ⟨⟨magB x7.natAbs⟩⟩)), .c (.v (.bool false)), .c (.v (.string ⟨⟨denB (ratV (List.take 4 (List.drop 8 x2))).den⟩⟩)), .c (.v (.bool (decide (x8 < 0)))), .c (.v (.string ⟨⟨magB x8.natAbs⟩⟩)), .c (.v (.bool false)), .c (.v (.string ⟨⟨denB (ratV (List.drop 12 x2)).den⟩⟩)), .c (.v (.bool (decide (x9 < 0)))), .c (.v (.string ⟨⟨magB x9.natAbs⟩⟩)), .c (.v (.bool false)), .c (.v (.string ⟨⟨denB (zr (lineV x2)).den⟩⟩))]
 let x11 : Int := (hold (ratV (List.take 4 x6) - ratV (List.take 4 x10))).num
 let x12 : Int := (hold (ratV (List.take 4 (List.drop 4 x6)) - ratV (List.take 4 (List.drop 4 x10)))).num
 let x13 : Int := (hold (ratV (List.drop 8 x6) - ratV (List.drop 8 x10))).num
 let x14 : List AV := [.c (.v (.bool (decide (x11 < 0)))), .c (.v (.string ⟨⟨magB x11.natAbs⟩⟩)), .c (.v (.bool false)), .c (.v (.string ⟨⟨denB (hold (ratV (List.take 4 x6) - ratV (List.take 4 x10))).den⟩⟩)), .c (.v (.bool (decide (x12 < 0)))), .c (.v (.string ⟨⟨magB x12.natAbs⟩⟩)), .c (.v (.bool false)), .c (.v (.string ⟨⟨denB (hold (ratV (List.take 4 (List.drop 4 x6)) - ratV (List.take 4 (List.drop 4 x10)))).den⟩⟩)), .c (.v (.bool (decide (x13 < 0)))), .c (.v (.string ⟨⟨magB x13.natAbs⟩⟩)), .c (.v (.bool false)), .c (.v (.string ⟨⟨denB (hold (ratV (List.drop 8 x6) - ratV (List.drop 8 x10))).den⟩⟩))]
 let x15 : List AV := [.c (.v (.bool (decide (v3.p.num < 0)))), .c (.v (.string ⟨⟨magB v3.p.num.natAbs⟩⟩)), .c (.v (.bool false)), .c (.v (.string ⟨⟨denB v3.p.den⟩⟩)), .c (.v (.bool (decide (v3.r.num < 0)))), .c (.v (.string ⟨⟨magB v3.r.num.natAbs⟩⟩)), .c (.v (.bool false)), .c (.v (.string ⟨⟨denB v3.r.den⟩⟩)), .c (.v (.bool v3.neg))]
 .need (lineOk x1) (.need (lineOk x2) (.need (quadOk x6) (.need (quadOk x10) (.need (fitSubQ (quadV x6) (quadV x10)) (.need (quadOk x14) (.need (realOk x15) (.need (fitAt (quadV x14) (realV x15)) (.need (fitSign (atP (quadV x14) (realV x15)) (facV (atN (quadV x14) (realV x15))) (atR (quadV x14) (realV x15))) (.ret (.c (.v (.int IntKind.i64 (signV (atP (quadV x14) (realV x15)) (facV (atN (quadV x14) (realV x15))) (atR (quadV x14) (realV x15)))))))))))))))
def M25 (v1 : L4) (v2 : L4) (v3 : R3) : Tr AV :=
 let x1 : List AV := [.c (.v (.bool false)), .c (.v (.string { data := #[] })), .c (.v (.bool false)), .c (.v (.string { data := #[] }))]
 let x2 : List AV := .c (.v (.bool (decide (v1.x0.num < 0)))) :: .c (.v (.string ⟨⟨magB v1.x0.num.natAbs⟩⟩)) :: .c (.v (.bool false)) :: .c (.v (.string ⟨⟨denB v1.x0.den⟩⟩)) :: .c (.v (.bool (decide (v1.x1.num < 0)))) :: .c (.v (.string ⟨⟨magB v1.x1.num.natAbs⟩⟩)) :: .c (.v (.bool false)) :: .c (.v (.string ⟨⟨denB v1.x1.den⟩⟩)) :: x1
 let x3 : List AV := .c (.v (.bool (decide (v2.x0.num < 0)))) :: .c (.v (.string ⟨⟨magB v2.x0.num.natAbs⟩⟩)) :: .c (.v (.bool false)) :: .c (.v (.string ⟨⟨denB v2.x0.den⟩⟩)) :: .c (.v (.bool (decide (v2.x1.num < 0)))) :: .c (.v (.string ⟨⟨magB v2.x1.num.natAbs⟩⟩)) :: .c (.v (.bool false)) :: .c (.v (.string ⟨⟨denB v2.x1.den⟩⟩)) :: x1
 let x4 : List AV := [.c (.v (.bool (decide (v3.p.num < 0)))), .c (.v (.string ⟨⟨magB v3.p.num.natAbs⟩⟩)), .c (.v (.bool false)), .c (.v (.string ⟨⟨denB v3.p.den⟩⟩)), .c (.v (.bool (decide (v3.r.num < 0)))), .c (.v (.string ⟨⟨magB v3.r.num.natAbs⟩⟩)), .c (.v (.bool false)), .c (.v (.string ⟨⟨denB v3.r.den⟩⟩)), .c (.v (.bool v3.neg))]
 let x5 : List AV := .c (.v (.bool (decide (v1.y0.num < 0)))) :: .c (.v (.string ⟨⟨magB v1.y0.num.natAbs⟩⟩)) :: .c (.v (.bool false)) :: .c (.v (.string ⟨⟨denB v1.y0.den⟩⟩)) :: .c (.v (.bool (decide (v1.y1.num < 0)))) :: .c (.v (.string ⟨⟨magB v1.y1.num.natAbs⟩⟩)) :: .c (.v (.bool false)) :: .c (.v (.string ⟨⟨denB v1.y1.den⟩⟩)) :: x1
 let x6 : List AV := .c (.v (.bool (decide (v2.y0.num < 0)))) :: .c (.v (.string ⟨⟨magB v2.y0.num.natAbs⟩⟩)) :: .c (.v (.bool false)) :: .c (.v (.string ⟨⟨denB v2.y0.den⟩⟩)) :: .c (.v (.bool (decide (v2.y1.num < 0)))) :: .c (.v (.string ⟨⟨magB v2.y1.num.natAbs⟩⟩)) :: .c (.v (.bool false)) :: .c (.v (.string ⟨⟨denB v2.y1.den⟩⟩)) :: x1
 .need (quadOk x2) (.need (quadOk x3) (.need (realOk x4) (.need (fitSubQ (quadV x2) (quadV x3)) (.need (fitRed (subQ (quadV x2) (quadV x3)) (realV x4)) (.need (bif decide (red0 (subQ (quadV x2) (quadV x3)) (realV x4) = 0) && decide (red1 (subQ (quadV x2) (quadV x3)) (realV x4) = 0) then quadOk x5 && (quadOk x6 && (realOk x4 && (fitSubQ (quadV x5) (quadV x6) && (fitRed (subQ (quadV x5) (quadV x6)) (realV x4) && true)))) else true) (.ret (.c (.v (.bool (bif decide (red0 (subQ (quadV x2) (quadV x3)) (realV x4) = 0) && decide (red1 (subQ (quadV x2) (quadV x3)) (realV x4) = 0) then bif true then decide (red0 (subQ (quadV x5) (quadV x6)) (realV x4) = 0) && decide (red1 (subQ (quadV x5) (quadV x6)) (realV x4) = 0) else false else false))))))))))
def M29 (v1 : L4) (v2 : R3) : Tr AV :=
 let x1 : List AV := [.c (.v (.bool false)), .c (.v (.string { data := #[] })), .c (.v (.bool false)), .c (.v (.string { data := #[] }))]
 let x2 : List AV := .c (.v (.bool (decide (v1.x0.num < 0)))) :: .c (.v (.string ⟨⟨magB v1.x0.num.natAbs⟩⟩)) :: .c (.v (.bool false)) :: .c (.v (.string ⟨⟨denB v1.x0.den⟩⟩)) :: .c (.v (.bool (decide (v1.x1.num < 0)))) :: .c (.v (.string ⟨⟨magB v1.x1.num.natAbs⟩⟩)) :: .c (.v (.bool false)) :: .c (.v (.string ⟨⟨denB v1.x1.den⟩⟩)) :: x1
 let x3 : List AV := [.c (.v (.bool (decide (v2.p.num < 0)))), .c (.v (.string ⟨⟨magB v2.p.num.natAbs⟩⟩)), .c (.v (.bool false)), .c (.v (.string ⟨⟨denB v2.p.den⟩⟩)), .c (.v (.bool (decide (v2.r.num < 0)))), .c (.v (.string ⟨⟨magB v2.r.num.natAbs⟩⟩)), .c (.v (.bool false)), .c (.v (.string ⟨⟨denB v2.r.den⟩⟩)), .c (.v (.bool v2.neg))]
 let x4 : List AV := .c (.v (.bool (decide (v1.y0.num < 0)))) :: .c (.v (.string ⟨⟨magB v1.y0.num.natAbs⟩⟩)) :: .c (.v (.bool false)) :: .c (.v (.string ⟨⟨denB v1.y0.den⟩⟩)) :: .c (.v (.bool (decide (v1.y1.num < 0)))) :: .c (.v (.string ⟨⟨magB v1.y1.num.natAbs⟩⟩)) :: .c (.v (.bool false)) :: .c (.v (.string ⟨⟨denB v1.y1.den⟩⟩)) :: x1
 let x5 : Int := (hold (red0 (quadV x2) (realV x3))).num
 let x6 : Int := (hold (red1 (quadV x2) (realV x3))).num
 let x7 : Int := (hold (red0 (quadV x4) (realV x3))).num
 let x8 : Int := (hold (red1 (quadV x4) (realV x3))).num
 .need (quadOk x2) (.need (realOk x3) (.need (fitRed (quadV x2) (realV x3)) (.need (quadOk x4) (.need (realOk x3) (.need (fitRed (quadV x4) (realV x3)) (.ret (AV.agg [.c (.v (.bool (decide (x5 < 0)))), .c (.v (.string ⟨⟨magB x5.natAbs⟩⟩)), .c (.v (.bool false)), .c (.v (.string ⟨⟨denB (hold (red0 (quadV x2) (realV x3))).den⟩⟩)), .c (.v (.bool (decide (x6 < 0)))), .c (.v (.string ⟨⟨magB x6.natAbs⟩⟩)), .c (.v (.bool false)), .c (.v (.string ⟨⟨denB (hold (red1 (quadV x2) (realV x3))).den⟩⟩)), .c (.v (.bool (decide (x7 < 0)))), .c (.v (.string ⟨⟨magB x7.natAbs⟩⟩)), .c (.v (.bool false)), .c (.v (.string ⟨⟨denB (hold (red0 (quadV x4) (realV x3))).den⟩⟩)), .c (.v (.bool (decide (x8 < 0)))), .c (.v (.string ⟨⟨magB x8.natAbs⟩⟩)), .c (.v (.bool false)), .c (.v (.string ⟨⟨denB (hold (red1 (quadV x4) (realV x3))).den⟩⟩))])))))))
def M26 (v1 : L4) (v2 : L4) : Tr AV :=
 let x1 : List Bool := [false == false]
 .ret (.c (.v (.bool (andAll [andAll [andAll ((denB v1.y1.den == denB v2.y1.den) :: x1).reverse, andAll [magB v1.y1.num.natAbs == magB v2.y1.num.natAbs, decide (v1.y1.num < 0) == decide (v2.y1.num < 0)].reverse].reverse, andAll [andAll ((denB v1.y0.den == denB v2.y0.den) :: x1).reverse, andAll [magB v1.y0.num.natAbs == magB v2.y0.num.natAbs, decide (v1.y0.num < 0) == decide (v2.y0.num < 0)].reverse].reverse, andAll [andAll ((denB v1.x1.den == denB v2.x1.den) :: x1).reverse, andAll [magB v1.x1.num.natAbs == magB v2.x1.num.natAbs, decide (v1.x1.num < 0) == decide (v2.x1.num < 0)].reverse].reverse, andAll [andAll ((denB v1.x0.den == denB v2.x0.den) :: x1).reverse, andAll [magB v1.x0.num.natAbs == magB v2.x0.num.natAbs, decide (v1.x0.num < 0) == decide (v2.x0.num < 0)].reverse].reverse].reverse))))
def M54 (v1 : Rat) : Tr AV :=
 let x1 : List UInt8 := magB v1.num.natAbs
 let x2 : ByteArray := ⟨⟨x1⟩⟩
 let x3 : ByteArray := ⟨⟨denB v1.den⟩⟩
 let x4 : Int := iv false x3
 let x5 : List UInt8 := magB (Int.natAbs 1)
 let x6 : Int := sgn x4 (iv (decide ((1 : Int) < 0)) ⟨⟨x5⟩⟩)
 let x7 : Int := ↑((iv (decide (v1.num < 0)) x2).gcd x4)
 .need (bif (if okI (decide (v1.num < 0)) x2 = true then (0 : Int) else 5) != 0 then true else true) (.ite (bif (if okI (decide (v1.num < 0)) x2 = true then (0 : Int) else 5) != 0 then true else bif false then true else (if okI false x3 = true then (0 : Int) else 5) != 0) (.ret (.c (.v (.int IntKind.i64 5)))) (.ite (andAll [denB v1.den == [], false == false].reverse) (.ret (.c (.v (.int IntKind.i64 0)))) (.need (okI false x3) (.need true (.need (bif decide (x6 ≤ 0) then true else okI (decide (v1.num < 0)) x2 && (okI false x3 && (decide (x1.length ≤ 8) && (decide ((denB v1.den).length ≤ 8) && true)))) (.ite (bif decide (x6 ≤ 0) then true else bif false then true else !andAll [magB x7.natAbs == x5, decide (x7 < 0) == decide ((1 : Int) < 0)].reverse) (.ret (.c (.v (.int IntKind.i64 5)))) (.ret (.c (.v (.int IntKind.i64 0))))))))))
def M8 (n : Int) : Tr AV :=
 .need (decide (-9223372036854775808 ≤ n)) (.need (decide (n ≤ 9223372036854775807)) (.ret (AV.agg [.c (.v (.bool (decide (n < 0)))), .c (.v (.string ⟨⟨magB n.natAbs⟩⟩)), .c (.v (.bool false)), .c (.v (.string ⟨⟨denB 1⟩⟩))])))
def M7 (n : Int) : Tr AV :=
 .need (decide (-9223372036854775808 ≤ n)) (.need (decide (n ≤ 9223372036854775807)) (.ret (AV.agg [.c (.v (.bool (decide (n < 0)))), .c (.v (.string ⟨⟨magB n.natAbs⟩⟩)), .c (.v (.bool false)), .c (.v (.string ⟨⟨denB 1⟩⟩)), .c (.v (.bool false)), .c (.v (.string { data := #[] })), .c (.v (.bool false)), .c (.v (.string { data := #[] })), .c (.v (.bool false))])))
def M17 (p : Int) (q : Int) (r : Int) (s : Int) (a : Int) (b : Int) : Tr AV :=
 let x1 : List AV := [.c (.v (.bool false)), .c (.v (.string ⟨⟨denB 1⟩⟩))]
 let x2 : List AV := .c (.v (.bool (decide (a < 0)))) :: .c (.v (.string ⟨⟨magB a.natAbs⟩⟩)) :: x1
 let x3 : List AV := .c (.v (.bool (decide (IntKind.i64.wrap p < 0)))) :: .c (.v (.string ⟨⟨magB (IntKind.i64.wrap p).natAbs⟩⟩)) :: x1
 let x4 : List AV := .c (.v (.bool (decide (b < 0)))) :: .c (.v (.string ⟨⟨magB b.natAbs⟩⟩)) :: x1
 let x5 : List AV := .c (.v (.bool (decide (IntKind.i64.wrap r < 0)))) :: .c (.v (.string ⟨⟨magB (IntKind.i64.wrap r).natAbs⟩⟩)) :: x1
 let x6 : List AV := .c (.v (.bool (decide (IntKind.i64.wrap q < 0)))) :: .c (.v (.string ⟨⟨magB (IntKind.i64.wrap q).natAbs⟩⟩)) :: x1
 let x7 : List AV := .c (.v (.bool (decide (IntKind.i64.wrap s < 0)))) :: .c (.v (.string ⟨⟨magB (IntKind.i64.wrap s).natAbs⟩⟩)) :: x1
 let x8 : Int := (hold (ratV x3 - slopeB (ratV x2) (ratV x3) (ratV x4) (ratV x5) * ratV x2)).num
 let x9 : Int := (hold (slopeB (ratV x2) (ratV x3) (ratV x4) (ratV x5))).num
 let x10 : Int := (hold (ratV x6 - slopeB (ratV x2) (ratV x6) (ratV x4) (ratV x7) * ratV x2)).num
 let x11 : Int := (hold (slopeB (ratV x2) (ratV x6) (ratV x4) (ratV x7))).num
 .need (decide (-9223372036854775808 ≤ a)) (.need (decide (a ≤ 9223372036854775807)) (.need (decide (-9223372036854775808 ≤ IntKind.i64.wrap p)) (.need (decide (IntKind.i64.wrap p ≤ 9223372036854775807)) (.need (decide (-9223372036854775808 ≤ b)) (.need (decide (b ≤ 9223372036854775807)) (.need (decide (-9223372036854775808 ≤ IntKind.i64.wrap r)) (.need (decide (IntKind.i64.wrap r ≤ 9223372036854775807)) (.need (ratOk x2) (.need (ratOk x3) (.need (ratOk x4) (.need (ratOk x5) (.need (fitBet (ratV x2) (ratV x3) (ratV x4) (ratV x5)) (.need (decide (-9223372036854775808 ≤ a)) (.need (decide (a ≤ 9223372036854775807)) (.need (decide (-9223372036854775808 ≤ IntKind.i64.wrap q)) (.need (decide (IntKind.i64.wrap q ≤ 9223372036854775807)) (.need (decide (-9223372036854775808 ≤ b)) (.need (decide (b ≤ 9223372036854775807)) (.need (decide (-9223372036854775808 ≤ IntKind.i64.wrap s)) (.need (decide (IntKind.i64.wrap s ≤ 9223372036854775807)) (.need (ratOk x2) (.need (ratOk x6) (.need (ratOk x4) (.need (ratOk x7) (.need (fitBet (ratV x2) (ratV x6) (ratV x4) (ratV x7)) (.ret (AV.agg [.c (.v (.bool (decide (x8 < 0)))), .c (.v (.string ⟨⟨magB x8.natAbs⟩⟩)), .c (.v (.bool false)), .c (.v (.string ⟨⟨denB (hold (ratV x3 - slopeB (ratV x2) (ratV x3) (ratV x4) (ratV x5) * ratV x2)).den⟩⟩)), .c (.v (.bool (decide (x9 < 0)))), .c (.v (.string ⟨⟨magB x9.natAbs⟩⟩)), .c (.v (.bool false)), .c (.v (.string ⟨⟨denB (hold (slopeB (ratV x2) (ratV x3) (ratV x4) (ratV x5))).den⟩⟩)), .c (.v (.bool (decide (x10 < 0)))), .c (.v (.string ⟨⟨magB x10.natAbs⟩⟩)), .c (.v (.bool false)), .c (.v (.string ⟨⟨denB (hold (ratV x6 - slopeB (ratV x2) (ratV x6) (ratV x4) (ratV x7) * ratV x2)).den⟩⟩)), .c (.v (.bool (decide (x11 < 0)))), .c (.v (.string ⟨⟨magB x11.natAbs⟩⟩)), .c (.v (.bool false)), .c (.v (.string ⟨⟨denB (hold (slopeB (ratV x2) (ratV x6) (ratV x4) (ratV x7))).den⟩⟩))])))))))))))))))))))))))))))
theorem M21_eq (v1 : L4) : execFn Tryz.prog (concΓ Tryz.prog Γb21 70 2) noL 1010 Tryz.f21 [.agg (lineCells v1)] = M21 v1 := by kernel_rfl
theorem M22_eq (v1 : L4) : execFn Tryz.prog (concΓ Tryz.prog Γb22 70 2) noL 1010 Tryz.f22 [.agg (lineCells v1)] = M22 v1 := by kernel_rfl
theorem M10_eq (v1 : L4) (v2 : L4) (v3 : R3) : execFn Tryz.prog Γ10 noL 1010 Tryz.f10 [.agg (lineCells v1), .agg (lineCells v2), .agg (realCells v3)] = M10 v1 v2 v3 := by kernel_rfl
theorem M11_eq (v1 : L4) (v2 : L4) (v3 : R3) : execFn Tryz.prog Γ11 noL 1010 Tryz.f11 [.agg (lineCells v1), .agg (lineCells v2), .agg (realCells v3)] = M11 v1 v2 v3 := by kernel_rfl
theorem M25_eq (v1 : L4) (v2 : L4) (v3 : R3) : execFn Tryz.prog (concΓ Tryz.prog Γb25 70 3) noL 1010 Tryz.f25 [.agg [], .agg (lineCells v1), .agg (lineCells v2), .agg (realCells v3)] = M25 v1 v2 v3 := by kernel_rfl
theorem M29_eq (v1 : L4) (v2 : R3) : execFn Tryz.prog (concΓ Tryz.prog Γb29 70 3) noL 1010 Tryz.f29 [.agg [], .agg (lineCells v1), .agg (realCells v2)] = M29 v1 v2 := by kernel_rfl
theorem M26_eq (v1 : L4) (v2 : L4) : execFn Tryz.prog (fun _ => none) noL 1010 Tryz.f26 [.agg [], .agg (lineCells v1), .agg (lineCells v2)] = M26 v1 v2 := by kernel_rfl
theorem M54_eq (v1 : Rat) : execFn Tryz.prog Γ54 noL 1010 Tryz.f54 [.agg (ratCells v1)] = M54 v1 := by kernel_rfl
theorem M8_eq (n : Int) : execFn Tryz.prog Γ8 noL 1010 Tryz.f8 [.c (.v (.int .i64 n))] = M8 n := by kernel_rfl
theorem M7_eq (n : Int) : execFn Tryz.prog Γ7 noL 1010 Tryz.f7 [.c (.v (.int .i64 n))] = M7 n := by kernel_rfl
theorem M17_eq (p q r s a b : Int) : execFn Tryz.prog Γ17 noL 1010 Tryz.f17 [.agg [.c (.v (.int .i8 p)), .c (.v (.int .i8 q)), .c (.v (.int .i8 r)), .c (.v (.int .i8 s))], .c (.v (.int .i64 a)), .c (.v (.int .i64 b))] = M17 p q r s a b := by kernel_rfl
theorem M21_sat (v1 : L4)  : (M21 v1).sat fun r => r = quadA (xZ v1) := by
 obtain ⟨a, b, c, d⟩ := v1
 simp only [M21, xZ_eq, xQ]
 refine sat_ret ?_
 simp only [quadA, quadCells, cells0]
 rfl
theorem M22_sat (v1 : L4)  : (M22 v1).sat fun r => r = quadA (yZ v1) := by
 obtain ⟨a, b, c, d⟩ := v1
 simp only [M22, yZ_eq, yQ]
 refine sat_ret ?_
 simp only [quadA, quadCells, cells0]
 rfl
theorem M10_sat (v1 : L4) (v2 : L4) (v3 : R3) (c1 : lbB v1 = true) (c2 : lbB v2 = true) (c3 : tbB v3 = true) : (M10 v1 v2 v3).sat fun r => r = intA .i64 (sgnL (xQ v1) (xQ v2) v3) := by
 obtain ⟨h1, h2⟩ := lx_sub c1 c2
 have h3 := lin_fitAt h1 c3
 have h4 := lin_fitSign h1 c3
 obtain ⟨a, b, c, d⟩ := v1
 obtain ⟨a', b', c', d'⟩ := v2
 obtain ⟨p, r, neg⟩ := v3
 simp only [xQ, subQ] at h2 h3 h4
 simp only [M10, ratV_lit, ratOk_lit, quadV_lit, quadOk_lit, realV_lit, realOk_lit, lineV_lit, lineOk_lit, ratV_int, ratOk_int, ratV_zero, ratOk_zero, ratV_zero', ratOk_zero', boolV_lit, List.take_succ_cons, List.take_zero, List.drop_succ_cons, List.drop_zero, hold_eq, Bool.and_self, rat_test0, rat_test, sat_true, ratV_int1, ratOk_int1, xZ, zr_eq, h2, h3, h4]
 exact sat_ret rfl
theorem M11_sat (v1 : L4) (v2 : L4) (v3 : R3) (c1 : lbB v1 = true) (c2 : lbB v2 = true) (c3 : tbB v3 = true) : (M11 v1 v2 v3).sat fun r => r = intA .i64 (sgnL (yQ v1) (yQ v2) v3) := by
 obtain ⟨h1, h2⟩ := ly_sub c1 c2
 have h3 := lin_fitAt h1 c3
 have h4 := lin_fitSign h1 c3
 obtain ⟨a, b, c, d⟩ := v1
 obtain ⟨a', b', c', d'⟩ := v2
 obtain ⟨p, r, neg⟩ := v3
 simp only [yQ, subQ] at h2 h3 h4
 simp only [M11, ratV_lit, ratOk_lit, quadV_lit, quadOk_lit, realV_lit, realOk_lit, lineV_lit, lineOk_lit, ratV_int, ratOk_int, ratV_zero, ratOk_zero, ratV_zero', ratOk_zero', boolV_lit, List.take_succ_cons, List.take_zero, List.drop_succ_cons, List.drop_zero, hold_eq, Bool.and_self, rat_test0, rat_test, sat_true, ratV_int1, ratOk_int1, yZ, zr_eq, h2, h3, h4]
 exact sat_ret rfl
theorem M25_sat (v1 : L4) (v2 : L4) (v3 : R3) (c1 : lbB v1 = true) (c2 : lbB v2 = true) (c3 : tbB v3 = true) : (M25 v1 v2 v3).sat fun r => r = boolA (sameQ (xQ v1) (xQ v2) v3 && sameQ (yQ v1) (yQ v2) v3) := by
 obtain ⟨h1, h2⟩ := lx_sub c1 c2
 obtain ⟨k1, k2⟩ := ly_sub c1 c2
 have h3 := lin_fitRed h1.c0 h1.c1 h1.c2 c3
 have k3 := lin_fitRed k1.c0 k1.c1 k1.c2 c3
 obtain ⟨a, b, c, d⟩ := v1
 obtain ⟨a', b', c', d'⟩ := v2
 obtain ⟨p, r, neg⟩ := v3
 simp only [xQ, yQ] at h2 h3 k2 k3
 simp only [M25, ratV_lit, ratOk_lit, quadV_lit, quadOk_lit, realV_lit, realOk_lit, lineV_lit, lineOk_lit, ratV_int, ratOk_int, ratV_zero, ratOk_zero, ratV_zero', ratOk_zero', boolV_lit, List.take_succ_cons, List.take_zero, List.drop_succ_cons, List.drop_zero, hold_eq, Bool.and_self, rat_test0, rat_test, sat_true, ratV_int1, ratOk_int1, h2, h3, k2, k3]
 refine sat_need ?_ (sat_ret ?_)
 · cases (decide (red0 (subQ ⟨a, b, 0⟩ ⟨a', b', 0⟩) ⟨p, r, neg⟩ = 0) && decide (red1 (subQ ⟨a, b, 0⟩ ⟨a', b', 0⟩) ⟨p, r, neg⟩ = 0)) <;> rfl
 · rw [bif_and]
   rfl
theorem M29_sat (v1 : L4) (v2 : R3) (c1 : lbB v1 = true) (c2 : tbB v2 = true) : (M29 v1 v2).sat fun r => r = lineA ⟨hold (red0 (xQ v1) v2), hold (red1 (xQ v1) v2), hold (red0 (yQ v1) v2), hold (red1 (yQ v1) v2)⟩ := by
 obtain ⟨h1, h2, h3, h4⟩ := lb_all c1
 have f1 := lin_fitRed (q := xQ v1) (h1.mono (by decide) (by decide)) (h2.mono (by decide) (by decide)) rfl c2
 have f2 := lin_fitRed (q := yQ v1) (h3.mono (by decide) (by decide)) (h4.mono (by decide) (by decide)) rfl c2
 obtain ⟨a, b, c, d⟩ := v1
 obtain ⟨p, r, neg⟩ := v2
 simp only [xQ, yQ] at f1 f2
 simp only [M29, ratV_lit, ratOk_lit, quadV_lit, quadOk_lit, realV_lit, realOk_lit, lineV_lit, lineOk_lit, ratV_int, ratOk_int, ratV_zero, ratOk_zero, ratV_zero', ratOk_zero', boolV_lit, List.take_succ_cons, List.take_zero, List.drop_succ_cons, List.drop_zero, hold_eq, Bool.and_self, rat_test0, rat_test, sat_true, ratV_int1, ratOk_int1, f1, f2, xQ, yQ]
 exact sat_ret rfl
theorem M26_sat (v1 : L4) (v2 : L4)  : (M26 v1 v2).sat fun r => r = boolA (eqL v1 v2) := by
 obtain ⟨a, b, c, d⟩ := v1
 obtain ⟨a', b', c', d'⟩ := v2
 simp only [M26, rat_test]
 exact sat_ret rfl
theorem M54_sat (v1 : Rat) (c1 : w64 v1.num = true) (c2 : w64 v1.den = true) : (M54 v1).sat fun r => r = intA .i64 0 := by
 have h0 := v1.den_nz
 simp only [M54, okI_form, okI_den, iv_form, denB_nil _ h0]
 refine sat_need rfl (sat_ite (fun h => by cases h) (fun _ => sat_ite (fun h => sat_ret rfl) (fun h => ?_)))
 have hd : v1.den ≠ 1 := by
   intro hh
   rw [show (andAll [decide (v1.den = 1), false == false].reverse) = decide (v1.den = 1) by simp [andAll], decide_eq_true hh] at h
   cases h
 have e1 : denB v1.den = magB v1.den := by
   unfold denB
   rw [nbeq hd]; rfl
 have e2 : iv false ⟨⟨denB v1.den⟩⟩ = (v1.den : Int) := by
   rw [e1]
   show ((magN (magB v1.den) : Nat) : Int) = _
   rw [magN_magB]
 have e3 : Int.gcd v1.num (v1.den : Int) = 1 := v1.reduced
 have e4 : decide (sgn (v1.den : Int) 1 ≤ 0) = false := by
   refine decide_eq_false ?_
   unfold sgn
   have : 0 < v1.den := v1.den_pos
   rw [if_neg (by omega), if_pos (by omega)]
   omega
 have hi : iv (decide ((1 : Int) < 0)) ⟨⟨magB (Int.natAbs 1)⟩⟩ = 1 := iv_form 1
 have l1 : decide ((magB v1.num.natAbs).length ≤ 8) = true := len88 c1
 have l2 : decide ((denB v1.den).length ≤ 8) = true := by
   rw [e1]
   have := len88 c2
   rw [Int.natAbs_natCast] at this
   exact this
 simp only [e2, e3, hi, e4, l1, l2, Bool.and_self, sat_true, cond_false, eqI_cells]
 refine sat_ite (fun hh => ?_) (fun _ => sat_ret rfl)
 simp at hh
theorem M8_sat (n : Int) (h1 : -9223372036854775808 ≤ n) (h2 : n ≤ 9223372036854775807) : (M8 n).sat fun r => r = ratA (n : Rat) := sat_need (decide_eq_true h1) (sat_need (decide_eq_true h2) (sat_ret rfl))
theorem M7_sat (n : Int) (h1 : -9223372036854775808 ≤ n) (h2 : n ≤ 9223372036854775807) : (M7 n).sat fun r => r = .agg (ratCells (n : Rat) ++ (litZ ++ [.c (.v (.bool false))])) := sat_need (decide_eq_true h1) (sat_need (decide_eq_true h2) (sat_ret rfl))
theorem i8B_iff {p : Int} : i8B p = true ↔ -128 ≤ p ∧ p ≤ 127 := by simp [i8B]
theorem M17_sat (p q r s a b : Int) (hp : i8B p = true) (hq : i8B q = true) (hr : i8B r = true) (hs : i8B s = true) (a0 : 0 ≤ a) (a7 : a ≤ 7) (ab : a < b) (b4 : b ≤ a + 4) :
   (M17 p q r s a b).sat fun z => z = lineA ⟨hold (lineOf p q r s a b).x0, hold (lineOf p q r s a b).x1, hold (lineOf p q r s a b).y0, hold (lineOf p q r s a b).y1⟩ := by
 rw [i8B_iff] at hp hq hr hs
 have f1 := (slope_bnd hp hr ⟨a0, a7⟩ ⟨ab, b4⟩).1
 have f2 := (slope_bnd hq hs ⟨a0, a7⟩ ⟨ab, b4⟩).1
 have w : ∀ z : Int, -128 ≤ z ∧ z ≤ 127 → IntKind.i64.wrap z = z := fun z hz => wrap_i64 (by omega)
 have lo : ∀ z : Int, -128 ≤ z ∧ z ≤ 127 → decide (-9223372036854775808 ≤ z) = true := fun z hz => decide_eq_true (by omega)
 have hi : ∀ z : Int, -128 ≤ z ∧ z ≤ 127 → decide (z ≤ 9223372036854775807) = true := fun z hz => decide_eq_true (by omega)
 simp only [M17, w p hp, w q hq, w r hr, w s hs, lo p hp, lo q hq, lo r hr, lo s hs, lo a (by omega), lo b (by omega), hi p hp, hi q hq, hi r hr, hi s hs, hi a (by omega), hi b (by omega), ratV_lit, ratOk_lit, quadV_lit, quadOk_lit, realV_lit, realOk_lit, lineV_lit, lineOk_lit, ratV_int, ratOk_int, ratV_zero, ratOk_zero, ratV_zero', ratOk_zero', boolV_lit, List.take_succ_cons, List.take_zero, List.drop_succ_cons, List.drop_zero, hold_eq, Bool.and_self, rat_test0, rat_test, sat_true, ratV_int1, ratOk_int1, f1, f2]
 exact sat_ret rfl
theorem Γb21_ok : ∀ f s, Γb21 f = some s → SpecOk Tryz.prog f s := one_ok f18_ok.spec
theorem f21_ok : PureOk Tryz.prog 21 K21 := by
 refine pureOk_of_exec prog_mixed (concΓ_ok (N := 70) prog_mixed Γb21_ok 2) (fn := Tryz.f21) (c := codeOf Tryz.f21) (by kernel_rfl) (by kernel_rfl) (callFunc_enter (fn := Tryz.f21) (c := codeOf Tryz.f21) (by kernel_rfl) (by kernel_rfl) (by kernel_rfl)) (L := noL) (N := 1010) (blocksOk_none _ _) ?_ ?_
 · intro args v cs h
   unfold K21 at h
   split at h
   · cases h; rfl
   · cases h
 · intro args v cs h hc
   unfold K21 at h
   split at h
   · rename_i l1
     cases h
     have h1 : lineOk l1 = true := hc (lineOk l1) (by simp)
     obtain ⟨v1, rfl⟩ : ∃ x, l1 = lineCells x := ⟨_, lineOk_eq h1⟩
     try simp only [lineV_cells] at *
     have hs := M21_sat v1
     rw [← M21_eq] at hs
     generalize execFn Tryz.prog (concΓ Tryz.prog Γb21 70 2) noL 1010 Tryz.f21 [.agg (lineCells v1)] = T at hs ⊢
     generalize xZ v1 = z at hs ⊢
     exact Tr.sat_mono (fun r hr => ⟨by subst hr; rfl, Sees.of_eq hr⟩) hs
   · cases h
theorem Γb22_ok : ∀ f s, Γb22 f = some s → SpecOk Tryz.prog f s := one_ok f18_ok.spec
theorem f22_ok : PureOk Tryz.prog 22 K22 := by
 refine pureOk_of_exec prog_mixed (concΓ_ok (N := 70) prog_mixed Γb22_ok 2) (fn := Tryz.f22) (c := codeOf Tryz.f22) (by kernel_rfl) (by kernel_rfl) (callFunc_enter (fn := Tryz.f22) (c := codeOf Tryz.f22) (by kernel_rfl) (by kernel_rfl) (by kernel_rfl)) (L := noL) (N := 1010) (blocksOk_none _ _) ?_ ?_
 · intro args v cs h
   unfold K22 at h
   split at h
   · cases h; rfl
   · cases h
 · intro args v cs h hc
   unfold K22 at h
   split at h
   · rename_i l1
     cases h
     have h1 : lineOk l1 = true := hc (lineOk l1) (by simp)
     obtain ⟨v1, rfl⟩ : ∃ x, l1 = lineCells x := ⟨_, lineOk_eq h1⟩
     try simp only [lineV_cells] at *
     have hs := M22_sat v1
     rw [← M22_eq] at hs
     generalize execFn Tryz.prog (concΓ Tryz.prog Γb22 70 2) noL 1010 Tryz.f22 [.agg (lineCells v1)] = T at hs ⊢
     generalize yZ v1 = z at hs ⊢
     exact Tr.sat_mono (fun r hr => ⟨by subst hr; rfl, Sees.of_eq hr⟩) hs
   · cases h
theorem Γ10_ok : ∀ f s, Γ10 f = some s → SpecOk Tryz.prog f s := step_ok f21_ok.spec (step_ok f20_ok.spec (one_ok f19_ok.spec))
theorem f10_ok : PureOk Tryz.prog 10 K10 := by
 refine pureOk_of_exec prog_mixed Γ10_ok (fn := Tryz.f10) (c := codeOf Tryz.f10) (by kernel_rfl) (by kernel_rfl) (callFunc_enter (fn := Tryz.f10) (c := codeOf Tryz.f10) (by kernel_rfl) (by kernel_rfl) (by kernel_rfl)) (L := noL) (N := 1010) (blocksOk_none _ _) ?_ ?_
 · intro args v cs h
   unfold K10 at h
   split at h
   · cases h; rfl
   · cases h
 · intro args v cs h hc
   unfold K10 at h
   split at h
   · rename_i l1 l2 l3
     cases h
     have h1 : lineOk l1 = true := hc (lineOk l1) (by simp)
     have h2 : lineOk l2 = true := hc (lineOk l2) (by simp)
     have h3 : realOk l3 = true := hc (realOk l3) (by simp)
     have c1 : lbB (lineV l1) = true := hc (lbB (lineV l1)) (by simp)
     have c2 : lbB (lineV l2) = true := hc (lbB (lineV l2)) (by simp)
     have c3 : tbB (realV l3) = true := hc (tbB (realV l3)) (by simp)
     obtain ⟨v1, rfl⟩ : ∃ x, l1 = lineCells x := ⟨_, lineOk_eq h1⟩
     obtain ⟨v2, rfl⟩ : ∃ x, l2 = lineCells x := ⟨_, lineOk_eq h2⟩
     obtain ⟨v3, rfl⟩ : ∃ x, l3 = realCells x := ⟨_, realOk_eq h3⟩
     try simp only [lineV_cells, realV_cells] at *
     have hs := M10_sat v1 v2 v3 c1 c2 c3
     rw [← M10_eq] at hs
     generalize execFn Tryz.prog Γ10 noL 1010 Tryz.f10 [.agg (lineCells v1), .agg (lineCells v2), .agg (realCells v3)] = T at hs ⊢
     generalize sgnL (xQ v1) (xQ v2) v3 = z at hs ⊢
     exact Tr.sat_mono (fun r hr => ⟨by subst hr; rfl, Sees.of_eq hr⟩) hs
   · cases h
theorem Γ11_ok : ∀ f s, Γ11 f = some s → SpecOk Tryz.prog f s := step_ok f22_ok.spec (step_ok f20_ok.spec (one_ok f19_ok.spec))
theorem f11_ok : PureOk Tryz.prog 11 K11 := by
 refine pureOk_of_exec prog_mixed Γ11_ok (fn := Tryz.f11) (c := codeOf Tryz.f11) (by kernel_rfl) (by kernel_rfl) (callFunc_enter (fn := Tryz.f11) (c := codeOf Tryz.f11) (by kernel_rfl) (by kernel_rfl) (by kernel_rfl)) (L := noL) (N := 1010) (blocksOk_none _ _) ?_ ?_
 · intro args v cs h
   unfold K11 at h
   split at h
   · cases h; rfl
   · cases h
 · intro args v cs h hc
   unfold K11 at h
   split at h
   · rename_i l1 l2 l3
     cases h
     have h1 : lineOk l1 = true := hc (lineOk l1) (by simp)
     have h2 : lineOk l2 = true := hc (lineOk l2) (by simp)
     have h3 : realOk l3 = true := hc (realOk l3) (by simp)
     have c1 : lbB (lineV l1) = true := hc (lbB (lineV l1)) (by simp)
     have c2 : lbB (lineV l2) = true := hc (lbB (lineV l2)) (by simp)
     have c3 : tbB (realV l3) = true := hc (tbB (realV l3)) (by simp)
     obtain ⟨v1, rfl⟩ : ∃ x, l1 = lineCells x := ⟨_, lineOk_eq h1⟩
     obtain ⟨v2, rfl⟩ : ∃ x, l2 = lineCells x := ⟨_, lineOk_eq h2⟩
     obtain ⟨v3, rfl⟩ : ∃ x, l3 = realCells x := ⟨_, realOk_eq h3⟩
     try simp only [lineV_cells, realV_cells] at *
     have hs := M11_sat v1 v2 v3 c1 c2 c3
     rw [← M11_eq] at hs
     generalize execFn Tryz.prog Γ11 noL 1010 Tryz.f11 [.agg (lineCells v1), .agg (lineCells v2), .agg (realCells v3)] = T at hs ⊢
     generalize sgnL (yQ v1) (yQ v2) v3 = z at hs ⊢
     exact Tr.sat_mono (fun r hr => ⟨by subst hr; rfl, Sees.of_eq hr⟩) hs
   · cases h
theorem Γb25_ok : ∀ f s, Γb25 f = some s → SpecOk Tryz.prog f s := one_ok f49_ok.spec
theorem f25_ok : PureOk Tryz.prog 25 K25 := by
 refine pureOk_of_exec prog_mixed (concΓ_ok (N := 70) prog_mixed Γb25_ok 3) (fn := Tryz.f25) (c := codeOf Tryz.f25) (by kernel_rfl) (by kernel_rfl) (callFunc_enter (fn := Tryz.f25) (c := codeOf Tryz.f25) (by kernel_rfl) (by kernel_rfl) (by kernel_rfl)) (L := noL) (N := 1010) (blocksOk_none _ _) ?_ ?_
 · intro args v cs h
   unfold K25 at h
   split at h
   · cases h; rfl
   · cases h
 · intro args v cs h hc
   unfold K25 at h
   split at h
   · rename_i l1 l2 l3
     cases h
     have h1 : lineOk l1 = true := hc (lineOk l1) (by simp)
     have h2 : lineOk l2 = true := hc (lineOk l2) (by simp)
     have h3 : realOk l3 = true := hc (realOk l3) (by simp)
     have c1 : lbB (lineV l1) = true := hc (lbB (lineV l1)) (by simp)
     have c2 : lbB (lineV l2) = true := hc (lbB (lineV l2)) (by simp)
     have c3 : tbB (realV l3) = true := hc (tbB (realV l3)) (by simp)
     obtain ⟨v1, rfl⟩ : ∃ x, l1 = lineCells x := ⟨_, lineOk_eq h1⟩
     obtain ⟨v2, rfl⟩ : ∃ x, l2 = lineCells x := ⟨_, lineOk_eq h2⟩
     obtain ⟨v3, rfl⟩ : ∃ x, l3 = realCells x := ⟨_, realOk_eq h3⟩
     try simp only [lineV_cells, realV_cells] at *
     have hs := M25_sat v1 v2 v3 c1 c2 c3
     rw [← M25_eq] at hs
     generalize execFn Tryz.prog (concΓ Tryz.prog Γb25 70 3) noL 1010 Tryz.f25 [.agg [], .agg (lineCells v1), .agg (lineCells v2), .agg (realCells v3)] = T at hs ⊢
     generalize (sameQ (xQ v1) (xQ v2) v3 && sameQ (yQ v1) (yQ v2) v3) = z at hs ⊢
     exact Tr.sat_mono (fun r hr => ⟨by subst hr; rfl, Sees.of_eq hr⟩) hs
   · cases h
theorem Γb29_ok : ∀ f s, Γb29 f = some s → SpecOk Tryz.prog f s := one_ok f51_ok.spec
theorem f29_ok : PureOk Tryz.prog 29 K29 := by
 refine pureOk_of_exec prog_mixed (concΓ_ok (N := 70) prog_mixed Γb29_ok 3) (fn := Tryz.f29) (c := codeOf Tryz.f29) (by kernel_rfl) (by kernel_rfl) (callFunc_enter (fn := Tryz.f29) (c := codeOf Tryz.f29) (by kernel_rfl) (by kernel_rfl) (by kernel_rfl)) (L := noL) (N := 1010) (blocksOk_none _ _) ?_ ?_
 · intro args v cs h
   unfold K29 at h
   split at h
   · cases h; rfl
   · cases h
 · intro args v cs h hc
   unfold K29 at h
   split at h
   · rename_i l1 l2
     cases h
     have h1 : lineOk l1 = true := hc (lineOk l1) (by simp)
     have h2 : realOk l2 = true := hc (realOk l2) (by simp)
     have c1 : lbB (lineV l1) = true := hc (lbB (lineV l1)) (by simp)
     have c2 : tbB (realV l2) = true := hc (tbB (realV l2)) (by simp)
     obtain ⟨v1, rfl⟩ : ∃ x, l1 = lineCells x := ⟨_, lineOk_eq h1⟩
     obtain ⟨v2, rfl⟩ : ∃ x, l2 = realCells x := ⟨_, realOk_eq h2⟩
     try simp only [lineV_cells, realV_cells] at *
     have hs := M29_sat v1 v2 c1 c2
     rw [← M29_eq] at hs
     generalize execFn Tryz.prog (concΓ Tryz.prog Γb29 70 3) noL 1010 Tryz.f29 [.agg [], .agg (lineCells v1), .agg (realCells v2)] = T at hs ⊢
     generalize hold (red0 (xQ v1) v2) = z0 at hs ⊢
     generalize hold (red1 (xQ v1) v2) = z1 at hs ⊢
     generalize hold (red0 (yQ v1) v2) = z2 at hs ⊢
     generalize hold (red1 (yQ v1) v2) = z3 at hs ⊢
     exact Tr.sat_mono (fun r hr => ⟨by subst hr; rfl, Sees.of_eq hr⟩) hs
   · cases h
theorem f26_ok : PureOk Tryz.prog 26 K26 := by
 refine pureOk_of_exec prog_mixed noΓ_ok (fn := Tryz.f26) (c := codeOf Tryz.f26) (by kernel_rfl) (by kernel_rfl) (callFunc_enter (fn := Tryz.f26) (c := codeOf Tryz.f26) (by kernel_rfl) (by kernel_rfl) (by kernel_rfl)) (L := noL) (N := 1010) (blocksOk_none _ _) ?_ ?_
 · intro args v cs h
   unfold K26 at h
   split at h
   · cases h; rfl
   · cases h
 · intro args v cs h hc
   unfold K26 at h
   split at h
   · rename_i l1 l2
     cases h
     have h1 : lineOk l1 = true := hc (lineOk l1) (by simp)
     have h2 : lineOk l2 = true := hc (lineOk l2) (by simp)
     obtain ⟨v1, rfl⟩ : ∃ x, l1 = lineCells x := ⟨_, lineOk_eq h1⟩
     obtain ⟨v2, rfl⟩ : ∃ x, l2 = lineCells x := ⟨_, lineOk_eq h2⟩
     try simp only [lineV_cells] at *
     have hs := M26_sat v1 v2
     rw [← M26_eq] at hs
     generalize execFn Tryz.prog (fun _ => none) noL 1010 Tryz.f26 [.agg [], .agg (lineCells v1), .agg (lineCells v2)] = T at hs ⊢
     generalize eqL v1 v2 = z at hs ⊢
     exact Tr.sat_mono (fun r hr => ⟨by subst hr; rfl, Sees.of_eq hr⟩) hs
   · cases h
theorem Γ54_ok : ∀ f s, Γ54 f = some s → SpecOk Tryz.prog f s := step_ok f79_ok.spec (step_ok f81_ok.spec (step_ok f80_ok.spec (one_ok f82_ok.spec)))
theorem f54_ok : PureOk Tryz.prog 54 K54 := by
 refine pureOk_of_exec prog_mixed Γ54_ok (fn := Tryz.f54) (c := codeOf Tryz.f54) (by kernel_rfl) (by kernel_rfl) (callFunc_enter (fn := Tryz.f54) (c := codeOf Tryz.f54) (by kernel_rfl) (by kernel_rfl) (by kernel_rfl)) (L := noL) (N := 1010) (blocksOk_none _ _) ?_ ?_
 · intro args v cs h
   unfold K54 at h
   split at h
   · cases h; rfl
   · cases h
 · intro args v cs h hc
   unfold K54 at h
   split at h
   · rename_i l1
     cases h
     have h1 : ratOk l1 = true := hc (ratOk l1) (by simp)
     have c1 : w64 (ratV l1).num = true := hc (w64 (ratV l1).num) (by simp)
     have c2 : w64 (ratV l1).den = true := hc (w64 (ratV l1).den) (by simp)
     obtain ⟨v1, rfl⟩ : ∃ x, l1 = ratCells x := ⟨_, ratOk_eq h1⟩
     try simp only [ratV_cells] at *
     have hs := M54_sat v1 c1 c2
     rw [← M54_eq] at hs
     generalize execFn Tryz.prog Γ54 noL 1010 Tryz.f54 [.agg (ratCells v1)] = T at hs ⊢
     exact Tr.sat_mono (fun r hr => ⟨by subst hr; rfl, Sees.of_eq hr⟩) hs
   · cases h
theorem Γ8_ok : ∀ f s, Γ8 f = some s → SpecOk Tryz.prog f s := one_ok f18_ok.spec
theorem f8_ok : PureOk Tryz.prog 8 K8 := by
 refine pureOk_of_exec prog_mixed Γ8_ok (fn := Tryz.f8) (c := codeOf Tryz.f8) (by kernel_rfl) (by kernel_rfl) (callFunc_enter (fn := Tryz.f8) (c := codeOf Tryz.f8) (by kernel_rfl) (by kernel_rfl) (by kernel_rfl)) (L := noL) (N := 1010) (blocksOk_none _ _) ?_ ?_
 · intro args v cs h
   unfold K8 at h
   split at h
   · cases h; rfl
   · cases h
 · intro args v cs h hc
   unfold K8 at h
   split at h
   · rename_i n
     cases h
     have h1 : -9223372036854775808 ≤ n := dec (hc (decide (-9223372036854775808 ≤ n)) (by simp))
     have h2 : n ≤ 9223372036854775807 := dec (hc (decide (n ≤ 9223372036854775807)) (by simp))
     have hs := M8_sat n h1 h2
     rw [← M8_eq] at hs
     generalize execFn Tryz.prog Γ8 noL 1010 Tryz.f8 [.c (.v (.int .i64 n))] = T at hs ⊢
     generalize (n : Rat) = z at hs ⊢
     exact Tr.sat_mono (fun r hr => ⟨by subst hr; rfl, Sees.of_eq hr⟩) hs
   · cases h
theorem Γ7_ok : ∀ f s, Γ7 f = some s → SpecOk Tryz.prog f s := one_ok f18_ok.spec
theorem f7_ok : PureOk Tryz.prog 7 K7 := by
 refine pureOk_of_exec prog_mixed Γ7_ok (fn := Tryz.f7) (c := codeOf Tryz.f7) (by kernel_rfl) (by kernel_rfl) (callFunc_enter (fn := Tryz.f7) (c := codeOf Tryz.f7) (by kernel_rfl) (by kernel_rfl) (by kernel_rfl)) (L := noL) (N := 1010) (blocksOk_none _ _) ?_ ?_
 · intro args v cs h
   unfold K7 at h
   split at h
   · cases h; rfl
   · cases h
 · intro args v cs h hc
   unfold K7 at h
   split at h
   · rename_i n
     cases h
     have h1 : -9223372036854775808 ≤ n := dec (hc (decide (-9223372036854775808 ≤ n)) (by simp))
     have h2 : n ≤ 9223372036854775807 := dec (hc (decide (n ≤ 9223372036854775807)) (by simp))
     have hs := M7_sat n h1 h2
     rw [← M7_eq] at hs
     generalize execFn Tryz.prog Γ7 noL 1010 Tryz.f7 [.c (.v (.int .i64 n))] = T at hs ⊢
     generalize (n : Rat) = z at hs ⊢
     exact Tr.sat_mono (fun r hr => ⟨by subst hr; rfl, Sees.of_eq hr⟩) hs
   · cases h
theorem Γ17_ok : ∀ f s, Γ17 f = some s → SpecOk Tryz.prog f s := step_ok f8_ok.spec (one_ok f39_ok.spec)
theorem f17_ok : PureOk Tryz.prog 17 K17 := by
 refine pureOk_of_exec prog_mixed Γ17_ok (fn := Tryz.f17) (c := codeOf Tryz.f17) (by kernel_rfl) (by kernel_rfl) (callFunc_enter (fn := Tryz.f17) (c := codeOf Tryz.f17) (by kernel_rfl) (by kernel_rfl) (by kernel_rfl)) (L := noL) (N := 1010) (blocksOk_none _ _) ?_ ?_
 · intro args v cs h
   unfold K17 at h
   split at h
   · cases h; rfl
   · cases h
 · intro args v cs h hc
   unfold K17 at h
   split at h
   · rename_i p q r s a b
     cases h
     have h1 : i8B p = true := hc (i8B p) (by simp)
     have h2 : i8B q = true := hc (i8B q) (by simp)
     have h3 : i8B r = true := hc (i8B r) (by simp)
     have h4 : i8B s = true := hc (i8B s) (by simp)
     have h5 : 0 ≤ a := dec (hc (decide (0 ≤ a)) (by simp))
     have h6 : a ≤ 7 := dec (hc (decide (a ≤ 7)) (by simp))
     have h7 : a < b := dec (hc (decide (a < b)) (by simp))
     have h8 : b ≤ a + 4 := dec (hc (decide (b ≤ a + 4)) (by simp))
     have hs := M17_sat p q r s a b h1 h2 h3 h4 h5 h6 h7 h8
     rw [← M17_eq] at hs
     generalize execFn Tryz.prog Γ17 noL 1010 Tryz.f17 [.agg [.c (.v (.int .i8 p)), .c (.v (.int .i8 q)), .c (.v (.int .i8 r)), .c (.v (.int .i8 s))], .c (.v (.int .i64 a)), .c (.v (.int .i64 b))] = T at hs ⊢
     generalize hold (lineOf p q r s a b).x0 = z0 at hs ⊢
     generalize hold (lineOf p q r s a b).x1 = z1 at hs ⊢
     generalize hold (lineOf p q r s a b).y0 = z2 at hs ⊢
     generalize hold (lineOf p q r s a b).y1 = z3 at hs ⊢
     exact Tr.sat_mono (fun r hr => ⟨by subst hr; rfl, Sees.of_eq hr⟩) hs
   · cases h
end Go.Vse
