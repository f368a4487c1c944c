/- Helpers for the proof: no statement of its own. -/
import Derived.Test.YtpnbbgegfjefkaaGreatDoorNumD
set_option linter.unusedVariables false
set_option linter.unusedSimpArgs false
set_option linter.unnecessarySimpa false
set_option linter.deprecated false
set_option maxRecDepth 100000
namespace Go.Vse
open Go.Proofs
structure W223 where
 y : List Nat
 o : List Nat
 c : Int
 n : Int
 i : Int
def head223 (x : W223) : List AV × List (Option Ent) := ([.msl 0 x.y.length 1, .msl 1 x.o.length 1, intA .i64 x.c, intA .i64 x.n, intA .i64 x.i], [some (.arr x.y.length 1 (u32El x.y) 283), some (.arr x.o.length 1 (u32El x.o) 283)])
def take223 : List AV × List (Option Ent) → Option (W223 × List Bool)
 | ([.msl 0 m 1, .msl 1 k 1, .c (.v (.int .i64 c)), .c (.v (.int .i64 n)), .c (.v (.int .i64 i))], [some (.arr m' 1 el 283), some (.arr k' 1 ol 283)]) => some (⟨u32sOf m el, u32sOf k ol, c, n, i⟩, [decide (m = m'), decide (k = k'), isU32s m el, isU32s k ol])
 | _ => none
def lp223 (w : Way W223) : LoopSt W223 W223 where
 nIn := { nt := 71, live := [9, 10, 11, 37, 38] }
 nOut := { nt := 71, live := [9, 10, 11, 37, 38] }
 head := head223
 take := take223
 out := fun r => (.normal, head223 r)
 takeR := fun q => match q with | (.normal, q) => take223 q | _ => none
 res := w.res
 pre := w.pre
theorem take223_ok (q : List AV × List (Option Ent)) (x : W223) (cs : List Bool) (h : take223 q = some (x, cs)) (hc : ∀ p ∈ cs, p) : SeesL q.1 (head223 x).1 ∧ EntsEqv q.2 (head223 x).2 := by
 unfold take223 at h
 split at h
 ·rename_i m k c n i m' el k' ol
  simp only [Option.some.injEq, Prod.mk.injEq] at h
  obtain ⟨rfl, rfl⟩ := h
  have h1 : m = m' := dec (hc (decide (m = m')) (by simp))
  have h2 : k = k' := dec (hc (decide (k = k')) (by simp))
  have h3 : isU32s m el = true := hc (isU32s m el) (by simp)
  have h4 : isU32s k ol = true := hc (isU32s k ol) (by simp)
  subst h1
  subst h2
  simp only [head223, u32sOf_len]
  exact ⟨SeesL.refl _, .cons (.arr _ _ _ _ _ (isU32s_el h3).1) (.cons (.arr _ _ _ _ _ (isU32s_el h4).1) .nil)⟩
 ·cases h
theorem lp223_good (w : Way W223) : (lp223 w).Good2 where
 take := take223_ok
 takeR := by
  intro e q r cs h hc
  cases e with
  | normal => obtain ⟨h1, h2⟩ := take223_ok q r cs h hc; exact ⟨rfl, h1, h2⟩
  | exit j => cases h
  | ret => cases h
 split := fun r Q h => h
def borrow (X Y i : Nat) : Nat := if X % BB ^ i < Y % BB ^ i then 1 else 0
def way223 : Way W223 := ⟨fun x => ⟨x.y, u32s (natV x.o - natV x.y) x.o.length, (borrow (natV x.o) (natV x.y) x.o.length : Nat), x.n, x.n⟩,
 fun x => decide (x.n = (x.o.length : Nat)) && decide (x.i = 0) && decide (x.c = 0) && okD x.y && okD x.o && decide (x.o.length ≤ 1000000000) && decide (natV x.y ≤ natV x.o)⟩
def L223 : Nat → Option (St → Tr (Ex × St)) := fun id => bif Nat.beq id 0 then some ((lp223 way223).g 0) else none
def Γ223 : FuncId → Option Spec := fun f => bif Nat.beq f 172 then some (pureSpec K172) else bif Nat.beq f 174 then some (pureSpec K174) else
 bif Nat.beq f 197 then some (memSpec K197) else bif Nat.beq f 199 then some (pureSpec K199) else none
def K223 : List AV → Option (AV × List Bool)
 | [.c (.v (.string a)), .c (.v (.string b))] => some (strA (magB (magN a.data.toList - magN b.data.toList)), [decide (a.data.toList.length ≤ 100000000), decide (b.data.toList.length ≤ 100000000), decide (magN b.data.toList ≤ magN a.data.toList)])
 | _ => none
end Go.Vse
set_option maxRecDepth 100000
namespace Go.Vse
open Go.Proofs
def step223 (y : List Nat) (o : List Nat) (c : Int) (n : Int) (i : Int) : Tr (W223 ⊕ W223) :=
 let x1 : Int := ↑o.length
 let x2 : Int := ↑y.length
 let x3 : Int := IntKind.i64.wrap (IntKind.i64.wrap ↑(o.getD i.toNat 0) - c)
 let x4 : Int := IntKind.i64.wrap (x3 - IntKind.i64.wrap ↑(y.getD i.toNat 0))
 let x5 : List Nat := u32sOf y.length (u32El y)
 let x6 : Int := IntKind.i64.wrap (i + 1)
 .ite (decide (i < n)) (.need (decide (0 ≤ i ∧ i < x1)) (.need (decide (i.toNat < o.length)) (.ite (decide (i < x2)) (.need (decide (0 ≤ i ∧ i < x2)) (.need (decide (i.toNat < y.length)) (.ite (decide (x4 < 0)) (.need (decide (0 ≤ i ∧ i < x1)) (.need (decide (i.toNat < o.length)) (.need (decide (y.length = y.length)) (.need (decide (o.length = o.length)) (.need (isU32s y.length (u32El y)) (.need (isU32s o.length (spliceE (u32El o) i.toNat 0 [IV.v (Value.int IntKind.u32 (IntKind.u32.wrap (IntKind.i64.wrap (x4 + 4294967296))))].reverse)) (.ret (Sum.inl { y := x5, o := u32sOf o.length (spliceE (u32El o) i.toNat 0 [IV.v (Value.int IntKind.u32 (IntKind.u32.wrap (IntKind.i64.wrap (x4 + 4294967296))))].reverse), c := 1, n := n, i := x6 })))))))) (.need (decide (0 ≤ i ∧ i < x1)) (.need (decide (i.toNat < o.length)) (.need (decide (y.length = y.length)) (.need (decide (o.length = o.length)) (.need (isU32s y.length (u32El y)) (.need (isU32s o.length (spliceE (u32El o) i.toNat 0 [IV.v (Value.int IntKind.u32 (IntKind.u32.wrap x4))].reverse)) (.ret (Sum.inl { y := x5, o := u32sOf o.length (spliceE (u32El o) i.toNat 0 [IV.v (Value.int IntKind.u32 (IntKind.u32.wrap x4))].reverse), c := 0, n := n, i := x6 }))))))))))) (.ite (decide (x3 < 0)) (.need (decide (0 ≤ i ∧ i < x1)) (.need (decide (i.toNat < o.length)) (.need (decide (y.length = y.length)) (.need (decide (o.length = o.length)) (.need (isU32s y.length (u32El y)) (.need (isU32s o.length (spliceE (u32El o) i.toNat 0 [IV.v (Value.int IntKind.u32 (IntKind.u32.wrap (IntKind.i64.wrap (x3 + 4294967296))))].reverse)) (.ret (Sum.inl { y := x5, o := u32sOf o.length (spliceE (u32El o) i.toNat 0 [IV.v (Value.int IntKind.u32 (IntKind.u32.wrap (IntKind.i64.wrap (x3 + 4294967296))))].reverse), c := 1, n := n, i := x6 })))))))) (.need (decide (0 ≤ i ∧ i < x1)) (.need (decide (i.toNat < o.length)) (.need (decide (y.length = y.length)) (.need (decide (o.length = o.length)) (.need (isU32s y.length (u32El y)) (.need (isU32s o.length (spliceE (u32El o) i.toNat 0 [IV.v (Value.int IntKind.u32 (IntKind.u32.wrap x3))].reverse)) (.ret (Sum.inl { y := x5, o := u32sOf o.length (spliceE (u32El o) i.toNat 0 [IV.v (Value.int IntKind.u32 (IntKind.u32.wrap x3))].reverse), c := 0, n := n, i := x6 })))))))))))) (.need (decide (y.length = y.length)) (.need (decide (o.length = o.length)) (.need (isU32s y.length (u32El y)) (.need (isU32s o.length (u32El o)) (.ret (Sum.inr { y := x5, o := u32sOf o.length (u32El o), c := c, n := n, i := i }))))))
theorem step223_eq (w : Way W223) (x : W223) : (exec Tryz.prog (fun _ => none) noL 1005 (loopOf 0 (codeOf Tryz.f223)) (mkSt (lp223 w).nIn ((lp223 w).head x))).bind ((lp223 w).fin 0 0) = step223 x.y x.o x.c x.n x.i := by
 obtain ⟨y, o, c, n, i⟩ := x
 kernel_rfl
theorem borrow_le (X Y i : Nat) : borrow X Y i ≤ 1 := by unfold borrow; split <;> omega
theorem sub_div (X Y i : Nat) (h : Y ≤ X) : (X - Y) / BB ^ i + Y / BB ^ i + borrow X Y i = X / BB ^ i := by
 have hp : 0 < BB ^ i := Nat.pow_pos (by decide)
 have h1 := Nat.div_add_mod X (BB ^ i)
 have h2 := Nat.div_add_mod Y (BB ^ i)
 have h3 := Nat.mod_lt X hp
 have h4 := Nat.mod_lt Y hp
 unfold borrow
 generalize hP : BB ^ i = P at *
 have hle : Y / P ≤ X / P := Nat.div_le_div_right h
 by_cases hb : X % P < Y % P
 ·rw [if_pos hb]
  have hlt : Y / P < X / P := by
   rcases Nat.lt_or_ge (Y / P) (X / P) with h | h
   ·exact h
   ·have he : Y / P = X / P := by omega
    rw [he] at h2; omega
  obtain ⟨k, hk⟩ : ∃ k, X / P = Y / P + (k + 1) := ⟨X / P - Y / P - 1, by omega⟩
  have e : X - Y = (P + X % P - Y % P) + P * k := by
   rw [hk, Nat.mul_add, Nat.mul_add] at h1; omega
  rw [e, Nat.add_mul_div_left _ _ hp, Nat.div_eq_of_lt (show P + X % P - Y % P < P by omega)]
  omega
 ·rw [if_neg hb]
  obtain ⟨k, hk⟩ : ∃ k, X / P = Y / P + k := ⟨X / P - Y / P, by omega⟩
  have e : X - Y = (X % P - Y % P) + P * k := by
   rw [hk, Nat.mul_add] at h1; omega
  rw [e, Nat.add_mul_div_left _ _ hp, Nat.div_eq_of_lt (show X % P - Y % P < P by omega)]
  omega
theorem sub_digit (X Y i : Nat) (h : Y ≤ X) : (X - Y) / BB ^ i % BB = (X / BB ^ i % BB + BB - borrow X Y i - Y / BB ^ i % BB) % BB := by
 have e := sub_div X Y i h
 have hb := borrow_le X Y i
 generalize (X - Y) / BB ^ i = a at *
 generalize X / BB ^ i = x at *
 generalize Y / BB ^ i = y at *
 unfold BB
 omega
theorem borrow_succ (X Y i : Nat) : borrow X Y (i + 1) = if X / BB ^ i % BB < borrow X Y i + Y / BB ^ i % BB then 1 else 0 := by
 have hp : 0 < BB ^ i := Nat.pow_pos (by decide)
 have h3 := Nat.mod_lt X hp
 have h4 := Nat.mod_lt Y hp
 unfold borrow
 rw [Nat.mod_pow_succ, Nat.mod_pow_succ]
 generalize X / BB ^ i % BB = x
 generalize Y / BB ^ i % BB = y
 generalize X % BB ^ i = X' at *
 generalize Y % BB ^ i = Y' at *
 generalize BB ^ i = P at *
 have key : X' + P * x < Y' + P * y ↔ x < (if X' < Y' then 1 else 0) + y := by
  rcases Nat.lt_trichotomy x y with h | h | h
  ·obtain ⟨k, rfl⟩ : ∃ k, y = x + (k + 1) := ⟨y - x - 1, by omega⟩
   have : P * (x + (k + 1)) = P * x + P * k + P := by rw [Nat.mul_add, Nat.mul_add]; omega
   constructor
   ·intro _; split <;> omega
   ·intro _; rw [this]; omega
  ·subst h
   split <;> constructor <;> omega
  ·obtain ⟨k, rfl⟩ : ∃ k, x = y + (k + 1) := ⟨x - y - 1, by omega⟩
   have : P * (y + (k + 1)) = P * y + P * k + P := by rw [Nat.mul_add, Nat.mul_add]; omega
   rw [this]
   constructor
   ·intro _; omega
   ·intro hh; split at hh <;> omega
 by_cases hc : X' + P * x < Y' + P * y
 ·rw [if_pos hc, if_pos (key.1 hc)]
 ·rw [if_neg hc, if_neg (fun h => hc (key.2 h))]
theorem step223_in (y : List Nat) (hy : okD y = true) (X n i : Nat) (hX : natV y ≤ X) (hn : n ≤ 1000000000) (hi : i < n) {R : W223 ⊕ W223 → Prop}
  (hin : R (.inl ⟨y, mixL X (X - natV y) n (i + 1), (borrow X (natV y) (i + 1) : Nat), (n : Nat), ((i + 1 : Nat) : Int)⟩)) :
  (step223 y (mixL X (X - natV y) n i) (borrow X (natV y) i : Nat) (n : Nat) (i : Nat)).sat R := by
 have hc := borrow_le X (natV y) i
 have hYl := natV_lt y hy
 have ho := mixL_get X (X - natV y) n i i hi
 rw [if_neg (Nat.lt_irrefl _)] at ho
 have hox : X / BB ^ i % BB < 4294967296 := Nat.mod_lt _ (by decide)
 have hyx : natV y / BB ^ i % BB < 4294967296 := Nat.mod_lt _ (by decide)
 have hs := mixL_set X (X - natV y) n i hi
 have had := sub_digit X (natV y) i hX
 have hcs := borrow_succ X (natV y) i
 have w5 : IntKind.i64.wrap ((i : Int) + 1) = ((i + 1 : Nat) : Int) := by rw [wrap_i64 (by omega)]; omega
 have hyg : y.getD i 0 = natV y / BB ^ i % BB := by
  by_cases hl : i < y.length
  ·have := u32s_natV y hy
   rw [← this, u32s_get _ _ _ hl, this]
  ·rw [dig_zero hYl (by omega)]
   simp [List.getD_eq_getElem?_getD, List.getElem?_eq_none (Nat.le_of_not_lt hl)]
 have hyz : ¬ i < y.length → natV y / BB ^ i % BB = 0 := fun h => by rw [dig_zero hYl (by omega)]; rfl
 generalize borrow X (natV y) i = c at hc had hcs
 generalize borrow X (natV y) (i + 1) = c' at hcs hin
 generalize hO : X / BB ^ i % BB = ox at hox ho had hcs
 generalize natV y / BB ^ i % BB = yx at hyx had hcs hyg hyz
 have a1 : IntKind.i64.wrap ((ox : Nat) : Int) = ((ox : Nat) : Int) := wrap_i64 (by omega)
 have a2 : IntKind.i64.wrap (((ox : Nat) : Int) - ((c : Nat) : Int)) = ((ox : Nat) : Int) - ((c : Nat) : Int) := wrap_i64 (by omega)
 have a3 : IntKind.i64.wrap ((yx : Nat) : Int) = ((yx : Nat) : Int) := wrap_i64 (by omega)
 have a4 : IntKind.i64.wrap (((ox : Nat) : Int) - ((c : Nat) : Int) - ((yx : Nat) : Int)) = ((ox : Nat) : Int) - ((c : Nat) : Int) - ((yx : Nat) : Int) := wrap_i64 (by omega)
 unfold step223
 simp only [Int.toNat_natCast, ho, hyg, w5, a1, a2, a3, a4, mixL_len, u32sOf_el]
 have e2 := u32sOf_el (mixL X (X - natV y) n (i + 1))
 rw [mixL_len] at e2
 have key : ∀ (z : Int) (b : Nat), z = (((ox + BB - c - yx) % BB : Nat) : Int) → b = c' →
   Tr.sat R (Tr.need (isU32s n (spliceE (u32El (mixL X (X - natV y) n i)) i 0 [IV.v (.int .u32 z)].reverse)) (Tr.ret (Sum.inl ⟨y, u32sOf n (spliceE (u32El (mixL X (X - natV y) n i)) i 0 [IV.v (.int .u32 z)].reverse), (b : Nat), (n : Nat), ((i + 1 : Nat) : Int)⟩))) := by
  intro z b hz hb
  subst hz hb
  rw [splice_eq32 _ _ _ (by rw [mixL_len]; exact hi), ← had, hs, e2]
  exact sat_need (isU32s_mk (okD_mixL _ _ _ _) _) (sat_ret hin)
 unfold BB at key
 have k1 : ∀ d : Int, d = ((ox : Nat) : Int) - c - yx → d < 0 → IntKind.u32.wrap (IntKind.i64.wrap (d + 4294967296)) = (((ox + 4294967296 - c - yx) % 4294967296 : Nat) : Int) ∧ 1 = c' := by
  intro d hd h0
  constructor
  ·rw [wrap_i64 (by omega), wrap_u32]; omega
  ·rw [hcs, if_pos (by omega)]
 have k2 : ∀ d : Int, d = ((ox : Nat) : Int) - c - yx → ¬ d < 0 → IntKind.u32.wrap d = (((ox + 4294967296 - c - yx) % 4294967296 : Nat) : Int) ∧ 0 = c' := by
  intro d hd h0
  constructor
  ·rw [wrap_u32]; omega
  ·rw [hcs, if_neg (by omega)]
 refine sat_ite (fun _ => sat_need (decide_eq_true (by omega)) (sat_need (decide_eq_true hi) (sat_ite (fun h => ?_) (fun h => ?_)))) (fun h => absurd (show (i : Int) < (n : Nat) by omega) (of_decide_eq_false h))
 ·have h := of_decide_eq_true h
  refine sat_need (decide_eq_true (by omega)) (sat_need (decide_eq_true (by omega)) (sat_ite (fun h0 => ?_) (fun h0 => ?_)))
  ·obtain ⟨q1, q2⟩ := k1 _ rfl (of_decide_eq_true h0)
   exact sat_need (decide_eq_true (by omega)) (sat_need (decide_eq_true hi) (sat_need (by simp) (sat_need (by simp) (sat_need (isU32s_mk hy _) (key _ _ q1 q2)))))
  ·obtain ⟨q1, q2⟩ := k2 _ rfl (of_decide_eq_false h0)
   exact sat_need (decide_eq_true (by omega)) (sat_need (decide_eq_true hi) (sat_need (by simp) (sat_need (by simp) (sat_need (isU32s_mk hy _) (key _ _ q1 q2)))))
 ·have h := of_decide_eq_false h
  have hz := hyz (by omega)
  refine sat_ite (fun h0 => ?_) (fun h0 => ?_)
  ·obtain ⟨q1, q2⟩ := k1 (((ox : Nat) : Int) - c) (by omega) (of_decide_eq_true h0)
   exact sat_need (decide_eq_true (by omega)) (sat_need (decide_eq_true hi) (sat_need (by simp) (sat_need (by simp) (sat_need (isU32s_mk hy _) (key _ _ q1 q2)))))
  ·obtain ⟨q1, q2⟩ := k2 (((ox : Nat) : Int) - c) (by omega) (of_decide_eq_false h0)
   exact sat_need (decide_eq_true (by omega)) (sat_need (decide_eq_true hi) (sat_need (by simp) (sat_need (by simp) (sat_need (isU32s_mk hy _) (key _ _ q1 q2)))))
theorem runs223 (y : List Nat) (hy : okD y = true) (X n : Nat) (hX : natV y ≤ X) (hn : n ≤ 1000000000) (Q : W223 → Prop) (hq : Q ⟨y, u32s (X - natV y) n, (borrow X (natV y) n : Nat), (n : Nat), (n : Nat)⟩) : ∀ (k i : Nat), i + k = n →
  RunsX (fun x : W223 => step223 x.y x.o x.c x.n x.i) Q (k + 1) ⟨y, mixL X (X - natV y) n i, (borrow X (natV y) i : Nat), (n : Nat), (i : Nat)⟩
 | 0, i, hi => by
  obtain rfl : i = n := by omega
  rw [mixL_all]
  unfold RunsX
  change Tr.sat _ (step223 y (u32s (X - natV y) i) (borrow X (natV y) i : Nat) (i : Nat) (i : Nat))
  have e := u32sOf_el (u32s (X - natV y) i)
  unfold step223
  rw [e, u32sOf_el]
  exact sat_ite (fun h => absurd (of_decide_eq_true h) (Int.lt_irrefl _)) (fun _ => sat_need (by simp) (sat_need (by simp) (sat_need (isU32s_mk hy _) (sat_need (isU32s_mk (okD_u32s _ _) _) (sat_ret hq)))))
 | k + 1, i, hi => step223_in y hy X n i hX hn (by omega) (runs223 y hy X n hX hn Q hq k (i + 1) (by omega))
theorem f223_loops : BlocksOk Tryz.prog 0 L223 (codeOf Tryz.f223) := by
 refine blocksOk_of (d := fun id => Nat.beq id 0) (fun id => by unfold L223; cases Nat.beq id 0 <;> rfl) _ ?_
 have hb : blocksOf (fun id => Nat.beq id 0) (codeOf Tryz.f223) = [(0, .loop (loopOf 0 (codeOf Tryz.f223)))] := by kernel_rfl
 rw [hb]
 intro p hp g hg
 simp only [List.mem_singleton] at hp
 subst hp
 have hh : L223 0 = some ((lp223 way223).g 0) := rfl
 rw [hh] at hg
 obtain rfl : g = (lp223 way223).g 0 := (Option.some.inj hg).symm
 refine LoopSt.ok2 (N := 1005) prog_mixed noΓ_ok (L := noL) (blocksOk_none 0 _) (lp223_good _) (step223_eq way223) ?_
 rintro ⟨y, o, c, n, i⟩ hx
 have hx : way223.pre ⟨y, o, c, n, i⟩ = true := hx
 simp only [way223, Bool.and_eq_true, decide_eq_true_eq] at hx
 obtain ⟨⟨⟨⟨⟨⟨rfl, rfl⟩, rfl⟩, h4⟩, h5⟩, h6⟩, h7⟩ := hx
 have := runs223 y h4 (natV o) o.length h7 h6 (· = way223.res ⟨y, o, 0, (o.length : Nat), 0⟩) rfl o.length 0 (by omega)
 rw [mixL_zero, u32s_natV o h5] at this
 have c0 : borrow (natV o) (natV y) 0 = 0 := by simp [borrow, Nat.mod_one]
 rw [c0] at this
 exact ⟨_, this⟩
end Go.Vse
set_option maxRecDepth 100000
namespace Go.Vse
open Go.Proofs
def M223 (a : ByteArray) (b : ByteArray) : Tr AV :=
 let x1 : Int := IntKind.u64.wrap (wordV a - wordV b)
 let x2 : List UInt8 := a.data.toList
 let x3 : List UInt8 := b.data.toList
 let x4 : Int := ↑(nDig x2.length)
 let x5 : Int := ((4 : Nat) : Int) * x4
 let x6 : Nat := x4.toNat
 let x7 : Nat := min (nDig x2.length) x6
 let x8 : Int := ↑x6
 let x9 : List Nat := u32sOf x6 fun i => if i < x7 then u32El (u32s (magN x2) (nDig x2.length)) i else List.map IV.v [Value.int IntKind.u32 0]
 let x10 : Nat := x9.length
 let x11 : Int := ↑x10
 let x12 : List Nat := u32sOf (nDig x3.length) (u32El (u32s (magN x3) (nDig x3.length)))
 let x13 : Nat := natV x12
 let x14 : Nat := natV x9
 let x15 : List Nat := u32s (x14 - x13) x10
 let x16 : Nat := x15.length
 .ite (wordB a && wordB b) (.need (u64B x1) (.ret (.c (.v (.string ⟨⟨magB x1.toNat⟩⟩))))) (.need (decide (x2.length ≤ 1000000000)) (.need (decide (x3.length ≤ 1000000000)) (.need (decide (x4 = x4)) (.need true (.need (decide (x4 ≤ 9223372036854775807)) (.need (decide (x5 ≤ 140737488355328)) (.need (decide (x6 ≤ x6)) (.need (decide (nDig x2.length ≤ nDig x2.length)) (.need (decide (nDig x3.length = nDig x3.length)) (.need (decide (x6 = x6)) (.need (isU32s (nDig x3.length) (u32El (u32s (magN x3) (nDig x3.length)))) (.need (isU32s x6 fun i => if i < x7 then u32El (u32s (magN x2) (nDig x2.length)) i else List.map IV.v [Value.int IntKind.u32 0]) (.need (decide (x8 = x11) && decide ((0 : Int) = 0) && decide ((0 : Int) = 0) && okD x12 && okD x9 && decide (x10 ≤ 1000000000) && decide (x13 ≤ x14)) (.need (decide (x16 ≤ x16)) (.need (isU32s x16 (u32El x15)) (.need (decide (x16 ≤ 1000000000)) (.ret (.c (.v (.string ⟨⟨magB (natV (u32sOf x16 (u32El x15)))⟩⟩))))))))))))))))))))
theorem M223_eq (a b : ByteArray) : execFn Tryz.prog Γ223 L223 1005 Tryz.f223 [.c (.v (.string a)), .c (.v (.string b))] = M223 a b := by kernel_rfl
theorem Γ223_ok : ∀ f s, Γ223 f = some s → SpecOk Tryz.prog f s := step_ok f172_ok.spec (step_ok f174_ok.spec (step_ok f197_ok.spec (one_ok f199_ok.spec)))
theorem wordV_eq (s : ByteArray) (hs : wordB s = true) : wordV s = ((magN s.data.toList : Nat) : Int) := by
 have : s.data.toList.length ≤ 8 := of_decide_eq_true hs
 unfold wordV
 rw [if_pos this]
theorem magN_word (s : ByteArray) (hs : wordB s = true) : magN s.data.toList < 18446744073709551616 := by
 have h8 : s.data.toList.length ≤ 8 := of_decide_eq_true hs
 have := magN_lt s.data.toList
 have h2 : 256 ^ s.data.toList.length ≤ 256 ^ 8 := Nat.pow_le_pow_right (by decide) h8
 have h3 : 256 ^ 8 = 18446744073709551616 := by decide
 omega
theorem M223_sat (a b : ByteArray) (ha : a.data.toList.length ≤ 100000000) (hb : b.data.toList.length ≤ 100000000) (hle : magN b.data.toList ≤ magN a.data.toList) : (M223 a b).sat fun r => r = strA (magB (magN a.data.toList - magN b.data.toList)) := by
 have la := mag_dig a
 have lb := mag_dig b
 have na : nDig a.data.toList.length ≤ 25000001 := by unfold nDig; omega
 have nb : nDig b.data.toList.length ≤ 25000001 := by unfold nDig; omega
 have ea : (u32sOf (nDig a.data.toList.length) fun i => if i < nDig a.data.toList.length then u32El (u32s (magN a.data.toList) (nDig a.data.toList.length)) i else List.map IV.v [Value.int IntKind.u32 0]) = u32s (magN a.data.toList) (nDig a.data.toList.length) := by
  have := u32sOf_el (u32s (magN a.data.toList) (nDig a.data.toList.length)); rw [u32s_len] at this
  refine Eq.trans ?_ this
  unfold u32sOf
  refine List.map_congr_left fun k hk => ?_
  exact congrArg u32Of (if_pos (List.mem_range.1 hk))
 have eb : u32sOf (nDig b.data.toList.length) (u32El (u32s (magN b.data.toList) (nDig b.data.toList.length))) = u32s (magN b.data.toList) (nDig b.data.toList.length) := by
  have := u32sOf_el (u32s (magN b.data.toList) (nDig b.data.toList.length)); rw [u32s_len] at this; exact this
 have ia : (isU32s (nDig a.data.toList.length) fun i => if i < nDig a.data.toList.length then u32El (u32s (magN a.data.toList) (nDig a.data.toList.length)) i else List.map IV.v [Value.int IntKind.u32 0]) = true := by
  refine List.all_eq_true.2 fun k hk => ?_
  refine (congrArg isU32 (if_pos (List.mem_range.1 hk))).trans ?_
  exact List.all_eq_true.1 (isU32s_mk (okD_u32s _ _) (nDig a.data.toList.length)) k hk
 unfold M223
 simp only [Int.toNat_natCast, Nat.min_self, ea, ia, eb, natV_u32s _ _ la, natV_u32s _ _ lb, u32s_len]
 have efa := u32sOf_el (u32s (magN a.data.toList - magN b.data.toList) (nDig a.data.toList.length))
 rw [u32s_len] at efa
 simp only [efa, natV_u32s _ _ (show magN a.data.toList - magN b.data.toList < BB ^ nDig a.data.toList.length by omega)]
 refine sat_ite (fun hw => ?_) (fun hw => ?_)
 ·rw [Bool.and_eq_true] at hw
  have h1 := magN_word a hw.1
  rw [wordV_eq a hw.1, wordV_eq b hw.2]
  have e : IntKind.u64.wrap (((magN a.data.toList : Nat) : Int) - ((magN b.data.toList : Nat) : Int)) = ((magN a.data.toList - magN b.data.toList : Nat) : Int) := by rw [wrap_u64]; omega
  rw [e, Int.toNat_natCast]
  exact sat_need (by simp [u64B]; omega) (sat_ret rfl)
 ·refine sat_need (decide_eq_true (by omega)) (sat_need (decide_eq_true (by omega)) (sat_need (by simp) (sat_need rfl (sat_need (decide_eq_true (by omega)) (sat_need (decide_eq_true (by omega)) (sat_need (by simp) (sat_need (by simp) (sat_need (by simp) (sat_need (by simp) (sat_need (isU32s_mk (okD_u32s _ _) _) (sat_need rfl (sat_need ?_ (sat_need (by simp) (sat_need (isU32s_mk (okD_u32s _ _) _) (sat_need (decide_eq_true (by omega)) (sat_ret rfl))))))))))))))))
  simp only [okD_u32s, Bool.and_true, Bool.and_eq_true, decide_eq_true_eq]
  refine ⟨⟨⟨⟨trivial, trivial⟩, trivial⟩, by omega⟩, hle⟩
theorem f223_ok : PureOk Tryz.prog 223 K223 := by
 refine pureOk_of_exec prog_mixed Γ223_ok (fn := Tryz.f223) (c := codeOf Tryz.f223) (by kernel_rfl) (by kernel_rfl) (callFunc_enter (fn := Tryz.f223) (c := codeOf Tryz.f223) (by kernel_rfl) (by kernel_rfl) (by kernel_rfl)) (L := L223) (N := 1005) f223_loops ?_ ?_
 ·intro args v cs h
  unfold K223 at h
  split at h
  ·cases h; rfl
  ·cases h
 ·intro args v cs h hc
  unfold K223 at h
  split at h
  ·rename_i a b
   cases h
   have h1 : a.data.toList.length ≤ 100000000 := dec (hc (decide (a.data.toList.length ≤ 100000000)) (by simp))
   have h2 : b.data.toList.length ≤ 100000000 := dec (hc (decide (b.data.toList.length ≤ 100000000)) (by simp))
   have h3 : magN b.data.toList ≤ magN a.data.toList := dec (hc (decide (magN b.data.toList ≤ magN a.data.toList)) (by simp))
   have hs := M223_sat a b h1 h2 h3
   rw [← M223_eq] at hs
   generalize execFn Tryz.prog Γ223 L223 1005 Tryz.f223 [.c (.v (.string a)), .c (.v (.string b))] = T at hs ⊢
   generalize magB (magN a.data.toList - magN b.data.toList) = z at hs ⊢
   exact Tr.sat_mono (fun r hr => ⟨by subst hr; rfl, Sees.of_eq hr⟩) hs
  ·cases h
end Go.Vse
