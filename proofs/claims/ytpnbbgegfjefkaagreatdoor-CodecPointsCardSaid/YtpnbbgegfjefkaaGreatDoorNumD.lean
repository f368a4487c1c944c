/- Helpers for the proof: no statement of its own. -/
import Derived.Test.YtpnbbgegfjefkaaGreatDoorNumC
set_option linter.unusedVariables false
set_option linter.unusedSimpArgs false
set_option linter.unnecessarySimpa false
set_option linter.deprecated false
set_option maxRecDepth 100000
namespace Go.Vse
open Go.Proofs
structure W222 where
 y : List Nat
 o : List Nat
 c : Int
 n : Int
 i : Int
def head222 (x : W222) : List AV × List (Option Ent) := ([.msl 0 x.y.length 1, .msl 1 x.o.length 1, intA .u64 x.c, intA .i64 x.n, intA .i64 x.i], [some (.arr x.y.length 1 (u32El x.y) 283), some (.arr x.o.length 1 (u32El x.o) 283)])
def take222 : List AV × List (Option Ent) → Option (W222 × List Bool)
 | ([.msl 0 m 1, .msl 1 k 1, .c (.v (.int .u64 c)), .c (.v (.int .i64 n)), .c (.v (.int .i64 i))], [some (.arr m' 1 el 283), some (.arr k' 1 ol 283)]) => some (⟨u32sOf m el, u32sOf k ol, c, n, i⟩, [decide (m = m'), decide (k = k'), isU32s m el, isU32s k ol])
 | _ => none
def lp222 (w : Way W222) : LoopSt W222 W222 where
 nIn := { nt := 84, live := [11, 12, 13, 52, 53] }
 nOut := { nt := 84, live := [11, 12, 13, 52, 53] }
 head := head222
 take := take222
 out := fun r => (.normal, head222 r)
 takeR := fun q => match q with | (.normal, q) => take222 q | _ => none
 res := w.res
 pre := w.pre
theorem take222_ok (q : List AV × List (Option Ent)) (x : W222) (cs : List Bool) (h : take222 q = some (x, cs)) (hc : ∀ p ∈ cs, p) : SeesL q.1 (head222 x).1 ∧ EntsEqv q.2 (head222 x).2 := by
 unfold take222 at h
 split at h
 ·rename_i m k c n i m' el k' ol
  simp only [Option.some.injEq, Prod.mk.injEq] at h
  obtain ⟨rfl, rfl⟩ := h
  have h1 : m = m' := dec (hc (decide (m = m')) (by simp))
  have h2 : k = k' := dec (hc (decide (k = k')) (by simp))
  have h3 : isU32s m el = true := hc (isU32s m el) (by simp)
  have h4 : isU32s k ol = true := hc (isU32s k ol) (by simp)
  subst h1
  subst h2
  simp only [head222, u32sOf_len]
  exact ⟨SeesL.refl _, .cons (.arr _ _ _ _ _ (isU32s_el h3).1) (.cons (.arr _ _ _ _ _ (isU32s_el h4).1) .nil)⟩
 ·cases h
theorem lp222_good (w : Way W222) : (lp222 w).Good2 where
 take := take222_ok
 takeR := by
  intro e q r cs h hc
  cases e with
  | normal => obtain ⟨h1, h2⟩ := take222_ok q r cs h hc; exact ⟨rfl, h1, h2⟩
  | exit j => cases h
  | ret => cases h
 split := fun r Q h => h
abbrev BB : Nat := 4294967296
def carry (X Y i : Nat) : Nat := (X % BB ^ i + Y % BB ^ i) / BB ^ i
def way222 : Way W222 := ⟨fun x => ⟨x.y, u32s (natV x.o + natV x.y) x.o.length, (carry (natV x.o) (natV x.y) x.o.length : Nat), x.n, x.n⟩,
 fun x => decide (x.n = (x.o.length : Nat)) && decide (x.i = 0) && decide (x.c = 0) && okD x.y && okD x.o && decide (x.o.length ≤ 1000000000)⟩
def L222 : Nat → Option (St → Tr (Ex × St)) := fun id => bif Nat.beq id 0 then some ((lp222 way222).g 0) else none
def Γ222 : FuncId → Option Spec := fun f => bif Nat.beq f 172 then some (pureSpec K172) else bif Nat.beq f 260 then some (pureSpec addPure) else bif Nat.beq f 174 then some (pureSpec K174) else
 bif Nat.beq f 197 then some (memSpec K197) else bif Nat.beq f 199 then some (pureSpec K199) else none
end Go.Vse
set_option maxRecDepth 100000
namespace Go.Vse
open Go.Proofs
def step222 (y : List Nat) (o : List Nat) (c : Int) (n : Int) (i : Int) : Tr (W222 ⊕ W222) :=
 let x1 : Int := ↑o.length
 let x2 : Int := ↑y.length
 let x3 : Int := IntKind.u64.wrap (c + IntKind.u64.wrap ↑(o.getD i.toNat 0))
 let x4 : Int := IntKind.u64.wrap (x3 + IntKind.u64.wrap ↑(y.getD i.toNat 0))
 let x5 : List Nat := u32sOf y.length (u32El y)
 let x6 : Int := 2 ^ min (Int.toNat 32) IntKind.u64.bits
 let x7 : Int := IntKind.i64.wrap (i + 1)
 .ite (decide (i < n)) (.need (decide (0 ≤ i ∧ i < x1)) (.need (decide (i.toNat < o.length)) (.ite (decide (i < x2)) (.need (decide (0 ≤ i ∧ i < x2)) (.need (decide (i.toNat < y.length)) (.need true (.need (decide (0 ≤ i ∧ i < x1)) (.need (decide (i.toNat < o.length)) (.need (decide (y.length = y.length)) (.need (decide (o.length = o.length)) (.need (isU32s y.length (u32El y)) (.need (isU32s o.length (spliceE (u32El o) i.toNat 0 [IV.v (Value.int IntKind.u32 (IntKind.u32.wrap x4))].reverse)) (.ret (Sum.inl { y := x5, o := u32sOf o.length (spliceE (u32El o) i.toNat 0 [IV.v (Value.int IntKind.u32 (IntKind.u32.wrap x4))].reverse), c := x4.fdiv x6, n := n, i := x7 }))))))))))) (.need true (.need (decide (0 ≤ i ∧ i < x1)) (.need (decide (i.toNat < o.length)) (.need (decide (y.length = y.length)) (.need (decide (o.length = o.length)) (.need (isU32s y.length (u32El y)) (.need (isU32s o.length (spliceE (u32El o) i.toNat 0 [IV.v (Value.int IntKind.u32 (IntKind.u32.wrap x3))].reverse)) (.ret (Sum.inl { y := x5, o := u32sOf o.length (spliceE (u32El o) i.toNat 0 [IV.v (Value.int IntKind.u32 (IntKind.u32.wrap x3))].reverse), c := x3.fdiv x6, n := n, i := x7 })))))))))))) (.need (decide (y.length = y.length)) (.need (decide (o.length = o.length)) (.need (isU32s y.length (u32El y)) (.need (isU32s o.length (u32El o)) (.ret (Sum.inr { y := x5, o := u32sOf o.length (u32El o), c := c, n := n, i := i }))))))
theorem step222_eq (w : Way W222) (x : W222) : (exec Tryz.prog (fun _ => none) noL 1005 (loopOf 0 (codeOf Tryz.f222)) (mkSt (lp222 w).nIn ((lp222 w).head x))).bind ((lp222 w).fin 0 0) = step222 x.y x.o x.c x.n x.i := by
 obtain ⟨y, o, c, n, i⟩ := x
 kernel_rfl
theorem splice_eq32 (l : List Nat) (k b : Nat) (hk : k < l.length) : spliceE (u32El l) k 0 [IV.v (.int .u32 (b : Int))].reverse = u32El (l.set k b) := by
 funext i
 unfold spliceE
 by_cases h : i = k
 ·subst h
  rw [if_pos rfl]
  simp [u32El, List.getD_eq_getElem?_getD, List.getElem?_set_self hk]
 ·rw [if_neg h]
  simp [u32El, List.getD_eq_getElem?_getD, List.getElem?_set_ne (Ne.symm h)]
theorem natV_lt : ∀ (l : List Nat), okD l = true → natV l < BB ^ l.length
 | [], _ => by simp [natV]
 | d :: l, h => by
   simp only [okD, List.all_cons, Bool.and_eq_true, decide_eq_true_eq] at h
   have := natV_lt l h.2
   rw [natV, List.length_cons, Nat.pow_succ]
   unfold BB at this ⊢
   omega
theorem u32s_natV : ∀ (l : List Nat), okD l = true → u32s (natV l) l.length = l
 | [], _ => rfl
 | d :: l, h => by
  simp only [okD, List.all_cons, Bool.and_eq_true, decide_eq_true_eq] at h
  have ih := u32s_natV l h.2
  have e1 : (d + 4294967296 * natV l) % 4294967296 = d := by omega
  have e2 : (d + 4294967296 * natV l) / 4294967296 = natV l := by omega
  simp only [natV, List.length_cons, u32s, e1, e2, ih]
def mixL (X Z n i : Nat) : List Nat := (List.range n).map fun j => if j < i then Z / BB ^ j % BB else X / BB ^ j % BB
theorem mixL_len (X Z n i : Nat) : (mixL X Z n i).length = n := by simp [mixL]
theorem mixL_get (X Z n i j : Nat) (h : j < n) : (mixL X Z n i).getD j 0 = if j < i then Z / BB ^ j % BB else X / BB ^ j % BB := by
 simp [mixL, List.getD_eq_getElem?_getD, h]
theorem mixL_zero (X Z n : Nat) : mixL X Z n 0 = u32s X n := by
 have := u32s_ext (l := mixL X Z n 0) (v := X) fun j hj => by rw [mixL_len] at hj; rw [mixL_get X Z n 0 j hj]; simp
 rw [mixL_len] at this; exact this
theorem mixL_all (X Z n : Nat) : mixL X Z n n = u32s Z n := by
 have := u32s_ext (l := mixL X Z n n) (v := Z) fun j hj => by rw [mixL_len] at hj; rw [mixL_get X Z n n j hj, if_pos hj]
 rw [mixL_len] at this; exact this
theorem mixL_set (X Z n i : Nat) (h : i < n) : (mixL X Z n i).set i (Z / BB ^ i % BB) = mixL X Z n (i + 1) := by
 apply List.ext_getElem
 ·simp [mixL]
 ·intro j h1 h2
  have hj : j < n := by simpa [mixL] using h2
  by_cases hji : j = i
  ·subst hji
   simp [mixL]
  ·rw [List.getElem_set_ne (by omega)]
   simp only [mixL, List.getElem_map, List.getElem_range]
   by_cases hlt : j < i
   ·rw [if_pos hlt, if_pos (by omega)]
   ·rw [if_neg hlt, if_neg (by omega)]
theorem okD_mixL (X Z n i : Nat) : okD (mixL X Z n i) = true := by
 refine List.all_eq_true.2 fun d hd => ?_
 obtain ⟨j, _, rfl⟩ := List.mem_map.1 hd
 refine decide_eq_true ?_
 split <;> exact Nat.mod_lt _ (by decide)
theorem carry_le (X Y i : Nat) : carry X Y i ≤ 1 := by
 have hp : 0 < BB ^ i := Nat.pow_pos (by decide)
 have h1 := Nat.mod_lt X hp
 have h2 := Nat.mod_lt Y hp
 unfold carry
 have : (X % BB ^ i + Y % BB ^ i) / BB ^ i < 2 := by
  rw [Nat.div_lt_iff_lt_mul hp]; omega
 omega
theorem add_digit (X Y i : Nat) : (X + Y) / BB ^ i % BB = (carry X Y i + X / BB ^ i % BB + Y / BB ^ i % BB) % BB := by
 have hp : 0 < BB ^ i := Nat.pow_pos (by decide)
 have e : (X + Y) / BB ^ i = X / BB ^ i + Y / BB ^ i + carry X Y i := by
  unfold carry
  have h1 := Nat.div_add_mod X (BB ^ i)
  have h2 := Nat.div_add_mod Y (BB ^ i)
  have : X + Y = (X % BB ^ i + Y % BB ^ i) + BB ^ i * (X / BB ^ i + Y / BB ^ i) := by rw [Nat.mul_add]; omega
  rw [this, Nat.add_mul_div_left _ _ hp]
  omega
 rw [e]
 unfold BB
 omega
theorem carry_succ (X Y i : Nat) : carry X Y (i + 1) = (carry X Y i + X / BB ^ i % BB + Y / BB ^ i % BB) / BB := by
 have hp : 0 < BB ^ i := Nat.pow_pos (by decide)
 unfold carry
 rw [Nat.mod_pow_succ, Nat.mod_pow_succ, Nat.pow_succ, ← Nat.div_div_eq_div_mul]
 have e : X % BB ^ i + BB ^ i * (X / BB ^ i % BB) + (Y % BB ^ i + BB ^ i * (Y / BB ^ i % BB)) = (X % BB ^ i + Y % BB ^ i) + BB ^ i * (X / BB ^ i % BB + Y / BB ^ i % BB) := by rw [Nat.mul_add]; omega
 rw [e, Nat.add_mul_div_left _ _ hp, Nat.add_assoc]
theorem dig_zero {Y m i : Nat} (h : Y < BB ^ m) (hi : m ≤ i) : Y / BB ^ i = 0 := by
 have : BB ^ m ≤ BB ^ i := Nat.pow_le_pow_right (by decide) hi
 exact Nat.div_eq_of_lt (by omega)
theorem step222_in (y : List Nat) (hy : okD y = true) (X n i : Nat) (hn : n ≤ 1000000000) (hi : i < n) {R : W222 ⊕ W222 → Prop}
   (hin : R (.inl ⟨y, mixL X (X + natV y) n (i + 1), (carry X (natV y) (i + 1) : Nat), (n : Nat), ((i + 1 : Nat) : Int)⟩)) :
   (step222 y (mixL X (X + natV y) n i) (carry X (natV y) i : Nat) (n : Nat) (i : Nat)).sat R := by
 have hc := carry_le X (natV y) i
 have hYl := natV_lt y hy
 have ho := mixL_get X (X + natV y) n i i hi
 rw [if_neg (Nat.lt_irrefl _)] at ho
 have hox : X / BB ^ i % BB < 4294967296 := Nat.mod_lt _ (by decide)
 have hyx : natV y / BB ^ i % BB < 4294967296 := Nat.mod_lt _ (by decide)
 have hs := mixL_set X (X + natV y) n i hi
 have had := add_digit X (natV y) i
 have hcs := carry_succ X (natV y) i
 have w5 : IntKind.i64.wrap ((i : Int) + 1) = ((i + 1 : Nat) : Int) := by rw [wrap_i64 (by omega)]; omega
 have hyg : y.getD i 0 = natV y / BB ^ i % BB := by
   by_cases hl : i < y.length
   · have := u32s_natV y hy
     rw [← this, u32s_get _ _ _ hl, this]
   · rw [dig_zero hYl (by omega)]
     simp [List.getD_eq_getElem?_getD, List.getElem?_eq_none (Nat.le_of_not_lt hl)]
 have hyz : ¬ i < y.length → natV y / BB ^ i % BB = 0 := fun h => by rw [dig_zero hYl (by omega)]; rfl
 generalize carry X (natV y) i = c at hc had hcs
 generalize carry X (natV y) (i + 1) = c' at hcs hin
 generalize hO : X / BB ^ i % BB = ox at hox ho had hcs
 generalize natV y / BB ^ i % BB = yx at hyx had hcs hyg hyz
 have a1 : IntKind.u64.wrap ((ox : Nat) : Int) = ((ox : Nat) : Int) := by rw [wrap_u64]; omega
 have a2 : IntKind.u64.wrap (((c : Nat) : Int) + ((ox : Nat) : Int)) = ((c + ox : Nat) : Int) := by rw [wrap_u64]; omega
 have a3 : IntKind.u64.wrap ((yx : Nat) : Int) = ((yx : Nat) : Int) := by rw [wrap_u64]; omega
 have a4 : IntKind.u64.wrap (((c + ox : Nat) : Int) + ((yx : Nat) : Int)) = ((c + ox + yx : Nat) : Int) := by rw [wrap_u64]; omega
 have a5 : ∀ z : Nat, IntKind.u32.wrap ((z : Nat) : Int) = ((z % 4294967296 : Nat) : Int) := fun z => by rw [wrap_u32]; omega
 have a6 : ∀ z : Nat, ((z : Nat) : Int).fdiv (2 ^ min (Int.toNat 32) IntKind.u64.bits) = ((z / 4294967296 : Nat) : Int) := fun z => fdiv_nat z 4294967296
 unfold step222
 simp only [Int.toNat_natCast, ho, hyg, w5, a1, a2, a3, a4, a5, a6, mixL_len, u32sOf_el]
 rw [splice_eq32 _ _ _ (by rw [mixL_len]; exact hi), splice_eq32 _ _ _ (by rw [mixL_len]; exact hi)]
 have key : ∀ z : Nat, z = c + ox + yx → u32sOf n (u32El ((mixL X (X + natV y) n i).set i (z % 4294967296))) = mixL X (X + natV y) n (i + 1) ∧ isU32s n (u32El ((mixL X (X + natV y) n i).set i (z % 4294967296))) = true ∧ ((z / 4294967296 : Nat) : Int) = ((c' : Nat) : Int) := by
   intro z hz
   have e1 : z % 4294967296 = (X + natV y) / BB ^ i % BB := by rw [had, hz]
   rw [e1, hs]
   have e2 := u32sOf_el (mixL X (X + natV y) n (i + 1))
   rw [mixL_len] at e2
   refine ⟨e2, isU32s_mk (okD_mixL _ _ _ _) _, ?_⟩
   rw [hcs, hz]
 refine sat_ite (fun _ => sat_need (decide_eq_true (by omega)) (sat_need (decide_eq_true hi) (sat_ite (fun h => ?_) (fun h => ?_)))) (fun h => absurd (show (i : Int) < (n : Nat) by omega) (of_decide_eq_false h))
 · have h := of_decide_eq_true h
   obtain ⟨k1, k2, k3⟩ := key (c + ox + yx) rfl
   rw [k1, k3]
   exact sat_need (decide_eq_true (by omega)) (sat_need (decide_eq_true (by omega)) (sat_need rfl (sat_need (decide_eq_true (by omega)) (sat_need (decide_eq_true hi) (sat_need (by simp) (sat_need (by simp) (sat_need (isU32s_mk hy _) (sat_need k2 (sat_ret hin)))))))))
 · have h := of_decide_eq_false h
   have hz := hyz (by omega)
   obtain ⟨k1, k2, k3⟩ := key (c + ox) (by omega)
   rw [k1, k3]
   exact sat_need rfl (sat_need (decide_eq_true (by omega)) (sat_need (decide_eq_true hi) (sat_need (by simp) (sat_need (by simp) (sat_need (isU32s_mk hy _) (sat_need k2 (sat_ret hin)))))))
theorem runs222 (y : List Nat) (hy : okD y = true) (X n : Nat) (hn : n ≤ 1000000000) (Q : W222 → Prop) (hq : Q ⟨y, u32s (X + natV y) n, (carry X (natV y) n : Nat), (n : Nat), (n : Nat)⟩) : ∀ (k i : Nat), i + k = n →
  RunsX (fun x : W222 => step222 x.y x.o x.c x.n x.i) Q (k + 1) ⟨y, mixL X (X + natV y) n i, (carry X (natV y) i : Nat), (n : Nat), (i : Nat)⟩
 | 0, i, hi => by
  obtain rfl : i = n := by omega
  rw [mixL_all]
  unfold RunsX
  change Tr.sat _ (step222 y (u32s (X + natV y) i) (carry X (natV y) i : Nat) (i : Nat) (i : Nat))
  have e := u32sOf_el (u32s (X + natV y) i)
  unfold step222
  rw [e, u32sOf_el]
  exact sat_ite (fun h => absurd (of_decide_eq_true h) (Int.lt_irrefl _)) (fun _ => sat_need (by simp) (sat_need (by simp) (sat_need (isU32s_mk hy _) (sat_need (isU32s_mk (okD_u32s _ _) _) (sat_ret hq)))))
 | k + 1, i, hi => step222_in y hy X n i hn (by omega) (runs222 y hy X n hn Q hq k (i + 1) (by omega))
theorem f222_loops : BlocksOk Tryz.prog 0 L222 (codeOf Tryz.f222) := by
 refine blocksOk_of (d := fun id => Nat.beq id 0) (fun id => by unfold L222; cases Nat.beq id 0 <;> rfl) _ ?_
 have hb : blocksOf (fun id => Nat.beq id 0) (codeOf Tryz.f222) = [(0, .loop (loopOf 0 (codeOf Tryz.f222)))] := by kernel_rfl
 rw [hb]
 intro p hp g hg
 simp only [List.mem_singleton] at hp
 subst hp
 have hh : L222 0 = some ((lp222 way222).g 0) := rfl
 rw [hh] at hg
 obtain rfl : g = (lp222 way222).g 0 := (Option.some.inj hg).symm
 refine LoopSt.ok2 (N := 1005) prog_mixed noΓ_ok (L := noL) (blocksOk_none 0 _) (lp222_good _) (step222_eq way222) ?_
 rintro ⟨y, o, c, n, i⟩ hx
 have hx : way222.pre ⟨y, o, c, n, i⟩ = true := hx
 simp only [way222, Bool.and_eq_true, decide_eq_true_eq] at hx
 obtain ⟨⟨⟨⟨⟨rfl, rfl⟩, rfl⟩, h4⟩, h5⟩, h6⟩ := hx
 have := runs222 y h4 (natV o) o.length h6 (· = way222.res ⟨y, o, 0, (o.length : Nat), 0⟩) rfl o.length 0 (by omega)
 rw [mixL_zero, u32s_natV o h5] at this
 have c0 : carry (natV o) (natV y) 0 = 0 := by simp [carry, Nat.mod_one]
 rw [c0] at this
 exact ⟨_, this⟩
end Go.Vse
set_option maxRecDepth 100000
namespace Go.Vse
open Go.Proofs
def M222 (a : ByteArray) (b : ByteArray) : Tr AV :=
 let x1 : Nat := (wordV a).toNat + (wordV b).toNat + Int.toNat 0
 let x2 : Int := ↑(x1 % Extern.MathBitsCarry.m64)
 let x3 : List UInt8 := a.data.toList
 let x4 : List UInt8 := b.data.toList
 let x5 : Int := ↑(nDig x3.length)
 let x6 : Int := ↑(nDig x4.length)
 let x7 : Int := IntKind.i64.wrap (x6 + 1)
 let x8 : Int := ((4 : Nat) : Int)
 let x9 : Int := x8 * x7
 let x10 : Nat := x7.toNat
 let x11 : List Nat := u32s (magN x3) (nDig x3.length)
 let x12 : Nat := min (nDig x4.length) x10
 let x13 : List Nat := u32s (magN x4) (nDig x4.length)
 let x14 : List IV := List.map IV.v [Value.int IntKind.u32 0]
 let x15 : Int := ↑x10
 let x16 : List Nat := u32sOf x10 fun i => if i < x12 then u32El x13 i else x14
 let x17 : Nat := x16.length
 let x18 : Int := ↑x17
 let x19 : List Nat := u32sOf (nDig x3.length) (u32El x11)
 let x20 : List Nat := u32s (natV x16 + natV x19) x17
 let x21 : Nat := x20.length
 let x22 : Int := IntKind.i64.wrap (x5 + 1)
 let x23 : Int := x8 * x22
 let x24 : Nat := x22.toNat
 let x25 : Nat := min (nDig x3.length) x24
 let x26 : Int := ↑x24
 let x27 : List Nat := u32sOf x24 fun i => if i < x25 then u32El x11 i else x14
 let x28 : Nat := x27.length
 let x29 : Int := ↑x28
 let x30 : List Nat := u32sOf (nDig x4.length) (u32El x13)
 let x31 : List Nat := u32s (natV x27 + natV x30) x28
 let x32 : Nat := x31.length
 .ite (wordB a && wordB b) (.need true (.ite (((x1 / Extern.MathBitsCarry.m64 : Nat) : Int) == 0) (.need (u64B x2) (.ret (.c (.v (.string ⟨⟨magB x2.toNat⟩⟩))))) (.need (decide (x3.length ≤ 1000000000)) (.need (decide (x4.length ≤ 1000000000)) (.ite (decide (x5 < x6)) (.need (decide (x7 = x7)) (.need (decide (0 ≤ x7)) (.need (decide (x7 ≤ 9223372036854775807)) (.need (decide (x9 ≤ 140737488355328)) (.need (decide (x10 ≤ x10)) (.need (decide (nDig x4.length ≤ nDig x4.length)) (.need (decide (nDig x3.length = nDig x3.length)) (.need (decide (x10 = x10)) (.need (isU32s (nDig x3.length) (u32El x11)) (.need (isU32s x10 fun i => if i < x12 then u32El x13 i else x14) (.need (decide (x15 = x18) && decide ((0 : Int) = 0) && decide ((0 : Int) = 0) && okD x19 && okD x16 && decide (x17 ≤ 1000000000)) (.need (decide (x21 ≤ x21)) (.need (isU32s x21 (u32El x20)) (.need (decide (x21 ≤ 1000000000)) (.ret (.c (.v (.string ⟨⟨magB (natV (u32sOf x21 (u32El x20)))⟩⟩)))))))))))))))))) (.need (decide (x22 = x22)) (.need (decide (0 ≤ x22)) (.need (decide (x22 ≤ 9223372036854775807)) (.need (decide (x23 ≤ 140737488355328)) (.need (decide (x24 ≤ x24)) (.need (decide (nDig x3.length ≤ nDig x3.length)) (.need (decide (nDig x4.length = nDig x4.length)) (.need (decide (x24 = x24)) (.need (isU32s (nDig x4.length) (u32El x13)) (.need (isU32s x24 fun i => if i < x25 then u32El x11 i else x14) (.need (decide (x26 = x29) && decide ((0 : Int) = 0) && decide ((0 : Int) = 0) && okD x30 && okD x27 && decide (x28 ≤ 1000000000)) (.need (decide (x32 ≤ x32)) (.need (isU32s x32 (u32El x31)) (.need (decide (x32 ≤ 1000000000)) (.ret (.c (.v (.string ⟨⟨magB (natV (u32sOf x32 (u32El x31)))⟩⟩))))))))))))))))))))))) (.need (decide (x3.length ≤ 1000000000)) (.need (decide (x4.length ≤ 1000000000)) (.ite (decide (x5 < x6)) (.need (decide (x7 = x7)) (.need (decide (0 ≤ x7)) (.need (decide (x7 ≤ 9223372036854775807)) (.need (decide (x9 ≤ 140737488355328)) (.need (decide (x10 ≤ x10)) (.need (decide (nDig x4.length ≤ nDig x4.length)) (.need (decide (nDig x3.length = nDig x3.length)) (.need (decide (x10 = x10)) (.need (isU32s (nDig x3.length) (u32El x11)) (.need (isU32s x10 fun i => if i < x12 then u32El x13 i else x14) (.need (decide (x15 = x18) && decide ((0 : Int) = 0) && decide ((0 : Int) = 0) && okD x19 && okD x16 && decide (x17 ≤ 1000000000)) (.need (decide (x21 ≤ x21)) (.need (isU32s x21 (u32El x20)) (.need (decide (x21 ≤ 1000000000)) (.ret (.c (.v (.string ⟨⟨magB (natV (u32sOf x21 (u32El x20)))⟩⟩)))))))))))))))))) (.need (decide (x22 = x22)) (.need (decide (0 ≤ x22)) (.need (decide (x22 ≤ 9223372036854775807)) (.need (decide (x23 ≤ 140737488355328)) (.need (decide (x24 ≤ x24)) (.need (decide (nDig x3.length ≤ nDig x3.length)) (.need (decide (nDig x4.length = nDig x4.length)) (.need (decide (x24 = x24)) (.need (isU32s (nDig x4.length) (u32El x13)) (.need (isU32s x24 fun i => if i < x25 then u32El x11 i else x14) (.need (decide (x26 = x29) && decide ((0 : Int) = 0) && decide ((0 : Int) = 0) && okD x30 && okD x27 && decide (x28 ≤ 1000000000)) (.need (decide (x32 ≤ x32)) (.need (isU32s x32 (u32El x31)) (.need (decide (x32 ≤ 1000000000)) (.ret (.c (.v (.string ⟨⟨magB (natV (u32sOf x32 (u32El x31)))⟩⟩)))))))))))))))))))))
theorem M222_eq (a b : ByteArray) : execFn Tryz.prog Γ222 L222 1005 Tryz.f222 [.c (.v (.string a)), .c (.v (.string b))] = M222 a b := by kernel_rfl
end Go.Vse
set_option maxRecDepth 100000
namespace Go.Vse
open Go.Proofs
theorem pad_eq (v k : Nat) : u32sOf (k + 1) (fun i => if i < k then u32El (u32s v k) i else List.map IV.v [Value.int IntKind.u32 0]) = u32s v k ++ [0] := by
 apply List.ext_getElem
 ·simp [u32sOf, u32s_len]
 ·intro i h1 h2
  have hi : i < k + 1 := by simpa [u32sOf] using h1
  by_cases hk : i < k
  ·have hl : i < (u32s v k).length := by rw [u32s_len]; exact hk
   simp [u32sOf, hk, u32El, u32Of, List.getD_eq_getElem?_getD, hl, List.getElem_append_left hl]
  ·obtain rfl : i = k := by omega
   simp [u32sOf, u32Of, List.getElem_append_right, u32s_len]
theorem pad_ok (v k : Nat) : isU32s (k + 1) (fun i => if i < k then u32El (u32s v k) i else List.map IV.v [Value.int IntKind.u32 0]) = true := by
 refine List.all_eq_true.2 fun i hi => ?_
 dsimp only
 split
 ·rename_i h
  exact List.all_eq_true.1 (isU32s_mk (okD_u32s k v) k) i (List.mem_range.2 h)
 ·rfl
theorem natV_pad (v k : Nat) (h : v < BB ^ k) : natV (u32s v k ++ [0]) = v := by rw [natV_snoc0, natV_u32s k v h]
theorem okD_pad (v k : Nat) : okD (u32s v k ++ [0]) = true := by rw [okD_append, okD_u32s]; rfl
theorem mag_dig (s : ByteArray) : magN s.data.toList < BB ^ nDig s.data.toList.length := by
 have h1 := magN_lt s.data.toList
 have h2 : 256 ^ s.data.toList.length ≤ 256 ^ (4 * nDig s.data.toList.length) := Nat.pow_le_pow_right (by decide) (by unfold nDig; omega)
 have h3 : (256 : Nat) ^ (4 * nDig s.data.toList.length) = BB ^ nDig s.data.toList.length := by
  rw [Nat.pow_mul]
 omega
theorem sum_lt {u v k l : Nat} (hu : u < BB ^ k) (hv : v < BB ^ l) (h : l ≤ k) : u + v < BB ^ (k + 1) := by
 have : BB ^ l ≤ BB ^ k := Nat.pow_le_pow_right (by decide) h
 rw [Nat.pow_succ]
 unfold BB at *
 omega
def K222 : List AV → Option (AV × List Bool)
 | [.c (.v (.string a)), .c (.v (.string b))] => some (strA (magB (magN a.data.toList + magN b.data.toList)), [decide (a.data.toList.length ≤ 100000000), decide (b.data.toList.length ≤ 100000000)])
 | _ => none
theorem M222_sat (a b : ByteArray) (ha : a.data.toList.length ≤ 100000000) (hb : b.data.toList.length ≤ 100000000) : (M222 a b).sat fun r => r = strA (magB (magN a.data.toList + magN b.data.toList)) := by
 have la := mag_dig a
 have lb := mag_dig b
 have na : nDig a.data.toList.length ≤ 25000001 := by unfold nDig; omega
 have nb : nDig b.data.toList.length ≤ 25000001 := by unfold nDig; omega
 have wa : IntKind.i64.wrap (((nDig a.data.toList.length : Nat) : Int) + 1) = ((nDig a.data.toList.length + 1 : Nat) : Int) := by rw [wrap_i64 (by omega)]; omega
 have wb : IntKind.i64.wrap (((nDig b.data.toList.length : Nat) : Int) + 1) = ((nDig b.data.toList.length + 1 : Nat) : Int) := by rw [wrap_i64 (by omega)]; omega
 have ma : min (nDig a.data.toList.length) (nDig a.data.toList.length + 1) = nDig a.data.toList.length := by omega
 have mb : min (nDig b.data.toList.length) (nDig b.data.toList.length + 1) = nDig b.data.toList.length := by omega
 have ea : u32sOf (nDig a.data.toList.length) (u32El (u32s (magN a.data.toList) (nDig a.data.toList.length))) = u32s (magN a.data.toList) (nDig a.data.toList.length) := by
  have := u32sOf_el (u32s (magN a.data.toList) (nDig a.data.toList.length)); rw [u32s_len] at this; exact this
 have eb : u32sOf (nDig b.data.toList.length) (u32El (u32s (magN b.data.toList) (nDig b.data.toList.length))) = u32s (magN b.data.toList) (nDig b.data.toList.length) := by
  have := u32sOf_el (u32s (magN b.data.toList) (nDig b.data.toList.length)); rw [u32s_len] at this; exact this
 have lpa : (u32s (magN a.data.toList) (nDig a.data.toList.length) ++ [0]).length = nDig a.data.toList.length + 1 := by simp [u32s_len]
 have lpb : (u32s (magN b.data.toList) (nDig b.data.toList.length) ++ [0]).length = nDig b.data.toList.length + 1 := by simp [u32s_len]
 have hv : ∀ s : ByteArray, wordB s = true → (wordV s).toNat = magN s.data.toList := fun s hs => by
  have : s.data.toList.length ≤ 8 := of_decide_eq_true hs
  unfold wordV
  rw [if_pos this, Int.toNat_natCast]
 have m64 : Extern.MathBitsCarry.m64 = 18446744073709551616 := by rfl
 have z0 : Int.toNat 0 = 0 := rfl
 unfold M222
 simp only [wa, wb, Int.toNat_natCast, ma, mb, ea, eb, pad_eq, lpa, lpb, natV_pad _ _ la, natV_pad _ _ lb, natV_u32s _ _ la, natV_u32s _ _ lb, u32s_len, m64, z0, Nat.add_zero]
 have efa := u32sOf_el (u32s (magN a.data.toList + magN b.data.toList) (nDig a.data.toList.length + 1))
 have efb := u32sOf_el (u32s (magN b.data.toList + magN a.data.toList) (nDig b.data.toList.length + 1))
 rw [u32s_len] at efa efb
 simp only [efa, efb]
 refine sat_ite (fun hw => sat_need rfl (sat_ite (fun h0 => ?_) (fun h0 => ?g1))) (fun hw => ?g2)
 ·rw [Bool.and_eq_true] at hw
  rw [hv a hw.1, hv b hw.2] at h0 ⊢
  have h0 := eq_of_beq h0
  have hlt : magN a.data.toList + magN b.data.toList < 18446744073709551616 := by omega
  rw [Nat.mod_eq_of_lt hlt]
  exact sat_need (by simp [u64B]; omega) (sat_ret rfl)
 all_goals
  refine sat_need (decide_eq_true (by omega)) (sat_need (decide_eq_true (by omega)) (sat_ite (fun hc => ?_) (fun hc => ?_)))
  ·have hc := of_decide_eq_true hc
   have hs := sum_lt lb la (by omega)
   rw [natV_u32s _ _ hs, Nat.add_comm (magN b.data.toList)]
   refine sat_need (by simp) (sat_need (decide_eq_true (by omega)) (sat_need (decide_eq_true (by omega)) (sat_need (decide_eq_true (by omega)) (sat_need (by simp) (sat_need (by simp) (sat_need (by simp) (sat_need (by simp) (sat_need (isU32s_mk (okD_u32s _ _) _) (sat_need (pad_ok _ _) (sat_need ?_ (sat_need (by simp) (sat_need ?_ (sat_need (decide_eq_true (by omega)) (sat_ret rfl))))))))))))))
   ·have q1 := na; have q2 := nb; simp [okD_pad, okD_u32s] at q1 q2 ⊢; omega
   ·exact isU32s_mk (okD_u32s _ _) _
  ·have hc := of_decide_eq_false hc
   have hs := sum_lt la lb (by omega)
   rw [natV_u32s _ _ hs]
   refine sat_need (by simp) (sat_need (decide_eq_true (by omega)) (sat_need (decide_eq_true (by omega)) (sat_need (decide_eq_true (by omega)) (sat_need (by simp) (sat_need (by simp) (sat_need (by simp) (sat_need (by simp) (sat_need (isU32s_mk (okD_u32s _ _) _) (sat_need (pad_ok _ _) (sat_need ?_ (sat_need (by simp) (sat_need ?_ (sat_need (decide_eq_true (by omega)) (sat_ret rfl))))))))))))))
   ·have q1 := na; have q2 := nb; simp [okD_pad, okD_u32s] at q1 q2 ⊢; omega
   ·exact isU32s_mk (okD_u32s _ _) _
theorem add_ext : ExtOk Tryz.prog 260 addExt := ⟨Tryz.f260, by kernel_rfl, by kernel_rfl, by kernel_rfl, by kernel_rfl, by kernel_rfl⟩
theorem Γ222_ok : ∀ f s, Γ222 f = some s → SpecOk Tryz.prog f s := step_ok f172_ok.spec (step_ok (add_ok add_ext).spec (step_ok f174_ok.spec (step_ok f197_ok.spec (one_ok f199_ok.spec))))
theorem f222_ok : PureOk Tryz.prog 222 K222 := by
 refine pureOk_of_exec prog_mixed Γ222_ok (fn := Tryz.f222) (c := codeOf Tryz.f222) (by kernel_rfl) (by kernel_rfl) (callFunc_enter (fn := Tryz.f222) (c := codeOf Tryz.f222) (by kernel_rfl) (by kernel_rfl) (by kernel_rfl)) (L := L222) (N := 1005) f222_loops ?_ ?_
 ·intro args v cs h
  unfold K222 at h
  split at h
  ·cases h; rfl
  ·cases h
 ·intro args v cs h hc
  unfold K222 at h
  split at h
  ·rename_i a b
   cases h
   have h1 : a.data.toList.length ≤ 100000000 := dec (hc (decide (a.data.toList.length ≤ 100000000)) (by simp))
   have h2 : b.data.toList.length ≤ 100000000 := dec (hc (decide (b.data.toList.length ≤ 100000000)) (by simp))
   have hs := M222_sat a b h1 h2
   rw [← M222_eq] at hs
   generalize execFn Tryz.prog Γ222 L222 1005 Tryz.f222 [.c (.v (.string a)), .c (.v (.string b))] = T at hs ⊢
   generalize magB (magN a.data.toList + magN b.data.toList) = z at hs ⊢
   exact Tr.sat_mono (fun r hr => ⟨by subst hr; rfl, Sees.of_eq hr⟩) hs
  ·cases h
end Go.Vse
