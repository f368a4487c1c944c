/- Helpers for the proof: no statement of its own. -/
import Derived.Test.YtpnbbgegfjefkaaGreatDoorNumE
set_option linter.unusedVariables false
set_option linter.unusedSimpArgs false
set_option linter.unnecessarySimpa false
set_option linter.deprecated false
set_option maxRecDepth 100000
namespace Go.Vse
open Go.Proofs
structure W219i where
 y : List Nat
 o : List Nat
 i : Int
 d : Int
 c : Int
 x : List Nat
 N : Int
 I : Int
 n : Int
 k : Int
def head219i (x : W219i) : List AV × List (Option Ent) := ([.msl 0 x.y.length 1, .msl 1 x.o.length 1, intA .i64 x.i, intA .u32 x.d, intA .u64 x.c, .msl 2 x.x.length 1, intA .i64 x.N, intA .i64 x.I, intA .i64 x.n, intA .i64 x.k], [some (.arr x.y.length 1 (u32El x.y) 283), some (.arr x.o.length 1 (u32El x.o) 283), some (.arr x.x.length 1 (u32El x.x) 283)])
def take219i : List AV × List (Option Ent) → Option (W219i × List Bool)
 | ([.msl 0 my 1, .msl 1 mo 1, .c (.v (.int .i64 i)), .c (.v (.int .u32 d)), .c (.v (.int .u64 c)), .msl 2 mx 1, .c (.v (.int .i64 N)), .c (.v (.int .i64 I)), .c (.v (.int .i64 n)), .c (.v (.int .i64 k))], [some (.arr ky 1 ey 283), some (.arr ko 1 eo 283), some (.arr kx 1 ex 283)]) => some (⟨u32sOf my ey, u32sOf mo eo, i, d, c, u32sOf mx ex, N, I, n, k⟩, [decide (my = ky), decide (mo = ko), decide (mx = kx), isU32s my ey, isU32s mo eo, isU32s mx ex])
 | _ => none
def lp219i (w : Way W219i) : LoopSt W219i W219i where
 nIn := { nt := 97, live := [11, 12, 13, 14, 15, 46, 47, 48, 54, 55] }
 nOut := { nt := 97, live := [11, 12, 13, 14, 15, 46, 47, 48, 54, 55] }
 head := head219i
 take := take219i
 out := fun r => (.normal, head219i r)
 takeR := fun q => match q with | (.normal, q) => take219i q | _ => none
 res := w.res
 pre := w.pre
theorem take219i_ok (q : List AV × List (Option Ent)) (x : W219i) (cs : List Bool) (h : take219i q = some (x, cs)) (hc : ∀ p ∈ cs, p) : SeesL q.1 (head219i x).1 ∧ EntsEqv q.2 (head219i x).2 := by
 unfold take219i at h
 split at h
 ·rename_i my mo i d c mx N I n k ky ey ko eo kx ex
  simp only [Option.some.injEq, Prod.mk.injEq] at h
  obtain ⟨rfl, rfl⟩ := h
  have hy : my = ky := dec (hc (decide (my = ky)) (by simp))
  have gy : isU32s my ey = true := hc (isU32s my ey) (by simp)
  have ho : mo = ko := dec (hc (decide (mo = ko)) (by simp))
  have go : isU32s mo eo = true := hc (isU32s mo eo) (by simp)
  have hx : mx = kx := dec (hc (decide (mx = kx)) (by simp))
  have gx : isU32s mx ex = true := hc (isU32s mx ex) (by simp)
  subst hy
  subst ho
  subst hx
  simp only [head219i, u32sOf_len]
  exact ⟨SeesL.refl _, .cons (.arr _ _ _ _ _ (isU32s_el gy).1) (.cons (.arr _ _ _ _ _ (isU32s_el go).1) (.cons (.arr _ _ _ _ _ (isU32s_el gx).1) (.nil)))⟩
 ·cases h
theorem lp219i_good (w : Way W219i) : (lp219i w).Good2 where
 take := take219i_ok
 takeR := by
  intro e q r cs h hc
  cases e with
  | normal => obtain ⟨h1, h2⟩ := take219i_ok q r cs h hc; exact ⟨rfl, h1, h2⟩
  | exit j => cases h
  | ret => cases h
 split := fun r Q h => h
def mulA (o d Y i k : Nat) : Nat := o % BB ^ (i + k) + d * (Y % BB ^ k) * BB ^ i
def way219i : Way W219i := ⟨fun x => ⟨x.y, mixL (natV x.o) (natV x.o + x.d.toNat * natV x.y * BB ^ x.i.toNat) x.o.length (x.i.toNat + x.y.length), x.i, x.d, (mulA (natV x.o) x.d.toNat (natV x.y) x.i.toNat x.y.length / BB ^ (x.i.toNat + x.y.length) : Nat), x.x, x.N, x.I, x.n, x.n⟩,
 fun x => decide (x.n = (x.y.length : Nat)) && decide (x.k = 0) && decide (x.c = 0) && okD x.y && okD x.o && okD x.x && decide (x.o.length ≤ 1000000000) && decide (0 ≤ x.i) && decide (x.i.toNat + x.y.length ≤ x.o.length) && decide (0 ≤ x.d) && decide (x.d < 4294967296)⟩
def L219i : Nat → Option (St → Tr (Ex × St)) := fun id => bif Nat.beq id 2 then some ((lp219i way219i).g 0) else none
structure W219 where
 y : List Nat
 o : List Nat
 x : List Nat
 N : Int
 I : Int
def head219 (x : W219) : List AV × List (Option Ent) := ([.msl 0 x.y.length 1, .msl 1 x.o.length 1, .msl 2 x.x.length 1, intA .i64 x.N, intA .i64 x.I], [some (.arr x.y.length 1 (u32El x.y) 283), some (.arr x.o.length 1 (u32El x.o) 283), some (.arr x.x.length 1 (u32El x.x) 283)])
def take219 : List AV × List (Option Ent) → Option (W219 × List Bool)
 | ([.msl 0 my 1, .msl 1 mo 1, .msl 2 mx 1, .c (.v (.int .i64 N)), .c (.v (.int .i64 I))], [some (.arr ky 1 ey 283), some (.arr ko 1 eo 283), some (.arr kx 1 ex 283)]) => some (⟨u32sOf my ey, u32sOf mo eo, u32sOf mx ex, N, I⟩, [decide (my = ky), decide (mo = ko), decide (mx = kx), isU32s my ey, isU32s mo eo, isU32s mx ex])
 | _ => none
def lp219 (w : Way W219) : LoopSt W219 W219 where
 nIn := { nt := 97, live := [11, 12, 46, 47, 48] }
 nOut := { nt := 97, live := [11, 12, 46, 47, 48] }
 head := head219
 take := take219
 out := fun r => (.normal, head219 r)
 takeR := fun q => match q with | (.normal, q) => take219 q | _ => none
 res := w.res
 pre := w.pre
theorem take219_ok (q : List AV × List (Option Ent)) (x : W219) (cs : List Bool) (h : take219 q = some (x, cs)) (hc : ∀ p ∈ cs, p) : SeesL q.1 (head219 x).1 ∧ EntsEqv q.2 (head219 x).2 := by
 unfold take219 at h
 split at h
 ·rename_i my mo mx N I ky ey ko eo kx ex
  simp only [Option.some.injEq, Prod.mk.injEq] at h
  obtain ⟨rfl, rfl⟩ := h
  have hy : my = ky := dec (hc (decide (my = ky)) (by simp))
  have gy : isU32s my ey = true := hc (isU32s my ey) (by simp)
  have ho : mo = ko := dec (hc (decide (mo = ko)) (by simp))
  have go : isU32s mo eo = true := hc (isU32s mo eo) (by simp)
  have hx : mx = kx := dec (hc (decide (mx = kx)) (by simp))
  have gx : isU32s mx ex = true := hc (isU32s mx ex) (by simp)
  subst hy
  subst ho
  subst hx
  simp only [head219, u32sOf_len]
  exact ⟨SeesL.refl _, .cons (.arr _ _ _ _ _ (isU32s_el gy).1) (.cons (.arr _ _ _ _ _ (isU32s_el go).1) (.cons (.arr _ _ _ _ _ (isU32s_el gx).1) (.nil)))⟩
 ·cases h
theorem lp219_good (w : Way W219) : (lp219 w).Good2 where
 take := take219_ok
 takeR := by
  intro e q r cs h hc
  cases e with
  | normal => obtain ⟨h1, h2⟩ := take219_ok q r cs h hc; exact ⟨rfl, h1, h2⟩
  | exit j => cases h
  | ret => cases h
 split := fun r Q h => h
end Go.Vse
set_option maxRecDepth 100000
namespace Go.Vse
open Go.Proofs
def step219i (y : List Nat) (o : List Nat) (i : Int) (d : Int) (c : Int) (x : List Nat) (N : Int) (I : Int) (n : Int) (k : Int) : Tr (W219i ⊕ W219i) :=
 let x1 : Int := IntKind.i64.wrap (i + k)
 let x2 : Int := ↑o.length
 let x3 : Nat := x1.toNat
 let x4 : Int := ↑y.length
 let x5 : Int := IntKind.u64.wrap (c + IntKind.u64.wrap (IntKind.u64.wrap ↑(o.getD x3 0) + IntKind.u64.wrap (IntKind.u64.wrap d * IntKind.u64.wrap ↑(y.getD k.toNat 0))))
 let x6 : List Nat := u32sOf y.length (u32El y)
 let x7 : List Nat := u32sOf x.length (u32El x)
 .ite (decide (k < n)) (.need (decide (0 ≤ x1 ∧ x1 < x2)) (.need (decide (x3 < o.length)) (.need (decide (0 ≤ k ∧ k < x4)) (.need (decide (k.toNat < y.length)) (.need true (.need (decide (0 ≤ x1 ∧ x1 < x2)) (.need (decide (x3 < o.length)) (.need (decide (y.length = y.length)) (.need (decide (o.length = o.length)) (.need (decide (x.length = x.length)) (.need (isU32s y.length (u32El y)) (.need (isU32s o.length (spliceE (u32El o) x3 0 [IV.v (Value.int IntKind.u32 (IntKind.u32.wrap x5))].reverse)) (.need (isU32s x.length (u32El x)) (.ret (Sum.inl { y := x6, o := u32sOf o.length (spliceE (u32El o) x3 0 [IV.v (Value.int IntKind.u32 (IntKind.u32.wrap x5))].reverse), i := i, d := d, c := x5.fdiv (2 ^ min (Int.toNat 32) IntKind.u64.bits), x := x7, N := N, I := I, n := n, k := IntKind.i64.wrap (k + 1) }))))))))))))))) (.need (decide (y.length = y.length)) (.need (decide (o.length = o.length)) (.need (decide (x.length = x.length)) (.need (isU32s y.length (u32El y)) (.need (isU32s o.length (u32El o)) (.need (isU32s x.length (u32El x)) (.ret (Sum.inr { y := x6, o := u32sOf o.length (u32El o), i := i, d := d, c := c, x := x7, N := N, I := I, n := n, k := k }))))))))
theorem step219i_eq (w : Way W219i) (x : W219i) : (exec Tryz.prog (fun _ => none) noL 1005 (loopOf 2 (codeOf Tryz.f219)) (mkSt (lp219i w).nIn ((lp219i w).head x))).bind ((lp219i w).fin 0 2) = step219i x.y x.o x.i x.d x.c x.x x.N x.I x.n x.k := by
 obtain ⟨y, o, i, d, c, x, N, I, n, k⟩ := x
 kernel_rfl
theorem mulA_lt (o d Y i k : Nat) (hd : d < BB) : mulA o d Y i k < BB * BB ^ (i + k) := by
 have h1 : o % BB ^ (i + k) < BB ^ (i + k) := Nat.mod_lt _ (Nat.pow_pos (by decide))
 have h2 : Y % BB ^ k < BB ^ k := Nat.mod_lt _ (Nat.pow_pos (by decide))
 have h3 : d * (Y % BB ^ k) * BB ^ i ≤ (BB - 1) * BB ^ (i + k) := by
  calc d * (Y % BB ^ k) * BB ^ i ≤ ((BB - 1) * BB ^ k) * BB ^ i := Nat.mul_le_mul_right _ (Nat.mul_le_mul (by omega) (by omega))
   _ = (BB - 1) * BB ^ (i + k) := by rw [Nat.mul_assoc, ← Nat.pow_add, Nat.add_comm k i]
 have h4 : BB * BB ^ (i + k) = (BB - 1) * BB ^ (i + k) + BB ^ (i + k) := by
  have : BB = (BB - 1) + 1 := rfl
  rw [this, Nat.add_mul, Nat.one_mul]; rfl
 unfold mulA
 omega
theorem mulC_lt (o d Y i k : Nat) (hd : d < BB) : mulA o d Y i k / BB ^ (i + k) < BB := by
 rw [Nat.div_lt_iff_lt_mul (Nat.pow_pos (by decide))]
 exact mulA_lt o d Y i k hd
theorem mulA_succ (o d Y i k : Nat) : mulA o d Y i (k + 1) = mulA o d Y i k + BB ^ (i + k) * (o / BB ^ (i + k) % BB + d * (Y / BB ^ k % BB)) := by
 unfold mulA
 rw [← Nat.add_assoc, Nat.mod_pow_succ, Nat.mod_pow_succ, Nat.pow_add]
 generalize o % (BB ^ i * BB ^ k) = a
 generalize o / (BB ^ i * BB ^ k) % BB = b
 generalize Y % BB ^ k = c
 generalize Y / BB ^ k % BB = e
 generalize BB ^ i = p
 generalize BB ^ k = q
 simp only [Nat.mul_add, Nat.add_mul]
 have e1 : d * (q * e) * p = p * q * (d * e) := by simp only [Nat.mul_assoc, Nat.mul_comm, Nat.mul_left_comm]
 omega
theorem mulC_succ (o d Y i k : Nat) : mulA o d Y i (k + 1) / BB ^ (i + (k + 1)) = (mulA o d Y i k / BB ^ (i + k) + (o / BB ^ (i + k) % BB + d * (Y / BB ^ k % BB))) / BB := by
 rw [mulA_succ, ← Nat.add_assoc, Nat.pow_succ, ← Nat.div_div_eq_div_mul, Nat.add_mul_div_left _ _ (Nat.pow_pos (by decide))]
theorem mul_digit (o d Y i k : Nat) : (o + d * Y * BB ^ i) / BB ^ (i + k) % BB = (mulA o d Y i k / BB ^ (i + k) + (o / BB ^ (i + k) % BB + d * (Y / BB ^ k % BB))) % BB := by
 have hp : 0 < BB ^ (i + k) := Nat.pow_pos (by decide)
 have e : o + d * Y * BB ^ i = mulA o d Y i k + BB ^ (i + k) * (o / BB ^ (i + k) + d * (Y / BB ^ k)) := by
  have h1 := Nat.div_add_mod o (BB ^ (i + k))
  have h2 := Nat.div_add_mod Y (BB ^ k)
  unfold mulA
  have e2 : d * Y * BB ^ i = d * (Y % BB ^ k) * BB ^ i + BB ^ (i + k) * (d * (Y / BB ^ k)) := by
   conv => lhs; rw [← h2]
   rw [Nat.pow_add]
   generalize Y % BB ^ k = c
   generalize Y / BB ^ k = e
   generalize BB ^ i = p
   generalize BB ^ k = q
   simp only [Nat.mul_add, Nat.add_mul]
   have e1 : d * (q * e) * p = p * q * (d * e) := by simp only [Nat.mul_assoc, Nat.mul_comm, Nat.mul_left_comm]
   omega
  rw [e2, Nat.mul_add]
  omega
 rw [e, Nat.add_mul_div_left _ _ hp]
 have e3 : d * (Y / BB ^ k) % BB = d * (Y / BB ^ k % BB) % BB := by rw [Nat.mul_mod, Nat.mul_mod d (Y / BB ^ k % BB), Nat.mod_mod]
 generalize mulA o d Y i k / BB ^ (i + k) = a
 generalize o / BB ^ (i + k) = b
 generalize d * (Y / BB ^ k) = u at *
 generalize d * (Y / BB ^ k % BB) = v at *
 unfold BB at *
 omega
theorem mul_full (o d Y i m : Nat) (hY : Y < BB ^ m) (ho : o < BB ^ (i + m)) : mulA o d Y i m = o + d * Y * BB ^ i := by
 unfold mulA
 rw [Nat.mod_eq_of_lt hY, Nat.mod_eq_of_lt ho]
theorem dig_lt (v j : Nat) : v / BB ^ j % BB < 4294967296 := Nat.mod_lt _ (by decide)
theorem mul_le_sq {d e : Nat} (hd : d < 4294967296) (he : e < 4294967296) : d * e ≤ 18446744065119617025 := by
 calc d * e ≤ 4294967295 * 4294967295 := Nat.mul_le_mul (by omega) (by omega)
  _ = 18446744065119617025 := by decide
theorem step219i_in (y x : List Nat) (hy : okD y = true) (hx : okD x = true) (X d n i k : Nat) (N I : Int) (hd : d < 4294967296) (hn : n ≤ 1000000000) (hk : k < y.length) (hi : i + y.length ≤ n) {R : W219i ⊕ W219i → Prop}
   (hin : R (.inl ⟨y, mixL X (X + d * natV y * BB ^ i) n (i + (k + 1)), (i : Nat), (d : Nat), (mulA X d (natV y) i (k + 1) / BB ^ (i + (k + 1)) : Nat), x, N, I, (y.length : Nat), ((k + 1 : Nat) : Int)⟩)) :
   (step219i y (mixL X (X + d * natV y * BB ^ i) n (i + k)) (i : Nat) (d : Nat) (mulA X d (natV y) i k / BB ^ (i + k) : Nat) x N I (y.length : Nat) (k : Nat)).sat R := by
 have ho := mixL_get X (X + d * natV y * BB ^ i) n (i + k) (i + k) (by omega)
 rw [if_neg (Nat.lt_irrefl _)] at ho
 have hox := dig_lt X (i + k)
 have hyx := dig_lt (natV y) k
 have hs := mixL_set X (X + d * natV y * BB ^ i) n (i + k) (by omega)
 have had := mul_digit X d (natV y) i k
 have hcs := mulC_succ X d (natV y) i k
 have hcl := mulC_lt X d (natV y) i k hd
 have hyg : y.getD k 0 = natV y / BB ^ k % BB := by
   have := u32s_natV y hy
   rw [← this, u32s_get _ _ _ hk, this]
 have w0 : IntKind.i64.wrap ((i : Int) + (k : Int)) = ((i + k : Nat) : Int) := by rw [wrap_i64 (by omega)]; omega
 have w1 : IntKind.i64.wrap ((k : Int) + 1) = ((k + 1 : Nat) : Int) := by rw [wrap_i64 (by omega)]; omega
 generalize mulA X d (natV y) i k / BB ^ (i + k) = c at hcl had hcs
 generalize mulA X d (natV y) i (k + 1) / BB ^ (i + (k + 1)) = c' at hcs hin
 generalize hO : X / BB ^ (i + k) % BB = ox at hox ho had hcs
 generalize natV y / BB ^ k % BB = yx at hyx had hcs hyg
 have hm := mul_le_sq hd hyx
 unfold BB at hcl
 have a1 : ∀ z : Nat, z < 18446744073709551616 → IntKind.u64.wrap ((z : Nat) : Int) = ((z : Nat) : Int) := fun z hz => by rw [wrap_u64]; omega
 have a2 : IntKind.u64.wrap (((d : Nat) : Int) * ((yx : Nat) : Int)) = ((d * yx : Nat) : Int) := by rw [← Int.natCast_mul]; exact a1 _ (by omega)
 have a3 : IntKind.u64.wrap (((ox : Nat) : Int) + ((d * yx : Nat) : Int)) = ((ox + d * yx : Nat) : Int) := by rw [← Int.natCast_add]; exact a1 _ (by omega)
 have a4 : IntKind.u64.wrap (((c : Nat) : Int) + ((ox + d * yx : Nat) : Int)) = ((c + (ox + d * yx) : Nat) : Int) := by rw [← Int.natCast_add]; exact a1 _ (by omega)
 have a5 : IntKind.u32.wrap ((c + (ox + d * yx) : Nat) : Int) = (((c + (ox + d * yx)) % 4294967296 : Nat) : Int) := by rw [wrap_u32]; omega
 have a6 : ((c + (ox + d * yx) : Nat) : Int).fdiv (2 ^ min (Int.toNat 32) IntKind.u64.bits) = (((c + (ox + d * yx)) / 4294967296 : Nat) : Int) := fdiv_nat _ 4294967296
 have e2 := u32sOf_el (mixL X (X + d * natV y * BB ^ i) n (i + k + 1))
 rw [mixL_len] at e2
 unfold step219i
 simp only [Int.toNat_natCast, ho, hyg, w0, w1, a1 ox (by omega), a1 d (by omega), a1 yx (by omega), a2, a3, a4, a5, a6, mixL_len, u32sOf_el]
 rw [splice_eq32 _ _ _ (by rw [mixL_len]; omega), ← had, hs, e2, ← hcs]
 refine sat_ite (fun _ => ?_) (fun h => absurd (show (k : Int) < (y.length : Nat) by omega) (of_decide_eq_false h))
 exact sat_need (decide_eq_true (by omega)) (sat_need (decide_eq_true (by omega)) (sat_need (decide_eq_true (by omega)) (sat_need (decide_eq_true hk) (sat_need rfl (sat_need (decide_eq_true (by omega)) (sat_need (decide_eq_true (by omega)) (sat_need (by simp) (sat_need (by simp) (sat_need (by simp) (sat_need (isU32s_mk hy _) (sat_need (isU32s_mk (okD_mixL _ _ _ _) _) (sat_need (isU32s_mk hx _) (sat_ret hin)))))))))))))
theorem runs219i (y x : List Nat) (hy : okD y = true) (hx : okD x = true) (X d n i : Nat) (N I : Int) (hd : d < 4294967296) (hn : n ≤ 1000000000) (hi : i + y.length ≤ n) (Q : W219i → Prop)
  (hq : Q ⟨y, mixL X (X + d * natV y * BB ^ i) n (i + y.length), (i : Nat), (d : Nat), (mulA X d (natV y) i y.length / BB ^ (i + y.length) : Nat), x, N, I, (y.length : Nat), (y.length : Nat)⟩) : ∀ (j k : Nat), k + j = y.length →
  RunsX (fun x : W219i => step219i x.y x.o x.i x.d x.c x.x x.N x.I x.n x.k) Q (j + 1) ⟨y, mixL X (X + d * natV y * BB ^ i) n (i + k), (i : Nat), (d : Nat), (mulA X d (natV y) i k / BB ^ (i + k) : Nat), x, N, I, (y.length : Nat), (k : Nat)⟩
 | 0, k, hk => by
  obtain rfl : k = y.length := by omega
  unfold RunsX
  change Tr.sat _ (step219i y (mixL X (X + d * natV y * BB ^ i) n (i + y.length)) (i : Nat) (d : Nat) (mulA X d (natV y) i y.length / BB ^ (i + y.length) : Nat) x N I (y.length : Nat) (y.length : Nat))
  have e := u32sOf_el (mixL X (X + d * natV y * BB ^ i) n (i + y.length))
  unfold step219i
  rw [e, u32sOf_el, u32sOf_el]
  exact sat_ite (fun h => absurd (of_decide_eq_true h) (Int.lt_irrefl _)) (fun _ => sat_need (by simp) (sat_need (by simp) (sat_need (by simp) (sat_need (isU32s_mk hy _) (sat_need (isU32s_mk (okD_mixL _ _ _ _) _) (sat_need (isU32s_mk hx _) (sat_ret hq)))))))
 | j + 1, k, hk => step219i_in y x hy hx X d n i k N I hd hn (by omega) hi (runs219i y x hy hx X d n i N I hd hn hi Q hq j (k + 1) (by omega))
theorem L219i_ok : ∀ p ∈ blocksOf (fun id => Nat.beq id 2) (codeOf Tryz.f219), ∀ g, L219i p.1 = some g → BlockOk Tryz.prog 0 p.1 p.2 g := by
 have hb : blocksOf (fun id => Nat.beq id 2) (codeOf Tryz.f219) = [(2, .loop (loopOf 2 (codeOf Tryz.f219)))] := by kernel_rfl
 rw [hb]
 intro p hp g hg
 simp only [List.mem_singleton] at hp
 subst hp
 have hh : L219i 2 = some ((lp219i way219i).g 0) := rfl
 rw [hh] at hg
 obtain rfl : g = (lp219i way219i).g 0 := (Option.some.inj hg).symm
 refine LoopSt.ok2 (N := 1005) prog_mixed noΓ_ok (L := noL) (blocksOk_none 0 _) (lp219i_good _) (step219i_eq way219i) ?_
 rintro ⟨y, o, i, d, c, x, N, I, n, k⟩ hx
 have hx : way219i.pre ⟨y, o, i, d, c, x, N, I, n, k⟩ = true := hx
 simp only [way219i, Bool.and_eq_true, decide_eq_true_eq] at hx
 obtain ⟨⟨⟨⟨⟨⟨⟨⟨⟨⟨rfl, rfl⟩, rfl⟩, h4⟩, h5⟩, h6⟩, h7⟩, h8⟩, h9⟩, h10⟩, h11⟩ := hx
 obtain ⟨i, rfl⟩ : ∃ j : Nat, i = j := ⟨i.toNat, by omega⟩
 obtain ⟨d, rfl⟩ : ∃ j : Nat, d = j := ⟨d.toNat, by omega⟩
 rw [Int.toNat_natCast] at h9
 have := runs219i y x h4 h6 (natV o) d o.length i N I (by omega) h7 h9 (· = way219i.res ⟨y, o, (i : Nat), (d : Nat), 0, x, N, I, (y.length : Nat), 0⟩) (by simp [way219i]) y.length 0 (by omega)
 have e0 : mixL (natV o) (natV o + d * natV y * BB ^ i) o.length (i + 0) = o := by
   have e1 : natV o + d * natV y * BB ^ i = natV o % BB ^ i + BB ^ i * (natV o / BB ^ i + d * natV y) := by
     have := Nat.div_add_mod (natV o) (BB ^ i)
     rw [Nat.mul_add, Nat.mul_comm (BB ^ i) (d * natV y)]; omega
   have e2 : mixL (natV o) (natV o + d * natV y * BB ^ i) o.length (i + 0) = u32s (natV o) o.length := by
     rw [← mixL_zero (natV o) 0 o.length]
     unfold mixL
     refine List.map_congr_left fun j hj => ?_
     rw [if_neg (Nat.not_lt_zero j)]
     split
     · rename_i hji
       obtain ⟨m, rfl⟩ : ∃ m, i = j + (m + 1) := ⟨i - j - 1, by omega⟩
       have hpj : 0 < BB ^ j := Nat.pow_pos (by decide)
       have e3 : d * natV y * BB ^ (j + (m + 1)) = BB ^ j * (BB * (d * natV y * BB ^ m)) := by
         rw [Nat.pow_add, Nat.pow_succ]; simp only [Nat.mul_assoc, Nat.mul_comm, Nat.mul_left_comm]
       rw [e3, Nat.add_mul_div_left _ _ hpj, Nat.add_mul_mod_self_left]
     · rfl
   rw [e2, u32s_natV o h5]
 have c0 : mulA (natV o) d (natV y) i 0 / BB ^ (i + 0) = 0 := by
   refine Nat.div_eq_of_lt ?_
   have : 0 < BB ^ i := Nat.pow_pos (by decide)
   simp [mulA, Nat.mod_one]
   exact Nat.mod_lt _ this
 rw [e0, c0] at this
 exact ⟨_, this⟩
theorem f219_in : BlocksOk Tryz.prog 0 L219i (loopOf 0 (codeOf Tryz.f219)) := by
 refine blocksOk_of (d := fun id => Nat.beq id 2) (fun id => by unfold L219i; cases Nat.beq id 2 <;> rfl) _ ?_
 have hb : blocksOf (fun id => Nat.beq id 2) (loopOf 0 (codeOf Tryz.f219)) = blocksOf (fun id => Nat.beq id 2) (codeOf Tryz.f219) := by kernel_rfl
 rw [hb]
 exact L219i_ok
end Go.Vse
set_option maxRecDepth 100000
namespace Go.Vse
open Go.Proofs
def step219 (y : List Nat) (o : List Nat) (x : List Nat) (N : Int) (I : Int) : Tr (W219 ⊕ W219) :=
 let x1 : Int := ↑x.length
 let x2 : Int := ↑y.length
 let x3 : List Nat := u32sOf y.length (u32El y)
 let x4 : Nat := x3.length
 let x5 : Int := ↑x4
 let x6 : List Nat := u32sOf o.length (u32El o)
 let x7 : List Nat := u32sOf x.length (u32El x)
 let x8 : Nat := x6.length
 let x9 : Nat := I.toNat + x4
 let x10 : Int := ↑(x.getD I.toNat 0)
 let x11 : Int := IntKind.i64.wrap (I + x5)
 let x12 : Nat := x10.toNat
 let x13 : List Nat := mixL (natV x6) (natV x6 + x12 * natV x3 * BB ^ I.toNat) x8 x9
 let x14 : Nat := x13.length
 let x15 : Int := ↑x14
 let x16 : Nat := x11.toNat
 let x17 : Nat := x7.length
 .ite (decide (I < N)) (.need (decide (0 ≤ I ∧ I < x1)) (.need (decide (I.toNat < x.length)) (.need (decide (y.length = y.length)) (.need (decide (o.length = o.length)) (.need (decide (x.length = x.length)) (.need (isU32s y.length (u32El y)) (.need (isU32s o.length (u32El o)) (.need (isU32s x.length (u32El x)) (.need (decide (x2 = x5) && decide ((0 : Int) = 0) && decide ((0 : Int) = 0) && okD x3 && okD x6 && okD x7 && decide (x8 ≤ 1000000000) && decide (0 ≤ I) && decide (x9 ≤ x8) && decide (0 ≤ x10) && decide (x10 < 4294967296)) (.need (decide (0 ≤ x11 ∧ x11 < x15)) (.need (decide (x16 < x14)) (.need (decide (x4 = x4)) (.need (decide (x14 = x14)) (.need (decide (x17 = x17)) (.need (isU32s x4 (u32El x3)) (.need (isU32s x14 (spliceE (u32El x13) x16 0 [IV.v (Value.int IntKind.u32 (IntKind.u32.wrap ↑(mulA (natV x6) x12 (natV x3) I.toNat x4 / BB ^ x9)))].reverse)) (.need (isU32s x17 (u32El x7)) (.ret (Sum.inl { y := u32sOf x4 (u32El x3), o := u32sOf x14 (spliceE (u32El x13) x16 0 [IV.v (Value.int IntKind.u32 (IntKind.u32.wrap ↑(mulA (natV x6) x12 (natV x3) I.toNat x4 / BB ^ x9)))].reverse), x := u32sOf x17 (u32El x7), N := N, I := IntKind.i64.wrap (I + 1) }))))))))))))))))))) (.need (decide (y.length = y.length)) (.need (decide (o.length = o.length)) (.need (decide (x.length = x.length)) (.need (isU32s y.length (u32El y)) (.need (isU32s o.length (u32El o)) (.need (isU32s x.length (u32El x)) (.ret (Sum.inr { y := x3, o := x6, x := x7, N := N, I := I }))))))))
theorem step219_eq (w : Way W219) (x : W219) : (exec Tryz.prog (fun _ => none) L219i 1005 (loopOf 0 (codeOf Tryz.f219)) (mkSt (lp219 w).nIn ((lp219 w).head x))).bind ((lp219 w).fin 0 0) = step219 x.y x.o x.x x.N x.I := by
 obtain ⟨y, o, x, N, I⟩ := x
 kernel_rfl
def way219 : Way W219 := ⟨fun x => ⟨x.y, u32s (natV x.x * natV x.y) x.o.length, x.x, x.N, x.N⟩,
 fun x => decide (x.N = (x.x.length : Nat)) && decide (x.I = 0) && okD x.y && okD x.x && decide (x.o = u32s 0 x.o.length) && decide (x.x.length + x.y.length + 1 = x.o.length) && decide (x.o.length ≤ 1000000000)⟩
def L219 : Nat → Option (St → Tr (Ex × St)) := fun id => bif Nat.beq id 0 then some ((lp219 way219).g 0) else none
def K256 : List AV → Option (AV × List Bool)
 | [.c (.v (.int .u64 a)), .c (.v (.int .u64 b))] => some (.tup [intA .u64 ((a.toNat * b.toNat / 18446744073709551616 : Nat) : Int), intA .u64 ((a.toNat * b.toNat % 18446744073709551616 : Nat) : Int)], [u64B a, u64B b])
 | _ => none
def K219 : List AV → Option (AV × List Bool)
 | [.c (.v (.string a)), .c (.v (.string b))] => some (strA (magB (magN a.data.toList * magN b.data.toList)), [decide (a.data.toList.length ≤ 100000000), decide (b.data.toList.length ≤ 100000000)])
 | _ => none
theorem mixL_eq (X S n j : Nat) (hX : X < BB ^ j) (hS : S < BB ^ j) : mixL X S n j = u32s S n := by
 rw [← mixL_all X S n]
 unfold mixL
 refine List.map_congr_left fun k hk => ?_
 rw [if_pos (List.mem_range.1 hk)]
 split
 ·rfl
 ·rename_i h
  have : BB ^ j ≤ BB ^ k := Nat.pow_le_pow_right (by decide) (by omega)
  rw [Nat.div_eq_of_lt (show X < BB ^ k by omega), Nat.div_eq_of_lt (show S < BB ^ k by omega)]
theorem mul_pow_lt (X Y i m : Nat) (hY : Y < BB ^ m) : X % BB ^ i * Y < BB ^ (i + m) := by
 rw [Nat.pow_add]
 have h1 : X % BB ^ i < BB ^ i := Nat.mod_lt _ (Nat.pow_pos (by decide))
 have hp : 0 < BB ^ i := Nat.pow_pos (by decide)
 calc X % BB ^ i * Y ≤ BB ^ i * Y := Nat.mul_le_mul_right _ (by omega)
  _ < BB ^ i * BB ^ m := by exact Nat.mul_lt_mul_of_pos_left hY hp
theorem mul_next (X Y i : Nat) : X % BB ^ (i + 1) * Y = X % BB ^ i * Y + X / BB ^ i % BB * Y * BB ^ i := by
 rw [Nat.mod_pow_succ, Nat.add_mul]
 congr 1
 simp only [Nat.mul_assoc, Nat.mul_comm, Nat.mul_left_comm]
theorem step219_in (y x : List Nat) (hy : okD y = true) (hx : okD x = true) (n i : Nat) (hn : n ≤ 1000000000) (hl : x.length + y.length + 1 = n) (hi : i < x.length) {R : W219 ⊕ W219 → Prop}
  (hin : R (.inl ⟨y, u32s (natV x % BB ^ (i + 1) * natV y) n, x, (x.length : Nat), ((i + 1 : Nat) : Int)⟩)) :
  (step219 y (u32s (natV x % BB ^ i * natV y) n) x (x.length : Nat) (i : Nat)).sat R := by
 have hYl := natV_lt y hy
 have hxg : x.getD i 0 = natV x / BB ^ i % BB := by
  have := u32s_natV x hx
  rw [← this, u32s_get _ _ _ hi, this]
 have hdl := dig_lt (natV x) i
 have hnx := mul_next (natV x) (natV y) i
 have ho := mul_pow_lt (natV x) (natV y) i y.length hYl
 have hS := mul_pow_lt (natV x) (natV y) (i + 1) y.length hYl
 rw [show i + 1 + y.length = i + y.length + 1 by omega] at hS
 generalize natV x / BB ^ i % BB = d at hxg hdl hnx
 generalize natV x % BB ^ i * natV y = o at ho hnx ⊢
 have hc := mulC_lt o d (natV y) i y.length hdl
 rw [mul_full o d (natV y) i y.length hYl ho, ← hnx] at hc
 have hov : natV (u32s o n) = o := natV_u32s _ _ (Nat.lt_of_lt_of_le ho (Nat.pow_le_pow_right (by decide) (by omega)))
 have w0 : IntKind.i64.wrap ((i : Int) + ((y.length : Nat) : Int)) = ((i + y.length : Nat) : Int) := by rw [wrap_i64 (by omega)]; omega
 have w1 : IntKind.i64.wrap ((i : Int) + 1) = ((i + 1 : Nat) : Int) := by rw [wrap_i64 (by omega)]; omega
 have eo := u32sOf_el (u32s o n)
 unfold step219
 rw [eo, u32sOf_el, u32sOf_el]
 simp only [u32s_len, u32sOf_el, Int.toNat_natCast, hxg, hov, w0, w1, mixL_len, mul_full o d (natV y) i y.length hYl ho, ← hnx]
 generalize natV x % BB ^ (i + 1) * natV y = S at *
 have hsd : S / BB ^ (i + y.length) % BB = S / BB ^ (i + y.length) := Nat.mod_eq_of_lt hc
 have e1 : IntKind.u32.wrap ((S / BB ^ (i + y.length) : Nat) : Int) = ((S / BB ^ (i + y.length) % BB : Nat) : Int) := by
  rw [hsd, wrap_u32]
  generalize S / BB ^ (i + y.length) = q at hc ⊢
  unfold BB at hc
  omega
 rw [e1, splice_eq32 _ _ _ (by rw [mixL_len]; omega), mixL_set _ _ _ _ (by omega), mixL_eq o S n (i + y.length + 1) (Nat.lt_of_lt_of_le ho (Nat.pow_le_pow_right (by decide) (by omega))) hS]
 have e2 := u32sOf_el (u32s S n)
 rw [u32s_len] at e2
 rw [e2]
 refine sat_ite (fun _ => ?_) (fun h => absurd (show (i : Int) < (x.length : Nat) by omega) (of_decide_eq_false h))
 refine sat_need (decide_eq_true (by omega)) (sat_need (decide_eq_true hi) (sat_need (by simp) (sat_need (by simp) (sat_need (by simp) (sat_need (isU32s_mk hy _) (sat_need (isU32s_mk (okD_u32s _ _) _) (sat_need (isU32s_mk hx _) (sat_need ?_ (sat_need (decide_eq_true (by omega)) (sat_need (decide_eq_true (by omega)) (sat_need (by simp) (sat_need (by simp) (sat_need (by simp) (sat_need (isU32s_mk hy _) (sat_need (isU32s_mk (okD_u32s _ _) _) (sat_need (isU32s_mk hx _) (sat_ret hin)))))))))))))))))
 simp only [Bool.and_eq_true, decide_eq_true_eq, okD_u32s, hy, hx, and_true, true_and]
 clear hc hin e1 e2 hsd hS hnx
 omega
theorem runs219 (y x : List Nat) (hy : okD y = true) (hx : okD x = true) (n : Nat) (hn : n ≤ 1000000000) (hl : x.length + y.length + 1 = n) (Q : W219 → Prop) (hq : Q ⟨y, u32s (natV x * natV y) n, x, (x.length : Nat), (x.length : Nat)⟩) : ∀ (j i : Nat), i + j = x.length →
  RunsX (fun x : W219 => step219 x.y x.o x.x x.N x.I) Q (j + 1) ⟨y, u32s (natV x % BB ^ i * natV y) n, x, (x.length : Nat), (i : Nat)⟩
 | 0, i, hi => by
  obtain rfl : i = x.length := by omega
  rw [Nat.mod_eq_of_lt (natV_lt x hx)]
  unfold RunsX
  change Tr.sat _ (step219 y (u32s (natV x * natV y) n) x (x.length : Nat) (x.length : Nat))
  have e := u32sOf_el (u32s (natV x * natV y) n)
  unfold step219
  rw [e, u32sOf_el, u32sOf_el]
  exact sat_ite (fun h => absurd (of_decide_eq_true h) (Int.lt_irrefl _)) (fun _ => sat_need (by simp) (sat_need (by simp) (sat_need (by simp) (sat_need (isU32s_mk hy _) (sat_need (isU32s_mk (okD_u32s _ _) _) (sat_need (isU32s_mk hx _) (sat_ret hq)))))))
 | j + 1, i, hi => step219_in y x hy hx n i hn hl (by omega) (runs219 y x hy hx n hn hl Q hq j (i + 1) (by omega))
theorem f219_loops : BlocksOk Tryz.prog 0 L219 (codeOf Tryz.f219) := by
 refine blocksOk_of (d := fun id => Nat.beq id 0) (fun id => by unfold L219; cases Nat.beq id 0 <;> rfl) _ ?_
 have hb : blocksOf (fun id => Nat.beq id 0) (codeOf Tryz.f219) = [(0, .loop (loopOf 0 (codeOf Tryz.f219)))] := by kernel_rfl
 rw [hb]
 intro p hp g hg
 simp only [List.mem_singleton] at hp
 subst hp
 have hh : L219 0 = some ((lp219 way219).g 0) := rfl
 rw [hh] at hg
 obtain rfl : g = (lp219 way219).g 0 := (Option.some.inj hg).symm
 refine LoopSt.ok2 (N := 1005) prog_mixed noΓ_ok (L := L219i) f219_in (lp219_good _) (step219_eq way219) ?_
 rintro ⟨y, o, x, N, I⟩ hx
 have hx : way219.pre ⟨y, o, x, N, I⟩ = true := hx
 simp only [way219, Bool.and_eq_true, decide_eq_true_eq] at hx
 obtain ⟨⟨⟨⟨⟨⟨rfl, rfl⟩, h4⟩, h5⟩, h6⟩, h7⟩, h8⟩ := hx
 have := runs219 y x h4 h5 o.length h8 h7 (· = way219.res ⟨y, o, x, (x.length : Nat), 0⟩) rfl x.length 0 (by omega)
 rw [Nat.pow_zero, Nat.mod_one, Nat.zero_mul, ← h6] at this
 exact ⟨_, this⟩
def Γ219 : FuncId → Option Spec := fun f => bif Nat.beq f 172 then some (pureSpec K172) else bif Nat.beq f 256 then some (pureSpec K256) else bif Nat.beq f 174 then some (pureSpec K174) else
 bif Nat.beq f 197 then some (memSpec K197) else bif Nat.beq f 199 then some (pureSpec K199) else none
end Go.Vse
set_option maxRecDepth 100000
namespace Go.Vse
open Go.Proofs
def M256 (a : Int) (b : Int) : Tr AV :=
 let x1 : Int := 2 ^ min (Int.toNat 32) IntKind.u64.bits
 let x2 : Int := a.fdiv x1
 let x3 : Int := b.fdiv x1
 let x4 : Int := IntKind.u64.wrap ↑(BitVec.ofInt IntKind.u64.bits b &&& BitVec.ofInt IntKind.u64.bits 4294967295).toNat
 let x5 : Int := IntKind.u64.wrap ↑(BitVec.ofInt IntKind.u64.bits a &&& BitVec.ofInt IntKind.u64.bits 4294967295).toNat
 let x6 : Int := IntKind.u64.wrap (IntKind.u64.wrap (x2 * x4) + (IntKind.u64.wrap (x5 * x4)).fdiv x1)
 .need true (.need true (.need true (.need true (.need true (.ret (AV.tup [.c (.v (.int IntKind.u64 (IntKind.u64.wrap (IntKind.u64.wrap (IntKind.u64.wrap (x2 * x3) + x6.fdiv x1) + (IntKind.u64.wrap (IntKind.u64.wrap ↑(BitVec.ofInt IntKind.u64.bits x6 &&& BitVec.ofInt IntKind.u64.bits 4294967295).toNat + IntKind.u64.wrap (x5 * x3))).fdiv x1)))), .c (.v (.int IntKind.u64 (IntKind.u64.wrap (a * b))))]))))))
def M219 (a : ByteArray) (b : ByteArray) : Tr AV :=
 let x1 : Nat := (wordV a).toNat * (wordV b).toNat
 let x2 : Int := ↑(x1 % 18446744073709551616)
 let x3 : List UInt8 := a.data.toList
 let x4 : List UInt8 := b.data.toList
 let x5 : Int := ↑(nDig x3.length)
 let x6 : Int := IntKind.i64.wrap (IntKind.i64.wrap (x5 + ↑(nDig x4.length)) + 1)
 let x7 : Int := ((4 : Nat) : Int) * x6
 let x8 : Nat := x6.toNat
 let x9 : List Nat := u32sOf (nDig x3.length) (u32El (u32s (magN x3) (nDig x3.length)))
 let x10 : Nat := x9.length
 let x11 : Int := ↑x10
 let x12 : List Nat := u32sOf (nDig x4.length) (u32El (u32s (magN x4) (nDig x4.length)))
 let x13 : List Nat := u32sOf x8 fun x => List.map IV.v [Value.int IntKind.u32 0]
 let x14 : Nat := x13.length
 let x15 : List Nat := u32s 0 x14
 let x16 : Nat := x10 + x12.length + 1
 let x17 : List Nat := u32s (natV x9 * natV x12) x14
 let x18 : Nat := x17.length
 .ite (wordB a && wordB b) (.need (u64B (wordV a)) (.need (u64B (wordV b)) (.ite (((x1 / 18446744073709551616 : Nat) : Int) == 0) (.need (u64B x2) (.ret (.c (.v (.string ⟨⟨magB x2.toNat⟩⟩))))) (.need (decide (x3.length ≤ 1000000000)) (.need (decide (x4.length ≤ 1000000000)) (.need (decide (x6 = x6)) (.need (decide (0 ≤ x6)) (.need (decide (x6 ≤ 9223372036854775807)) (.need (decide (x7 ≤ 140737488355328)) (.need (decide (nDig x4.length = nDig x4.length)) (.need (decide (x8 = x8)) (.need (decide (nDig x3.length = nDig x3.length)) (.need (isU32s (nDig x4.length) (u32El (u32s (magN x4) (nDig x4.length)))) (.need (isU32s x8 fun x => List.map IV.v [Value.int IntKind.u32 0]) (.need (isU32s (nDig x3.length) (u32El (u32s (magN x3) (nDig x3.length)))) (.need (decide (x5 = x11) && decide ((0 : Int) = 0) && okD x12 && okD x9 && decide (x13 = x15) && decide (x16 = x14) && decide (x14 ≤ 1000000000)) (.need (decide (x18 ≤ x18)) (.need (isU32s x18 (u32El x17)) (.need (decide (x18 ≤ 1000000000)) (.ret (.c (.v (.string ⟨⟨magB (natV (u32sOf x18 (u32El x17)))⟩⟩))))))))))))))))))))))) (.need (decide (x3.length ≤ 1000000000)) (.need (decide (x4.length ≤ 1000000000)) (.need (decide (x6 = x6)) (.need (decide (0 ≤ x6)) (.need (decide (x6 ≤ 9223372036854775807)) (.need (decide (x7 ≤ 140737488355328)) (.need (decide (nDig x4.length = nDig x4.length)) (.need (decide (x8 = x8)) (.need (decide (nDig x3.length = nDig x3.length)) (.need (isU32s (nDig x4.length) (u32El (u32s (magN x4) (nDig x4.length)))) (.need (isU32s x8 fun x => List.map IV.v [Value.int IntKind.u32 0]) (.need (isU32s (nDig x3.length) (u32El (u32s (magN x3) (nDig x3.length)))) (.need (decide (x5 = x11) && decide ((0 : Int) = 0) && okD x12 && okD x9 && decide (x13 = x15) && decide (x16 = x14) && decide (x14 ≤ 1000000000)) (.need (decide (x18 ≤ x18)) (.need (isU32s x18 (u32El x17)) (.need (decide (x18 ≤ 1000000000)) (.ret (.c (.v (.string ⟨⟨magB (natV (u32sOf x18 (u32El x17)))⟩⟩))))))))))))))))))))
theorem M256_eq (a b : Int) : execFn Tryz.prog (fun _ => none) noL 1005 Tryz.f256 [.c (.v (.int .u64 a)), .c (.v (.int .u64 b))] = M256 a b := by kernel_rfl
theorem M219_eq (a b : ByteArray) : execFn Tryz.prog Γ219 L219 1005 Tryz.f219 [.c (.v (.string a)), .c (.v (.string b))] = M219 a b := by kernel_rfl
theorem and_low (z : Nat) (hz : z < 18446744073709551616) : IntKind.u64.wrap ((BitVec.ofInt IntKind.u64.bits ((z : Nat) : Int) &&& BitVec.ofInt IntKind.u64.bits 4294967295).toNat : Nat) = ((z % 4294967296 : Nat) : Int) := by
 change IntKind.u64.wrap ((BitVec.ofInt 64 ((z : Nat) : Int) &&& BitVec.ofInt 64 4294967295).toNat : Nat) = _
 have e1 : (BitVec.ofInt 64 ((z : Nat) : Int)).toNat = z := by rw [BitVec.toNat_ofInt]; omega
 have e2 : (BitVec.ofInt 64 4294967295).toNat = 2 ^ 32 - 1 := by decide
 rw [BitVec.toNat_and, e1, e2, Nat.and_two_pow_sub_one_eq_mod, wrap_u64]
 omega
theorem M256_sat (a b : Nat) (ha : a < 18446744073709551616) (hb : b < 18446744073709551616) : (M256 (a : Nat) (b : Nat)).sat fun r => r = .tup [intA .u64 ((a * b / 18446744073709551616 : Nat) : Int), intA .u64 ((a * b % 18446744073709551616 : Nat) : Int)] := by
 have f : ∀ z : Nat, ((z : Nat) : Int).fdiv (2 ^ min (Int.toNat 32) IntKind.u64.bits) = ((z / 4294967296 : Nat) : Int) := fun z => fdiv_nat z 4294967296
 have w : ∀ z : Nat, z < 18446744073709551616 → IntKind.u64.wrap ((z : Nat) : Int) = ((z : Nat) : Int) := fun z hz => by rw [wrap_u64]; omega
 have h00 := mul_le_sq (Nat.mod_lt a (show 0 < 4294967296 by decide)) (Nat.mod_lt b (show 0 < 4294967296 by decide))
 have h10 := mul_le_sq (show a / 4294967296 < 4294967296 by omega) (Nat.mod_lt b (show 0 < 4294967296 by decide))
 have h01 := mul_le_sq (Nat.mod_lt a (show 0 < 4294967296 by decide)) (show b / 4294967296 < 4294967296 by omega)
 have h11 := mul_le_sq (show a / 4294967296 < 4294967296 by omega) (show b / 4294967296 < 4294967296 by omega)
 have hab : a * b = a % 4294967296 * (b % 4294967296) + 4294967296 * (a / 4294967296 * (b % 4294967296)) + 4294967296 * (a % 4294967296 * (b / 4294967296)) + 18446744073709551616 * (a / 4294967296 * (b / 4294967296)) := by
   have h1 := Nat.div_add_mod a 4294967296
   have h2 := Nat.div_add_mod b 4294967296
   generalize a / 4294967296 = x at *
   generalize a % 4294967296 = y at *
   generalize b / 4294967296 = u at *
   generalize b % 4294967296 = v at *
   subst h1 h2
   simp only [Nat.mul_add, Nat.add_mul]
   have e1 : 4294967296 * x * (4294967296 * u) = 18446744073709551616 * (x * u) := by rw [Nat.mul_mul_mul_comm]
   have e2 : 4294967296 * x * v = 4294967296 * (x * v) := Nat.mul_assoc _ _ _
   have e3 : y * (4294967296 * u) = 4294967296 * (y * u) := Nat.mul_left_comm _ _ _
   omega
 have hw : IntKind.u64.wrap (((a : Nat) : Int) * ((b : Nat) : Int)) = ((a * b % 18446744073709551616 : Nat) : Int) := by rw [← Int.natCast_mul, wrap_u64]; omega
 have q00 : IntKind.u64.wrap (((a % 4294967296 : Nat) : Int) * ((b % 4294967296 : Nat) : Int)) = ((a % 4294967296 * (b % 4294967296) : Nat) : Int) := by rw [← Int.natCast_mul]; exact w _ (by omega)
 have q10 : IntKind.u64.wrap (((a / 4294967296 : Nat) : Int) * ((b % 4294967296 : Nat) : Int)) = ((a / 4294967296 * (b % 4294967296) : Nat) : Int) := by rw [← Int.natCast_mul]; exact w _ (by omega)
 have q01 : IntKind.u64.wrap (((a % 4294967296 : Nat) : Int) * ((b / 4294967296 : Nat) : Int)) = ((a % 4294967296 * (b / 4294967296) : Nat) : Int) := by rw [← Int.natCast_mul]; exact w _ (by omega)
 have q11 : IntKind.u64.wrap (((a / 4294967296 : Nat) : Int) * ((b / 4294967296 : Nat) : Int)) = ((a / 4294967296 * (b / 4294967296) : Nat) : Int) := by rw [← Int.natCast_mul]; exact w _ (by omega)
 unfold M256
 simp only [f, and_low a ha, and_low b hb, hw, q00, q10, q01, q11]
 generalize a % 4294967296 * (b % 4294967296) = p00 at *
 generalize a / 4294967296 * (b % 4294967296) = p10 at *
 generalize a % 4294967296 * (b / 4294967296) = p01 at *
 generalize a / 4294967296 * (b / 4294967296) = p11 at *
 have t1 : IntKind.u64.wrap (((p10 : Nat) : Int) + ((p00 / 4294967296 : Nat) : Int)) = ((p10 + p00 / 4294967296 : Nat) : Int) := by rw [← Int.natCast_add]; exact w _ (by omega)
 simp only [t1, f, and_low (p10 + p00 / 4294967296) (by omega)]
 have t2 : IntKind.u64.wrap ((((p10 + p00 / 4294967296) % 4294967296 : Nat) : Int) + ((p01 : Nat) : Int)) = (((p10 + p00 / 4294967296) % 4294967296 + p01 : Nat) : Int) := by rw [← Int.natCast_add]; exact w _ (by omega)
 simp only [t2, f]
 have t3 : IntKind.u64.wrap (IntKind.u64.wrap (((p11 : Nat) : Int) + (((p10 + p00 / 4294967296) / 4294967296 : Nat) : Int)) + ((((p10 + p00 / 4294967296) % 4294967296 + p01) / 4294967296 : Nat) : Int)) = ((a * b / 18446744073709551616 : Nat) : Int) := by
   rw [← Int.natCast_add, w _ (by omega), ← Int.natCast_add, w _ (by omega), hab]
   omega
 rw [t3]
 exact sat_need rfl (sat_need rfl (sat_need rfl (sat_need rfl (sat_need rfl (sat_ret rfl)))))
theorem f256_ok : PureOk Tryz.prog 256 K256 := by
 refine pureOk_of_exec prog_mixed noΓ_ok (fn := Tryz.f256) (c := codeOf Tryz.f256) (by kernel_rfl) (by kernel_rfl) (callFunc_enter (fn := Tryz.f256) (c := codeOf Tryz.f256) (by kernel_rfl) (by kernel_rfl) (by kernel_rfl)) (L := noL) (N := 1005) (blocksOk_none _ _) ?_ ?_
 ·intro args v cs h
  unfold K256 at h
  split at h
  ·cases h; rfl
  ·cases h
 ·intro args v cs h hc
  unfold K256 at h
  split at h
  ·rename_i a b
   cases h
   have h1 : u64B a = true := hc (u64B a) (by simp)
   have h2 : u64B b = true := hc (u64B b) (by simp)
   simp only [u64B, Bool.and_eq_true, decide_eq_true_eq] at h1 h2
   obtain ⟨a, rfl⟩ : ∃ j : Nat, a = j := ⟨a.toNat, by omega⟩
   obtain ⟨b, rfl⟩ : ∃ j : Nat, b = j := ⟨b.toNat, by omega⟩
   have hs := M256_sat a b (by omega) (by omega)
   rw [← M256_eq] at hs
   generalize execFn Tryz.prog (fun _ => none) noL 1005 Tryz.f256 [.c (.v (.int .u64 ((a : Nat) : Int))), .c (.v (.int .u64 ((b : Nat) : Int)))] = T at hs ⊢
   exact Tr.sat_mono (fun r hr => ⟨by subst hr; rfl, Sees.of_eq hr⟩) hs
  ·cases h
theorem Γ219_ok : ∀ f s, Γ219 f = some s → SpecOk Tryz.prog f s := step_ok f172_ok.spec (step_ok f256_ok.spec (step_ok f174_ok.spec (step_ok f197_ok.spec (one_ok f199_ok.spec))))
theorem zeros_of (n : Nat) : (u32sOf n fun x => List.map IV.v [Value.int IntKind.u32 0]) = u32s 0 n := by
 have h : ∀ n, u32s 0 n = List.replicate n 0 := fun n => by
  induction n with
  | zero => rfl
  | succ n ih => simp [u32s, ih, List.replicate_succ]
 rw [h]
 unfold u32sOf
 exact List.map_const' .. |>.trans (by rw [List.length_range]; rfl)
theorem zeros_is (n : Nat) : (isU32s n fun x => List.map IV.v [Value.int IntKind.u32 0]) = true := List.all_eq_true.2 fun _ _ => rfl
theorem wordB_lt (a : ByteArray) (h : wordB a = true) : u64B (wordV a) = true := by
 have := magN_word a h
 rw [wordV_eq a h]; simp [u64B]; omega
theorem M219_sat (a b : ByteArray) (ha : a.data.toList.length ≤ 100000000) (hb : b.data.toList.length ≤ 100000000) : (M219 a b).sat fun r => r = strA (magB (magN a.data.toList * magN b.data.toList)) := by
 have la := mag_dig a
 have lb := mag_dig b
 have na : nDig a.data.toList.length ≤ 25000001 := by unfold nDig; omega
 have nb : nDig b.data.toList.length ≤ 25000001 := by unfold nDig; omega
 have ea : u32sOf (nDig a.data.toList.length) (u32El (u32s (magN a.data.toList) (nDig a.data.toList.length))) = u32s (magN a.data.toList) (nDig a.data.toList.length) := by
  have := u32sOf_el (u32s (magN a.data.toList) (nDig a.data.toList.length)); rw [u32s_len] at this; exact this
 have eb : u32sOf (nDig b.data.toList.length) (u32El (u32s (magN b.data.toList) (nDig b.data.toList.length))) = u32s (magN b.data.toList) (nDig b.data.toList.length) := by
  have := u32sOf_el (u32s (magN b.data.toList) (nDig b.data.toList.length)); rw [u32s_len] at this; exact this
 have w1 : IntKind.i64.wrap (IntKind.i64.wrap (((nDig a.data.toList.length : Nat) : Int) + ((nDig b.data.toList.length : Nat) : Int)) + 1) = ((nDig a.data.toList.length + nDig b.data.toList.length + 1 : Nat) : Int) := by
  have : IntKind.i64.wrap (((nDig a.data.toList.length : Nat) : Int) + ((nDig b.data.toList.length : Nat) : Int)) = ((nDig a.data.toList.length + nDig b.data.toList.length : Nat) : Int) := by rw [wrap_i64 (by omega)]; omega
  rw [this, wrap_i64 (by omega)]; omega
 have hS : magN a.data.toList * magN b.data.toList < BB ^ (nDig a.data.toList.length + nDig b.data.toList.length + 1) := by
  have h1 := mul_pow_lt (magN a.data.toList) (magN b.data.toList) (nDig a.data.toList.length) (nDig b.data.toList.length) lb
  rw [Nat.mod_eq_of_lt la] at h1
  exact Nat.lt_of_lt_of_le h1 (Nat.pow_le_pow_right (by decide) (by omega))
 have ep := u32sOf_el (u32s (magN a.data.toList * magN b.data.toList) (nDig a.data.toList.length + nDig b.data.toList.length + 1))
 rw [u32s_len] at ep
 unfold M219
 simp only [w1, ea, eb, zeros_of, zeros_is, Int.toNat_natCast, u32s_len, natV_u32s _ _ la, natV_u32s _ _ lb, ep, natV_u32s _ _ hS]
 have tail : ∀ {T : Tr AV}, Tr.sat (fun r => r = strA (magB (magN a.data.toList * magN b.data.toList))) T → Tr.sat (fun r => r = strA (magB (magN a.data.toList * magN b.data.toList))) T := id
 refine sat_ite (fun hw => sat_need (wordB_lt a (Bool.and_eq_true_iff.1 hw).1) (sat_need (wordB_lt b (Bool.and_eq_true_iff.1 hw).2) (sat_ite (fun h0 => ?_) (fun h0 => ?g1)))) (fun hw => ?g2)
 ·rw [Bool.and_eq_true] at hw
  rw [wordV_eq a hw.1, wordV_eq b hw.2] at h0 ⊢
  simp only [Int.toNat_natCast] at h0 ⊢
  have h0 := eq_of_beq h0
  have hlt : magN a.data.toList * magN b.data.toList < 18446744073709551616 := by omega
  rw [Nat.mod_eq_of_lt hlt]
  exact sat_need (by simp [u64B]; omega) (sat_ret rfl)
 all_goals
  refine sat_need (decide_eq_true (by omega)) (sat_need (decide_eq_true (by omega)) (sat_need (by simp) (sat_need (decide_eq_true (by omega)) (sat_need (decide_eq_true (by omega)) (sat_need (decide_eq_true (by omega)) (sat_need (by simp) (sat_need (by simp) (sat_need (by simp) (sat_need (isU32s_mk (okD_u32s _ _) _) (sat_need rfl (sat_need (isU32s_mk (okD_u32s _ _) _) (sat_need ?_ (sat_need (by simp) (sat_need (isU32s_mk (okD_u32s _ _) _) (sat_need (decide_eq_true (by omega)) (sat_ret rfl))))))))))))))))
  simp only [okD_u32s, Bool.and_true, Bool.and_eq_true, decide_eq_true_eq, true_and, and_true, decide_true]
  omega
theorem f219_ok : PureOk Tryz.prog 219 K219 := by
 refine pureOk_of_exec prog_mixed Γ219_ok (fn := Tryz.f219) (c := codeOf Tryz.f219) (by kernel_rfl) (by kernel_rfl) (callFunc_enter (fn := Tryz.f219) (c := codeOf Tryz.f219) (by kernel_rfl) (by kernel_rfl) (by kernel_rfl)) (L := L219) (N := 1005) f219_loops ?_ ?_
 ·intro args v cs h
  unfold K219 at h
  split at h
  ·cases h; rfl
  ·cases h
 ·intro args v cs h hc
  unfold K219 at h
  split at h
  ·rename_i a b
   cases h
   have h1 : a.data.toList.length ≤ 100000000 := dec (hc (decide (a.data.toList.length ≤ 100000000)) (by simp))
   have h2 : b.data.toList.length ≤ 100000000 := dec (hc (decide (b.data.toList.length ≤ 100000000)) (by simp))
   have hs := M219_sat a b h1 h2
   rw [← M219_eq] at hs
   generalize execFn Tryz.prog Γ219 L219 1005 Tryz.f219 [.c (.v (.string a)), .c (.v (.string b))] = T at hs ⊢
   generalize magB (magN a.data.toList * magN b.data.toList) = z at hs ⊢
   exact Tr.sat_mono (fun r hr => ⟨by subst hr; rfl, Sees.of_eq hr⟩) hs
  ·cases h
end Go.Vse
