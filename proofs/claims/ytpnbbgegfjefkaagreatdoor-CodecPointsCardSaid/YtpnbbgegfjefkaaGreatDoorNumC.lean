/- Helpers for the proof: no statement of its own. -/
import Derived.Test.YtpnbbgegfjefkaaGreatDoorNumB
import Derived.Test.YtpnbbgegfjefkaaGreatDoorVseD
set_option linter.unusedVariables false
set_option linter.unusedSimpArgs false
set_option linter.unnecessarySimpa false
set_option linter.deprecated false
set_option maxRecDepth 100000
namespace Go.Vse
open Go.Proofs
def u32El (l : List Nat) : Nat → List IV := fun k => [.v (.int .u32 ((l.getD k 0 : Nat) : Int))]
def u32Of : List IV → Nat
 | [.v (.int .u32 n)] => n.toNat
 | _ => 0
def isU32 : List IV → Bool
 | [.v (.int .u32 n)] => decide (0 ≤ n) && decide (n < 4294967296)
 | _ => false
def u32sOf (n : Nat) (el : Nat → List IV) : List Nat := (List.range n).map fun k => u32Of (el k)
def isU32s (n : Nat) (el : Nat → List IV) : Bool := (List.range n).all fun k => isU32 (el k)
def okD (l : List Nat) : Bool := l.all fun d => decide (d < 4294967296)
theorem u32sOf_len (n : Nat) (el : Nat → List IV) : (u32sOf n el).length = n := by simp [u32sOf]
theorem isU32s_el {n : Nat} {el : Nat → List IV} (h : isU32s n el = true) : (∀ k, k < n → el k = u32El (u32sOf n el) k) ∧ okD (u32sOf n el) = true := by
 have h1 := List.all_eq_true.1 h
 have key : ∀ k, k < n → el k = [.v (.int .u32 ((u32Of (el k) : Nat) : Int))] ∧ u32Of (el k) < 4294967296 := fun k hk => by
  have h2 := h1 k (List.mem_range.2 hk)
  unfold isU32 at h2
  split at h2
  ·rename_i m hh
   simp only [Bool.and_eq_true, decide_eq_true_eq] at h2
   rw [hh]
   simp only [u32Of]
   exact ⟨by rw [Int.toNat_of_nonneg h2.1], by omega⟩
  ·cases h2
 refine ⟨fun k hk => ?_, List.all_eq_true.2 fun d hd => ?_⟩
 ·have e : (u32sOf n el).getD k 0 = u32Of (el k) := by simp [u32sOf, List.getD_eq_getElem?_getD, hk]
  unfold u32El
  rw [e]; exact (key k hk).1
 ·unfold u32sOf at hd
  obtain ⟨k, hk, rfl⟩ := List.mem_map.1 hd
  exact decide_eq_true (key k (List.mem_range.1 hk)).2
theorem isU32s_mk {l : List Nat} (h : okD l = true) (n : Nat) : isU32s n (u32El l) = true := by
 refine List.all_eq_true.2 fun k _ => ?_
 have : l.getD k 0 < 4294967296 := by
  by_cases hk : k < l.length
  ·have := List.all_eq_true.1 h l[k] (List.getElem_mem hk)
   have e : l.getD k 0 = l[k] := by simp [List.getD_eq_getElem?_getD, hk]
   rw [e]; simpa using this
  ·have e : l.getD k 0 = 0 := by simp [List.getD_eq_getElem?_getD, List.getElem?_eq_none (Nat.le_of_not_lt hk)]
   rw [e]; decide
 simp only [u32El, isU32, Bool.and_eq_true, decide_eq_true_eq]
 omega
theorem u32sOf_el (l : List Nat) : u32sOf l.length (u32El l) = l := by
 apply List.ext_getElem
 ·simp [u32sOf]
 ·intro i h1 h2
  simp [u32sOf, u32El, u32Of, List.getD_eq_getElem?_getD, h2]
theorem splice_u32 (l : List Nat) (k b : Nat) (hk : k < l.length) (hok : okD l = true) (hb : b < 4294967296) :
  u32sOf l.length (spliceE (u32El l) k 0 [IV.v (.int .u32 (b : Int))].reverse) = l.set k b ∧ isU32s l.length (spliceE (u32El l) k 0 [IV.v (.int .u32 (b : Int))].reverse) = true := by
 have hel : ∀ i, spliceE (u32El l) k 0 [IV.v (.int .u32 (b : Int))].reverse i = if i = k then [IV.v (.int .u32 (b : Int))] else u32El l i := by
  intro i
  unfold spliceE
  split
  ·rename_i h; subst h; simp [u32El]
  ·rfl
 constructor
 ·apply List.ext_getElem
  ·simp [u32sOf]
  ·intro i h1 h2
   simp only [u32sOf, List.getElem_map, List.getElem_range, hel]
   by_cases hi : i = k
   ·subst hi
    simp [u32Of]
   ·have hil : i < l.length := by simpa [u32sOf] using h1
    rw [if_neg hi, List.getElem_set_ne (by omega)]
    simp [u32El, u32Of, List.getD_eq_getElem?_getD, hil]
 ·refine List.all_eq_true.2 fun i hi => ?_
  rw [hel]
  split
  ·simp [isU32]; omega
  ·exact List.all_eq_true.1 (isU32s_mk hok l.length) i hi
def u32s (v : Nat) : Nat → List Nat
 | 0 => []
 | k + 1 => v % 4294967296 :: u32s (v / 4294967296) k
theorem u32s_len : ∀ (k v : Nat), (u32s v k).length = k
 | 0, v => rfl
 | k + 1, v => by simp [u32s, u32s_len k]
theorem u32s_get : ∀ (k v i : Nat), i < k → (u32s v k).getD i 0 = v / 4294967296 ^ i % 4294967296
 | k + 1, v, 0, _ => by simp [u32s]
 | k + 1, v, i + 1, h => by
   simp only [u32s, List.getD_cons_succ]
   rw [u32s_get k (v / 4294967296) i (by omega), Nat.div_div_eq_div_mul, ← Nat.pow_succ']
theorem okD_u32s : ∀ (k v : Nat), okD (u32s v k) = true
 | 0, v => rfl
 | k + 1, v => by
  simp only [u32s, okD, List.all_cons, Bool.and_eq_true, decide_eq_true_eq]
  exact ⟨Nat.mod_lt _ (by decide), okD_u32s k _⟩
theorem u32s_ext {l : List Nat} {v : Nat} (h : ∀ i, i < l.length → l.getD i 0 = v / 4294967296 ^ i % 4294967296) : l = u32s v l.length := by
 apply List.ext_getElem
 ·rw [u32s_len]
 ·intro i h1 h2
  have e1 : l.getD i 0 = l[i] := by simp [List.getD_eq_getElem?_getD, h1]
  have e2 : (u32s v l.length).getD i 0 = (u32s v l.length)[i] := by simp [List.getD_eq_getElem?_getD, h2]
  rw [← e1, ← e2, h i h1, u32s_get _ _ _ h1]
structure W197 where
 s : ByteArray
 l : List Nat
 n : Int
 i : Int
def head197 (x : W197) : List AV × List (Option Ent) := ([.c (.v (.string x.s)), .msl 0 x.l.length 1, intA .i64 x.n, intA .i64 x.i], [some (.arr x.l.length 1 (u32El x.l) 283)])
def take197 : List AV × List (Option Ent) → Option (W197 × List Bool)
 | ([.c (.v (.string s)), .msl 0 m 1, .c (.v (.int .i64 n)), .c (.v (.int .i64 i))], [some (.arr m' 1 el 283)]) => some (⟨s, u32sOf m el, n, i⟩, [decide (m = m'), isU32s m el])
 | _ => none
def lp197 (w : Way W197) : LoopSt W197 W197 where
 nIn := { nt := 38, live := [0, 3, 12, 13] }
 nOut := { nt := 38, live := [0, 3, 12, 13] }
 head := head197
 take := take197
 out := fun r => (.normal, head197 r)
 takeR := fun q => match q with | (.normal, q) => take197 q | _ => none
 res := w.res
 pre := w.pre
theorem take197_ok (q : List AV × List (Option Ent)) (x : W197) (cs : List Bool) (h : take197 q = some (x, cs)) (hc : ∀ p ∈ cs, p) : SeesL q.1 (head197 x).1 ∧ EntsEqv q.2 (head197 x).2 := by
 unfold take197 at h
 split at h
 ·rename_i s m n i m' el
  simp only [Option.some.injEq, Prod.mk.injEq] at h
  obtain ⟨rfl, rfl⟩ := h
  have h1 : m = m' := dec (hc (decide (m = m')) (by simp))
  have h2 : isU32s m el = true := hc (isU32s m el) (by simp)
  subst h1
  simp only [head197, u32sOf_len]
  exact ⟨SeesL.refl _, .cons (.arr _ _ _ _ _ (isU32s_el h2).1) .nil⟩
 ·cases h
theorem lp197_good (w : Way W197) : (lp197 w).Good2 where
 take := take197_ok
 takeR := by
  intro e q r cs h hc
  cases e with
  | normal => obtain ⟨h1, h2⟩ := take197_ok q r cs h hc; exact ⟨rfl, h1, h2⟩
  | exit j => cases h
  | ret => cases h
 split := fun r Q h => h
def nDig (n : Nat) : Nat := (n + 3) / 4
def way197 : Way W197 := ⟨fun x => ⟨x.s, u32s (magN x.s.data.toList) x.l.length, x.n, x.n⟩,
 fun x => decide (x.n = (x.s.data.toList.length : Nat)) && decide (x.i = 0) && decide (x.l.length = nDig x.s.data.toList.length) && decide (x.l = List.replicate x.l.length 0) && decide (x.s.data.toList.length ≤ 1000000000)⟩
def L197 : Nat → Option (St → Tr (Ex × St)) := fun id => bif Nat.beq id 0 then some ((lp197 way197).g 0) else none
end Go.Vse
set_option maxRecDepth 100000
namespace Go.Vse
open Go.Proofs
def step197 (s : ByteArray) (l : List Nat) (n : Int) (i : Int) : Tr (W197 ⊕ W197) :=
 let x1 : Int := IntKind.i64.wrap (i.tdiv 4)
 let x2 : Int := ↑l.length
 let x3 : Nat := x1.toNat
 let x4 : List UInt8 := s.data.toList
 let x5 : Int := ↑x4.length
 let x6 : Int := IntKind.i64.wrap (IntKind.i64.wrap (x5 - 1) - i)
 let x7 : Int := IntKind.i64.wrap (8 * i.tmod 4)
 .ite (decide (i < n)) (.need true (.need (decide (0 ≤ x1 ∧ x1 < x2)) (.need (decide (x3 < l.length)) (.need (decide (0 ≤ x6 ∧ x6 < x5)) (.need true (.need (decide ¬x7 < 0) (.need (decide (0 ≤ x1 ∧ x1 < x2)) (.need (decide (x3 < l.length)) (.need (decide (l.length = l.length)) (.need (isU32s l.length (spliceE (u32El l) x3 0 [IV.v (Value.int IntKind.u32 (IntKind.u32.wrap ↑(BitVec.ofInt IntKind.u32.bits ↑(l.getD x3 0) ||| BitVec.ofInt IntKind.u32.bits (IntKind.u32.wrap (IntKind.u32.wrap ↑(x4.getD x6.toNat 0).toNat * 2 ^ min x7.toNat IntKind.u32.bits))).toNat))].reverse)) (.ret (Sum.inl { s := s, l := u32sOf l.length (spliceE (u32El l) x3 0 [IV.v (Value.int IntKind.u32 (IntKind.u32.wrap ↑(BitVec.ofInt IntKind.u32.bits ↑(l.getD x3 0) ||| BitVec.ofInt IntKind.u32.bits (IntKind.u32.wrap (IntKind.u32.wrap ↑(x4.getD x6.toNat 0).toNat * 2 ^ min x7.toNat IntKind.u32.bits))).toNat))].reverse), n := n, i := IntKind.i64.wrap (i + 1) })))))))))))) (.need (decide (l.length = l.length)) (.need (isU32s l.length (u32El l)) (.ret (Sum.inr { s := s, l := u32sOf l.length (u32El l), n := n, i := i }))))
def M197 (s : ByteArray) : Tr MemOut :=
 let x1 : List UInt8 := s.data.toList
 let x2 : Int := ↑x1.length
 let x3 : Int := IntKind.i64.wrap ((IntKind.i64.wrap (x2 + 3)).tdiv 4)
 let x4 : Int := ((4 : Nat) : Int) * x3
 let x5 : Nat := x3.toNat
 let x6 : List Nat := u32sOf x5 fun x => List.map IV.v [Value.int IntKind.u32 0]
 let x7 : Nat := x6.length
 let x8 : List Nat := List.replicate x7 0
 let x9 : List Nat := u32s (magN x1) x7
 let x10 : Nat := x9.length
 .need true (.need (decide (x3 = x3)) (.need (decide (0 ≤ x3)) (.need (decide (x3 ≤ 9223372036854775807)) (.need (decide (x4 ≤ 140737488355328)) (.need (decide (x5 = x5)) (.need (isU32s x5 fun x => List.map IV.v [Value.int IntKind.u32 0]) (.need (decide (x2 = x2) && decide ((0 : Int) = 0) && decide (x7 = nDig x1.length) && decide (x6 = x8) && decide (x1.length ≤ 1000000000)) (.ret { val := AV.msl 0 x10 1, outs := [], new := some (Ent.arr x10 1 (u32El x9) 283) }))))))))
theorem step197_eq (w : Way W197) (x : W197) : (exec Tryz.prog (fun _ => none) noL 1010 (loopOf 0 (codeOf Tryz.f197)) (mkSt (lp197 w).nIn ((lp197 w).head x))).bind ((lp197 w).fin 0 0) = step197 x.s x.l x.n x.i := by
 obtain ⟨s, l, n, i⟩ := x
 kernel_rfl
theorem M197_eq (s : ByteArray) : execM Tryz.prog (fun _ => none) L197 1010 false Tryz.f197 [] [.c (.v (.string s))] = M197 s := by kernel_rfl
theorem wrap_u32 (x : Int) : IntKind.u32.wrap x = x % 4294967296 := by
 simp [IntKind.wrap, IntKind.bits, IntKind.signed]
theorem toNat32 (x : Nat) (hx : x < 4294967296) : (BitVec.ofInt 32 (x : Int)).toNat = x := by
 rw [BitVec.toNat_ofInt]; omega
def lowv (l : List UInt8) (i : Nat) : Nat := magN (l.drop (l.length - i))
theorem lowv_lt (l : List UInt8) (i : Nat) (h : i ≤ l.length) : lowv l i < 256 ^ i := by
 have := magN_lt (l.drop (l.length - i))
 rw [List.length_drop, show l.length - (l.length - i) = i by omega] at this
 exact this
theorem lowv_succ (l : List UInt8) (i : Nat) (h : i < l.length) : lowv l (i + 1) = lowv l i + (l.getD (l.length - 1 - i) 0).toNat * 256 ^ i := by
 unfold lowv
 have e : l.drop (l.length - (i + 1)) = l[l.length - 1 - i]'(by omega) :: l.drop (l.length - i) := by
  have h1 := List.drop_eq_getElem_cons (l := l) (i := l.length - 1 - i) (by omega)
  rw [show l.length - 1 - i + 1 = l.length - i by omega] at h1
  rw [show l.length - (i + 1) = l.length - 1 - i by omega]
  exact h1
 have hg : l.getD (l.length - 1 - i) 0 = l[l.length - 1 - i]'(by omega) := by simp [List.getD_eq_getElem?_getD, show l.length - 1 - i < l.length by omega]
 rw [e, magN_cons, hg, List.length_drop, show l.length - (l.length - i) = i by omega, Nat.add_comm]
theorem lowv_all (l : List UInt8) : lowv l l.length = magN l := by simp [lowv]
theorem pow_split (i : Nat) : 256 ^ i = 4294967296 ^ (i / 4) * 256 ^ (i % 4) := by
 have : (4294967296 : Nat) = 256 ^ 4 := by decide
 rw [this, ← Nat.pow_mul, ← Nat.pow_add, Nat.div_add_mod]
theorem pow_small (r : Nat) (h : r < 4) : 256 ^ r ≤ 16777216 := by
 calc 256 ^ r ≤ 256 ^ 3 := Nat.pow_le_pow_right (by omega) (by omega)
  _ = 16777216 := by decide
theorem dig_old (v i n : Nat) (hv : v < 256 ^ i) (hn : i / 4 < n) : (u32s v n).getD (i / 4) 0 = v / 4294967296 ^ (i / 4) ∧ v / 4294967296 ^ (i / 4) < 256 ^ (i % 4) := by
 have hp : 0 < 4294967296 ^ (i / 4) := Nat.pow_pos (by decide)
 have h1 : v / 4294967296 ^ (i / 4) < 256 ^ (i % 4) := by
  rw [Nat.div_lt_iff_lt_mul hp, Nat.mul_comm, ← pow_split]; exact hv
 have h2 := pow_small (i % 4) (Nat.mod_lt _ (by decide))
 refine ⟨?_, h1⟩
 rw [u32s_get n v _ hn, Nat.mod_eq_of_lt (by omega)]
theorem dig_step (v b i n : Nat) (hv : v < 256 ^ i) (hb : b < 256) (hn : i / 4 < n) : (u32s v n).set (i / 4) (v / 4294967296 ^ (i / 4) + b * 256 ^ (i % 4)) = u32s (v + b * 256 ^ i) n := by
 obtain ⟨_, hlt⟩ := dig_old v i n hv hn
 have hs := pow_small (i % 4) (Nat.mod_lt _ (by decide))
 have hi := pow_split i
 have hlen : ((u32s v n).set (i / 4) (v / 4294967296 ^ (i / 4) + b * 256 ^ (i % 4))).length = n := by rw [List.length_set, u32s_len]
 have := u32s_ext (l := (u32s v n).set (i / 4) (v / 4294967296 ^ (i / 4) + b * 256 ^ (i % 4))) (v := v + b * 256 ^ i) fun j hj => ?_
 ·rw [hlen] at this; exact this
 ·rw [hlen] at hj
  have hpj : 0 < 4294967296 ^ j := Nat.pow_pos (by decide)
  by_cases hjk : j = i / 4
  ·subst hjk
   have e : ((u32s v n).set (i / 4) (v / 4294967296 ^ (i / 4) + b * 256 ^ (i % 4))).getD (i / 4) 0 = v / 4294967296 ^ (i / 4) + b * 256 ^ (i % 4) := by
    simp [List.getD_eq_getElem?_getD, List.getElem?_set_self (show i / 4 < (u32s v n).length by rw [u32s_len]; exact hn)]
   have hmul : b * 256 ^ (i % 4) ≤ 255 * 256 ^ (i % 4) := Nat.mul_le_mul_right _ (by omega)
   have e3 : (v + b * 256 ^ i) / 4294967296 ^ (i / 4) = v / 4294967296 ^ (i / 4) + b * 256 ^ (i % 4) := by
    rw [hi, ← Nat.mul_assoc, Nat.mul_right_comm, Nat.add_mul_div_right _ _ hpj]
   rw [e, e3]
   generalize v / 4294967296 ^ (i / 4) = q at hlt ⊢
   generalize b * 256 ^ (i % 4) = z at hmul ⊢
   generalize 256 ^ (i % 4) = D at hlt hmul hs
   exact (Nat.mod_eq_of_lt (by omega)).symm
  ·have e : ((u32s v n).set (i / 4) (v / 4294967296 ^ (i / 4) + b * 256 ^ (i % 4))).getD j 0 = (u32s v n).getD j 0 := by
    simp [List.getD_eq_getElem?_getD, List.getElem?_set_ne (Ne.symm hjk)]
   rw [e, u32s_get n v j hj]
   by_cases hlt2 : j < i / 4
   ·obtain ⟨m, hm⟩ : ∃ m, i / 4 = j + (m + 1) := ⟨i / 4 - j - 1, by omega⟩
    have e2 : b * 256 ^ i = b * 4294967296 ^ m * 256 ^ (i % 4) * 4294967296 * 4294967296 ^ j := by
     rw [hi, hm, Nat.pow_add, Nat.pow_succ]
     generalize 4294967296 ^ j = A
     generalize 4294967296 ^ m = C
     generalize 256 ^ (i % 4) = D
     simp only [Nat.mul_assoc, Nat.mul_comm, Nat.mul_left_comm]
    rw [e2, Nat.add_mul_div_right _ _ hpj, Nat.add_mul_mod_self_right]
   ·have hgt : i / 4 + 1 ≤ j := by omega
    have h1 : 4294967296 ^ (i / 4 + 1) ≤ 4294967296 ^ j := Nat.pow_le_pow_right (by decide) hgt
    have h2 : 256 ^ (i + 1) ≤ 4294967296 ^ (i / 4 + 1) := by
     have : (4294967296 : Nat) = 256 ^ 4 := by decide
     rw [this, ← Nat.pow_mul]
     exact Nat.pow_le_pow_right (by decide) (by omega)
    have h3 : v + b * 256 ^ i < 256 ^ (i + 1) := by
     have : b * 256 ^ i ≤ 255 * 256 ^ i := Nat.mul_le_mul_right _ (by omega)
     rw [Nat.pow_succ]; omega
    rw [Nat.div_eq_of_lt (show v + b * 256 ^ i < 4294967296 ^ j by omega), Nat.div_eq_of_lt (show v < 4294967296 ^ j by omega)]
theorem or_u32 (o b r : Nat) (ho : o < 256 ^ r) (hb : b < 256) (hr : r < 4) :
  IntKind.u32.wrap ((BitVec.ofInt IntKind.u32.bits (o : Int) ||| BitVec.ofInt IntKind.u32.bits (IntKind.u32.wrap (IntKind.u32.wrap (b : Int) * 2 ^ min (8 * r) IntKind.u32.bits))).toNat : Nat) = ((o + b * 256 ^ r : Nat) : Int) := by
 have hs := pow_small r hr
 have hmul : b * 256 ^ r ≤ 255 * 256 ^ r := Nat.mul_le_mul_right _ (by omega)
 have e1 : min (8 * r) IntKind.u32.bits = 8 * r := by
  change min (8 * r) 32 = 8 * r
  omega
 have e2 : ((2 : Int) ^ (8 * r)) = ((256 ^ r : Nat) : Int) := by
  rw [show (256 : Nat) = 2 ^ 8 from rfl, ← Nat.pow_mul]
  simp
 have e3 : IntKind.u32.wrap (b : Int) = (b : Int) := by rw [wrap_u32]; omega
 have e4 : IntKind.u32.wrap ((b : Int) * ((256 ^ r : Nat) : Int)) = ((b * 256 ^ r : Nat) : Int) := by
  rw [wrap_u32, ← Int.natCast_mul]; omega
 rw [e1, e2, e3, e4]
 change IntKind.u32.wrap ((BitVec.ofInt 32 (o : Int) ||| BitVec.ofInt 32 ((b * 256 ^ r : Nat) : Int)).toNat : Nat) = _
 rw [BitVec.toNat_or, toNat32 _ (by omega), toNat32 _ (by omega)]
 have e5 : o ||| b * 256 ^ r = o + b * 256 ^ r := by
  have h2 : (256 : Nat) ^ r = 2 ^ (8 * r) := by rw [show (256 : Nat) = 2 ^ 8 from rfl, ← Nat.pow_mul]
  have := Nat.two_pow_add_eq_or_of_lt (i := 8 * r) (b := o) (by rw [← h2]; exact ho) b
  rw [Nat.or_comm, h2, Nat.mul_comm b, ← this, Nat.add_comm]
 rw [e5, wrap_u32]; omega
theorem step197_in (s : ByteArray) (n i : Nat) (hn : s.data.toList.length ≤ 1000000000) (hi : i < s.data.toList.length) (hd : n = nDig s.data.toList.length) {R : W197 ⊕ W197 → Prop}
  (hin : R (.inl ⟨s, u32s (lowv s.data.toList (i + 1)) n, (s.data.toList.length : Nat), ((i + 1 : Nat) : Int)⟩)) : (step197 s (u32s (lowv s.data.toList i) n) (s.data.toList.length : Nat) (i : Nat)).sat R := by
 have hk : i / 4 < n := by rw [hd]; unfold nDig; omega
 have hv := lowv_lt s.data.toList i (by omega)
 obtain ⟨o1, o2⟩ := dig_old _ i n hv hk
 have hb := (s.data.toList.getD (s.data.toList.length - 1 - i) 0).toNat_lt
 have w1 : IntKind.i64.wrap ((i : Int).tdiv 4) = ((i / 4 : Nat) : Int) := by
  have : (i : Int).tdiv 4 = ((i / 4 : Nat) : Int) := rfl
  rw [this, wrap_i64 (by omega)]
 have w2 : IntKind.i64.wrap (((s.data.toList.length : Nat) : Int) - 1) = ((s.data.toList.length : Nat) : Int) - 1 := wrap_i64 (by omega)
 have w3 : IntKind.i64.wrap (((s.data.toList.length : Nat) : Int) - 1 - i) = ((s.data.toList.length - 1 - i : Nat) : Int) := by rw [wrap_i64 (by omega)]; omega
 have w4 : IntKind.i64.wrap (8 * (i : Int).tmod 4) = ((8 * (i % 4) : Nat) : Int) := by
  have : (i : Int).tmod 4 = ((i % 4 : Nat) : Int) := rfl
  rw [this, wrap_i64 (by omega)]; omega
 have w5 : IntKind.i64.wrap ((i : Int) + 1) = ((i + 1 : Nat) : Int) := by rw [wrap_i64 (by omega)]; omega
 have hs := pow_small (i % 4) (Nat.mod_lt _ (by decide))
 have hmul : (s.data.toList.getD (s.data.toList.length - 1 - i) 0).toNat * 256 ^ (i % 4) ≤ 255 * 256 ^ (i % 4) := Nat.mul_le_mul_right _ (by omega)
 obtain ⟨s1, s2⟩ := splice_u32 (u32s (lowv s.data.toList i) n) (i / 4) (lowv s.data.toList i / 4294967296 ^ (i / 4) + (s.data.toList.getD (s.data.toList.length - 1 - i) 0).toNat * 256 ^ (i % 4)) (by rw [u32s_len]; exact hk) (okD_u32s _ _) (by omega)
 rw [dig_step _ _ i n hv hb hk, ← lowv_succ _ i hi] at s1
 unfold step197
 simp only [w1, w2, w3, w4, w5, Int.toNat_natCast, o1, or_u32 _ _ _ o2 hb (Nat.mod_lt i (show 0 < 4 by decide)), s1, s2]
 rw [u32s_len] at *
 exact sat_ite (fun _ => sat_need rfl (sat_need (decide_eq_true (by omega)) (sat_need (decide_eq_true (by omega)) (sat_need (decide_eq_true (by omega)) (sat_need rfl (sat_need (decide_eq_true (by omega)) (sat_need (decide_eq_true (by omega)) (sat_need (decide_eq_true (by omega)) (sat_need (by simp) (sat_need rfl (sat_ret hin))))))))))) (fun h => absurd (show (i : Int) < (s.data.toList.length : Nat) by omega) (of_decide_eq_false h))
theorem runs197 (s : ByteArray) (n : Nat) (hn : s.data.toList.length ≤ 1000000000) (hd : n = nDig s.data.toList.length) (Q : W197 → Prop) (hq : Q ⟨s, u32s (magN s.data.toList) n, (s.data.toList.length : Nat), (s.data.toList.length : Nat)⟩) : ∀ (k i : Nat), i + k = s.data.toList.length →
  RunsX (fun x : W197 => step197 x.s x.l x.n x.i) Q (k + 1) ⟨s, u32s (lowv s.data.toList i) n, (s.data.toList.length : Nat), i⟩
 | 0, i, hi => by
  obtain rfl : i = s.data.toList.length := by omega
  rw [lowv_all]
  unfold RunsX
  change Tr.sat _ (step197 s (u32s (magN s.data.toList) n) (s.data.toList.length : Nat) (s.data.toList.length : Nat))
  have e := u32sOf_el (u32s (magN s.data.toList) n)
  unfold step197
  rw [e]
  exact sat_ite (fun h => absurd (of_decide_eq_true h) (Int.lt_irrefl _)) (fun _ => sat_need (by simp) (sat_need (isU32s_mk (okD_u32s _ _) _) (sat_ret hq)))
 | k + 1, i, hi => step197_in s n i hn (by omega) hd (runs197 s n hn hd Q hq k (i + 1) (by omega))
end Go.Vse
set_option maxRecDepth 100000
namespace Go.Vse
open Go.Proofs
theorem f197_loops : BlocksOk Tryz.prog 0 L197 (codeOf Tryz.f197) := by
 refine blocksOk_of (d := fun id => Nat.beq id 0) (fun id => by unfold L197; cases Nat.beq id 0 <;> rfl) _ ?_
 have hb : blocksOf (fun id => Nat.beq id 0) (codeOf Tryz.f197) = [(0, .loop (loopOf 0 (codeOf Tryz.f197)))] := by kernel_rfl
 rw [hb]
 intro p hp g hg
 simp only [List.mem_singleton] at hp
 subst hp
 have hh : L197 0 = some ((lp197 way197).g 0) := rfl
 rw [hh] at hg
 obtain rfl : g = (lp197 way197).g 0 := (Option.some.inj hg).symm
 refine LoopSt.ok2 (N := 1010) prog_mixed noΓ_ok (L := noL) (blocksOk_none 0 _) (lp197_good _) (step197_eq way197) ?_
 rintro ⟨s, l, n, i⟩ hx
 have hx : way197.pre ⟨s, l, n, i⟩ = true := hx
 simp only [way197, Bool.and_eq_true, decide_eq_true_eq] at hx
 obtain ⟨⟨⟨⟨rfl, rfl⟩, h3⟩, h4⟩, h5⟩ := hx
 have hz : ∀ n, u32s 0 n = List.replicate n 0 := by
   intro n
   induction n with
   | zero => rfl
   | succ n ih => simp [u32s, ih, List.replicate_succ]
 have e : l = u32s (lowv s.data.toList 0) l.length := by
   have : lowv s.data.toList 0 = 0 := by
     unfold lowv
     rw [Nat.sub_zero, List.drop_length]; rfl
   rw [this, hz]; exact h4
 have := runs197 s l.length h5 h3 (· = way197.res ⟨s, l, (s.data.toList.length : Nat), 0⟩) rfl s.data.toList.length 0 (by omega)
 rw [← e] at this
 exact ⟨_, this⟩
def digOut (s : ByteArray) : MemOut := { val := .msl 0 (nDig s.data.toList.length) 1, outs := [], new := some (.arr (nDig s.data.toList.length) 1 (u32El (u32s (magN s.data.toList) (nDig s.data.toList.length))) 283) }
def K197 : MSpec
 | [], [.c (.v (.string s))] => some { digOut s with conds := [decide (s.data.toList.length ≤ 1000000000)] }
 | _, _ => none
theorem M197_sat (s : ByteArray) (h : s.data.toList.length ≤ 1000000000) : (M197 s).sat (Out (digOut s)) := by
 have w1 : IntKind.i64.wrap (((s.data.toList.length : Nat) : Int) + 3) = ((s.data.toList.length + 3 : Nat) : Int) := by rw [wrap_i64 (by omega)]; omega
 have w2 : IntKind.i64.wrap (((s.data.toList.length + 3 : Nat) : Int).tdiv 4) = ((nDig s.data.toList.length : Nat) : Int) := by
  have : ((s.data.toList.length + 3 : Nat) : Int).tdiv 4 = ((nDig s.data.toList.length : Nat) : Int) := rfl
  rw [this, wrap_i64 (by unfold nDig; omega)]
 have hn : nDig s.data.toList.length ≤ 1000000000 := by unfold nDig; omega
 have e0 : ∀ k, u32sOf k (fun _ => List.map IV.v [Value.int IntKind.u32 0]) = List.replicate k 0 := by
  intro k
  apply List.ext_getElem
  ·simp [u32sOf]
  ·intro i h1 h2
   simp [u32sOf, u32Of]
 unfold M197
 simp only [w1, w2, Int.toNat_natCast, e0, List.length_replicate, u32s_len]
 refine sat_need rfl (sat_need (by simp) (sat_need (decide_eq_true (by omega)) (sat_need (decide_eq_true (by omega)) (sat_need (decide_eq_true (by omega)) (sat_need (by simp) (sat_need ?_ (sat_need ?_ (sat_ret (Out.refl _)))))))))
 ·exact List.all_eq_true.2 fun _ _ => rfl
 ·simp; exact h
theorem f197_ok : MemOk Tryz.prog 197 K197 := by
 refine memOk_of_exec_c (L := fun _ => L197) prog_mixed noΓ_ok (fn := Tryz.f197) (c := codeOf Tryz.f197) (by kernel_rfl) (by kernel_rfl) (callFunc_enter (fn := Tryz.f197) (c := codeOf Tryz.f197) (by kernel_rfl) (by kernel_rfl) (by kernel_rfl)) (N := 1010) (frz := false) ?_ ?_
 ·intro ents args o h
  unfold K197 at h
  split at h
  ·exact f197_loops
  ·cases h
 ·intro ents args o h hc
  unfold K197 at h
  split at h
  ·rename_i s
   cases h
   have h1 : s.data.toList.length ≤ 1000000000 := dec (hc (decide (s.data.toList.length ≤ 1000000000)) (by simp))
   refine ⟨[], [.c (.v (.string s))], EntsEqv.refl _, SeesL.refl _, ?_⟩
   have hs := M197_sat s h1
   rw [← M197_eq] at hs
   generalize execM Tryz.prog (fun _ => none) L197 1010 false Tryz.f197 [] [.c (.v (.string s))] = T at hs ⊢
   exact hs
  ·cases h
def head227 (l : List Nat) : List AV × List (Option Ent) := ([.c (.sl l.length 1 (u32El l))], [])
def take227 : List AV × List (Option Ent) → Option (List Nat × List Bool)
 | ([.c (.sl n 1 el)], []) => some (u32sOf n el, [isU32s n el])
 | _ => none
structure WayS (X : Type) where
 res : X → X
 pre : X → Bool
def lp227 (w : WayS (List Nat)) : LoopSt (List Nat) (List Nat) where
 nIn := { nt := 21, live := [0] }
 nOut := { nt := 21, live := [0] }
 head := head227
 take := take227
 out := fun r => (.normal, head227 r)
 takeR := fun q => match q with | (.normal, q) => take227 q | _ => none
 res := w.res
 pre := w.pre
theorem take227_ok (q : List AV × List (Option Ent)) (x : List Nat) (cs : List Bool) (h : take227 q = some (x, cs)) (hc : ∀ p ∈ cs, p) : SeesL q.1 (head227 x).1 ∧ EntsEqv q.2 (head227 x).2 := by
 unfold take227 at h
 split at h
 ·rename_i n el
  simp only [Option.some.injEq, Prod.mk.injEq] at h
  obtain ⟨rfl, rfl⟩ := h
  have h1 : isU32s n el = true := hc _ (List.mem_singleton.2 rfl)
  simp only [head227, u32sOf_len]
  exact ⟨.cons (Sees.sl (isU32s_el h1).1) .nil, EntsEqv.refl _⟩
 ·cases h
theorem lp227_good (w : WayS (List Nat)) : (lp227 w).Good2 where
 take := take227_ok
 takeR := by
  intro e q r cs h hc
  cases e with
  | normal => obtain ⟨h1, h2⟩ := take227_ok q r cs h hc; exact ⟨rfl, h1, h2⟩
  | exit j => cases h
  | ret => cases h
 split := fun r Q h => h
def trimD (l : List Nat) : List Nat := (l.reverse.dropWhile (· == 0)).reverse
def way227 : WayS (List Nat) := ⟨trimD, fun l => okD l && decide (l.length ≤ 1000000000)⟩
def L227 : Nat → Option (St → Tr (Ex × St)) := fun id => bif Nat.beq id 0 then some ((lp227 way227).g 0) else none
def head263 (x : List UInt8 × Int) : List AV × List (Option Ent) := ([strA x.1, intA .u8 x.2], [])
def take263 : List AV × List (Option Ent) → Option ((List UInt8 × Int) × List Bool)
 | ([.c (.v (.string s)), .c (.v (.int .u8 c))], []) => some ((s.data.toList, c), [])
 | _ => none
def lp263 (w : WayS (List UInt8 × Int)) : LoopSt (List UInt8 × Int) (List UInt8 × Int) where
 nIn := { nt := 17, live := [0, 1] }
 nOut := { nt := 17, live := [0, 1] }
 head := head263
 take := take263
 out := fun r => (.normal, head263 r)
 takeR := fun q => match q with | (.normal, q) => take263 q | _ => none
 res := w.res
 pre := w.pre
theorem take263_ok (q : List AV × List (Option Ent)) (x : List UInt8 × Int) (cs : List Bool) (h : take263 q = some (x, cs)) (hc : ∀ p ∈ cs, p) : SeesL q.1 (head263 x).1 ∧ EntsEqv q.2 (head263 x).2 := by
 unfold take263 at h
 split at h
 ·cases h; exact ⟨SeesL.refl _, EntsEqv.refl _⟩
 ·cases h
theorem lp263_good (w : WayS (List UInt8 × Int)) : (lp263 w).Good2 where
 take := take263_ok
 takeR := by
  intro e q r cs h hc
  cases e with
  | normal => obtain ⟨h1, h2⟩ := take263_ok q r cs h hc; exact ⟨rfl, h1, h2⟩
  | exit j => cases h
  | ret => cases h
 split := fun r Q h => h
def way263 : WayS (List UInt8 × Int) := ⟨fun x => (x.1.dropWhile (· == 0), x.2), fun x => decide (x.2 = 0)⟩
def L263 : Nat → Option (St → Tr (Ex × St)) := fun id => bif Nat.beq id 0 then some ((lp263 way263).g 0) else none
def K263 : List AV → Option (AV × List Bool)
 | [.c (.v (.string s)), .c (.v (.int .u8 c))] => some (strA (s.data.toList.dropWhile (· == 0)), [decide (c = 0)])
 | _ => none
def Γ228 : FuncId → Option Spec := fun f => bif Nat.beq f 263 then some (pureSpec K263) else none
end Go.Vse
set_option maxRecDepth 100000
namespace Go.Vse
open Go.Proofs
def step227 (l : List Nat) : Tr (List Nat ⊕ List Nat) :=
 let x1 : Int := ↑l.length
 let x2 : Int := IntKind.i64.wrap (x1 - 1)
 let x3 : Nat := x2.toNat
 .need (bif decide (x1 > 0) then decide (0 ≤ x2 ∧ x2 < x1) && true else true) (.ite (bif decide (x1 > 0) then bif true then ((l.getD x3 0 : Nat) : Int) == 0 else false else false) (.need (decide (0 ≤ x2 ∧ x2 ≤ x1)) (.need (isU32s x3 (u32El l)) (.ret (Sum.inl (u32sOf x3 (u32El l)))))) (.need (isU32s l.length (u32El l)) (.ret (Sum.inr (u32sOf l.length (u32El l))))))
def M227 (l : List Nat) : Tr AV :=
 let x1 : List Nat := u32sOf l.length (u32El l)
 let x2 : Nat := x1.length
 let x3 : List Nat := trimD x1
 .need (isU32s l.length (u32El l)) (.need (okD x1 && decide (x2 ≤ 1000000000)) (.ret (AV.c (IV.sl x3.length 1 (u32El x3)))))
def step263 (l : List UInt8) (c : Int) : Tr (List UInt8 × Int ⊕ List UInt8 × Int) :=
 let x1 : Int := ↑l.length
 .need (bif decide (x1 > 0) then decide ((0 : Int) ≤ 0 ∧ 0 < x1) && true else true) (.ite (bif decide (x1 > 0) then bif true then ↑(l.getD (Int.toNat 0) 0).toNat == c else false else false) (.need (decide ((0 : Int) ≤ 1 ∧ 1 ≤ x1)) (.ret (Sum.inl (List.drop (Int.toNat 1) l, c)))) (.ret (Sum.inr (l, c))))
def M263 (s : ByteArray) (c : Int) : Tr AV :=
 .need (decide (c = 0)) (.ret (.c (.v (.string ⟨⟨List.dropWhile (fun x => x == 0) s.data.toList⟩⟩))))
def M228 (s : ByteArray) : Tr AV :=
 let x1 : List UInt8 := s.data.toList
 .need (bif x1 == [] then true else true) (.ite (bif x1 == [] then true else bif false then true else ([0] : List UInt8) == []) (.ret (.c (.v (.string s)))) (.need true (.ite true (.need true (.need true (.ret (.c (.v (.string ⟨⟨List.dropWhile (fun x => x == 0) x1⟩⟩)))))) (.fail "strings.go:1004"))))
theorem step227_eq (w : WayS (List Nat)) (x : List Nat) : (exec Tryz.prog (fun _ => none) noL 1010 (loopOf 0 (codeOf Tryz.f227)) (mkSt (lp227 w).nIn ((lp227 w).head x))).bind ((lp227 w).fin 0 0) = step227 x := by kernel_rfl
theorem M227_eq (l : List Nat) : execFn Tryz.prog (fun _ => none) L227 1010 Tryz.f227 [.c (.sl l.length 1 (u32El l))] = M227 l := by kernel_rfl
theorem step263_eq (w : WayS (List UInt8 × Int)) (x : List UInt8 × Int) : (exec Tryz.prog (fun _ => none) noL 1010 (loopOf 0 (codeOf Tryz.f263)) (mkSt (lp263 w).nIn ((lp263 w).head x))).bind ((lp263 w).fin 0 0) = step263 x.1 x.2 := by
 obtain ⟨l, c⟩ := x
 kernel_rfl
theorem M263_eq (s : ByteArray) (c : Int) : execFn Tryz.prog (fun _ => none) L263 1010 Tryz.f263 [.c (.v (.string s)), .c (.v (.int .u8 c))] = M263 s c := by kernel_rfl
theorem M228_eq (s : ByteArray) : execFn Tryz.prog Γ228 noL 1010 Tryz.f228 [.c (.v (.string s)), .c (.v (.string ⟨⟨[0]⟩⟩))] = M228 s := by kernel_rfl
theorem snocIndN {P : List Nat → Prop} (h0 : P []) (h1 : ∀ l c, P l → P (l ++ [c])) (l : List Nat) : P l := by
 rw [← List.reverse_reverse l]
 induction l.reverse with
 | nil => exact h0
 | cons c l ih => rw [List.reverse_cons]; exact h1 _ _ ih
theorem trimD_zero (l : List Nat) : trimD (l ++ [0]) = trimD l := by simp [trimD]
theorem trimD_last (l : List Nat) (x : Nat) (h : x ≠ 0) : trimD (l ++ [x]) = l ++ [x] := by simp [trimD, h]
theorem okD_append {l m : List Nat} : okD (l ++ m) = (okD l && okD m) := by simp [okD]
theorem okD_trim (l : List Nat) (h : okD l = true) : okD (trimD l) = true := by
 induction l using snocIndN with
 | h0 => rfl
 | h1 l c ih =>
  by_cases hc : c = 0
  ·subst hc
   rw [trimD_zero]
   rw [okD_append, Bool.and_eq_true] at h
   exact ih h.1
  ·rw [trimD_last l c hc]; exact h
theorem u32sOf_take (l m : List Nat) : u32sOf l.length (u32El (l ++ m)) = l := by
 apply List.ext_getElem
 ·simp [u32sOf]
 ·intro i h1 h2
  simp [u32sOf, u32El, u32Of, List.getD_eq_getElem?_getD, List.getElem?_append_left h2, h2]
theorem runs227 (l : List Nat) (hok : okD l = true) (hl : l.length ≤ 1000000000) (Q : List Nat → Prop) (hq : Q (trimD l)) : RunsX step227 Q (l.length + 1) l := by
 induction l using snocIndN with
 | h0 =>
  unfold RunsX
  exact sat_need rfl (sat_ite (fun h => Bool.noConfusion h) (fun _ => sat_need rfl (sat_ret hq)))
 | h1 l c ih =>
  have hlen : (l ++ [c]).length = l.length + 1 := by simp
  have w1 : IntKind.i64.wrap (((l.length + 1 : Nat) : Int) - 1) = ((l.length : Nat) : Int) := by rw [wrap_i64 (by omega)]; omega
  have hg : (l ++ [c]).getD l.length 0 = c := by simp [List.getD_eq_getElem?_getD]
  have hok2 := hok
  rw [okD_append, Bool.and_eq_true] at hok2
  rw [hlen] at hl ⊢
  have key : ∀ {R : List Nat ⊕ List Nat → Prop}, (c = 0 → R (.inl l)) → (c ≠ 0 → R (.inr (l ++ [c]))) → (step227 (l ++ [c])).sat R := by
   intro R h1 h2
   unfold step227
   simp only [hlen, w1, Int.toNat_natCast, hg, u32sOf_take]
   have d1 : decide (((l.length + 1 : Nat) : Int) > 0) = true := decide_eq_true (by omega)
   have d2 : decide ((0 : Int) ≤ ((l.length : Nat) : Int) ∧ ((l.length : Nat) : Int) < ((l.length + 1 : Nat) : Int)) = true := decide_eq_true (by omega)
   simp only [d1, d2, cond_true, Bool.and_true]
   refine sat_need rfl (sat_ite (fun h => sat_need (decide_eq_true (by omega)) (sat_need (isU32s_mk hok _) (sat_ret (h1 ?_)))) (fun h => sat_need (isU32s_mk hok _) (sat_ret ?_)))
   ·have := eq_of_beq h; omega
   ·have e : u32sOf (l.length + 1) (u32El (l ++ [c])) = l ++ [c] := by rw [← hlen, u32sOf_el]
    rw [e]
    refine h2 ?_
    rintro rfl
    cases h
  unfold RunsX
  refine key (fun hc => ?_) (fun hc => ?_)
  ·subst hc
   rw [trimD_zero] at hq
   exact ih hok2.1 (by omega) hq
  ·rw [trimD_last l c hc] at hq
   exact hq
theorem f227_loops : BlocksOk Tryz.prog 0 L227 (codeOf Tryz.f227) := by
 refine blocksOk_of (d := fun id => Nat.beq id 0) (fun id => by unfold L227; cases Nat.beq id 0 <;> rfl) _ ?_
 have hb : blocksOf (fun id => Nat.beq id 0) (codeOf Tryz.f227) = [(0, .loop (loopOf 0 (codeOf Tryz.f227)))] := by kernel_rfl
 rw [hb]
 intro p hp g hg
 simp only [List.mem_singleton] at hp
 subst hp
 have hh : L227 0 = some ((lp227 way227).g 0) := rfl
 rw [hh] at hg
 obtain rfl : g = (lp227 way227).g 0 := (Option.some.inj hg).symm
 refine LoopSt.ok2 (N := 1010) prog_mixed noΓ_ok (L := noL) (blocksOk_none 0 _) (lp227_good _) (step227_eq way227) ?_
 intro l hx
 have hx : (okD l && decide (l.length ≤ 1000000000)) = true := hx
 simp only [Bool.and_eq_true, decide_eq_true_eq] at hx
 exact ⟨_, runs227 l hx.1 hx.2 (· = way227.res l) rfl⟩
def K227 : List AV → Option (AV × List Bool)
 | [.c (.sl n 1 el)] => some (.c (.sl (trimD (u32sOf n el)).length 1 (u32El (trimD (u32sOf n el)))), [isU32s n el, decide (n ≤ 1000000000)])
 | _ => none
theorem M227_sat (l : List Nat) (hok : okD l = true) (hl : l.length ≤ 1000000000) : (M227 l).sat fun r => r = .c (.sl (trimD l).length 1 (u32El (trimD l))) := by
 unfold M227
 simp only [u32sOf_el]
 exact sat_need (isU32s_mk hok _) (sat_need (by simp [hok, hl]) (sat_ret rfl))
theorem f227_ok : PureOk Tryz.prog 227 K227 := by
 refine pureOk_of_exec_c (L := L227) prog_mixed noΓ_ok (fn := Tryz.f227) (c := codeOf Tryz.f227) (by kernel_rfl) (by kernel_rfl) (callFunc_enter (fn := Tryz.f227) (c := codeOf Tryz.f227) (by kernel_rfl) (by kernel_rfl) (by kernel_rfl)) (N := 1010) f227_loops ?_ ?_
 ·intro args v cs h
  unfold K227 at h
  split at h
  ·cases h; rfl
  ·cases h
 ·intro args v cs h hc
  unfold K227 at h
  split at h
  ·rename_i n el
   cases h
   have h1 : isU32s n el = true := hc (isU32s n el) (by simp)
   have h2 : n ≤ 1000000000 := dec (hc (decide (n ≤ 1000000000)) (by simp))
   obtain ⟨e1, e2⟩ := isU32s_el h1
   have hlen := u32sOf_len n el
   generalize u32sOf n el = l at e1 e2 hlen ⊢
   subst hlen
   refine ⟨[.c (.sl l.length 1 (u32El l))], .cons (Sees.sl e1) .nil, ?_⟩
   have hs := M227_sat l e2 h2
   rw [← M227_eq] at hs
   generalize execFn Tryz.prog (fun _ => none) L227 1010 Tryz.f227 [.c (.sl l.length 1 (u32El l))] = T at hs ⊢
   exact Tr.sat_mono (fun r hr => ⟨by subst hr; rfl, Sees.of_eq hr⟩) hs
  ·cases h
theorem runs263 (Q : List UInt8 × Int → Prop) : ∀ (l : List UInt8), Q (l.dropWhile (· == 0), 0) → RunsX (fun x : List UInt8 × Int => step263 x.1 x.2) Q (l.length + 1) (l, 0)
 | [], hq => sat_need rfl (sat_ite (fun h => Bool.noConfusion h) (fun _ => sat_ret hq))
 | c :: l, hq => by
   have ih := runs263 Q l
   have d1 : decide ((((c :: l).length : Nat) : Int) > 0) = true := decide_eq_true (by simp)
   have d2 : decide ((0 : Int) ≤ 0 ∧ (0 : Int) < (((c :: l).length : Nat) : Int)) = true := decide_eq_true (by simp)
   have d3 : decide ((0 : Int) ≤ 1 ∧ (1 : Int) ≤ (((c :: l).length : Nat) : Int)) = true := decide_eq_true (by simp; omega)
   have key : ∀ {R : (List UInt8 × Int) ⊕ (List UInt8 × Int) → Prop}, (c = 0 → R (.inl (l, 0))) → (c ≠ 0 → R (.inr (c :: l, 0))) → (step263 (c :: l) 0).sat R := by
     intro R h1 h2
     unfold step263
     have hg : (c :: l).getD (Int.toNat 0) 0 = c := rfl
     have hd : List.drop (Int.toNat 1) (c :: l) = l := rfl
     simp only [d1, d2, d3, hg, hd, cond_true, Bool.and_true]
     refine sat_need rfl (sat_ite (fun h => sat_need rfl (sat_ret (h1 (UInt8.toNat_inj.1 (by simpa using h))))) (fun h => sat_ret (h2 ?_)))
     rintro rfl
     cases h
   unfold RunsX
   refine key (fun hc => ?_) (fun hc => ?_)
   · subst hc
     exact ih (by simpa using hq)
   · have : (c :: l).dropWhile (· == 0) = c :: l := by simp [hc]
     rw [this] at hq
     exact hq
theorem f263_loops : BlocksOk Tryz.prog 0 L263 (codeOf Tryz.f263) := by
 refine blocksOk_of (d := fun id => Nat.beq id 0) (fun id => by unfold L263; cases Nat.beq id 0 <;> rfl) _ ?_
 have hb : blocksOf (fun id => Nat.beq id 0) (codeOf Tryz.f263) = [(0, .loop (loopOf 0 (codeOf Tryz.f263)))] := by kernel_rfl
 rw [hb]
 intro p hp g hg
 simp only [List.mem_singleton] at hp
 subst hp
 have hh : L263 0 = some ((lp263 way263).g 0) := rfl
 rw [hh] at hg
 obtain rfl : g = (lp263 way263).g 0 := (Option.some.inj hg).symm
 refine LoopSt.ok2 (N := 1010) prog_mixed noΓ_ok (L := noL) (blocksOk_none 0 _) (lp263_good _) (step263_eq way263) ?_
 rintro ⟨l, c⟩ hx
 have hx : decide (c = 0) = true := hx
 obtain rfl := of_decide_eq_true hx
 exact ⟨_, runs263 (· = way263.res (l, 0)) l rfl⟩
theorem f263_ok : PureOk Tryz.prog 263 K263 := by
 refine pureOk_of_exec prog_mixed noΓ_ok (fn := Tryz.f263) (c := codeOf Tryz.f263) (by kernel_rfl) (by kernel_rfl) (callFunc_enter (fn := Tryz.f263) (c := codeOf Tryz.f263) (by kernel_rfl) (by kernel_rfl) (by kernel_rfl)) (L := L263) (N := 1010) f263_loops ?_ ?_
 · intro args v cs h
   unfold K263 at h
   split at h
   · cases h; rfl
   · cases h
 · intro args v cs h hc
   unfold K263 at h
   split at h
   · rename_i s c
     cases h
     have h1 : c = 0 := dec (hc (decide (c = 0)) (by simp))
     have hs := (show (M263 s c).sat fun r => r = strA (s.data.toList.dropWhile (· == 0)) from sat_need (decide_eq_true h1) (sat_ret rfl))
     rw [← M263_eq] at hs
     generalize execFn Tryz.prog (fun _ => none) L263 1010 Tryz.f263 [.c (.v (.string s)), .c (.v (.int .u8 c))] = T at hs ⊢
     exact Tr.sat_mono (fun r hr => ⟨by subst hr; rfl, Sees.of_eq hr⟩) hs
   · cases h
def K228 : List AV → Option (AV × List Bool)
 | [.c (.v (.string s)), .c (.v (.string z))] => some (strA (s.data.toList.dropWhile (· == 0)), [z.data.toList == [0]])
 | _ => none
theorem Γ228_ok : ∀ f s, Γ228 f = some s → SpecOk Tryz.prog f s := one_ok f263_ok.spec
theorem M228_sat (s : ByteArray) : (M228 s).sat fun r => r = strA (s.data.toList.dropWhile (· == 0)) := by
 obtain ⟨⟨l⟩⟩ := s
 cases l with
 | nil => exact sat_need rfl (sat_ite (fun _ => sat_ret rfl) (fun h => Bool.noConfusion h))
 | cons c l => exact sat_need rfl (sat_ite (fun h => Bool.noConfusion h) (fun _ => sat_need rfl (sat_ite (fun _ => sat_need rfl (sat_need rfl (sat_ret rfl))) (fun h => Bool.noConfusion h))))
theorem f228_ok : PureOk Tryz.prog 228 K228 := by
 refine pureOk_of_exec prog_mixed Γ228_ok (fn := Tryz.f228) (c := codeOf Tryz.f228) (by kernel_rfl) (by kernel_rfl) (callFunc_enter (fn := Tryz.f228) (c := codeOf Tryz.f228) (by kernel_rfl) (by kernel_rfl) (by kernel_rfl)) (L := noL) (N := 1010) (blocksOk_none _ _) ?_ ?_
 ·intro args v cs h
  unfold K228 at h
  split at h
  ·cases h; rfl
  ·cases h
 ·intro args v cs h hc
  unfold K228 at h
  split at h
  ·rename_i s z
   cases h
   have h1 : (z.data.toList == [0]) = true := hc (z.data.toList == [0]) (by simp)
   have hz : z = ⟨⟨[0]⟩⟩ := by
    obtain ⟨⟨zl⟩⟩ := z
    have : zl = [0] := eq_of_beq h1
    rw [this]
   subst hz
   have hs := M228_sat s
   rw [← M228_eq] at hs
   generalize execFn Tryz.prog Γ228 noL 1010 Tryz.f228 [.c (.v (.string s)), .c (.v (.string ⟨⟨[0]⟩⟩))] = T at hs ⊢
   exact Tr.sat_mono (fun r hr => ⟨by subst hr; rfl, Sees.of_eq hr⟩) hs
  ·cases h
end Go.Vse
set_option maxRecDepth 100000
namespace Go.Vse
open Go.Proofs
structure W199 where
 x : List Nat
 b : List UInt8
 n : Int
 i : Int
def head199 (y : W199) : List AV × List (Option Ent) := ([.msl 0 y.b.length 1, .c (.sl y.x.length 1 (u32El y.x)), intA .i64 y.n, intA .i64 y.i], [some (.arr y.b.length 1 (byteEl y.b) 5)])
def take199 : List AV × List (Option Ent) → Option (W199 × List Bool)
 | ([.msl 0 m 1, .c (.sl k 1 xl), .c (.v (.int .i64 n)), .c (.v (.int .i64 i))], [some (.arr m' 1 el 5)]) => some (⟨u32sOf k xl, bytesOf m el, n, i⟩, [decide (m = m'), isU32s k xl, isBytes m el])
 | _ => none
def lp199 (w : Way W199) : LoopSt W199 W199 where
 nIn := { nt := 46, live := [3, 16, 17, 18] }
 nOut := { nt := 46, live := [3, 16, 17, 18] }
 head := head199
 take := take199
 out := fun r => (.normal, head199 r)
 takeR := fun q => match q with | (.normal, q) => take199 q | _ => none
 res := w.res
 pre := w.pre
theorem take199_ok (q : List AV × List (Option Ent)) (x : W199) (cs : List Bool) (h : take199 q = some (x, cs)) (hc : ∀ p ∈ cs, p) : SeesL q.1 (head199 x).1 ∧ EntsEqv q.2 (head199 x).2 := by
 unfold take199 at h
 split at h
 ·rename_i m k xl n i m' el
  simp only [Option.some.injEq, Prod.mk.injEq] at h
  obtain ⟨rfl, rfl⟩ := h
  have h1 : m = m' := dec (hc (decide (m = m')) (by simp))
  have h2 : isU32s k xl = true := hc (isU32s k xl) (by simp)
  have h3 : isBytes m el = true := hc (isBytes m el) (by simp)
  subst h1
  simp only [head199, u32sOf_len, bytesOf_len]
  exact ⟨.cons (Sees.refl _) (.cons (Sees.sl (isU32s_el h2).1) (SeesL.refl _)), .cons (.arr _ _ _ _ _ (byteEl_of_bytes h3)) .nil⟩
 ·cases h
theorem lp199_good (w : Way W199) : (lp199 w).Good2 where
 take := take199_ok
 takeR := by
  intro e q r cs h hc
  cases e with
  | normal => obtain ⟨h1, h2⟩ := take199_ok q r cs h hc; exact ⟨rfl, h1, h2⟩
  | exit j => cases h
  | ret => cases h
 split := fun r Q h => h
def be4 (d : Nat) : List UInt8 := [UInt8.ofNat (d / 16777216 % 256), UInt8.ofNat (d / 65536 % 256), UInt8.ofNat (d / 256 % 256), UInt8.ofNat (d % 256)]
def beB : List Nat → List UInt8
 | [] => []
 | d :: l => beB l ++ be4 d
def way199 : Way W199 := ⟨fun y => ⟨y.x, beB y.x, y.n, y.n⟩, fun y => decide (y.n = (y.x.length : Nat)) && decide (y.i = 0) && decide (y.b.length = 4 * y.x.length) && okD y.x && decide (y.x.length ≤ 1000000000)⟩
def L199 : Nat → Option (St → Tr (Ex × St)) := fun id => bif Nat.beq id 0 then some ((lp199 way199).g 0) else none
def Γ199 : FuncId → Option Spec := fun f => bif Nat.beq f 227 then some (pureSpec K227) else bif Nat.beq f 228 then some (pureSpec K228) else none
end Go.Vse
set_option maxRecDepth 100000
namespace Go.Vse
open Go.Proofs
def step199 (x : List Nat) (b : List UInt8) (n : Int) (i : Int) : Tr (W199 ⊕ W199) :=
 let x1 : Int := ↑x.length
 let x2 : Int := ↑b.length
 let x3 : Int := IntKind.i64.wrap (IntKind.i64.wrap (x2 - 1) - IntKind.i64.wrap (4 * i))
 let x4 : Int := IntKind.i64.wrap (x3 - 0)
 let x5 : Nat := x4.toNat
 let x6 : Int := IntKind.i64.wrap (0 + 1)
 let x7 : Int := IntKind.i64.wrap (x3 - x6)
 let x8 : Nat := x7.toNat
 let x9 : Int := IntKind.i64.wrap (x6 + 1)
 let x10 : Int := IntKind.i64.wrap (x3 - x9)
 let x11 : Nat := x10.toNat
 let x12 : Int := IntKind.i64.wrap (x9 + 1)
 let x13 : Int := IntKind.i64.wrap (x3 - x12)
 let x14 : Nat := x13.toNat
 let x15 : Int := IntKind.i64.wrap (x3 - IntKind.i64.wrap (x12 + 1))
 let x16 : Nat := x15.toNat
 let x17 : Int := ↑(x.getD i.toNat 0)
 let x18 : List Nat := u32sOf x.length (u32El x)
 let x19 : Int := IntKind.i64.wrap (i + 1)
 let x20 : List UInt8 := bytesOf b.length (byteEl b)
 .ite (decide (i < n)) (.need (decide (0 ≤ i ∧ i < x1)) (.ite true (.need true (.need (decide (0 ≤ x4 ∧ x4 < x2)) (.need (decide (x5 < b.length)) (.ite true (.need true (.need (decide (0 ≤ x7 ∧ x7 < x2)) (.need (decide (x8 < b.length)) (.ite true (.need true (.need (decide (0 ≤ x10 ∧ x10 < x2)) (.need (decide (x11 < b.length)) (.ite true (.need true (.need (decide (0 ≤ x13 ∧ x13 < x2)) (.need (decide (x14 < b.length)) (.ite false (.need true (.need (decide (0 ≤ x15 ∧ x15 < x2)) (.need (decide (x16 < b.length)) (.fail "rounds")))) (.need (decide (b.length = b.length)) (.need (isU32s x.length (u32El x)) (.need (isBytes b.length (spliceE (spliceE (spliceE (spliceE (byteEl b) x5 0 [IV.v (Value.int IntKind.u8 (IntKind.u8.wrap (x17.fdiv (2 ^ min (IntKind.i64.wrap (8 * 0)).toNat IntKind.u32.bits))))].reverse) x8 0 [IV.v (Value.int IntKind.u8 (IntKind.u8.wrap (x17.fdiv (2 ^ min (IntKind.i64.wrap (8 * x6)).toNat IntKind.u32.bits))))].reverse) x11 0 [IV.v (Value.int IntKind.u8 (IntKind.u8.wrap (x17.fdiv (2 ^ min (IntKind.i64.wrap (8 * x9)).toNat IntKind.u32.bits))))].reverse) x14 0 [IV.v (Value.int IntKind.u8 (IntKind.u8.wrap (x17.fdiv (2 ^ min (IntKind.i64.wrap (8 * x12)).toNat IntKind.u32.bits))))].reverse)) (.ret (Sum.inl { x := x18, b := bytesOf b.length (spliceE (spliceE (spliceE (spliceE (byteEl b) x5 0 [IV.v (Value.int IntKind.u8 (IntKind.u8.wrap (x17.fdiv (2 ^ min (IntKind.i64.wrap (8 * 0)).toNat IntKind.u32.bits))))].reverse) x8 0 [IV.v (Value.int IntKind.u8 (IntKind.u8.wrap (x17.fdiv (2 ^ min (IntKind.i64.wrap (8 * x6)).toNat IntKind.u32.bits))))].reverse) x11 0 [IV.v (Value.int IntKind.u8 (IntKind.u8.wrap (x17.fdiv (2 ^ min (IntKind.i64.wrap (8 * x9)).toNat IntKind.u32.bits))))].reverse) x14 0 [IV.v (Value.int IntKind.u8 (IntKind.u8.wrap (x17.fdiv (2 ^ min (IntKind.i64.wrap (8 * x12)).toNat IntKind.u32.bits))))].reverse), n := n, i := x19 }))))))))) (.need (decide (b.length = b.length)) (.need (isU32s x.length (u32El x)) (.need (isBytes b.length (spliceE (spliceE (spliceE (byteEl b) x5 0 [IV.v (Value.int IntKind.u8 (IntKind.u8.wrap (x17.fdiv (2 ^ min (IntKind.i64.wrap (8 * 0)).toNat IntKind.u32.bits))))].reverse) x8 0 [IV.v (Value.int IntKind.u8 (IntKind.u8.wrap (x17.fdiv (2 ^ min (IntKind.i64.wrap (8 * x6)).toNat IntKind.u32.bits))))].reverse) x11 0 [IV.v (Value.int IntKind.u8 (IntKind.u8.wrap (x17.fdiv (2 ^ min (IntKind.i64.wrap (8 * x9)).toNat IntKind.u32.bits))))].reverse)) (.ret (Sum.inl { x := x18, b := bytesOf b.length (spliceE (spliceE (spliceE (byteEl b) x5 0 [IV.v (Value.int IntKind.u8 (IntKind.u8.wrap (x17.fdiv (2 ^ min (IntKind.i64.wrap (8 * 0)).toNat IntKind.u32.bits))))].reverse) x8 0 [IV.v (Value.int IntKind.u8 (IntKind.u8.wrap (x17.fdiv (2 ^ min (IntKind.i64.wrap (8 * x6)).toNat IntKind.u32.bits))))].reverse) x11 0 [IV.v (Value.int IntKind.u8 (IntKind.u8.wrap (x17.fdiv (2 ^ min (IntKind.i64.wrap (8 * x9)).toNat IntKind.u32.bits))))].reverse), n := n, i := x19 }))))))))) (.need (decide (b.length = b.length)) (.need (isU32s x.length (u32El x)) (.need (isBytes b.length (spliceE (spliceE (byteEl b) x5 0 [IV.v (Value.int IntKind.u8 (IntKind.u8.wrap (x17.fdiv (2 ^ min (IntKind.i64.wrap (8 * 0)).toNat IntKind.u32.bits))))].reverse) x8 0 [IV.v (Value.int IntKind.u8 (IntKind.u8.wrap (x17.fdiv (2 ^ min (IntKind.i64.wrap (8 * x6)).toNat IntKind.u32.bits))))].reverse)) (.ret (Sum.inl { x := x18, b := bytesOf b.length (spliceE (spliceE (byteEl b) x5 0 [IV.v (Value.int IntKind.u8 (IntKind.u8.wrap (x17.fdiv (2 ^ min (IntKind.i64.wrap (8 * 0)).toNat IntKind.u32.bits))))].reverse) x8 0 [IV.v (Value.int IntKind.u8 (IntKind.u8.wrap (x17.fdiv (2 ^ min (IntKind.i64.wrap (8 * x6)).toNat IntKind.u32.bits))))].reverse), n := n, i := x19 }))))))))) (.need (decide (b.length = b.length)) (.need (isU32s x.length (u32El x)) (.need (isBytes b.length (spliceE (byteEl b) x5 0 [IV.v (Value.int IntKind.u8 (IntKind.u8.wrap (x17.fdiv (2 ^ min (IntKind.i64.wrap (8 * 0)).toNat IntKind.u32.bits))))].reverse)) (.ret (Sum.inl { x := x18, b := bytesOf b.length (spliceE (byteEl b) x5 0 [IV.v (Value.int IntKind.u8 (IntKind.u8.wrap (x17.fdiv (2 ^ min (IntKind.i64.wrap (8 * 0)).toNat IntKind.u32.bits))))].reverse), n := n, i := x19 }))))))))) (.need (decide (b.length = b.length)) (.need (isU32s x.length (u32El x)) (.need (isBytes b.length (byteEl b)) (.ret (Sum.inl { x := x18, b := x20, n := n, i := x19 }))))))) (.need (decide (b.length = b.length)) (.need (isU32s x.length (u32El x)) (.need (isBytes b.length (byteEl b)) (.ret (Sum.inr { x := x18, b := x20, n := n, i := i })))))
def M199 (x : List Nat) : Tr AV :=
 let x1 : List Nat := trimD (u32sOf x.length (u32El x))
 let x2 : Nat := x1.length
 let x3 : Int := ↑x2
 let x4 : Int := IntKind.i64.wrap (4 * x3)
 let x5 : Int := ↑1 * x4
 let x6 : Nat := x4.toNat
 let x7 : List Nat := u32sOf x2 (u32El x1)
 let x8 : Nat := x7.length
 let x9 : Int := ↑x8
 let x10 : Nat := (bytesOf x6 fun x => List.map IV.v [Value.int IntKind.u8 0]).length
 let x11 : Nat := 4 * x8
 let x12 : List UInt8 := beB x7
 let x13 : Nat := x12.length
 .need (isU32s x.length (u32El x)) (.need (decide (x.length ≤ 1000000000)) (.ite (x3 == 0) (.ret (.c (.v (.string { data := #[] })))) (.need (decide (x4 = x4)) (.need (decide (0 ≤ x4)) (.need (decide (x4 ≤ 9223372036854775807)) (.need (decide (x5 ≤ 140737488355328)) (.need (decide (x6 = x6)) (.need (isU32s x2 (u32El x1)) (.need (isBytes x6 fun x => List.map IV.v [Value.int IntKind.u8 0]) (.need (decide (x3 = x9) && decide (0 = 0) && decide (x10 = x11) && okD x7 && decide (x8 ≤ 1000000000)) (.need (decide (x13 ≤ x13)) (.need (isBytes x13 (byteEl x12)) (.need true (.ret (.c (.v (.string ⟨⟨List.dropWhile (fun x => x == 0) (bytesOf x13 (byteEl x12))⟩⟩)))))))))))))))))
theorem step199_eq (w : Way W199) (y : W199) : (exec Tryz.prog (fun _ => none) noL 1005 (loopOf 0 (codeOf Tryz.f199)) (mkSt (lp199 w).nIn ((lp199 w).head y))).bind ((lp199 w).fin 0 0) = step199 y.x y.b y.n y.i := by
 obtain ⟨x, b, n, i⟩ := y
 kernel_rfl
theorem M199_eq (x : List Nat) : execFn Tryz.prog Γ199 L199 1005 Tryz.f199 [.c (.sl x.length 1 (u32El x))] = M199 x := by kernel_rfl
theorem splice_eq (l : List UInt8) (k b : Nat) (hk : k < l.length) (hb : b < 256) : spliceE (byteEl l) k 0 [IV.v (.int .u8 (b : Int))].reverse = byteEl (l.set k (UInt8.ofNat b)) := by
 funext i
 unfold spliceE
 by_cases h : i = k
 ·subst h
  rw [if_pos rfl]
  simp [byteEl, List.getD_eq_getElem?_getD, List.getElem?_set_self hk]
  omega
 ·rw [if_neg h]
  simp [byteEl, List.getD_eq_getElem?_getD, List.getElem?_set_ne (Ne.symm h)]
theorem shr32 (d k : Nat) (hk : k < 4) : IntKind.u8.wrap ((d : Int).fdiv (2 ^ min (8 * k) IntKind.u32.bits)) = ((d / 256 ^ k % 256 : Nat) : Int) := by
 have e1 : min (8 * k) IntKind.u32.bits = 8 * k := by
  change min (8 * k) 32 = 8 * k
  omega
 rw [e1]
 have e2 : ((2 : Int) ^ (8 * k)) = ((256 ^ k : Nat) : Int) := by
  rw [show (256 : Nat) = 2 ^ 8 from rfl, ← Nat.pow_mul]
  simp
 rw [e2, fdiv_nat, wrap_u8]
 simp
theorem set4 (A B : List UInt8) (y0 y1 y2 y3 c0 c1 c2 c3 : UInt8) : ((((A ++ y3 :: y2 :: y1 :: y0 :: B).set (A.length + 3) c0).set (A.length + 2) c1).set (A.length + 1) c2).set A.length c3 = A ++ c3 :: c2 :: c1 :: c0 :: B := by
 simp [List.set_append]
theorem beB_snoc (d : Nat) : ∀ (l : List Nat), beB (l ++ [d]) = be4 d ++ beB l
 | [] => by simp [beB]
 | e :: l => by simp only [List.cons_append, beB, beB_snoc d l, List.append_assoc]
theorem beB_len : ∀ (l : List Nat), (beB l).length = 4 * l.length
 | [] => rfl
 | d :: l => by simp only [beB, List.length_append, beB_len l, be4, List.length_cons, List.length_nil]; omega
theorem step199_in (x : List Nat) (hok : okD x = true) (hx : x.length ≤ 1000000000) (i : Nat) (hi : i < x.length) (A B : List UInt8) (y0 y1 y2 y3 : UInt8) (hA : A.length + 4 + 4 * i = 4 * x.length) (hB : B.length = 4 * i) {R : W199 ⊕ W199 → Prop}
   (hin : R (.inl ⟨x, A ++ be4 (x.getD i 0) ++ B, (x.length : Nat), ((i + 1 : Nat) : Int)⟩)) : (step199 x (A ++ y3 :: y2 :: y1 :: y0 :: B) (x.length : Nat) (i : Nat)).sat R := by
 have hlen : (A ++ y3 :: y2 :: y1 :: y0 :: B).length = 4 * x.length := by simp only [List.length_append, List.length_cons]; omega
 have w1 : IntKind.i64.wrap (((4 * x.length : Nat) : Int) - 1) = ((4 * x.length - 1 : Nat) : Int) := by rw [wrap_i64 (by omega)]; omega
 have w2 : IntKind.i64.wrap (4 * (i : Int)) = ((4 * i : Nat) : Int) := by rw [wrap_i64 (by omega)]; omega
 have w3 : IntKind.i64.wrap (((4 * x.length - 1 : Nat) : Int) - ((4 * i : Nat) : Int)) = ((A.length + 3 : Nat) : Int) := by rw [wrap_i64 (by omega)]; omega
 have v1 : IntKind.i64.wrap (0 + 1) = 1 := rfl
 have v2 : IntKind.i64.wrap (1 + 1) = 2 := rfl
 have v3 : IntKind.i64.wrap (2 + 1) = 3 := rfl
 have v4 : IntKind.i64.wrap (3 + 1) = 4 := rfl
 have p0 : IntKind.i64.wrap (((A.length + 3 : Nat) : Int) - 0) = ((A.length + 3 : Nat) : Int) := by rw [wrap_i64 (by omega)]; omega
 have p1 : IntKind.i64.wrap (((A.length + 3 : Nat) : Int) - 1) = ((A.length + 2 : Nat) : Int) := by rw [wrap_i64 (by omega)]; omega
 have p2 : IntKind.i64.wrap (((A.length + 3 : Nat) : Int) - 2) = ((A.length + 1 : Nat) : Int) := by rw [wrap_i64 (by omega)]; omega
 have p3 : IntKind.i64.wrap (((A.length + 3 : Nat) : Int) - 3) = ((A.length : Nat) : Int) := by rw [wrap_i64 (by omega)]; omega
 have w5 : IntKind.i64.wrap ((i : Int) + 1) = ((i + 1 : Nat) : Int) := by rw [wrap_i64 (by omega)]; omega
 generalize hd : x.getD i 0 = d at hin
 have b0 : IntKind.u8.wrap ((d : Int).fdiv (2 ^ min (IntKind.i64.wrap (8 * 0)).toNat IntKind.u32.bits)) = ((d % 256 : Nat) : Int) := by
   have := shr32 d 0 (by omega)
   rw [Nat.pow_zero, Nat.div_one] at this
   exact this
 have b1 : IntKind.u8.wrap ((d : Int).fdiv (2 ^ min (IntKind.i64.wrap (8 * 1)).toNat IntKind.u32.bits)) = ((d / 256 % 256 : Nat) : Int) := by
   have := shr32 d 1 (by omega)
   rw [Nat.pow_one] at this
   exact this
 have b2 : IntKind.u8.wrap ((d : Int).fdiv (2 ^ min (IntKind.i64.wrap (8 * 2)).toNat IntKind.u32.bits)) = ((d / 65536 % 256 : Nat) : Int) := shr32 d 2 (by omega)
 have b3 : IntKind.u8.wrap ((d : Int).fdiv (2 ^ min (IntKind.i64.wrap (8 * 3)).toNat IntKind.u32.bits)) = ((d / 16777216 % 256 : Nat) : Int) := shr32 d 3 (by omega)
 have m (z : Nat) : z % 256 < 256 := Nat.mod_lt _ (by decide)
 unfold step199
 simp only [hlen, w1, w2, w3, v1, v2, v3, v4, p0, p1, p2, p3, w5, Int.toNat_natCast, hd, b0, b1, b2, b3]
 rw [splice_eq _ _ _ (by omega) (m _), splice_eq _ _ _ (by rw [List.length_set]; omega) (m _), splice_eq _ _ _ (by rw [List.length_set, List.length_set]; omega) (m _), splice_eq _ _ _ (by rw [List.length_set, List.length_set, List.length_set]; omega) (m _), set4]
 have hl2 : (A ++ UInt8.ofNat (d / 16777216 % 256) :: UInt8.ofNat (d / 65536 % 256) :: UInt8.ofNat (d / 256 % 256) :: UInt8.ofNat (d % 256) :: B).length = 4 * x.length := by simp only [List.length_append, List.length_cons]; omega
 have e := bytesOf_byteEl (A ++ UInt8.ofNat (d / 16777216 % 256) :: UInt8.ofNat (d / 65536 % 256) :: UInt8.ofNat (d / 256 % 256) :: UInt8.ofNat (d % 256) :: B)
 rw [hl2] at e
 rw [e, u32sOf_el]
 have hin2 : R (.inl ⟨x, A ++ UInt8.ofNat (d / 16777216 % 256) :: UInt8.ofNat (d / 65536 % 256) :: UInt8.ofNat (d / 256 % 256) :: UInt8.ofNat (d % 256) :: B, (x.length : Nat), ((i + 1 : Nat) : Int)⟩) := by
   have : A ++ be4 d ++ B = A ++ UInt8.ofNat (d / 16777216 % 256) :: UInt8.ofNat (d / 65536 % 256) :: UInt8.ofNat (d / 256 % 256) :: UInt8.ofNat (d % 256) :: B := by simp [be4]
   rw [← this]; exact hin
 clear e hl2 b0 b1 b2 b3 hin
 refine sat_ite (fun _ => sat_need (decide_eq_true (by omega)) ?_) (fun h => absurd (show (i : Int) < (x.length : Nat) by omega) (of_decide_eq_false h))
 have lv : ∀ {t : Tr (W199 ⊕ W199)} {e : Tr (W199 ⊕ W199)} (k : Nat) (hk : k < 4), t.sat R → (Tr.ite true (Tr.need true (Tr.need (decide ((0 : Int) ≤ ((A.length + k : Nat) : Int) ∧ ((A.length + k : Nat) : Int) < ((4 * x.length : Nat) : Int))) (Tr.need (decide (A.length + k < 4 * x.length)) t))) e).sat R := fun k hk ht =>
   sat_ite (fun _ => sat_need rfl (sat_need (decide_eq_true (by omega)) (sat_need (decide_eq_true (by omega)) ht))) (fun h => Bool.noConfusion h)
 exact lv 3 (by omega) (lv 2 (by omega) (lv 1 (by omega) (lv 0 (by omega) (sat_ite (fun h => Bool.noConfusion h) (fun _ => sat_need (by simp) (sat_need (isU32s_mk hok _) (sat_need (isBytes_byteEl _ _) (sat_ret hin2))))))))
theorem split4 (l : List UInt8) (k : Nat) (h : l.length = 4 * (k + 1)) : ∃ A y3 y2 y1 y0, l = A ++ [y3, y2, y1, y0] ∧ A.length = 4 * k := by
 have h1 : (l.drop (4 * k)).length = 4 := by rw [List.length_drop]; omega
 match hd : l.drop (4 * k), h1 with
 | [y3, y2, y1, y0], _ =>
  exact ⟨l.take (4 * k), y3, y2, y1, y0, by rw [← hd, List.take_append_drop], by rw [List.length_take]; omega⟩
theorem runs199 (x : List Nat) (hok : okD x = true) (hx : x.length ≤ 1000000000) (Q : W199 → Prop) (hq : Q ⟨x, beB x, (x.length : Nat), (x.length : Nat)⟩) : ∀ (k i : Nat) (A : List UInt8), i + k = x.length → A.length = 4 * k →
  RunsX (fun y : W199 => step199 y.x y.b y.n y.i) Q (k + 1) ⟨x, A ++ beB (x.take i), (x.length : Nat), (i : Nat)⟩
 | 0, i, A, hi, hA => by
  obtain rfl : i = x.length := by omega
  obtain rfl : A = [] := List.length_eq_zero_iff.1 (by omega)
  rw [List.take_length, List.nil_append]
  unfold RunsX
  change Tr.sat _ (step199 x (beB x) (x.length : Nat) (x.length : Nat))
  unfold step199
  rw [u32sOf_el, bytesOf_byteEl]
  exact sat_ite (fun h => absurd (of_decide_eq_true h) (Int.lt_irrefl _)) (fun _ => sat_need (by simp) (sat_need (isU32s_mk hok _) (sat_need (isBytes_byteEl _ _) (sat_ret hq))))
 | k + 1, i, A, hi, hA => by
  obtain ⟨A2, y3, y2, y1, y0, rfl, hA2⟩ := split4 A k hA
  have hlt : i < x.length := by omega
  have ih := runs199 x hok hx Q hq k (i + 1) A2 (by omega) hA2
  have ht : x.take (i + 1) = x.take i ++ [x[i]] := List.take_succ_eq_append_getElem hlt
  have hg : x.getD i 0 = x[i] := by simp [List.getD_eq_getElem?_getD, hlt]
  rw [ht, beB_snoc, ← List.append_assoc, ← hg] at ih
  have e : A2 ++ [y3, y2, y1, y0] ++ beB (x.take i) = A2 ++ y3 :: y2 :: y1 :: y0 :: beB (x.take i) := by simp
  rw [e]
  exact step199_in x hok hx i hlt A2 (beB (x.take i)) y0 y1 y2 y3 (by omega) (by rw [beB_len, List.length_take]; omega) ih
end Go.Vse
set_option maxRecDepth 100000
namespace Go.Vse
open Go.Proofs
theorem f199_loops : BlocksOk Tryz.prog 0 L199 (codeOf Tryz.f199) := by
 refine blocksOk_of (d := fun id => Nat.beq id 0) (fun id => by unfold L199; cases Nat.beq id 0 <;> rfl) _ ?_
 have hb : blocksOf (fun id => Nat.beq id 0) (codeOf Tryz.f199) = [(0, .loop (loopOf 0 (codeOf Tryz.f199)))] := by kernel_rfl
 rw [hb]
 intro p hp g hg
 simp only [List.mem_singleton] at hp
 subst hp
 have hh : L199 0 = some ((lp199 way199).g 0) := rfl
 rw [hh] at hg
 obtain rfl : g = (lp199 way199).g 0 := (Option.some.inj hg).symm
 refine LoopSt.ok2 (N := 1005) prog_mixed noΓ_ok (L := noL) (blocksOk_none 0 _) (lp199_good _) (step199_eq way199) ?_
 rintro ⟨x, b, n, i⟩ hx
 have hx : way199.pre ⟨x, b, n, i⟩ = true := hx
 simp only [way199, Bool.and_eq_true, decide_eq_true_eq] at hx
 obtain ⟨⟨⟨⟨rfl, rfl⟩, h3⟩, h4⟩, h5⟩ := hx
 have := runs199 x h4 h5 (· = way199.res ⟨x, b, (x.length : Nat), 0⟩) rfl x.length 0 b (by omega) h3
 have e : b ++ beB (x.take 0) = b := by simp [beB]
 rw [e] at this
 exact ⟨_, this⟩
def natV : List Nat → Nat
 | [] => 0
 | d :: l => d + 4294967296 * natV l
theorem natV_snoc0 : ∀ (l : List Nat), natV (l ++ [0]) = natV l
 | [] => rfl
 | d :: l => by simp only [List.cons_append, natV, natV_snoc0 l]
theorem natV_trim (l : List Nat) : natV (trimD l) = natV l := by
 induction l using snocIndN with
 | h0 => rfl
 | h1 l c ih =>
  by_cases hc : c = 0
  ·subst hc; rw [trimD_zero, natV_snoc0, ih]
  ·rw [trimD_last l c hc]
theorem natV_u32s : ∀ (k v : Nat), v < 4294967296 ^ k → natV (u32s v k) = v
 | 0, v, h => by simp at h; subst h; rfl
 | k + 1, v, h => by
   simp only [u32s, natV]
   rw [natV_u32s k _ (by rw [Nat.pow_succ] at h; omega)]
   omega
theorem magN_append (a b : List UInt8) : magN (a ++ b) = magN a * 256 ^ b.length + magN b := by
 induction b using snocInd with
 | h0 => simp [magN]
 | h1 b c ih =>
  rw [← List.append_assoc, magN_snoc, magN_snoc, ih, List.length_append, List.length_singleton, Nat.pow_succ, Nat.add_mul, Nat.mul_assoc]
  omega
theorem magN_be4 (d : Nat) (h : d < 4294967296) : magN (be4 d) = d := by
 have t : ∀ z : Nat, (UInt8.ofNat (z % 256)).toNat = z % 256 := fun z => by simp [UInt8.toNat_ofNat']
 simp only [be4, magN, List.foldl_cons, List.foldl_nil, t]
 omega
theorem magN_beB : ∀ (l : List Nat), okD l = true → magN (beB l) = natV l
 | [], _ => rfl
 | d :: l, h => by
  simp only [okD, List.all_cons, Bool.and_eq_true, decide_eq_true_eq] at h
  rw [beB, magN_append, magN_beB l h.2, magN_be4 d h.1, natV]
  have : (be4 d).length = 4 := rfl
  rw [this]
  have e : (256 : Nat) ^ 4 = 4294967296 := by decide
  rw [e]; omega
theorem magB_drop : ∀ (l : List UInt8), magB (magN l) = l.dropWhile (· == 0)
 | [] => by rw [magN_nil, magB_zero]; rfl
 | c :: l => by
   by_cases hc : c = 0
   · subst hc
     have : magN (0 :: l) = magN l := by rw [magN_cons]; simp
     rw [this, magB_drop l]
     simp
   · have hcan : canon (c :: l) = true := by simpa [canon] using hc
     rw [magB_magN _ hcan]
     simp [hc]
def K199 : List AV → Option (AV × List Bool)
 | [.c (.sl n 1 el)] => some (strA (magB (natV (u32sOf n el))), [isU32s n el, decide (n ≤ 1000000000)])
 | _ => none
theorem Γ199_ok : ∀ f s, Γ199 f = some s → SpecOk Tryz.prog f s := step_ok f227_ok.spec (one_ok f228_ok.spec)
theorem trimD_len (l : List Nat) : (trimD l).length ≤ l.length := by
 induction l using snocIndN with
 | h0 => exact Nat.le_refl _
 | h1 l c ih =>
  by_cases hc : c = 0
  ·subst hc; rw [trimD_zero, List.length_append]; simp; omega
  ·rw [trimD_last l c hc]; exact Nat.le_refl _
theorem M199_sat (x : List Nat) (hok : okD x = true) (hx : x.length ≤ 1000000000) : (M199 x).sat fun r => r = strA (magB (natV x)) := by
 have hk := okD_trim x hok
 have hl := trimD_len x
 have hv := natV_trim x
 unfold M199
 simp only [u32sOf_el]
 generalize trimD x = y at hk hl hv ⊢
 rw [← hv, ← magN_beB y hk, magB_drop]
 have w4 : IntKind.i64.wrap (4 * ((y.length : Nat) : Int)) = ((4 * y.length : Nat) : Int) := by rw [wrap_i64 (by omega)]; omega
 simp only [w4, u32sOf_el, Int.toNat_natCast, bytesOf_len, bytesOf_byteEl]
 refine sat_need (isU32s_mk hok _) (sat_need (decide_eq_true hx) (sat_ite (fun h => ?_) (fun h => ?_)))
 ·have h := eq_of_beq h
  obtain rfl : y = [] := List.length_eq_zero_iff.1 (by omega)
  exact sat_ret rfl
 ·refine sat_need (by simp) (sat_need (decide_eq_true (by omega)) (sat_need (decide_eq_true (by omega)) (sat_need (decide_eq_true (by omega)) (sat_need (by simp) (sat_need (isU32s_mk hk _) (sat_need ?_ (sat_need ?_ (sat_need (by simp) (sat_need (isBytes_byteEl _ _) (sat_need rfl (sat_ret rfl)))))))))))
  ·exact List.all_eq_true.2 fun _ _ => rfl
  ·simp [hk]; omega
theorem f199_ok : PureOk Tryz.prog 199 K199 := by
 refine pureOk_of_exec_c (L := L199) prog_mixed Γ199_ok (fn := Tryz.f199) (c := codeOf Tryz.f199) (by kernel_rfl) (by kernel_rfl) (callFunc_enter (fn := Tryz.f199) (c := codeOf Tryz.f199) (by kernel_rfl) (by kernel_rfl) (by kernel_rfl)) (N := 1005) f199_loops ?_ ?_
 ·intro args v cs h
  unfold K199 at h
  split at h
  ·cases h; rfl
  ·cases h
 ·intro args v cs h hc
  unfold K199 at h
  split at h
  ·rename_i n el
   cases h
   have h1 : isU32s n el = true := hc (isU32s n el) (by simp)
   have h2 : n ≤ 1000000000 := dec (hc (decide (n ≤ 1000000000)) (by simp))
   obtain ⟨e1, e2⟩ := isU32s_el h1
   have hlen := u32sOf_len n el
   generalize u32sOf n el = l at e1 e2 hlen ⊢
   subst hlen
   refine ⟨[.c (.sl l.length 1 (u32El l))], .cons (Sees.sl e1) .nil, ?_⟩
   have hs := M199_sat l e2 h2
   rw [← M199_eq] at hs
   generalize execFn Tryz.prog Γ199 L199 1005 Tryz.f199 [.c (.sl l.length 1 (u32El l))] = T at hs ⊢
   generalize magB (natV l) = z at hs ⊢
   exact Tr.sat_mono (fun r hr => ⟨by subst hr; rfl, Sees.of_eq hr⟩) hs
  ·cases h
end Go.Vse
