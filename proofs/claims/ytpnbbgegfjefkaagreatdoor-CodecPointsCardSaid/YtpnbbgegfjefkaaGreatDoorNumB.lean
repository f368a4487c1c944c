/- Helpers for the proof: no statement of its own. -/
import Derived.Test.YtpnbbgegfjefkaaGreatDoorNumA
import Derived.Test.YtpnbbgegfjefkaaGreatDoorVseD
set_option linter.unusedVariables false
set_option linter.unusedSimpArgs false
set_option linter.unnecessarySimpa false
set_option linter.deprecated false
set_option maxRecDepth 100000
namespace Go.Vse
open Go.Proofs
def intEl (l : List Int) : Nat → List IV := fun k => [.v (.int .i64 (l.getD k 0))]
def intOfI : List IV → Int
 | [.v (.int .i64 n)] => n
 | _ => 0
def isIntI : List IV → Bool
 | [.v (.int .i64 _)] => true
 | _ => false
def intsOf (n : Nat) (el : Nat → List IV) : List Int := (List.range n).map fun k => intOfI (el k)
def isInts (n : Nat) (el : Nat → List IV) : Bool := (List.range n).all fun k => isIntI (el k)
theorem intsOf_len (n : Nat) (el : Nat → List IV) : (intsOf n el).length = n := by simp [intsOf]
theorem isInts_el {n : Nat} {el : Nat → List IV} (h : isInts n el = true) : ∀ k, k < n → el k = intEl (intsOf n el) k := by
 intro k hk
 have h1 := List.all_eq_true.1 h k (List.mem_range.2 hk)
 have e : (intsOf n el).getD k 0 = intOfI (el k) := by simp [intsOf, List.getD_eq_getElem?_getD, hk]
 unfold intEl
 rw [e]
 unfold isIntI at h1
 split at h1
 ·rename_i hh; rw [hh]; rfl
 ·cases h1
theorem isInts_mk (l : List Int) (n : Nat) : isInts n (intEl l) = true := List.all_eq_true.2 fun _ _ => rfl
theorem intsOf_el (l : List Int) : intsOf l.length (intEl l) = l := by
 apply List.ext_getElem
 ·simp [intsOf]
 ·intro i h1 h2
  simp [intsOf, intEl, intOfI, List.getD_eq_getElem?_getD, h2]
def firstNZ : List Int → Int
 | [] => 0
 | a :: l => if a = 0 then firstNZ l else a
structure W167 where
 l : List Int
 i : Int
structure R167 where
 ret : Bool
 v : Int
def head167 (x : W167) : List AV × List (Option Ent) := ([intA .i64 0, intA .i64 0, .c (.sl x.l.length 1 (intEl x.l)), intA .i64 (x.l.length : Nat), intA .i64 x.i], [])
def take167 : List AV × List (Option Ent) → Option (W167 × List Bool)
 | ([.c (.v (.int .i64 y)), .c (.v (.int .i64 z)), .c (.sl n 1 el), .c (.v (.int .i64 n')), .c (.v (.int .i64 i))], []) => some (⟨intsOf n el, i⟩, [decide (y = 0), decide (z = 0), decide (n' = (n : Int)), isInts n el])
 | _ => none
def takeR167 : Ex × (List AV × List (Option Ent)) → Option (R167 × List Bool)
 | (.normal, ([.c (.v (.int .i64 v)), .c (.v (.int .i64 z))], [])) => some (⟨false, v⟩, [decide (z = 0)])
 | (.ret, ([.c (.v (.int .i64 v)), .c (.v (.int .i64 z))], [])) => some (⟨true, v⟩, [decide (z = 0)])
 | _ => none
structure Way2 (X R : Type) where
 res : X → R
 pre : X → Bool
def lp167 (w : Way2 W167 R167) : LoopSt W167 R167 where
 nIn := { nt := 18, live := [2, 3, 6, 7, 8] }
 nOut := { nt := 18, live := [2, 3] }
 head := head167
 take := take167
 out := fun r => (bif r.ret then .ret else .normal, ([intA .i64 r.v, intA .i64 0], []))
 takeR := takeR167
 res := w.res
 pre := w.pre
 split := fun r => .ite r.ret (.ret { r with ret := true }) (.ret { r with ret := false })
theorem lp167_good (w : Way2 W167 R167) : (lp167 w).Good2 where
 take := by
  intro q x cs h hc
  change take167 q = some (x, cs) at h
  unfold take167 at h
  split at h
  ·rename_i y z n el n' i
   simp only [Option.some.injEq, Prod.mk.injEq] at h
   obtain ⟨rfl, rfl⟩ := h
   have hy : y = 0 := dec (hc (decide (y = 0)) (by simp))
   have h0 : z = 0 := dec (hc (decide (z = 0)) (by simp))
   subst hy
   have h1 : n' = (n : Int) := dec (hc (decide (n' = (n : Int))) (by simp))
   have h2 : isInts n el = true := hc (isInts n el) (by simp)
   subst h0
   subst h1
   refine ⟨?_, EntsEqv.refl _⟩
   show SeesL _ (head167 _).1
   simp only [head167, intsOf_len]
   exact .cons (Sees.refl _) (.cons (Sees.refl _) (.cons (Sees.sl (isInts_el h2)) (.cons (Sees.refl _) (.cons (Sees.refl _) .nil))))
  ·cases h
 takeR := by
  intro e q r cs h hc
  change takeR167 (e, q) = some (r, cs) at h
  unfold takeR167 at h
  split at h
  ·rename_i hq
   cases hq
   cases h
   obtain rfl := of_decide_eq_true (hc _ (List.mem_singleton.2 rfl))
   exact ⟨rfl, SeesL.refl _, EntsEqv.refl _⟩
  ·rename_i hq
   cases hq
   cases h
   obtain rfl := of_decide_eq_true (hc _ (List.mem_singleton.2 rfl))
   exact ⟨rfl, SeesL.refl _, EntsEqv.refl _⟩
  ·cases h
 split := by
  intro r Q h
  obtain ⟨b, v⟩ := r
  cases b with
  | true => exact h.1 rfl
  | false => exact h.2 rfl
def way167 : Way2 W167 R167 := ⟨fun x => ⟨firstNZ (x.l.drop x.i.toNat) != 0, firstNZ (x.l.drop x.i.toNat)⟩, fun x => decide (0 ≤ x.i) && decide (x.i ≤ (x.l.length : Nat)) && decide (x.l.length ≤ 1000)⟩
def L167 : Nat → Option (St → Tr (Ex × St)) := fun id => bif Nat.beq id 0 then some ((lp167 way167).g 0) else none
def sgn (a b : Int) : Int := if a < b then -1 else if a > b then 1 else 0
def K194 : List AV → Option (AV × List Bool)
 | [.c (.v (.int .i64 _))] => some (boolA false, [])
 | _ => none
def K168 : List AV → Option (AV × List Bool)
 | [.c (.v (.int .i64 a)), .c (.v (.int .i64 b))] => some (intA .i64 (sgn a b), [])
 | _ => none
def K167 : List AV → Option (AV × List Bool)
 | [.c (.sl n 1 el)] => some (intA .i64 (firstNZ (intsOf n el)), [isInts n el, decide (n ≤ 1000)])
 | _ => none
def Γ168 : FuncId → Option Spec := fun f => bif Nat.beq f 194 then some (pureSpec K194) else none
def Γ172 : FuncId → Option Spec := fun f => bif Nat.beq f 104 then some (pureSpec K104) else none
def Γ226 : FuncId → Option Spec := fun f => bif Nat.beq f 262 then some (pureSpec cmpPure) else none
def Γ195 : FuncId → Option Spec := fun f => bif Nat.beq f 226 then some (pureSpec cmpPure) else none
def Γ171 : FuncId → Option Spec := fun f => bif Nat.beq f 168 then some (pureSpec K168) else bif Nat.beq f 195 then some (pureSpec cmpPure) else bif Nat.beq f 167 then some (pureSpec K167) else none
def Γ189 : FuncId → Option Spec := fun f => bif Nat.beq f 173 then some (pureSpec K173) else none
def Γ152 : FuncId → Option Spec := fun f => bif Nat.beq f 173 then some (pureSpec K173) else bif Nat.beq f 174 then some (pureSpec K174) else none
end Go.Vse
set_option maxRecDepth 100000
namespace Go.Vse
open Go.Proofs
def M194 (a : Int) : Tr AV :=
 .ret (.c (.v (.bool (a != a))))
def M168 (a : Int) (b : Int) : Tr AV :=
 .ite false (.ite false (.ret (.c (.v (.int IntKind.i64 0)))) (.ret (.c (.v (.int IntKind.i64 (-1)))))) (.ite false (.ret (.c (.v (.int IntKind.i64 1)))) (.ite (decide (a < b)) (.ret (.c (.v (.int IntKind.i64 (-1))))) (.ite (decide (a > b)) (.ret (.c (.v (.int IntKind.i64 1)))) (.ret (.c (.v (.int IntKind.i64 0)))))))
def step167 (l : List Int) (i : Int) : Tr (W167 ⊕ R167) :=
 let x1 : Int := ↑l.length
 let x2 : Int := l.getD i.toNat 0
 .ite (decide (i < x1)) (.need (decide (0 ≤ i ∧ i < x1)) (.ite (x2 != 0) (.need true (.ret (Sum.inr { ret := true, v := x2 }))) (.need true (.need true (.need (decide (x1 = x1)) (.need (isInts l.length (intEl l)) (.ret (Sum.inl { l := intsOf l.length (intEl l), i := IntKind.i64.wrap (i + 1) })))))))) (.need true (.ret (Sum.inr { ret := false, v := 0 })))
def M167 (l : List Int) : Tr AV :=
 let x1 : Int := ↑l.length
 let x2 : List Int := intsOf l.length (intEl l)
 let x3 : Nat := x2.length
 let x4 : Int := ↑x3
 let x5 : Int := firstNZ (List.drop (Int.toNat 0) x2)
 .need true (.need true (.need (decide (x1 = x1)) (.need (isInts l.length (intEl l)) (.need (decide (0 ≤ 0) && decide (0 ≤ x4) && decide (x3 ≤ 1000)) (.ite (x5 != 0) (.ret (.c (.v (.int IntKind.i64 x5)))) (.ret (.c (.v (.int IntKind.i64 0)))))))))
def M226 (a : ByteArray) (b : ByteArray) : Tr AV :=
 .ret (.c (.v (.int IntKind.i64 (Lib.compareBytes a.data.toList b.data.toList))))
def M195 (a : ByteArray) (b : ByteArray) : Tr AV :=
 .ret (.c (.v (.int IntKind.i64 (Lib.compareBytes a.data.toList b.data.toList))))
def M172 (a : ByteArray) (b : ByteArray) : Tr AV :=
 .need (bif wordB a then true else true) (.ret (AV.tup [.c (.v (.int IntKind.u64 (bif wordB a then wordV a else wordV a))), .c (.v (.int IntKind.u64 (bif wordB a then wordV b else wordV b))), .c (.v (.bool (bif wordB a then bif true then wordB b else false else false)))]))
def M171 (a : ByteArray) (b : ByteArray) : Tr AV :=
 let x1 : Nat := 0 + 1
 let x2 : List UInt8 := a.data.toList
 let x3 : List UInt8 := b.data.toList
 .need true (.need true (.need true (.ret (.c (.v (.int IntKind.i64 (firstNZ (intsOf 2 fun k => List.take x1 (List.drop (k * x1) [IV.v (Value.int IntKind.i64 (Lib.compareBytes x2 x3)), IV.v (Value.int IntKind.i64 (sgn ↑x2.length ↑x3.length))].reverse)))))))))
def M170 (p : Bool) (a : ByteArray) : Tr AV :=
 .ite (a.data.toList == []) (.ret (.c (.v (.int IntKind.i64 0)))) (.ite p (.ret (.c (.v (.int IntKind.i64 (-1))))) (.ret (.c (.v (.int IntKind.i64 1)))))
def M189 (p : Bool) (a : ByteArray) : Tr AV :=
 .ret (AV.agg [.c (.v (.bool (!p && !a.data.toList == []))), .c (.v (.string a))])
def M123 (p : Bool) (a : ByteArray) : Tr AV :=
 let x1 : List UInt8 := a.data.toList
 let x2 : Int := ↑x1.length
 .need (bif x1 == [] then bif bif true then p else false then true else bif !x1 == [] then decide ((0 : Int) ≤ 0 ∧ 0 < x2) && true else true else bif false then true else bif !x1 == [] then decide ((0 : Int) ≤ 0 ∧ 0 < x2) && true else true) (.ite (bif x1 == [] then bif bif true then p else false then true else bif !x1 == [] then bif false then true else bif true then ((x1.getD (Int.toNat 0) 0).toNat : Int) == 0 else false else bif false then true else false else bif false then true else bif !x1 == [] then bif false then true else bif true then ((x1.getD (Int.toNat 0) 0).toNat : Int) == 0 else false else bif false then true else false) (.ret (.c (.v (.int IntKind.i64 5)))) (.ret (.c (.v (.int IntKind.i64 0)))))
def M152 (n : Int) : Tr AV :=
 let x1 : Int := IntKind.u64.wrap (0 - IntKind.u64.wrap n)
 let x2 : List UInt8 := magB x1.toNat
 let x3 : List UInt8 := magB (IntKind.u64.wrap n).toNat
 .ite (decide (n < 0)) (.need (u64B x1) (.ret (AV.agg [.c (.v (.bool (decide (n < 0) && !x2 == []))), .c (.v (.string ⟨⟨x2⟩⟩))]))) (.need (u64B (IntKind.u64.wrap n)) (.ret (AV.agg [.c (.v (.bool (decide (n < 0) && !x3 == []))), .c (.v (.string ⟨⟨x3⟩⟩))])))
theorem M194_eq (a : Int) : execFn Tryz.prog (fun _ => none) noL 1010 Tryz.f194 [.c (.v (.int .i64 a))] = M194 a := by kernel_rfl
theorem M168_eq (a b : Int) : execFn Tryz.prog Γ168 noL 1010 Tryz.f168 [.c (.v (.int .i64 a)), .c (.v (.int .i64 b))] = M168 a b := by kernel_rfl
theorem step167_eq (w : Way2 W167 R167) (x : W167) : (exec Tryz.prog (fun _ => none) noL 1010 (loopOf 0 (codeOf Tryz.f167)) (mkSt (lp167 w).nIn ((lp167 w).head x))).bind ((lp167 w).fin 0 0) = step167 x.l x.i := by
 obtain ⟨l, i⟩ := x
 kernel_rfl
theorem M167_eq (l : List Int) : execFn Tryz.prog (fun _ => none) L167 1010 Tryz.f167 [.c (.sl l.length 1 (intEl l))] = M167 l := by kernel_rfl
theorem M226_eq (a b : ByteArray) : execFn Tryz.prog Γ226 noL 1010 Tryz.f226 [.c (.v (.string a)), .c (.v (.string b))] = M226 a b := by kernel_rfl
theorem M195_eq (a b : ByteArray) : execFn Tryz.prog Γ195 noL 1010 Tryz.f195 [.c (.v (.string a)), .c (.v (.string b))] = M195 a b := by kernel_rfl
theorem M172_eq (a b : ByteArray) : execFn Tryz.prog Γ172 noL 1010 Tryz.f172 [.c (.v (.string a)), .c (.v (.string b))] = M172 a b := by kernel_rfl
theorem M171_eq (a b : ByteArray) : execFn Tryz.prog Γ171 noL 1010 Tryz.f171 [.c (.v (.string a)), .c (.v (.string b))] = M171 a b := by kernel_rfl
theorem M170_eq (p : Bool) (a : ByteArray) : execFn Tryz.prog (fun _ => none) noL 1010 Tryz.f170 [.agg [.c (.v (.bool p)), .c (.v (.string a))]] = M170 p a := by kernel_rfl
theorem M189_eq (p : Bool) (a : ByteArray) : execFn Tryz.prog Γ189 noL 1010 Tryz.f189 [.agg [.c (.v (.bool p)), .c (.v (.string a))]] = M189 p a := by kernel_rfl
theorem M123_eq (p : Bool) (a : ByteArray) : execFn Tryz.prog (fun _ => none) noL 1010 Tryz.f123 [.agg [.c (.v (.bool p)), .c (.v (.string a))]] = M123 p a := by kernel_rfl
theorem M152_eq (n : Int) : execFn Tryz.prog Γ152 noL 1010 Tryz.f152 [.c (.v (.int .i64 n))] = M152 n := by kernel_rfl
def iv (p : Bool) (s : ByteArray) : Int := bif p then -(magN s.data.toList : Int) else (magN s.data.toList : Int)
def okI (p : Bool) (s : ByteArray) : Bool := canon s.data.toList && (!p || !(s.data.toList == []))
def intForm (z : Int) : AV := .agg [.c (.v (.bool (decide (z < 0)))), strA (magB z.natAbs)]
theorem magN_eq_zero {l : List UInt8} (h : canon l = true) : magN l = 0 ↔ l = [] := by
 constructor
 ·intro h0
  have := magB_magN l h
  rw [h0, magB_zero] at this
  exact this.symm
 ·rintro rfl; rfl
theorem iv_neg {p : Bool} {s : ByteArray} (h : okI p s = true) : decide (iv p s < 0) = p := by
 simp only [okI, Bool.and_eq_true, Bool.or_eq_true, Bool.not_eq_true', beq_eq_false_iff_ne] at h
 cases p with
 | false => exact decide_eq_false (by simp only [iv, cond_false]; omega)
 | true =>
   refine decide_eq_true ?_
   have h2 := h.2.resolve_left (by simp)
   have : magN s.data.toList ≠ 0 := fun h0 => h2 ((magN_eq_zero h.1).1 h0)
   simp only [iv, cond_true]; omega
theorem iv_abs (p : Bool) (s : ByteArray) : (iv p s).natAbs = magN s.data.toList := by
 cases p <;> simp [iv]
theorem form_eq {p : Bool} {s : ByteArray} (h : okI p s = true) : AV.agg [.c (.v (.bool p)), .c (.v (.string s))] = intForm (iv p s) := by
 have hc : canon s.data.toList = true := by
  simp only [okI, Bool.and_eq_true] at h; exact h.1
 unfold intForm
 rw [iv_neg h, iv_abs, magB_magN _ hc]
 rfl
theorem magN_cons (c : UInt8) (l : List UInt8) : magN (c :: l) = c.toNat * 256 ^ l.length + magN l := by
 induction l using snocInd with
 | h0 => simp [magN]
 | h1 l d ih =>
  rw [← List.cons_append, magN_snoc, magN_snoc, ih, List.length_append, List.length_singleton, Nat.pow_succ]
  rw [Nat.add_mul, Nat.mul_assoc]
  omega
theorem sgn_nat (a b : Nat) : sgn (a : Int) (b : Int) = if a < b then -1 else if b < a then 1 else 0 := by
 unfold sgn
 by_cases h : a < b
 ·rw [if_pos (by omega), if_pos h]
 ·rw [if_neg (by omega), if_neg h]
  by_cases h2 : b < a
  ·rw [if_pos (by omega), if_pos h2]
  ·rw [if_neg (by omega), if_neg h2]
theorem cmp_same : ∀ (a b : List UInt8), a.length = b.length → Lib.compareBytes a b = sgn (magN a : Int) (magN b : Int)
 | [], [], _ => by simp [Lib.compareBytes, sgn]
 | x :: a, y :: b, h => by
   have h : a.length = b.length := by simpa using h
   have ih := cmp_same a b h
   have ha := magN_lt a
   have hb := magN_lt b
   rw [h] at ha
   unfold Lib.compareBytes
   rw [sgn_nat, magN_cons, magN_cons, h]
   rw [sgn_nat] at ih
   by_cases h1 : x < y
   · have h1' : x.toNat < y.toNat := h1
     have : (x.toNat + 1) * 256 ^ b.length ≤ y.toNat * 256 ^ b.length := Nat.mul_le_mul_right _ h1'
     rw [Nat.add_mul] at this
     rw [if_pos h1, if_pos (by omega)]
   · rw [if_neg h1]
     by_cases h2 : y < x
     · have h2' : y.toNat < x.toNat := h2
       have : (y.toNat + 1) * 256 ^ b.length ≤ x.toNat * 256 ^ b.length := Nat.mul_le_mul_right _ h2'
       rw [Nat.add_mul] at this
       rw [if_pos h2, if_neg (by omega), if_pos (by omega)]
     · have h1' : ¬ x.toNat < y.toNat := h1
       have h2' : ¬ y.toNat < x.toNat := h2
       have hxy : x.toNat = y.toNat := by omega
       rw [if_neg h2, ih, hxy]
       simp only [Nat.add_lt_add_iff_left]
 | [], _ :: _, h => by simp at h
 | _ :: _, [], h => by simp at h
theorem len_lt {a b : List UInt8} (hb : canon b = true) (h : a.length < b.length) : magN a < magN b := by
 cases b with
 | nil => simp at h
 | cons c l =>
  have hc : c ≠ 0 := by simpa [canon] using hb
  have h1 := magN_pos_of_canon (l := l) hc
  have h2 := magN_lt a
  have : 256 ^ a.length ≤ 256 ^ l.length := Nat.pow_le_pow_right (by omega) (by simp at h; omega)
  omega
theorem compare_mag (a b : List UInt8) (ha : canon a = true) (hb : canon b = true) : firstNZ [sgn (a.length : Int) (b.length : Int), Lib.compareBytes a b] = sgn (magN a : Int) (magN b : Int) := by
 rw [sgn_nat, sgn_nat]
 rcases Nat.lt_trichotomy a.length b.length with h | h | h
 ·have := len_lt hb h
  rw [if_pos h, if_pos this]
  rfl
 ·rw [if_neg (by omega), if_neg (by omega), cmp_same a b h, sgn_nat]
  by_cases h1 : magN a < magN b
  ·simp [firstNZ, h1]
  ·by_cases h2 : magN b < magN a
   ·simp [firstNZ, h1, h2]
   ·simp [firstNZ, h1, h2]
 ·have := len_lt ha h
  rw [if_neg (by omega), if_pos h, if_neg (by omega), if_pos this]
  rfl
end Go.Vse
set_option maxRecDepth 100000
namespace Go.Vse
open Go.Proofs
theorem M168_sat (a b : Int) : (M168 a b).sat fun r => r = intA .i64 (sgn a b) := by
 unfold M168 sgn
 refine sat_ite (fun h => Bool.noConfusion h) (fun _ => sat_ite (fun h => Bool.noConfusion h) (fun _ => sat_ite (fun h => ?_) (fun h => ?_)))
 ·rw [if_pos (of_decide_eq_true h)]; exact sat_ret rfl
 ·rw [if_neg (of_decide_eq_false h)]
  refine sat_ite (fun h => ?_) (fun h => ?_)
  ·rw [if_pos (of_decide_eq_true h)]; exact sat_ret rfl
  ·rw [if_neg (of_decide_eq_false h)]; exact sat_ret rfl
theorem f194_ok : PureOk Tryz.prog 194 K194 := by
 refine pureOk_of_exec prog_mixed noΓ_ok (fn := Tryz.f194) (c := codeOf Tryz.f194) (by kernel_rfl) (by kernel_rfl) (callFunc_enter (fn := Tryz.f194) (c := codeOf Tryz.f194) (by kernel_rfl) (by kernel_rfl) (by kernel_rfl)) (L := noL) (N := 1010) (blocksOk_none _ _) ?_ ?_
 ·intro args v cs h
  unfold K194 at h
  split at h
  ·cases h; rfl
  ·cases h
 ·intro args v cs h hc
  unfold K194 at h
  split at h
  ·rename_i a
   cases h
   have hs := (show (M194 a).sat fun r => r = boolA false from sat_ret (by simp [boolA]))
   rw [← M194_eq] at hs
   generalize execFn Tryz.prog (fun _ => none) noL 1010 Tryz.f194 [.c (.v (.int .i64 a))] = T at hs ⊢
   exact Tr.sat_mono (fun r hr => ⟨by subst hr; rfl, Sees.of_eq hr⟩) hs
  ·cases h
theorem Γ168_ok : ∀ f s, Γ168 f = some s → SpecOk Tryz.prog f s := one_ok f194_ok.spec
theorem f168_ok : PureOk Tryz.prog 168 K168 := by
 refine pureOk_of_exec prog_mixed Γ168_ok (fn := Tryz.f168) (c := codeOf Tryz.f168) (by kernel_rfl) (by kernel_rfl) (callFunc_enter (fn := Tryz.f168) (c := codeOf Tryz.f168) (by kernel_rfl) (by kernel_rfl) (by kernel_rfl)) (L := noL) (N := 1010) (blocksOk_none _ _) ?_ ?_
 ·intro args v cs h
  unfold K168 at h
  split at h
  ·cases h; rfl
  ·cases h
 ·intro args v cs h hc
  unfold K168 at h
  split at h
  ·rename_i a b
   cases h
   have hs := M168_sat a b
   rw [← M168_eq] at hs
   generalize execFn Tryz.prog Γ168 noL 1010 Tryz.f168 [.c (.v (.int .i64 a)), .c (.v (.int .i64 b))] = T at hs ⊢
   exact Tr.sat_mono (fun r hr => ⟨by subst hr; rfl, Sees.of_eq hr⟩) hs
  ·cases h
theorem step167_in (l : List Int) (i : Nat) (hl : l.length ≤ 1000) (hi : i < l.length) {R : W167 ⊕ R167 → Prop} (h1 : l[i] ≠ 0 → R (.inr ⟨true, l[i]⟩)) (h2 : l[i] = 0 → R (.inl ⟨l, ((i + 1 : Nat) : Int)⟩)) : (step167 l (i : Nat)).sat R := by
 have hg : l.getD i 0 = l[i] := by simp [List.getD_eq_getElem?_getD, hi]
 have hw : IntKind.i64.wrap ((i : Int) + 1) = ((i + 1 : Nat) : Int) := by rw [wrap_i64 (by omega)]; omega
 unfold step167
 simp only [Int.toNat_natCast, hg, hw, intsOf_el]
 exact sat_ite (fun _ => sat_need (decide_eq_true (by omega)) (sat_ite (fun h => sat_need rfl (sat_ret (h1 (by simpa using h)))) (fun h => sat_need rfl (sat_need rfl (sat_need (by simp) (sat_need (isInts_mk l _) (sat_ret (h2 (by simpa using h))))))))) (fun h => absurd (show (i : Int) < (l.length : Nat) by omega) (of_decide_eq_false h))
theorem runs167 (l : List Int) (hl : l.length ≤ 1000) (Q : R167 → Prop) : ∀ (k i : Nat), i + k = l.length → Q ⟨firstNZ (l.drop i) != 0, firstNZ (l.drop i)⟩ → RunsX (fun x : W167 => step167 x.l x.i) Q (k + 1) ⟨l, i⟩
 | 0, i, hi, hq => by
  obtain rfl : i = l.length := by omega
  rw [List.drop_length] at hq
  exact sat_ite (fun h => absurd (of_decide_eq_true h) (Int.lt_irrefl _)) (fun _ => sat_need rfl (sat_ret hq))
 | k + 1, i, hi, hq => by
  have hlt : i < l.length := by omega
  have hd : l.drop i = l[i] :: l.drop (i + 1) := List.drop_eq_getElem_cons hlt
  have ih := runs167 l hl Q k (i + 1) (by omega)
  rw [hd] at hq
  refine step167_in l i hl hlt (fun hne => ?_) (fun he => ?_)
  ·simp only [firstNZ, if_neg hne] at hq
   have hb : (l[i] != 0) = true := by simpa using hne
   rw [hb] at hq
   exact hq
  ·simp only [firstNZ, if_pos he] at hq
   exact ih hq
theorem f167_loops : BlocksOk Tryz.prog 0 L167 (codeOf Tryz.f167) := by
 refine blocksOk_of (d := fun id => Nat.beq id 0) (fun id => by unfold L167; cases Nat.beq id 0 <;> rfl) _ ?_
 have hb : blocksOf (fun id => Nat.beq id 0) (codeOf Tryz.f167) = [(0, .loop (loopOf 0 (codeOf Tryz.f167)))] := by kernel_rfl
 rw [hb]
 intro p hp g hg
 simp only [List.mem_singleton] at hp
 subst hp
 have hh : L167 0 = some ((lp167 way167).g 0) := rfl
 rw [hh] at hg
 obtain rfl : g = (lp167 way167).g 0 := (Option.some.inj hg).symm
 refine LoopSt.ok2 (N := 1010) prog_mixed noΓ_ok (L := noL) (blocksOk_none 0 _) (lp167_good _) (step167_eq way167) ?_
 rintro ⟨l, i⟩ hx
 have hx : way167.pre ⟨l, i⟩ = true := hx
 simp only [way167, Bool.and_eq_true, decide_eq_true_eq] at hx
 obtain ⟨⟨h1, h2⟩, h3⟩ := hx
 obtain ⟨i, rfl⟩ : ∃ m : Nat, i = m := ⟨i.toNat, by omega⟩
 exact ⟨_, runs167 l h3 (· = way167.res ⟨l, i⟩) (l.length - i) i (by omega) (by simp [way167])⟩
theorem M167_sat (l : List Int) (hl : l.length ≤ 1000) : (M167 l).sat fun r => r = intA .i64 (firstNZ l) := by
 unfold M167
 simp only [intsOf_el]
 have e : List.drop (Int.toNat 0) l = l := rfl
 rw [e]
 refine sat_need rfl (sat_need rfl (sat_need (by simp) (sat_need (isInts_mk l _) (sat_need ?_ (sat_ite (fun _ => sat_ret rfl) (fun h => ?_))))))
 ·simp [hl]
 ·have h0 : firstNZ l = 0 := by simpa using h
  rw [h0]; exact sat_ret rfl
theorem f167_ok : PureOk Tryz.prog 167 K167 := by
 refine pureOk_of_exec_c (L := L167) prog_mixed noΓ_ok (fn := Tryz.f167) (c := codeOf Tryz.f167) (by kernel_rfl) (by kernel_rfl) (callFunc_enter (fn := Tryz.f167) (c := codeOf Tryz.f167) (by kernel_rfl) (by kernel_rfl) (by kernel_rfl)) (N := 1010) f167_loops ?_ ?_
 ·intro args v cs h
  unfold K167 at h
  split at h
  ·cases h; rfl
  ·cases h
 ·intro args v cs h hc
  unfold K167 at h
  split at h
  ·rename_i n el
   cases h
   have h1 : isInts n el = true := hc (isInts n el) (by simp)
   have h2 : n ≤ 1000 := dec (hc (decide (n ≤ 1000)) (by simp))
   have e1 := isInts_el h1
   have hlen := intsOf_len n el
   generalize intsOf n el = l at e1 hlen ⊢
   subst hlen
   refine ⟨[.c (.sl l.length 1 (intEl l))], .cons (Sees.sl e1) .nil, ?_⟩
   have hs := M167_sat l h2
   rw [← M167_eq] at hs
   generalize execFn Tryz.prog (fun _ => none) L167 1010 Tryz.f167 [.c (.sl l.length 1 (intEl l))] = T at hs ⊢
   exact Tr.sat_mono (fun r hr => ⟨by subst hr; rfl, Sees.of_eq hr⟩) hs
  ·cases h
theorem cmp_ext : ExtOk Tryz.prog 262 Extern.BytealgCompare.compare := ⟨Tryz.f262, by kernel_rfl, by kernel_rfl, by kernel_rfl, by kernel_rfl, by kernel_rfl⟩
theorem Γ226_ok : ∀ f s, Γ226 f = some s → SpecOk Tryz.prog f s := one_ok (cmp_ok cmp_ext).spec
theorem f226_ok : PureOk Tryz.prog 226 cmpPure := by
 refine pureOk_of_exec prog_mixed Γ226_ok (fn := Tryz.f226) (c := codeOf Tryz.f226) (by kernel_rfl) (by kernel_rfl) (callFunc_enter (fn := Tryz.f226) (c := codeOf Tryz.f226) (by kernel_rfl) (by kernel_rfl) (by kernel_rfl)) (L := noL) (N := 1010) (blocksOk_none _ _) ?_ ?_
 ·intro args v cs h
  unfold cmpPure at h
  split at h
  ·cases h; rfl
  ·cases h
 ·intro args v cs h hc
  unfold cmpPure at h
  split at h
  ·rename_i a b
   cases h
   have hs := (show (M226 a b).sat fun r => r = intA .i64 (Lib.compareBytes a.data.toList b.data.toList) from sat_ret rfl)
   rw [← M226_eq] at hs
   generalize execFn Tryz.prog Γ226 noL 1010 Tryz.f226 [.c (.v (.string a)), .c (.v (.string b))] = T at hs ⊢
   exact Tr.sat_mono (fun r hr => ⟨by subst hr; rfl, Sees.of_eq hr⟩) hs
  ·cases h
theorem Γ195_ok : ∀ f s, Γ195 f = some s → SpecOk Tryz.prog f s := one_ok f226_ok.spec
theorem f195_ok : PureOk Tryz.prog 195 cmpPure := by
 refine pureOk_of_exec prog_mixed Γ195_ok (fn := Tryz.f195) (c := codeOf Tryz.f195) (by kernel_rfl) (by kernel_rfl) (callFunc_enter (fn := Tryz.f195) (c := codeOf Tryz.f195) (by kernel_rfl) (by kernel_rfl) (by kernel_rfl)) (L := noL) (N := 1010) (blocksOk_none _ _) ?_ ?_
 ·intro args v cs h
  unfold cmpPure at h
  split at h
  ·cases h; rfl
  ·cases h
 ·intro args v cs h hc
  unfold cmpPure at h
  split at h
  ·rename_i a b
   cases h
   have hs := (show (M195 a b).sat fun r => r = intA .i64 (Lib.compareBytes a.data.toList b.data.toList) from sat_ret rfl)
   rw [← M195_eq] at hs
   generalize execFn Tryz.prog Γ195 noL 1010 Tryz.f195 [.c (.v (.string a)), .c (.v (.string b))] = T at hs ⊢
   exact Tr.sat_mono (fun r hr => ⟨by subst hr; rfl, Sees.of_eq hr⟩) hs
  ·cases h
def K172 : List AV → Option (AV × List Bool)
 | [.c (.v (.string a)), .c (.v (.string b))] => some (.tup [intA .u64 (wordV a), intA .u64 (wordV b), boolA (wordB a && wordB b)], [])
 | _ => none
theorem Γ172_ok : ∀ f s, Γ172 f = some s → SpecOk Tryz.prog f s := one_ok f104_ok.spec
theorem M172_sat (a b : ByteArray) : (M172 a b).sat fun r => r = .tup [intA .u64 (wordV a), intA .u64 (wordV b), boolA (wordB a && wordB b)] := by
 unfold M172
 cases wordB a <;> exact sat_need rfl (sat_ret rfl)
theorem f172_ok : PureOk Tryz.prog 172 K172 := by
 refine pureOk_of_exec prog_mixed Γ172_ok (fn := Tryz.f172) (c := codeOf Tryz.f172) (by kernel_rfl) (by kernel_rfl) (callFunc_enter (fn := Tryz.f172) (c := codeOf Tryz.f172) (by kernel_rfl) (by kernel_rfl) (by kernel_rfl)) (L := noL) (N := 1010) (blocksOk_none _ _) ?_ ?_
 ·intro args v cs h
  unfold K172 at h
  split at h
  ·cases h; rfl
  ·cases h
 ·intro args v cs h hc
  unfold K172 at h
  split at h
  ·rename_i a b
   cases h
   have hs := M172_sat a b
   rw [← M172_eq] at hs
   generalize execFn Tryz.prog Γ172 noL 1010 Tryz.f172 [.c (.v (.string a)), .c (.v (.string b))] = T at hs ⊢
   exact Tr.sat_mono (fun r hr => ⟨by subst hr; rfl, Sees.of_eq hr⟩) hs
  ·cases h
def K171 : List AV → Option (AV × List Bool)
 | [.c (.v (.string a)), .c (.v (.string b))] => some (intA .i64 (sgn (magN a.data.toList : Int) (magN b.data.toList : Int)), [canon a.data.toList, canon b.data.toList])
 | _ => none
theorem Γ171_ok : ∀ f s, Γ171 f = some s → SpecOk Tryz.prog f s := step_ok f168_ok.spec (step_ok f195_ok.spec (one_ok f167_ok.spec))
theorem M171_sat (a b : ByteArray) (ha : canon a.data.toList = true) (hb : canon b.data.toList = true) : (M171 a b).sat fun r => r = intA .i64 (sgn (magN a.data.toList : Int) (magN b.data.toList : Int)) := by
 unfold M171
 refine sat_need rfl (sat_need rfl (sat_need rfl (sat_ret ?_)))
 rw [← compare_mag _ _ ha hb]
 rfl
theorem f171_ok : PureOk Tryz.prog 171 K171 := by
 refine pureOk_of_exec prog_mixed Γ171_ok (fn := Tryz.f171) (c := codeOf Tryz.f171) (by kernel_rfl) (by kernel_rfl) (callFunc_enter (fn := Tryz.f171) (c := codeOf Tryz.f171) (by kernel_rfl) (by kernel_rfl) (by kernel_rfl)) (L := noL) (N := 1010) (blocksOk_none _ _) ?_ ?_
 ·intro args v cs h
  unfold K171 at h
  split at h
  ·cases h; rfl
  ·cases h
 ·intro args v cs h hc
  unfold K171 at h
  split at h
  ·rename_i a b
   cases h
   have ha : canon a.data.toList = true := hc (canon a.data.toList) (by simp)
   have hb : canon b.data.toList = true := hc (canon b.data.toList) (by simp)
   have hs := M171_sat a b ha hb
   rw [← M171_eq] at hs
   generalize execFn Tryz.prog Γ171 noL 1010 Tryz.f171 [.c (.v (.string a)), .c (.v (.string b))] = T at hs ⊢
   exact Tr.sat_mono (fun r hr => ⟨by subst hr; rfl, Sees.of_eq hr⟩) hs
  ·cases h
def K170 : List AV → Option (AV × List Bool)
 | [.agg [.c (.v (.bool p)), .c (.v (.string a))]] => some (intA .i64 (sgn (iv p a) 0), [okI p a])
 | _ => none
theorem M170_sat (p : Bool) (a : ByteArray) (h : okI p a = true) : (M170 p a).sat fun r => r = intA .i64 (sgn (iv p a) 0) := by
 have hc : canon a.data.toList = true := by simp only [okI, Bool.and_eq_true] at h; exact h.1
 have hz := magN_eq_zero hc
 unfold M170
 refine sat_ite (fun h0 => ?_) (fun h0 => ?_)
 · have h0 : a.data.toList = [] := eq_of_beq h0
   have : iv p a = 0 := by
     have := hz.2 h0
     cases p <;> simp [iv, this]
   rw [this]; exact sat_ret rfl
 · have h0 : a.data.toList ≠ [] := by simpa using h0
   have hm : magN a.data.toList ≠ 0 := fun hh => h0 (hz.1 hh)
   refine sat_ite (fun hp => ?_) (fun hp => ?_)
   · subst hp
     have : sgn (iv true a) 0 = -1 := by unfold sgn; rw [if_pos (by simp only [iv, cond_true]; omega)]
     rw [this]; exact sat_ret rfl
   · subst hp
     have : sgn (iv false a) 0 = 1 := by unfold sgn; rw [if_neg (by simp only [iv, cond_false]; omega), if_pos (by simp only [iv, cond_false]; omega)]
     rw [this]; exact sat_ret rfl
theorem f170_ok : PureOk Tryz.prog 170 K170 := by
 refine pureOk_of_exec prog_mixed noΓ_ok (fn := Tryz.f170) (c := codeOf Tryz.f170) (by kernel_rfl) (by kernel_rfl) (callFunc_enter (fn := Tryz.f170) (c := codeOf Tryz.f170) (by kernel_rfl) (by kernel_rfl) (by kernel_rfl)) (L := noL) (N := 1010) (blocksOk_none _ _) ?_ ?_
 ·intro args v cs h
  unfold K170 at h
  split at h
  ·cases h; rfl
  ·cases h
 ·intro args v cs h hc
  unfold K170 at h
  split at h
  ·rename_i p a
   cases h
   have h1 : okI p a = true := hc (okI p a) (by simp)
   have hs := M170_sat p a h1
   rw [← M170_eq] at hs
   generalize execFn Tryz.prog (fun _ => none) noL 1010 Tryz.f170 [.agg [.c (.v (.bool p)), .c (.v (.string a))]] = T at hs ⊢
   exact Tr.sat_mono (fun r hr => ⟨by subst hr; rfl, Sees.of_eq hr⟩) hs
  ·cases h
def K189 : List AV → Option (AV × List Bool)
 | [.agg [.c (.v (.bool p)), .c (.v (.string a))]] => some (intForm (-(iv p a)), [okI p a])
 | _ => none
theorem Γ189_ok : ∀ f s, Γ189 f = some s → SpecOk Tryz.prog f s := one_ok f173_ok.spec
theorem M189_sat (p : Bool) (a : ByteArray) (h : okI p a = true) : (M189 p a).sat fun r => r = intForm (-(iv p a)) := by
 have hc : canon a.data.toList = true := by simp only [okI, Bool.and_eq_true] at h; exact h.1
 have hz := magN_eq_zero hc
 unfold M189
 refine sat_ret ?_
 have e : (!p && !(a.data.toList == [])) = decide (-(iv p a) < 0) := by
   by_cases h0 : a.data.toList = []
   · have := hz.2 h0
     rw [h0]
     cases p <;> simp [iv, this]
   · have hm : magN a.data.toList ≠ 0 := fun hh => h0 (hz.1 hh)
     have hb : (a.data.toList == []) = false := by simpa using h0
     rw [hb]
     cases p <;> simp [iv] <;> (try omega)
 unfold intForm
 rw [← e, Int.natAbs_neg, iv_abs, magB_magN _ hc]
 rfl
theorem f189_ok : PureOk Tryz.prog 189 K189 := by
 refine pureOk_of_exec prog_mixed Γ189_ok (fn := Tryz.f189) (c := codeOf Tryz.f189) (by kernel_rfl) (by kernel_rfl) (callFunc_enter (fn := Tryz.f189) (c := codeOf Tryz.f189) (by kernel_rfl) (by kernel_rfl) (by kernel_rfl)) (L := noL) (N := 1010) (blocksOk_none _ _) ?_ ?_
 ·intro args v cs h
  unfold K189 at h
  split at h
  ·cases h; rfl
  ·cases h
 ·intro args v cs h hc
  unfold K189 at h
  split at h
  ·rename_i p a
   cases h
   have h1 : okI p a = true := hc (okI p a) (by simp)
   have hs := M189_sat p a h1
   rw [← M189_eq] at hs
   generalize execFn Tryz.prog Γ189 noL 1010 Tryz.f189 [.agg [.c (.v (.bool p)), .c (.v (.string a))]] = T at hs ⊢
   generalize -(iv p a) = z at hs ⊢
   exact Tr.sat_mono (fun r hr => ⟨by subst hr; rfl, Sees.of_eq hr⟩) hs
  ·cases h
def K123 : List AV → Option (AV × List Bool)
 | [.agg [.c (.v (.bool p)), .c (.v (.string a))]] => some (intA .i64 (if okI p a then 0 else 5), [])
 | _ => none
theorem M123_sat (p : Bool) (a : ByteArray) : (M123 p a).sat fun r => r = intA .i64 (if okI p a then 0 else 5) := by
 unfold M123 okI
 generalize a.data.toList = l
 cases l with
 | nil =>
  cases p
  ·exact sat_need rfl (sat_ite (fun h => Bool.noConfusion h) (fun _ => sat_ret rfl))
  ·exact sat_need rfl (sat_ite (fun _ => sat_ret rfl) (fun h => Bool.noConfusion h))
 | cons c l =>
  have hc : (canon (c :: l) && (!p || !((c :: l) == []))) = (c != 0) := by simp [canon]
  have hlen : decide ((0 : Int) ≤ 0 ∧ (0 : Int) < (((c :: l).length : Nat) : Int)) = true := decide_eq_true (by simp)
  have hg : (c :: l).getD (Int.toNat 0) 0 = c := rfl
  have hnil : ((c :: l) == ([] : List UInt8)) = false := rfl
  rw [hc]
  simp only [hnil, hlen, hg, cond_false, cond_true, Bool.not_false, Bool.and_true]
  refine sat_need rfl (sat_ite (fun h => ?_) (fun h => ?_))
  ·have h : ((c.toNat : Int) == 0) = true := h
   have : c = 0 := UInt8.toNat_inj.1 (by simpa using h)
   subst this
   exact sat_ret rfl
  ·have h : ((c.toNat : Int) == 0) = false := h
   have : c ≠ 0 := by rintro rfl; cases h
   have hb : (c != 0) = true := by simpa using this
   rw [hb]
   exact sat_ret rfl
theorem f123_ok : PureOk Tryz.prog 123 K123 := by
 refine pureOk_of_exec prog_mixed noΓ_ok (fn := Tryz.f123) (c := codeOf Tryz.f123) (by kernel_rfl) (by kernel_rfl) (callFunc_enter (fn := Tryz.f123) (c := codeOf Tryz.f123) (by kernel_rfl) (by kernel_rfl) (by kernel_rfl)) (L := noL) (N := 1010) (blocksOk_none _ _) ?_ ?_
 ·intro args v cs h
  unfold K123 at h
  split at h
  ·cases h; rfl
  ·cases h
 ·intro args v cs h hc
  unfold K123 at h
  split at h
  ·rename_i p a
   cases h
   have hs := M123_sat p a
   rw [← M123_eq] at hs
   generalize execFn Tryz.prog (fun _ => none) noL 1010 Tryz.f123 [.agg [.c (.v (.bool p)), .c (.v (.string a))]] = T at hs ⊢
   generalize (if okI p a = true then (0 : Int) else 5) = z at hs ⊢
   exact Tr.sat_mono (fun r hr => ⟨by subst hr; rfl, Sees.of_eq hr⟩) hs
  ·cases h
def K152 : List AV → Option (AV × List Bool)
 | [.c (.v (.int .i64 n))] => some (intForm n, [decide (-9223372036854775808 ≤ n), decide (n ≤ 9223372036854775807)])
 | _ => none
theorem Γ152_ok : ∀ f s, Γ152 f = some s → SpecOk Tryz.prog f s := step_ok f173_ok.spec (one_ok f174_ok.spec)
theorem M152_sat (n : Int) (h1 : -9223372036854775808 ≤ n) (h2 : n ≤ 9223372036854775807) : (M152 n).sat fun r => r = intForm n := by
 have key : ∀ m : Int, m.toNat = n.natAbs → 0 ≤ m → m < 18446744073709551616 → (Tr.need (u64B m) (Tr.ret (AV.agg [AV.c (IV.v (Value.bool (decide (n < 0) && !magB m.toNat == []))), AV.c (IV.v (Value.string { data := { toList := magB m.toNat } }))]))).sat fun r => r = intForm n := by
  intro m hm h0 hlt
  refine sat_need (by simp [u64B, h0, hlt]) (sat_ret ?_)
  rw [hm]
  unfold intForm
  by_cases hn : n < 0
  ·have hne : magB n.natAbs ≠ [] := fun hh => by
    have := magN_magB n.natAbs
    rw [hh] at this
    have h3 : magN [] = 0 := rfl
    omega
   have hb : (magB n.natAbs == []) = false := by simpa using hne
   rw [decide_eq_true hn, hb]
   rfl
  ·rw [decide_eq_false hn]
   rfl
 unfold M152
 refine sat_ite (fun h => ?_) (fun h => ?_)
 ·have h := of_decide_eq_true h
  have e : IntKind.u64.wrap (0 - IntKind.u64.wrap n) = -n := by
   rw [wrap_u64, wrap_u64]; omega
  rw [e]
  exact key (-n) (by omega) (by omega) (by omega)
 ·have h := of_decide_eq_false h
  have e : IntKind.u64.wrap n = n := by rw [wrap_u64]; omega
  rw [e]
  exact key n (by omega) (by omega) (by omega)
theorem f152_ok : PureOk Tryz.prog 152 K152 := by
 refine pureOk_of_exec prog_mixed Γ152_ok (fn := Tryz.f152) (c := codeOf Tryz.f152) (by kernel_rfl) (by kernel_rfl) (callFunc_enter (fn := Tryz.f152) (c := codeOf Tryz.f152) (by kernel_rfl) (by kernel_rfl) (by kernel_rfl)) (L := noL) (N := 1010) (blocksOk_none _ _) ?_ ?_
 ·intro args v cs h
  unfold K152 at h
  split at h
  ·cases h; rfl
  ·cases h
 ·intro args v cs h hc
  unfold K152 at h
  split at h
  ·rename_i n
   cases h
   have h1 : -9223372036854775808 ≤ n := dec (hc (decide (-9223372036854775808 ≤ n)) (by simp))
   have h2 : n ≤ 9223372036854775807 := dec (hc (decide (n ≤ 9223372036854775807)) (by simp))
   have hs := M152_sat n h1 h2
   rw [← M152_eq] at hs
   generalize execFn Tryz.prog Γ152 noL 1010 Tryz.f152 [.c (.v (.int .i64 n))] = T at hs ⊢
   exact Tr.sat_mono (fun r hr => ⟨by subst hr; rfl, Sees.of_eq hr⟩) hs
  ·cases h
end Go.Vse
