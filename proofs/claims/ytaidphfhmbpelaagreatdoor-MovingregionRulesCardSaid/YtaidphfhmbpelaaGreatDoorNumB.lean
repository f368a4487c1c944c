/- Helpers for the proof: no statement of its own. -/
import Derived.Test.YtaidphfhmbpelaaGreatDoorNumA
import Derived.Test.YtaidphfhmbpelaaGreatDoorVseD
set_option linter.unusedVariables false
set_option linter.unusedSimpArgs false
set_option linter.unnecessarySimpa false
set_option linter.deprecated false
set_option maxRecDepth 100000
namespace Go.Vse
open Go.Proofs
def intEl (l : List Int) : Nat → List IV := fun k => [.v (.int .i64 (l.getD k 0))]
def intOfI : List IV → Int
 | [.v (.int .i64 n)] => n
 | _ => 0
def isIntI : List IV → Bool
 | [.v (.int .i64 _)] => true
 | _ => false
def intsOf (n : Nat) (el : Nat → List IV) : List Int := (List.range n).map fun k => intOfI (el k)
def isInts (n : Nat) (el : Nat → List IV) : Bool := (List.range n).all fun k => isIntI (el k)
theorem intsOf_len (n : Nat) (el : Nat → List IV) : (intsOf n el).length = n := by simp [intsOf]
theorem isInts_el {n : Nat} {el : Nat → List IV} (h : isInts n el = true) : ∀ k, k < n → el k = intEl (intsOf n el) k := by
 intro k hk
 have h1 := List.all_eq_true.1 h k (List.mem_range.2 hk)
 have e : (intsOf n el).getD k 0 = intOfI (el k) := by simp [intsOf, List.getD_eq_getElem?_getD, hk]
 unfold intEl
 rw [e]
 unfold isIntI at h1
 split at h1
 ·rename_i hh; rw [hh]; rfl
 ·cases h1
theorem isInts_mk (l : List Int) (n : Nat) : isInts n (intEl l) = true := List.all_eq_true.2 fun _ _ => rfl
theorem intsOf_el (l : List Int) : intsOf l.length (intEl l) = l := by
 apply List.ext_getElem
 ·simp [intsOf]
 ·intro i h1 h2
  simp [intsOf, intEl, intOfI, List.getD_eq_getElem?_getD, h2]
def firstNZ : List Int → Int
 | [] => 0
 | a :: l => if a = 0 then firstNZ l else a
structure W143 where
 l : List Int
 i : Int
structure R160 where
 ret : Bool
 v : Int
def head143 (x : W143) : List AV × List (Option Ent) := ([intA .i64 0, intA .i64 0, .c (.sl x.l.length 1 (intEl x.l)), intA .i64 (x.l.length : Nat), intA .i64 x.i], [])
def take143 : List AV × List (Option Ent) → Option (W143 × List Bool)
 | ([.c (.v (.int .i64 y)), .c (.v (.int .i64 z)), .c (.sl n 1 el), .c (.v (.int .i64 n')), .c (.v (.int .i64 i))], []) => some (⟨intsOf n el, i⟩, [decide (y = 0), decide (z = 0), decide (n' = (n : Int)), isInts n el])
 | _ => none
def takeR160 : Ex × (List AV × List (Option Ent)) → Option (R160 × List Bool)
 | (.normal, ([.c (.v (.int .i64 v)), .c (.v (.int .i64 z))], [])) => some (⟨false, v⟩, [decide (z = 0)])
 | (.ret, ([.c (.v (.int .i64 v)), .c (.v (.int .i64 z))], [])) => some (⟨true, v⟩, [decide (z = 0)])
 | _ => none
structure Way2 (X R : Type) where
 res : X → R
 pre : X → Bool
def lp143 (w : Way2 W143 R160) : LoopSt W143 R160 where
 nIn := { nt := 18, live := [2, 3, 6, 7, 8] }
 nOut := { nt := 18, live := [2, 3] }
 head := head143
 take := take143
 out := fun r => (bif r.ret then .ret else .normal, ([intA .i64 r.v, intA .i64 0], []))
 takeR := takeR160
 res := w.res
 pre := w.pre
 split := fun r => .ite r.ret (.ret { r with ret := true }) (.ret { r with ret := false })
theorem lp143_good (w : Way2 W143 R160) : (lp143 w).Good2 where
 take := by
  intro q x cs h hc
  change take143 q = some (x, cs) at h
  unfold take143 at h
  split at h
  ·rename_i y z n el n' i
   simp only [Option.some.injEq, Prod.mk.injEq] at h
   obtain ⟨rfl, rfl⟩ := h
   have hy : y = 0 := dec (hc (decide (y = 0)) (by simp))
   have h0 : z = 0 := dec (hc (decide (z = 0)) (by simp))
   subst hy
   have h1 : n' = (n : Int) := dec (hc (decide (n' = (n : Int))) (by simp))
   have h2 : isInts n el = true := hc (isInts n el) (by simp)
   subst h0
   subst h1
   refine ⟨?_, EntsEqv.refl _⟩
   show SeesL _ (head143 _).1
   simp only [head143, intsOf_len]
   exact .cons (Sees.refl _) (.cons (Sees.refl _) (.cons (Sees.sl (isInts_el h2)) (.cons (Sees.refl _) (.cons (Sees.refl _) .nil))))
  ·cases h
 takeR := by
  intro e q r cs h hc
  change takeR160 (e, q) = some (r, cs) at h
  unfold takeR160 at h
  split at h
  ·rename_i hq
   cases hq
   cases h
   obtain rfl := of_decide_eq_true (hc _ (List.mem_singleton.2 rfl))
   exact ⟨rfl, SeesL.refl _, EntsEqv.refl _⟩
  ·rename_i hq
   cases hq
   cases h
   obtain rfl := of_decide_eq_true (hc _ (List.mem_singleton.2 rfl))
   exact ⟨rfl, SeesL.refl _, EntsEqv.refl _⟩
  ·cases h
 split := by
  intro r Q h
  obtain ⟨b, v⟩ := r
  cases b with
  | true => exact h.1 rfl
  | false => exact h.2 rfl
def way143 : Way2 W143 R160 := ⟨fun x => ⟨firstNZ (x.l.drop x.i.toNat) != 0, firstNZ (x.l.drop x.i.toNat)⟩, fun x => decide (0 ≤ x.i) && decide (x.i ≤ (x.l.length : Nat)) && decide (x.l.length ≤ 1000)⟩
def L143 : Nat → Option (St → Tr (Ex × St)) := fun id => bif Nat.beq id 0 then some ((lp143 way143).g 0) else none
def sgn (a b : Int) : Int := if a < b then -1 else if a > b then 1 else 0
def K142 : List AV → Option (AV × List Bool)
 | [.c (.v (.int .i64 _))] => some (boolA false, [])
 | _ => none
def K113 : List AV → Option (AV × List Bool)
 | [.c (.v (.int .i64 a)), .c (.v (.int .i64 b))] => some (intA .i64 (sgn a b), [])
 | _ => none
def K143 : List AV → Option (AV × List Bool)
 | [.c (.sl n 1 el)] => some (intA .i64 (firstNZ (intsOf n el)), [isInts n el, decide (n ≤ 1000)])
 | _ => none
def Γ113 : FuncId → Option Spec := fun f => bif Nat.beq f 142 then some (pureSpec K142) else none
def Γ116 : FuncId → Option Spec := fun f => bif Nat.beq f 145 then some (pureSpec K145) else none
def Γ170 : FuncId → Option Spec := fun f => bif Nat.beq f 180 then some (pureSpec cmpPure) else none
def Γ144 : FuncId → Option Spec := fun f => bif Nat.beq f 170 then some (pureSpec cmpPure) else none
def Γ115 : FuncId → Option Spec := fun f => bif Nat.beq f 113 then some (pureSpec K113) else bif Nat.beq f 144 then some (pureSpec cmpPure) else bif Nat.beq f 143 then some (pureSpec K143) else none
def Γ111 : FuncId → Option Spec := fun f => bif Nat.beq f 68 then some (pureSpec K68) else none
def Γ40 : FuncId → Option Spec := fun f => bif Nat.beq f 68 then some (pureSpec K68) else bif Nat.beq f 69 then some (pureSpec K69) else none
end Go.Vse
set_option maxRecDepth 100000
namespace Go.Vse
open Go.Proofs
def M142 (a : Int) : Tr AV :=
 .ret (.c (.v (.bool (a != a))))
def M113 (a : Int) (b : Int) : Tr AV :=
 .ite false (.ite false (.ret (.c (.v (.int IntKind.i64 0)))) (.ret (.c (.v (.int IntKind.i64 (-1)))))) (.ite false (.ret (.c (.v (.int IntKind.i64 1)))) (.ite (decide (a < b)) (.ret (.c (.v (.int IntKind.i64 (-1))))) (.ite (decide (a > b)) (.ret (.c (.v (.int IntKind.i64 1)))) (.ret (.c (.v (.int IntKind.i64 0)))))))
def step143 (l : List Int) (i : Int) : Tr (W143 ⊕ R160) :=
 let x1 : Int := ↑l.length
 let x2 : Int := l.getD i.toNat 0
 .ite (decide (i < x1)) (.need (decide (0 ≤ i ∧ i < x1)) (.ite (x2 != 0) (.need true (.ret (Sum.inr { ret := true, v := x2 }))) (.need true (.need true (.need (decide (x1 = x1)) (.need (isInts l.length (intEl l)) (.ret (Sum.inl { l := intsOf l.length (intEl l), i := IntKind.i64.wrap (i + 1) })))))))) (.need true (.ret (Sum.inr { ret := false, v := 0 })))
def M143 (l : List Int) : Tr AV :=
 let x1 : Int := ↑l.length
 let x2 : List Int := intsOf l.length (intEl l)
 let x3 : Nat := x2.length
 let x4 : Int := ↑x3
 let x5 : Int := firstNZ (List.drop (Int.toNat 0) x2)
 .need true (.need true (.need (decide (x1 = x1)) (.need (isInts l.length (intEl l)) (.need (decide (0 ≤ 0) && decide (0 ≤ x4) && decide (x3 ≤ 1000)) (.ite (x5 != 0) (.ret (.c (.v (.int IntKind.i64 x5)))) (.ret (.c (.v (.int IntKind.i64 0)))))))))
def M170 (a : ByteArray) (b : ByteArray) : Tr AV :=
 .ret (.c (.v (.int IntKind.i64 (Lib.compareBytes a.data.toList b.data.toList))))
def M144 (a : ByteArray) (b : ByteArray) : Tr AV :=
 .ret (.c (.v (.int IntKind.i64 (Lib.compareBytes a.data.toList b.data.toList))))
def M116 (a : ByteArray) (b : ByteArray) : Tr AV :=
 .need (bif wordB a then true else true) (.ret (AV.tup [.c (.v (.int IntKind.u64 (bif wordB a then wordV a else wordV a))), .c (.v (.int IntKind.u64 (bif wordB a then wordV b else wordV b))), .c (.v (.bool (bif wordB a then bif true then wordB b else false else false)))]))
def M115 (a : ByteArray) (b : ByteArray) : Tr AV :=
 let x1 : Nat := 0 + 1
 let x2 : List UInt8 := a.data.toList
 let x3 : List UInt8 := b.data.toList
 .need true (.need true (.need true (.ret (.c (.v (.int IntKind.i64 (firstNZ (intsOf 2 fun k => List.take x1 (List.drop (k * x1) [IV.v (Value.int IntKind.i64 (Lib.compareBytes x2 x3)), IV.v (Value.int IntKind.i64 (sgn ↑x2.length ↑x3.length))].reverse)))))))))
def M114 (p : Bool) (a : ByteArray) : Tr AV :=
 .ite (a.data.toList == []) (.ret (.c (.v (.int IntKind.i64 0)))) (.ite p (.ret (.c (.v (.int IntKind.i64 (-1))))) (.ret (.c (.v (.int IntKind.i64 1)))))
def M111 (p : Bool) (a : ByteArray) : Tr AV :=
 .ret (AV.agg [.c (.v (.bool (!p && !a.data.toList == []))), .c (.v (.string a))])
def M79 (p : Bool) (a : ByteArray) : Tr AV :=
 let x1 : List UInt8 := a.data.toList
 let x2 : Int := ↑x1.length
 .need (bif x1 == [] then bif bif true then p else false then true else bif !x1 == [] then decide ((0 : Int) ≤ 0 ∧ 0 < x2) && true else true else bif false then true else bif !x1 == [] then decide ((0 : Int) ≤ 0 ∧ 0 < x2) && true else true) (.ite (bif x1 == [] then bif bif true then p else false then true else bif !x1 == [] then bif false then true else bif true then ((x1.getD (Int.toNat 0) 0).toNat : Int) == 0 else false else bif false then true else false else bif false then true else bif !x1 == [] then bif false then true else bif true then ((x1.getD (Int.toNat 0) 0).toNat : Int) == 0 else false else bif false then true else false) (.ret (.c (.v (.int IntKind.i64 5)))) (.ret (.c (.v (.int IntKind.i64 0)))))
def M40 (n : Int) : Tr AV :=
 let x1 : Int := IntKind.u64.wrap (0 - IntKind.u64.wrap n)
 let x2 : List UInt8 := magB x1.toNat
 let x3 : List UInt8 := magB (IntKind.u64.wrap n).toNat
 .ite (decide (n < 0)) (.need (u64B x1) (.ret (AV.agg [.c (.v (.bool (decide (n < 0) && !x2 == []))), .c (.v (.string ⟨⟨x2⟩⟩))]))) (.need (u64B (IntKind.u64.wrap n)) (.ret (AV.agg [.c (.v (.bool (decide (n < 0) && !x3 == []))), .c (.v (.string ⟨⟨x3⟩⟩))])))
theorem M142_eq (a : Int) : execFn Tryz.prog (fun _ => none) noL 1010 Tryz.f142 [.c (.v (.int .i64 a))] = M142 a := by kernel_rfl
theorem M113_eq (a b : Int) : execFn Tryz.prog Γ113 noL 1010 Tryz.f113 [.c (.v (.int .i64 a)), .c (.v (.int .i64 b))] = M113 a b := by kernel_rfl
theorem step143_eq (w : Way2 W143 R160) (x : W143) : (exec Tryz.prog (fun _ => none) noL 1010 (loopOf 0 (codeOf Tryz.f143)) (mkSt (lp143 w).nIn ((lp143 w).head x))).bind ((lp143 w).fin 0 0) = step143 x.l x.i := by
 obtain ⟨l, i⟩ := x
 kernel_rfl
theorem M143_eq (l : List Int) : execFn Tryz.prog (fun _ => none) L143 1010 Tryz.f143 [.c (.sl l.length 1 (intEl l))] = M143 l := by kernel_rfl
theorem M170_eq (a b : ByteArray) : execFn Tryz.prog Γ170 noL 1010 Tryz.f170 [.c (.v (.string a)), .c (.v (.string b))] = M170 a b := by kernel_rfl
theorem M144_eq (a b : ByteArray) : execFn Tryz.prog Γ144 noL 1010 Tryz.f144 [.c (.v (.string a)), .c (.v (.string b))] = M144 a b := by kernel_rfl
theorem M116_eq (a b : ByteArray) : execFn Tryz.prog Γ116 noL 1010 Tryz.f116 [.c (.v (.string a)), .c (.v (.string b))] = M116 a b := by kernel_rfl
theorem M115_eq (a b : ByteArray) : execFn Tryz.prog Γ115 noL 1010 Tryz.f115 [.c (.v (.string a)), .c (.v (.string b))] = M115 a b := by kernel_rfl
theorem M114_eq (p : Bool) (a : ByteArray) : execFn Tryz.prog (fun _ => none) noL 1010 Tryz.f114 [.agg [.c (.v (.bool p)), .c (.v (.string a))]] = M114 p a := by kernel_rfl
theorem M111_eq (p : Bool) (a : ByteArray) : execFn Tryz.prog Γ111 noL 1010 Tryz.f111 [.agg [.c (.v (.bool p)), .c (.v (.string a))]] = M111 p a := by kernel_rfl
theorem M79_eq (p : Bool) (a : ByteArray) : execFn Tryz.prog (fun _ => none) noL 1010 Tryz.f79 [.agg [.c (.v (.bool p)), .c (.v (.string a))]] = M79 p a := by kernel_rfl
theorem M40_eq (n : Int) : execFn Tryz.prog Γ40 noL 1010 Tryz.f40 [.c (.v (.int .i64 n))] = M40 n := by kernel_rfl
def iv (p : Bool) (s : ByteArray) : Int := bif p then -(magN s.data.toList : Int) else (magN s.data.toList : Int)
def okI (p : Bool) (s : ByteArray) : Bool := canon s.data.toList && (!p || !(s.data.toList == []))
def intForm (z : Int) : AV := .agg [.c (.v (.bool (decide (z < 0)))), strA (magB z.natAbs)]
theorem magN_eq_zero {l : List UInt8} (h : canon l = true) : magN l = 0 ↔ l = [] := by
 constructor
 ·intro h0
  have := magB_magN l h
  rw [h0, magB_zero] at this
  exact this.symm
 ·rintro rfl; rfl
theorem iv_neg {p : Bool} {s : ByteArray} (h : okI p s = true) : decide (iv p s < 0) = p := by
 simp only [okI, Bool.and_eq_true, Bool.or_eq_true, Bool.not_eq_true', beq_eq_false_iff_ne] at h
 cases p with
 | false => exact decide_eq_false (by simp only [iv, cond_false]; omega)
 | true =>
   refine decide_eq_true ?_
   have h2 := h.2.resolve_left (by simp)
   have : magN s.data.toList ≠ 0 := fun h0 => h2 ((magN_eq_zero h.1).1 h0)
   simp only [iv, cond_true]; omega
theorem iv_abs (p : Bool) (s : ByteArray) : (iv p s).natAbs = magN s.data.toList := by
 cases p <;> simp [iv]
theorem form_eq {p : Bool} {s : ByteArray} (h : okI p s = true) : AV.agg [.c (.v (.bool p)), .c (.v (.string s))] = intForm (iv p s) := by
 have hc : canon s.data.toList = true := by
  simp only [okI, Bool.and_eq_true] at h; exact h.1
 unfold intForm
 rw [iv_neg h, iv_abs, magB_magN _ hc]
 rfl
theorem magN_cons (c : UInt8) (l : List UInt8) : magN (c :: l) = c.toNat * 256 ^ l.length + magN l := by
 induction l using snocInd with
 | h0 => simp [magN]
 | h1 l d ih =>
  rw [← List.cons_append, magN_snoc, magN_snoc, ih, List.length_append, List.length_singleton, Nat.pow_succ]
  rw [Nat.add_mul, Nat.mul_assoc]
  omega
theorem sgn_nat (a b : Nat) : sgn (a : Int) (b : Int) = if a < b then -1 else if b < a then 1 else 0 := by
 unfold sgn
 by_cases h : a < b
 ·rw [if_pos (by omega), if_pos h]
 ·rw [if_neg (by omega), if_neg h]
  by_cases h2 : b < a
  ·rw [if_pos (by omega), if_pos h2]
  ·rw [if_neg (by omega), if_neg h2]
theorem cmp_same : ∀ (a b : List UInt8), a.length = b.length → Lib.compareBytes a b = sgn (magN a : Int) (magN b : Int)
 | [], [], _ => by simp [Lib.compareBytes, sgn]
 | x :: a, y :: b, h => by
   have h : a.length = b.length := by simpa using h
   have ih := cmp_same a b h
   have ha := magN_lt a
   have hb := magN_lt b
   rw [h] at ha
   unfold Lib.compareBytes
   rw [sgn_nat, magN_cons, magN_cons, h]
   rw [sgn_nat] at ih
   by_cases h1 : x < y
   · have h1' : x.toNat < y.toNat := h1
     have : (x.toNat + 1) * 256 ^ b.length ≤ y.toNat * 256 ^ b.length := Nat.mul_le_mul_right _ h1'
     rw [Nat.add_mul] at this
     rw [if_pos h1, if_pos (by omega)]
   · rw [if_neg h1]
     by_cases h2 : y < x
     · have h2' : y.toNat < x.toNat := h2
       have : (y.toNat + 1) * 256 ^ b.length ≤ x.toNat * 256 ^ b.length := Nat.mul_le_mul_right _ h2'
       rw [Nat.add_mul] at this
       rw [if_pos h2, if_neg (by omega), if_pos (by omega)]
     · have h1' : ¬ x.toNat < y.toNat := h1
       have h2' : ¬ y.toNat < x.toNat := h2
       have hxy : x.toNat = y.toNat := by omega
       rw [if_neg h2, ih, hxy]
       simp only [Nat.add_lt_add_iff_left]
 | [], _ :: _, h => by simp at h
 | _ :: _, [], h => by simp at h
theorem len_lt {a b : List UInt8} (hb : canon b = true) (h : a.length < b.length) : magN a < magN b := by
 cases b with
 | nil => simp at h
 | cons c l =>
  have hc : c ≠ 0 := by simpa [canon] using hb
  have h1 := magN_pos_of_canon (l := l) hc
  have h2 := magN_lt a
  have : 256 ^ a.length ≤ 256 ^ l.length := Nat.pow_le_pow_right (by omega) (by simp at h; omega)
  omega
theorem compare_mag (a b : List UInt8) (ha : canon a = true) (hb : canon b = true) : firstNZ [sgn (a.length : Int) (b.length : Int), Lib.compareBytes a b] = sgn (magN a : Int) (magN b : Int) := by
 rw [sgn_nat, sgn_nat]
 rcases Nat.lt_trichotomy a.length b.length with h | h | h
 ·have := len_lt hb h
  rw [if_pos h, if_pos this]
  rfl
 ·rw [if_neg (by omega), if_neg (by omega), cmp_same a b h, sgn_nat]
  by_cases h1 : magN a < magN b
  ·simp [firstNZ, h1]
  ·by_cases h2 : magN b < magN a
   ·simp [firstNZ, h1, h2]
   ·simp [firstNZ, h1, h2]
 ·have := len_lt ha h
  rw [if_neg (by omega), if_pos h, if_neg (by omega), if_pos this]
  rfl
end Go.Vse
set_option maxRecDepth 100000
namespace Go.Vse
open Go.Proofs
theorem M113_sat (a b : Int) : (M113 a b).sat fun r => r = intA .i64 (sgn a b) := by
 unfold M113 sgn
 refine sat_ite (fun h => Bool.noConfusion h) (fun _ => sat_ite (fun h => Bool.noConfusion h) (fun _ => sat_ite (fun h => ?_) (fun h => ?_)))
 ·rw [if_pos (of_decide_eq_true h)]; exact sat_ret rfl
 ·rw [if_neg (of_decide_eq_false h)]
  refine sat_ite (fun h => ?_) (fun h => ?_)
  ·rw [if_pos (of_decide_eq_true h)]; exact sat_ret rfl
  ·rw [if_neg (of_decide_eq_false h)]; exact sat_ret rfl
theorem f142_ok : PureOk Tryz.prog 142 K142 := by
 refine pureOk_of_exec prog_mixed noΓ_ok (fn := Tryz.f142) (c := codeOf Tryz.f142) (by kernel_rfl) (by kernel_rfl) (callFunc_enter (fn := Tryz.f142) (c := codeOf Tryz.f142) (by kernel_rfl) (by kernel_rfl) (by kernel_rfl)) (L := noL) (N := 1010) (blocksOk_none _ _) ?_ ?_
 ·intro args v cs h
  unfold K142 at h
  split at h
  ·cases h; rfl
  ·cases h
 ·intro args v cs h hc
  unfold K142 at h
  split at h
  ·rename_i a
   cases h
   have hs := (show (M142 a).sat fun r => r = boolA false from sat_ret (by simp [boolA]))
   rw [← M142_eq] at hs
   generalize execFn Tryz.prog (fun _ => none) noL 1010 Tryz.f142 [.c (.v (.int .i64 a))] = T at hs ⊢
   exact Tr.sat_mono (fun r hr => ⟨by subst hr; rfl, Sees.of_eq hr⟩) hs
  ·cases h
theorem Γ113_ok : ∀ f s, Γ113 f = some s → SpecOk Tryz.prog f s := one_ok f142_ok.spec
theorem f113_ok : PureOk Tryz.prog 113 K113 := by
 refine pureOk_of_exec prog_mixed Γ113_ok (fn := Tryz.f113) (c := codeOf Tryz.f113) (by kernel_rfl) (by kernel_rfl) (callFunc_enter (fn := Tryz.f113) (c := codeOf Tryz.f113) (by kernel_rfl) (by kernel_rfl) (by kernel_rfl)) (L := noL) (N := 1010) (blocksOk_none _ _) ?_ ?_
 ·intro args v cs h
  unfold K113 at h
  split at h
  ·cases h; rfl
  ·cases h
 ·intro args v cs h hc
  unfold K113 at h
  split at h
  ·rename_i a b
   cases h
   have hs := M113_sat a b
   rw [← M113_eq] at hs
   generalize execFn Tryz.prog Γ113 noL 1010 Tryz.f113 [.c (.v (.int .i64 a)), .c (.v (.int .i64 b))] = T at hs ⊢
   exact Tr.sat_mono (fun r hr => ⟨by subst hr; rfl, Sees.of_eq hr⟩) hs
  ·cases h
theorem step143_in (l : List Int) (i : Nat) (hl : l.length ≤ 1000) (hi : i < l.length) {R : W143 ⊕ R160 → Prop} (h1 : l[i] ≠ 0 → R (.inr ⟨true, l[i]⟩)) (h2 : l[i] = 0 → R (.inl ⟨l, ((i + 1 : Nat) : Int)⟩)) : (step143 l (i : Nat)).sat R := by
 have hg : l.getD i 0 = l[i] := by simp [List.getD_eq_getElem?_getD, hi]
 have hw : IntKind.i64.wrap ((i : Int) + 1) = ((i + 1 : Nat) : Int) := by rw [wrap_i64 (by omega)]; omega
 unfold step143
 simp only [Int.toNat_natCast, hg, hw, intsOf_el]
 exact sat_ite (fun _ => sat_need (decide_eq_true (by omega)) (sat_ite (fun h => sat_need rfl (sat_ret (h1 (by simpa using h)))) (fun h => sat_need rfl (sat_need rfl (sat_need (by simp) (sat_need (isInts_mk l _) (sat_ret (h2 (by simpa using h))))))))) (fun h => absurd (show (i : Int) < (l.length : Nat) by omega) (of_decide_eq_false h))
theorem runs143 (l : List Int) (hl : l.length ≤ 1000) (Q : R160 → Prop) : ∀ (k i : Nat), i + k = l.length → Q ⟨firstNZ (l.drop i) != 0, firstNZ (l.drop i)⟩ → RunsX (fun x : W143 => step143 x.l x.i) Q (k + 1) ⟨l, i⟩
 | 0, i, hi, hq => by
  obtain rfl : i = l.length := by omega
  rw [List.drop_length] at hq
  exact sat_ite (fun h => absurd (of_decide_eq_true h) (Int.lt_irrefl _)) (fun _ => sat_need rfl (sat_ret hq))
 | k + 1, i, hi, hq => by
  have hlt : i < l.length := by omega
  have hd : l.drop i = l[i] :: l.drop (i + 1) := List.drop_eq_getElem_cons hlt
  have ih := runs143 l hl Q k (i + 1) (by omega)
  rw [hd] at hq
  refine step143_in l i hl hlt (fun hne => ?_) (fun he => ?_)
  ·simp only [firstNZ, if_neg hne] at hq
   have hb : (l[i] != 0) = true := by simpa using hne
   rw [hb] at hq
   exact hq
  ·simp only [firstNZ, if_pos he] at hq
   exact ih hq
theorem f143_loops : BlocksOk Tryz.prog 0 L143 (codeOf Tryz.f143) := by
 refine blocksOk_of (d := fun id => Nat.beq id 0) (fun id => by unfold L143; cases Nat.beq id 0 <;> rfl) _ ?_
 have hb : blocksOf (fun id => Nat.beq id 0) (codeOf Tryz.f143) = [(0, .loop (loopOf 0 (codeOf Tryz.f143)))] := by kernel_rfl
 rw [hb]
 intro p hp g hg
 simp only [List.mem_singleton] at hp
 subst hp
 have hh : L143 0 = some ((lp143 way143).g 0) := rfl
 rw [hh] at hg
 obtain rfl : g = (lp143 way143).g 0 := (Option.some.inj hg).symm
 refine LoopSt.ok2 (N := 1010) prog_mixed noΓ_ok (L := noL) (blocksOk_none 0 _) (lp143_good _) (step143_eq way143) ?_
 rintro ⟨l, i⟩ hx
 have hx : way143.pre ⟨l, i⟩ = true := hx
 simp only [way143, Bool.and_eq_true, decide_eq_true_eq] at hx
 obtain ⟨⟨h1, h2⟩, h3⟩ := hx
 obtain ⟨i, rfl⟩ : ∃ m : Nat, i = m := ⟨i.toNat, by omega⟩
 exact ⟨_, runs143 l h3 (· = way143.res ⟨l, i⟩) (l.length - i) i (by omega) (by simp [way143])⟩
theorem M143_sat (l : List Int) (hl : l.length ≤ 1000) : (M143 l).sat fun r => r = intA .i64 (firstNZ l) := by
 unfold M143
 simp only [intsOf_el]
 have e : List.drop (Int.toNat 0) l = l := rfl
 rw [e]
 refine sat_need rfl (sat_need rfl (sat_need (by simp) (sat_need (isInts_mk l _) (sat_need ?_ (sat_ite (fun _ => sat_ret rfl) (fun h => ?_))))))
 ·simp [hl]
 ·have h0 : firstNZ l = 0 := by simpa using h
  rw [h0]; exact sat_ret rfl
theorem f143_ok : PureOk Tryz.prog 143 K143 := by
 refine pureOk_of_exec_c (L := L143) prog_mixed noΓ_ok (fn := Tryz.f143) (c := codeOf Tryz.f143) (by kernel_rfl) (by kernel_rfl) (callFunc_enter (fn := Tryz.f143) (c := codeOf Tryz.f143) (by kernel_rfl) (by kernel_rfl) (by kernel_rfl)) (N := 1010) f143_loops ?_ ?_
 ·intro args v cs h
  unfold K143 at h
  split at h
  ·cases h; rfl
  ·cases h
 ·intro args v cs h hc
  unfold K143 at h
  split at h
  ·rename_i n el
   cases h
   have h1 : isInts n el = true := hc (isInts n el) (by simp)
   have h2 : n ≤ 1000 := dec (hc (decide (n ≤ 1000)) (by simp))
   have e1 := isInts_el h1
   have hlen := intsOf_len n el
   generalize intsOf n el = l at e1 hlen ⊢
   subst hlen
   refine ⟨[.c (.sl l.length 1 (intEl l))], .cons (Sees.sl e1) .nil, ?_⟩
   have hs := M143_sat l h2
   rw [← M143_eq] at hs
   generalize execFn Tryz.prog (fun _ => none) L143 1010 Tryz.f143 [.c (.sl l.length 1 (intEl l))] = T at hs ⊢
   exact Tr.sat_mono (fun r hr => ⟨by subst hr; rfl, Sees.of_eq hr⟩) hs
  ·cases h
theorem cmp_ext : ExtOk Tryz.prog 180 Extern.BytealgCompare.compare := ⟨Tryz.f180, by kernel_rfl, by kernel_rfl, by kernel_rfl, by kernel_rfl, by kernel_rfl⟩
theorem Γ170_ok : ∀ f s, Γ170 f = some s → SpecOk Tryz.prog f s := one_ok (cmp_ok cmp_ext).spec
theorem f170_ok : PureOk Tryz.prog 170 cmpPure := by
 refine pureOk_of_exec prog_mixed Γ170_ok (fn := Tryz.f170) (c := codeOf Tryz.f170) (by kernel_rfl) (by kernel_rfl) (callFunc_enter (fn := Tryz.f170) (c := codeOf Tryz.f170) (by kernel_rfl) (by kernel_rfl) (by kernel_rfl)) (L := noL) (N := 1010) (blocksOk_none _ _) ?_ ?_
 ·intro args v cs h
  unfold cmpPure at h
  split at h
  ·cases h; rfl
  ·cases h
 ·intro args v cs h hc
  unfold cmpPure at h
  split at h
  ·rename_i a b
   cases h
   have hs := (show (M170 a b).sat fun r => r = intA .i64 (Lib.compareBytes a.data.toList b.data.toList) from sat_ret rfl)
   rw [← M170_eq] at hs
   generalize execFn Tryz.prog Γ170 noL 1010 Tryz.f170 [.c (.v (.string a)), .c (.v (.string b))] = T at hs ⊢
   exact Tr.sat_mono (fun r hr => ⟨by subst hr; rfl, Sees.of_eq hr⟩) hs
  ·cases h
theorem Γ144_ok : ∀ f s, Γ144 f = some s → SpecOk Tryz.prog f s := one_ok f170_ok.spec
theorem f144_ok : PureOk Tryz.prog 144 cmpPure := by
 refine pureOk_of_exec prog_mixed Γ144_ok (fn := Tryz.f144) (c := codeOf Tryz.f144) (by kernel_rfl) (by kernel_rfl) (callFunc_enter (fn := Tryz.f144) (c := codeOf Tryz.f144) (by kernel_rfl) (by kernel_rfl) (by kernel_rfl)) (L := noL) (N := 1010) (blocksOk_none _ _) ?_ ?_
 ·intro args v cs h
  unfold cmpPure at h
  split at h
  ·cases h; rfl
  ·cases h
 ·intro args v cs h hc
  unfold cmpPure at h
  split at h
  ·rename_i a b
   cases h
   have hs := (show (M144 a b).sat fun r => r = intA .i64 (Lib.compareBytes a.data.toList b.data.toList) from sat_ret rfl)
   rw [← M144_eq] at hs
   generalize execFn Tryz.prog Γ144 noL 1010 Tryz.f144 [.c (.v (.string a)), .c (.v (.string b))] = T at hs ⊢
   exact Tr.sat_mono (fun r hr => ⟨by subst hr; rfl, Sees.of_eq hr⟩) hs
  ·cases h
def K116 : List AV → Option (AV × List Bool)
 | [.c (.v (.string a)), .c (.v (.string b))] => some (.tup [intA .u64 (wordV a), intA .u64 (wordV b), boolA (wordB a && wordB b)], [])
 | _ => none
theorem Γ116_ok : ∀ f s, Γ116 f = some s → SpecOk Tryz.prog f s := one_ok f145_ok.spec
theorem M116_sat (a b : ByteArray) : (M116 a b).sat fun r => r = .tup [intA .u64 (wordV a), intA .u64 (wordV b), boolA (wordB a && wordB b)] := by
 unfold M116
 cases wordB a <;> exact sat_need rfl (sat_ret rfl)
theorem f116_ok : PureOk Tryz.prog 116 K116 := by
 refine pureOk_of_exec prog_mixed Γ116_ok (fn := Tryz.f116) (c := codeOf Tryz.f116) (by kernel_rfl) (by kernel_rfl) (callFunc_enter (fn := Tryz.f116) (c := codeOf Tryz.f116) (by kernel_rfl) (by kernel_rfl) (by kernel_rfl)) (L := noL) (N := 1010) (blocksOk_none _ _) ?_ ?_
 ·intro args v cs h
  unfold K116 at h
  split at h
  ·cases h; rfl
  ·cases h
 ·intro args v cs h hc
  unfold K116 at h
  split at h
  ·rename_i a b
   cases h
   have hs := M116_sat a b
   rw [← M116_eq] at hs
   generalize execFn Tryz.prog Γ116 noL 1010 Tryz.f116 [.c (.v (.string a)), .c (.v (.string b))] = T at hs ⊢
   exact Tr.sat_mono (fun r hr => ⟨by subst hr; rfl, Sees.of_eq hr⟩) hs
  ·cases h
def K115 : List AV → Option (AV × List Bool)
 | [.c (.v (.string a)), .c (.v (.string b))] => some (intA .i64 (sgn (magN a.data.toList : Int) (magN b.data.toList : Int)), [canon a.data.toList, canon b.data.toList])
 | _ => none
theorem Γ115_ok : ∀ f s, Γ115 f = some s → SpecOk Tryz.prog f s := step_ok f113_ok.spec (step_ok f144_ok.spec (one_ok f143_ok.spec))
theorem M115_sat (a b : ByteArray) (ha : canon a.data.toList = true) (hb : canon b.data.toList = true) : (M115 a b).sat fun r => r = intA .i64 (sgn (magN a.data.toList : Int) (magN b.data.toList : Int)) := by
 unfold M115
 refine sat_need rfl (sat_need rfl (sat_need rfl (sat_ret ?_)))
 rw [← compare_mag _ _ ha hb]
 rfl
theorem f115_ok : PureOk Tryz.prog 115 K115 := by
 refine pureOk_of_exec prog_mixed Γ115_ok (fn := Tryz.f115) (c := codeOf Tryz.f115) (by kernel_rfl) (by kernel_rfl) (callFunc_enter (fn := Tryz.f115) (c := codeOf Tryz.f115) (by kernel_rfl) (by kernel_rfl) (by kernel_rfl)) (L := noL) (N := 1010) (blocksOk_none _ _) ?_ ?_
 ·intro args v cs h
  unfold K115 at h
  split at h
  ·cases h; rfl
  ·cases h
 ·intro args v cs h hc
  unfold K115 at h
  split at h
  ·rename_i a b
   cases h
   have ha : canon a.data.toList = true := hc (canon a.data.toList) (by simp)
   have hb : canon b.data.toList = true := hc (canon b.data.toList) (by simp)
   have hs := M115_sat a b ha hb
   rw [← M115_eq] at hs
   generalize execFn Tryz.prog Γ115 noL 1010 Tryz.f115 [.c (.v (.string a)), .c (.v (.string b))] = T at hs ⊢
   exact Tr.sat_mono (fun r hr => ⟨by subst hr; rfl, Sees.of_eq hr⟩) hs
  ·cases h
def K114 : List AV → Option (AV × List Bool)
 | [.agg [.c (.v (.bool p)), .c (.v (.string a))]] => some (intA .i64 (sgn (iv p a) 0), [okI p a])
 | _ => none
theorem M114_sat (p : Bool) (a : ByteArray) (h : okI p a = true) : (M114 p a).sat fun r => r = intA .i64 (sgn (iv p a) 0) := by
 have hc : canon a.data.toList = true := by simp only [okI, Bool.and_eq_true] at h; exact h.1
 have hz := magN_eq_zero hc
 unfold M114
 refine sat_ite (fun h0 => ?_) (fun h0 => ?_)
 · have h0 : a.data.toList = [] := eq_of_beq h0
   have : iv p a = 0 := by
     have := hz.2 h0
     cases p <;> simp [iv, this]
   rw [this]; exact sat_ret rfl
 · have h0 : a.data.toList ≠ [] := by simpa using h0
   have hm : magN a.data.toList ≠ 0 := fun hh => h0 (hz.1 hh)
   refine sat_ite (fun hp => ?_) (fun hp => ?_)
   · subst hp
     have : sgn (iv true a) 0 = -1 := by unfold sgn; rw [if_pos (by simp only [iv, cond_true]; omega)]
     rw [this]; exact sat_ret rfl
   · subst hp
     have : sgn (iv false a) 0 = 1 := by unfold sgn; rw [if_neg (by simp only [iv, cond_false]; omega), if_pos (by simp only [iv, cond_false]; omega)]
     rw [this]; exact sat_ret rfl
theorem f114_ok : PureOk Tryz.prog 114 K114 := by
 refine pureOk_of_exec prog_mixed noΓ_ok (fn := Tryz.f114) (c := codeOf Tryz.f114) (by kernel_rfl) (by kernel_rfl) (callFunc_enter (fn := Tryz.f114) (c := codeOf Tryz.f114) (by kernel_rfl) (by kernel_rfl) (by kernel_rfl)) (L := noL) (N := 1010) (blocksOk_none _ _) ?_ ?_
 ·intro args v cs h
  unfold K114 at h
  split at h
  ·cases h; rfl
  ·cases h
 ·intro args v cs h hc
  unfold K114 at h
  split at h
  ·rename_i p a
   cases h
   have h1 : okI p a = true := hc (okI p a) (by simp)
   have hs := M114_sat p a h1
   rw [← M114_eq] at hs
   generalize execFn Tryz.prog (fun _ => none) noL 1010 Tryz.f114 [.agg [.c (.v (.bool p)), .c (.v (.string a))]] = T at hs ⊢
   exact Tr.sat_mono (fun r hr => ⟨by subst hr; rfl, Sees.of_eq hr⟩) hs
  ·cases h
def K111 : List AV → Option (AV × List Bool)
 | [.agg [.c (.v (.bool p)), .c (.v (.string a))]] => some (intForm (-(iv p a)), [okI p a])
 | _ => none
theorem Γ111_ok : ∀ f s, Γ111 f = some s → SpecOk Tryz.prog f s := one_ok f68_ok.spec
theorem M111_sat (p : Bool) (a : ByteArray) (h : okI p a = true) : (M111 p a).sat fun r => r = intForm (-(iv p a)) := by
 have hc : canon a.data.toList = true := by simp only [okI, Bool.and_eq_true] at h; exact h.1
 have hz := magN_eq_zero hc
 unfold M111
 refine sat_ret ?_
 have e : (!p && !(a.data.toList == [])) = decide (-(iv p a) < 0) := by
   by_cases h0 : a.data.toList = []
   · have := hz.2 h0
     rw [h0]
     cases p <;> simp [iv, this]
   · have hm : magN a.data.toList ≠ 0 := fun hh => h0 (hz.1 hh)
     have hb : (a.data.toList == []) = false := by simpa using h0
     rw [hb]
     cases p <;> simp [iv] <;> (try omega)
 unfold intForm
 rw [← e, Int.natAbs_neg, iv_abs, magB_magN _ hc]
 rfl
theorem f111_ok : PureOk Tryz.prog 111 K111 := by
 refine pureOk_of_exec prog_mixed Γ111_ok (fn := Tryz.f111) (c := codeOf Tryz.f111) (by kernel_rfl) (by kernel_rfl) (callFunc_enter (fn := Tryz.f111) (c := codeOf Tryz.f111) (by kernel_rfl) (by kernel_rfl) (by kernel_rfl)) (L := noL) (N := 1010) (blocksOk_none _ _) ?_ ?_
 ·intro args v cs h
  unfold K111 at h
  split at h
  ·cases h; rfl
  ·cases h
 ·intro args v cs h hc
  unfold K111 at h
  split at h
  ·rename_i p a
   cases h
   have h1 : okI p a = true := hc (okI p a) (by simp)
   have hs := M111_sat p a h1
   rw [← M111_eq] at hs
   generalize execFn Tryz.prog Γ111 noL 1010 Tryz.f111 [.agg [.c (.v (.bool p)), .c (.v (.string a))]] = T at hs ⊢
   generalize -(iv p a) = z at hs ⊢
   exact Tr.sat_mono (fun r hr => ⟨by subst hr; rfl, Sees.of_eq hr⟩) hs
  ·cases h
def K79 : List AV → Option (AV × List Bool)
 | [.agg [.c (.v (.bool p)), .c (.v (.string a))]] => some (intA .i64 (if okI p a then 0 else 5), [])
 | _ => none
theorem M79_sat (p : Bool) (a : ByteArray) : (M79 p a).sat fun r => r = intA .i64 (if okI p a then 0 else 5) := by
 unfold M79 okI
 generalize a.data.toList = l
 cases l with
 | nil =>
  cases p
  ·exact sat_need rfl (sat_ite (fun h => Bool.noConfusion h) (fun _ => sat_ret rfl))
  ·exact sat_need rfl (sat_ite (fun _ => sat_ret rfl) (fun h => Bool.noConfusion h))
 | cons c l =>
  have hc : (canon (c :: l) && (!p || !((c :: l) == []))) = (c != 0) := by simp [canon]
  have hlen : decide ((0 : Int) ≤ 0 ∧ (0 : Int) < (((c :: l).length : Nat) : Int)) = true := decide_eq_true (by simp)
  have hg : (c :: l).getD (Int.toNat 0) 0 = c := rfl
  have hnil : ((c :: l) == ([] : List UInt8)) = false := rfl
  rw [hc]
  simp only [hnil, hlen, hg, cond_false, cond_true, Bool.not_false, Bool.and_true]
  refine sat_need rfl (sat_ite (fun h => ?_) (fun h => ?_))
  ·have h : ((c.toNat : Int) == 0) = true := h
   have : c = 0 := UInt8.toNat_inj.1 (by simpa using h)
   subst this
   exact sat_ret rfl
  ·have h : ((c.toNat : Int) == 0) = false := h
   have : c ≠ 0 := by rintro rfl; cases h
   have hb : (c != 0) = true := by simpa using this
   rw [hb]
   exact sat_ret rfl
theorem f79_ok : PureOk Tryz.prog 79 K79 := by
 refine pureOk_of_exec prog_mixed noΓ_ok (fn := Tryz.f79) (c := codeOf Tryz.f79) (by kernel_rfl) (by kernel_rfl) (callFunc_enter (fn := Tryz.f79) (c := codeOf Tryz.f79) (by kernel_rfl) (by kernel_rfl) (by kernel_rfl)) (L := noL) (N := 1010) (blocksOk_none _ _) ?_ ?_
 ·intro args v cs h
  unfold K79 at h
  split at h
  ·cases h; rfl
  ·cases h
 ·intro args v cs h hc
  unfold K79 at h
  split at h
  ·rename_i p a
   cases h
   have hs := M79_sat p a
   rw [← M79_eq] at hs
   generalize execFn Tryz.prog (fun _ => none) noL 1010 Tryz.f79 [.agg [.c (.v (.bool p)), .c (.v (.string a))]] = T at hs ⊢
   generalize (if okI p a = true then (0 : Int) else 5) = z at hs ⊢
   exact Tr.sat_mono (fun r hr => ⟨by subst hr; rfl, Sees.of_eq hr⟩) hs
  ·cases h
def K40 : List AV → Option (AV × List Bool)
 | [.c (.v (.int .i64 n))] => some (intForm n, [decide (-9223372036854775808 ≤ n), decide (n ≤ 9223372036854775807)])
 | _ => none
theorem Γ40_ok : ∀ f s, Γ40 f = some s → SpecOk Tryz.prog f s := step_ok f68_ok.spec (one_ok f69_ok.spec)
theorem M40_sat (n : Int) (h1 : -9223372036854775808 ≤ n) (h2 : n ≤ 9223372036854775807) : (M40 n).sat fun r => r = intForm n := by
 have key : ∀ m : Int, m.toNat = n.natAbs → 0 ≤ m → m < 18446744073709551616 → (Tr.need (u64B m) (Tr.ret (AV.agg [AV.c (IV.v (Value.bool (decide (n < 0) && !magB m.toNat == []))), AV.c (IV.v (Value.string { data := { toList := magB m.toNat } }))]))).sat fun r => r = intForm n := by
  intro m hm h0 hlt
  refine sat_need (by simp [u64B, h0, hlt]) (sat_ret ?_)
  rw [hm]
  unfold intForm
  by_cases hn : n < 0
  ·have hne : magB n.natAbs ≠ [] := fun hh => by
    have := magN_magB n.natAbs
    rw [hh] at this
    have h3 : magN [] = 0 := rfl
    omega
   have hb : (magB n.natAbs == []) = false := by simpa using hne
   rw [decide_eq_true hn, hb]
   rfl
  ·rw [decide_eq_false hn]
   rfl
 unfold M40
 refine sat_ite (fun h => ?_) (fun h => ?_)
 ·have h := of_decide_eq_true h
  have e : IntKind.u64.wrap (0 - IntKind.u64.wrap n) = -n := by
   rw [wrap_u64, wrap_u64]; omega
  rw [e]
  exact key (-n) (by omega) (by omega) (by omega)
 ·have h := of_decide_eq_false h
  have e : IntKind.u64.wrap n = n := by rw [wrap_u64]; omega
  rw [e]
  exact key n (by omega) (by omega) (by omega)
theorem f40_ok : PureOk Tryz.prog 40 K40 := by
 refine pureOk_of_exec prog_mixed Γ40_ok (fn := Tryz.f40) (c := codeOf Tryz.f40) (by kernel_rfl) (by kernel_rfl) (callFunc_enter (fn := Tryz.f40) (c := codeOf Tryz.f40) (by kernel_rfl) (by kernel_rfl) (by kernel_rfl)) (L := noL) (N := 1010) (blocksOk_none _ _) ?_ ?_
 ·intro args v cs h
  unfold K40 at h
  split at h
  ·cases h; rfl
  ·cases h
 ·intro args v cs h hc
  unfold K40 at h
  split at h
  ·rename_i n
   cases h
   have h1 : -9223372036854775808 ≤ n := dec (hc (decide (-9223372036854775808 ≤ n)) (by simp))
   have h2 : n ≤ 9223372036854775807 := dec (hc (decide (n ≤ 9223372036854775807)) (by simp))
   have hs := M40_sat n h1 h2
   rw [← M40_eq] at hs
   generalize execFn Tryz.prog Γ40 noL 1010 Tryz.f40 [.c (.v (.int .i64 n))] = T at hs ⊢
   exact Tr.sat_mono (fun r hr => ⟨by subst hr; rfl, Sees.of_eq hr⟩) hs
  ·cases h
end Go.Vse
