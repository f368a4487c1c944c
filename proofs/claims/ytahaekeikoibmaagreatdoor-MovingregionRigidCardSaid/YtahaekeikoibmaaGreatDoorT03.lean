/- Helpers for the proof: no statement of its own. -/
import Derived.Test.YtahaekeikoibmaaGreatDoorT02
import Derived.Test.YtahaekeikoibmaaGreatDoorT01
set_option linter.unusedVariables false
set_option linter.unusedSimpArgs false
set_option linter.unnecessarySimpa false
set_option linter.deprecated false
set_option maxRecDepth 100000
namespace Go.Vse
open Go.Proofs
def Γ124 : FuncId → Option Spec := fun f => bif Nat.beq f 131 then some (pureSpec K168) else bif Nat.beq f 135 then some (pureSpec K170) else bif Nat.beq f 142 then some (pureSpec K171) else none
def Γ192 : FuncId → Option Spec := fun f => bif Nat.beq f 142 then some (pureSpec K171) else bif Nat.beq f 141 then some (pureSpec K222) else bif Nat.beq f 143 then some (pureSpec K223) else bif Nat.beq f 140 then some (pureSpec K173) else none
def Γ185 : FuncId → Option Spec := fun f => bif Nat.beq f 188 then some (pureSpec K219) else bif Nat.beq f 140 then some (pureSpec K173) else none
def M124 (p : Bool) (q : Bool) (a : ByteArray) (b : ByteArray) : Tr AV :=
 let x1 : List UInt8 := a.data.toList
 let x2 : List UInt8 := b.data.toList
 let x3 : Int := sgn ↑(magN x1) ↑(magN x2)
 .ite (!p == q) (.need (okI p a) (.need (okI q b) (.ret (.c (.v (.int IntKind.i64 (sgn (sgn (iv p a) 0) (sgn (iv q b) 0)))))))) (.need (canon x1) (.need (canon x2) (.ite p (.ret (.c (.v (.int IntKind.i64 (IntKind.i64.wrap (0 - x3)))))) (.ret (.c (.v (.int IntKind.i64 x3)))))))
def M192 (p : Bool) (q : Bool) (a : ByteArray) (b : ByteArray) : Tr AV :=
 let x1 : List UInt8 := a.data.toList
 let x2 : List UInt8 := b.data.toList
 let x3 : List UInt8 := magB (magN x1 + magN x2)
 let x4 : Int := sgn ↑(magN x1) ↑(magN x2)
 let x5 : List UInt8 := magB (magN x1 - magN x2)
 let x6 : List UInt8 := magB (magN x2 - magN x1)
 .ite (p == q) (.need (decide (x1.length ≤ 100000000)) (.need (decide (x2.length ≤ 100000000)) (.ret (AV.agg [.c (.v (.bool (p && !x3 == []))), .c (.v (.string ⟨⟨x3⟩⟩))])))) (.need (canon x1) (.need (canon x2) (.ite (decide (x4 ≥ 0)) (.need (decide (x1.length ≤ 100000000)) (.need (decide (x2.length ≤ 100000000)) (.need (decide (magN x2 ≤ magN x1)) (.ret (AV.agg [.c (.v (.bool (p && !x5 == []))), .c (.v (.string ⟨⟨x5⟩⟩))]))))) (.need (decide (x2.length ≤ 100000000)) (.need (decide (x1.length ≤ 100000000)) (.need (decide (magN x1 ≤ magN x2)) (.ret (AV.agg [.c (.v (.bool (q && !x6 == []))), .c (.v (.string ⟨⟨x6⟩⟩))]))))))))
def M185 (p : Bool) (q : Bool) (a : ByteArray) (b : ByteArray) : Tr AV :=
 let x1 : List UInt8 := a.data.toList
 let x2 : List UInt8 := b.data.toList
 let x3 : List UInt8 := magB (magN x1 * magN x2)
 .need (decide (x1.length ≤ 100000000)) (.need (decide (x2.length ≤ 100000000)) (.ret (AV.agg [.c (.v (.bool (!p == q && !x3 == []))), .c (.v (.string ⟨⟨x3⟩⟩))])))
theorem M124_eq (p q : Bool) (a b : ByteArray) : execFn Tryz.prog Γ124 noL 1010 Tryz.f182 [.agg [.c (.v (.bool p)), .c (.v (.string a))], .agg [.c (.v (.bool q)), .c (.v (.string b))]] = M124 p q a b := by kernel_rfl
theorem M192_eq (p q : Bool) (a b : ByteArray) : execFn Tryz.prog Γ192 noL 1010 Tryz.f85 [.agg [.c (.v (.bool p)), .c (.v (.string a))], .agg [.c (.v (.bool q)), .c (.v (.string b))]] = M192 p q a b := by kernel_rfl
theorem M185_eq (p q : Bool) (a b : ByteArray) : execFn Tryz.prog Γ185 noL 1010 Tryz.f134 [.agg [.c (.v (.bool p)), .c (.v (.string a))], .agg [.c (.v (.bool q)), .c (.v (.string b))]] = M185 p q a b := by kernel_rfl
def K124 : List AV → Option (AV × List Bool)
 | [.agg [.c (.v (.bool p)), .c (.v (.string a))], .agg [.c (.v (.bool q)), .c (.v (.string b))]] => some (intA .i64 (sgn (iv p a) (iv q b)), [okI p a, okI q b])
 | _ => none
def K192 : List AV → Option (AV × List Bool)
 | [.agg [.c (.v (.bool p)), .c (.v (.string a))], .agg [.c (.v (.bool q)), .c (.v (.string b))]] => some (intForm (iv p a + iv q b), [okI p a, okI q b, decide (a.data.toList.length ≤ 100000000), decide (b.data.toList.length ≤ 100000000)])
 | _ => none
def K185 : List AV → Option (AV × List Bool)
 | [.agg [.c (.v (.bool p)), .c (.v (.string a))], .agg [.c (.v (.bool q)), .c (.v (.string b))]] => some (intForm (iv p a * iv q b), [okI p a, okI q b, decide (a.data.toList.length ≤ 100000000), decide (b.data.toList.length ≤ 100000000)])
 | _ => none
theorem Γ124_ok : ∀ f s, Γ124 f = some s → SpecOk Tryz.prog f s := step_ok f168_ok.spec (step_ok f170_ok.spec (one_ok f171_ok.spec))
theorem Γ192_ok : ∀ f s, Γ192 f = some s → SpecOk Tryz.prog f s := step_ok f171_ok.spec (step_ok f222_ok.spec (step_ok f223_ok.spec (one_ok f173_ok.spec)))
theorem Γ185_ok : ∀ f s, Γ185 f = some s → SpecOk Tryz.prog f s := step_ok f219_ok.spec (one_ok f173_ok.spec)
theorem okI_canon {p : Bool} {a : ByteArray} (h : okI p a = true) : canon a.data.toList = true := by simp only [okI, Bool.and_eq_true] at h; exact h.1
theorem okI_neg {a : ByteArray} (h : okI true a = true) : 0 < magN a.data.toList := by
 have hc := okI_canon h
 refine Nat.pos_of_ne_zero fun hz => ?_
 have := (magN_eq_zero hc).1 hz
 simp [okI, this] at h
theorem magB_nil (n : Nat) : (magB n == []) = decide (n = 0) := by
 by_cases h : n = 0
 ·subst h; simp [magB_zero]
 ·rw [decide_eq_false h]
  have : magB n ≠ [] := fun hh => h (magB_inj (hh.trans magB_zero.symm))
  simpa using this
theorem made_form (p : Bool) (n : Nat) : AV.agg [boolA (p && !magB n == []), strA (magB n)] = intForm (bif p then -(n : Int) else (n : Int)) := by
 unfold intForm
 rw [magB_nil]
 cases p with
 | true =>
  simp only [cond_true, Int.natAbs_neg, Int.natAbs_natCast, Bool.true_and]
  by_cases h : n = 0
  ·subst h; rfl
  ·have h2 : -(n : Int) < 0 := by omega
   rw [decide_eq_true h2, decide_eq_false h]; rfl
 | false =>
  simp only [cond_false, Int.natAbs_natCast, Bool.false_and]
  have h2 : ¬ (n : Int) < 0 := by omega
  rw [decide_eq_false h2]; rfl
theorem M124_sat (p q : Bool) (a b : ByteArray) (ha : okI p a = true) (hb : okI q b = true) : (M124 p q a b).sat fun r => r = intA .i64 (sgn (iv p a) (iv q b)) := by
 have na : p = true → 0 < magN a.data.toList := fun h => by subst h; exact okI_neg ha
 have nb : q = true → 0 < magN b.data.toList := fun h => by subst h; exact okI_neg hb
 unfold M124
 refine sat_ite (fun hw => sat_need ha (sat_need hb (sat_ret ?_))) (fun hw => sat_need (okI_canon ha) (sat_need (okI_canon hb) (sat_ite (fun hp => sat_ret ?_) (fun hp => sat_ret ?_))))
 · refine congrArg (intA .i64) ?_
   generalize magN a.data.toList = x at *
   cases p <;> cases q
   · cases hw
   · have := nb rfl
     simp only [iv, cond_true, cond_false, sgn]
     repeat' split
     all_goals omega
   · have := na rfl
     simp only [iv, cond_true, cond_false, sgn]
     repeat' split
     all_goals omega
   · cases hw
 · subst hp
   cases q with
   | false => cases hw
   | true =>
     refine congrArg (intA .i64) ?_
     simp only [iv, cond_true, sgn]
     repeat' split
     all_goals first | rfl | (exact absurd rfl (by omega)) | (exfalso; omega) | (rw [wrap_i64 (by omega)]; omega)
 · subst hp
   cases q with
   | true => cases hw
   | false => rfl
theorem M192_sat (p q : Bool) (a b : ByteArray) (ha : okI p a = true) (hb : okI q b = true) (la : a.data.toList.length ≤ 100000000) (lb : b.data.toList.length ≤ 100000000) : (M192 p q a b).sat fun r => r = intForm (iv p a + iv q b) := by
 unfold M192
 refine sat_ite (fun hw => sat_need (decide_eq_true la) (sat_need (decide_eq_true lb) (sat_ret ?_))) (fun hw => sat_need (okI_canon ha) (sat_need (okI_canon hb) (sat_ite (fun h0 => sat_need (decide_eq_true la) (sat_need (decide_eq_true lb) (sat_need ?_ (sat_ret ?_)))) (fun h0 => sat_need (decide_eq_true lb) (sat_need (decide_eq_true la) (sat_need ?_ (sat_ret ?_)))))))
 ·refine (made_form p _).trans (congrArg intForm ?_)
  obtain rfl : p = q := eq_of_beq hw
  cases p <;> simp only [iv, cond_true, cond_false] <;> omega
 ·have h0 := of_decide_eq_true h0
  refine decide_eq_true ?_
  unfold sgn at h0
  split at h0
  ·omega
  ·omega
 ·have h0 := of_decide_eq_true h0
  have hle : magN b.data.toList ≤ magN a.data.toList := by
   unfold sgn at h0
   split at h0
   ·omega
   ·omega
  refine (made_form p _).trans (congrArg intForm ?_)
  cases p <;> cases q <;> first | (cases hw; done) | (simp only [iv, cond_true, cond_false]; omega)
 ·have h0 := of_decide_eq_false h0
  refine decide_eq_true ?_
  unfold sgn at h0
  split at h0
  ·omega
  ·split at h0 <;> omega
 ·have h0 := of_decide_eq_false h0
  have hle : magN a.data.toList ≤ magN b.data.toList := by
   unfold sgn at h0
   split at h0
   ·omega
   ·split at h0 <;> omega
  refine (made_form q _).trans (congrArg intForm ?_)
  cases p <;> cases q <;> first | (cases hw; done) | (simp only [iv, cond_true, cond_false]; omega)
theorem M185_sat (p q : Bool) (a b : ByteArray) (la : a.data.toList.length ≤ 100000000) (lb : b.data.toList.length ≤ 100000000) : (M185 p q a b).sat fun r => r = intForm (iv p a * iv q b) := by
 unfold M185
 refine sat_need (decide_eq_true la) (sat_need (decide_eq_true lb) (sat_ret ((made_form _ _).trans (congrArg intForm ?_))))
 cases p <;> cases q <;> simp [iv, Int.natCast_mul, Int.neg_mul, Int.mul_neg]
theorem f124_ok : PureOk Tryz.prog 182 K124 := by
 refine poe Γ124_ok (fn := Tryz.f182) ?_ ?_
 ·intro args v cs h
  unfold K124 at h
  split at h
  ·cases h; rfl
  ·cases h
 ·intro args v cs h hc
  unfold K124 at h
  split at h
  ·rename_i p a q b
   cases h
   have h1 : okI p a = true := hc (okI p a) (by simp)
   have h2 : okI q b = true := hc (okI q b) (by simp)
   have hs := M124_sat p q a b h1 h2
   rw [← M124_eq] at hs
   generalize execFn Tryz.prog Γ124 noL 1010 Tryz.f182 [.agg [.c (.v (.bool p)), .c (.v (.string a))], .agg [.c (.v (.bool q)), .c (.v (.string b))]] = T at hs ⊢
   generalize sgn (iv p a) (iv q b) = z at hs ⊢
   exact Tr.sat_mono (fun r hr => ⟨by subst hr; rfl, Sees.of_eq hr⟩) hs
  ·cases h
theorem f192_ok : PureOk Tryz.prog 85 K192 := by
 refine poe Γ192_ok (fn := Tryz.f85) ?_ ?_
 ·intro args v cs h
  unfold K192 at h
  split at h
  ·cases h; rfl
  ·cases h
 ·intro args v cs h hc
  unfold K192 at h
  split at h
  ·rename_i p a q b
   cases h
   have h1 : okI p a = true := hc (okI p a) (by simp)
   have h2 : okI q b = true := hc (okI q b) (by simp)
   have h3 : a.data.toList.length ≤ 100000000 := dec (hc (decide (a.data.toList.length ≤ 100000000)) (by simp))
   have h4 : b.data.toList.length ≤ 100000000 := dec (hc (decide (b.data.toList.length ≤ 100000000)) (by simp))
   have hs := M192_sat p q a b h1 h2 h3 h4
   rw [← M192_eq] at hs
   generalize execFn Tryz.prog Γ192 noL 1010 Tryz.f85 [.agg [.c (.v (.bool p)), .c (.v (.string a))], .agg [.c (.v (.bool q)), .c (.v (.string b))]] = T at hs ⊢
   generalize iv p a + iv q b = z at hs ⊢
   exact Tr.sat_mono (fun r hr => ⟨by subst hr; rfl, Sees.of_eq hr⟩) hs
  ·cases h
theorem f185_ok : PureOk Tryz.prog 134 K185 := by
 refine poe Γ185_ok (fn := Tryz.f134) ?_ ?_
 ·intro args v cs h
  unfold K185 at h
  split at h
  ·cases h; rfl
  ·cases h
 ·intro args v cs h hc
  unfold K185 at h
  split at h
  ·rename_i p a q b
   cases h
   have h1 : okI p a = true := hc (okI p a) (by simp)
   have h2 : okI q b = true := hc (okI q b) (by simp)
   have h3 : a.data.toList.length ≤ 100000000 := dec (hc (decide (a.data.toList.length ≤ 100000000)) (by simp))
   have h4 : b.data.toList.length ≤ 100000000 := dec (hc (decide (b.data.toList.length ≤ 100000000)) (by simp))
   have hs := M185_sat p q a b h3 h4
   rw [← M185_eq] at hs
   generalize execFn Tryz.prog Γ185 noL 1010 Tryz.f134 [.agg [.c (.v (.bool p)), .c (.v (.string a))], .agg [.c (.v (.bool q)), .c (.v (.string b))]] = T at hs ⊢
   generalize iv p a * iv q b = z at hs ⊢
   exact Tr.sat_mono (fun r hr => ⟨by subst hr; rfl, Sees.of_eq hr⟩) hs
  ·cases h
end Go.Vse
set_option maxRecDepth 100000
namespace Go.Vse
open Go.Proofs
def denB (d : Nat) : List UInt8 := bif Nat.beq d 1 then [] else magB d
def denV (b : ByteArray) : Nat := bif b.data.toList == [] then 1 else magN b.data.toList
def intCells (z : Int) : List AV := [.c (.v (.bool (decide (z < 0)))), strA (magB z.natAbs)]
def ratCells (q : Rat) : List AV := [.c (.v (.bool (decide (q.num < 0)))), strA (magB q.num.natAbs), .c (.v (.bool false)), strA (denB q.den)]
def ratA (q : Rat) : AV := .agg (ratCells q)
def ratOk : List AV → Bool
 | [.c (.v (.bool p)), .c (.v (.string a)), .c (.v (.bool q)), .c (.v (.string b))] => okI p a && !q && canon b.data.toList && !(b.data.toList == [1]) && Nat.beq (Nat.gcd (magN a.data.toList) (denV b)) 1
 | _ => false
def ratV : List AV → Rat
 | [.c (.v (.bool p)), .c (.v (.string a)), .c (.v (.bool q)), .c (.v (.string b))] => mkRat (iv p a) (denV b)
 | _ => 0
theorem iv_form (z : Int) : iv (decide (z < 0)) ⟨⟨magB z.natAbs⟩⟩ = z := by
 unfold iv
 show (bif decide (z < 0) then -(magN (magB z.natAbs) : Int) else (magN (magB z.natAbs) : Int)) = z
 rw [magN_magB]
 by_cases h : z < 0
 ·rw [decide_eq_true h]; simp only [cond_true]; omega
 ·rw [decide_eq_false h]; simp only [cond_false]; omega
theorem okI_form (z : Int) : okI (decide (z < 0)) ⟨⟨magB z.natAbs⟩⟩ = true := by
 unfold okI
 show (canon (magB z.natAbs) && (!decide (z < 0) || !(magB z.natAbs == []))) = true
 rw [canon_magB, magB_nil]
 by_cases h : z < 0
 ·rw [decide_eq_true h, decide_eq_false (by omega)]; rfl
 ·rw [decide_eq_false h]; rfl
theorem denV_denB (d : Nat) (h : d ≠ 0) : denV ⟨⟨denB d⟩⟩ = d := by
 unfold denV denB
 show (bif (bif Nat.beq d 1 then [] else magB d) == [] then 1 else magN (bif Nat.beq d 1 then [] else magB d)) = d
 cases hd : Nat.beq d 1 with
 | true => simp only [cond_true]; exact (Nat.eq_of_beq_eq_true hd).symm
 | false =>
  simp only [cond_false, magN_magB, magB_nil, decide_eq_false h]
theorem magB_one : magB 1 = [1] := by
 rw [magB_pos (by omega), show (1 : Nat) / 256 = 0 from rfl, magB_zero]; rfl
theorem canon_denB (d : Nat) : canon (denB d) = true := by
 unfold denB
 cases Nat.beq d 1 with
 | true => rfl
 | false => exact canon_magB d
theorem denB_ne (d : Nat) : denB d ≠ [1] := by
 unfold denB
 cases h : Nat.beq d 1 with
 | true => simp
 | false =>
  intro hh
  simp only [cond_false] at hh
  rw [← magB_one] at hh
  have := magB_inj hh
  subst this
  simp at h
theorem ratOk_cells (q : Rat) : ratOk (ratCells q) = true := by
 show (okI (decide (q.num < 0)) ⟨⟨magB q.num.natAbs⟩⟩ && !false && canon (denB q.den) && !(denB q.den == [1]) && Nat.beq (Nat.gcd (magN (magB q.num.natAbs)) (denV ⟨⟨denB q.den⟩⟩)) 1) = true
 rw [okI_form, canon_denB, magN_magB, denV_denB _ q.den_nz]
 have h1 : (denB q.den == [1]) = false := by
  have := denB_ne q.den
  simpa using this
 have h2 : Nat.gcd q.num.natAbs q.den = 1 := q.reduced
 rw [h1, h2]; rfl
theorem ratV_cells (q : Rat) : ratV (ratCells q) = q := by
 show mkRat (iv (decide (q.num < 0)) ⟨⟨magB q.num.natAbs⟩⟩) (denV ⟨⟨denB q.den⟩⟩) = q
 rw [iv_form, denV_denB _ q.den_nz]
 exact Rat.mkRat_self q
theorem ratOk_eq {l : List AV} (h : ratOk l = true) : l = ratCells (ratV l) := by
 unfold ratOk at h
 split at h
 · rename_i p a q b
   simp only [Bool.and_eq_true, Bool.not_eq_true'] at h
   obtain ⟨⟨⟨⟨h1, h2⟩, h3⟩, h4⟩, h5⟩ := h
   subst h2
   have h5 := Nat.eq_of_beq_eq_true h5
   have hd : denV b ≠ 0 := by
     unfold denV
     cases hb : (b.data.toList == []) with
     | true => simp
     | false =>
       simp only [cond_false]
       intro hz
       rw [(magN_eq_zero h3).1 hz] at hb
       simp at hb
   have hn : (iv p a).natAbs = magN a.data.toList := by cases p <;> simp [iv]
   have hc : Nat.gcd (iv p a).natAbs (denV b) = 1 := by rw [hn]; exact h5
   have hq : mkRat (iv p a) (denV b) = { num := iv p a, den := denV b, den_nz := hd, reduced := hc } := Rat.mkRat_self { num := iv p a, den := denV b, den_nz := hd, reduced := hc }
   show _ = ratCells (mkRat (iv p a) (denV b))
   rw [hq]
   have e1 := form_eq h1
   unfold intForm at e1
   injection e1 with e1
   have e2 : b.data.toList = denB (denV b) := by
     unfold denV denB
     cases hb : (b.data.toList == []) with
     | true => simp only [cond_true]; simpa using hb
     | false =>
       simp only [cond_false]
       cases h1 : Nat.beq (magN b.data.toList) 1 with
       | true =>
         have := Nat.eq_of_beq_eq_true h1
         have h6 : b.data.toList = [1] := by rw [← magB_magN b.data.toList h3, this, magB_one]
         rw [h6] at h4; simp at h4
       | false => simp only [cond_false]; exact (magB_magN b.data.toList h3).symm
   unfold ratCells strA
   rw [← e2]
   show _ :: _ :: [_, _] = _
   injection e1 with e3 e4
   injection e4 with e4 e5
   rw [e3, e4]
   rfl
 · cases h
theorem ratV_lit (q : Rat) : ratV [.c (.v (.bool (decide (q.num < 0)))), .c (.v (.string ⟨⟨magB q.num.natAbs⟩⟩)), .c (.v (.bool false)), .c (.v (.string ⟨⟨denB q.den⟩⟩))] = q := ratV_cells q
theorem ratOk_lit (q : Rat) : ratOk [.c (.v (.bool (decide (q.num < 0)))), .c (.v (.string ⟨⟨magB q.num.natAbs⟩⟩)), .c (.v (.bool false)), .c (.v (.string ⟨⟨denB q.den⟩⟩))] = true := ratOk_cells q
theorem divInt_cells (n d : Int) (h : 0 < d) : ratCells (Rat.divInt n d) = [.c (.v (.bool (decide (n / (Int.gcd n d : Int) < 0)))), strA (magB (n / (Int.gcd n d : Int)).natAbs), .c (.v (.bool false)), strA (denB (d / (Int.gcd n d : Int)).natAbs)] := by
 have e1 : (Rat.divInt n d).num = n / (Int.gcd n d : Int) := by
  rw [Rat.num_divInt, Int.sign_eq_one_of_pos h, Int.one_mul, Int.gcd_comm]
 have e2 : (Rat.divInt n d).den = (d / (Int.gcd n d : Int)).natAbs := by
  rw [Rat.den_divInt, if_neg (by omega), Int.gcd_comm]
  have := Int.natAbs_ediv_of_dvd (a := d) (b := (Int.gcd n d : Int)) (Int.gcd_dvd_right ..)
  rw [this, Int.natAbs_natCast]
 unfold ratCells
 rw [e1, e2]
def hold (q : Rat) : Rat := match q.num.natAbs with
 | 0 => q
 | _ + 1 => q
theorem hold_eq (q : Rat) : hold q = q := by unfold hold; split <;> rfl
theorem ratV_int (n : Int) : ratV [.c (.v (.bool (decide (n < 0)))), .c (.v (.string ⟨⟨magB n.natAbs⟩⟩)), .c (.v (.bool false)), .c (.v (.string { data := #[] }))] = (n : Rat) := ratV_cells (n : Rat)
theorem ratOk_int (n : Int) : ratOk [.c (.v (.bool (decide (n < 0)))), .c (.v (.string ⟨⟨magB n.natAbs⟩⟩)), .c (.v (.bool false)), .c (.v (.string { data := #[] }))] = true := ratOk_cells (n : Rat)
theorem ratV_zero : ratV [.c (.v (.bool false)), .c (.v (.string { data := #[] })), .c (.v (.bool false)), .c (.v (.string { data := #[] }))] = 0 := by
 have h := ratV_cells (0 : Rat)
 unfold ratCells strA at h
 rw [show (0 : Rat).num.natAbs = 0 from rfl, magB_zero] at h
 exact h
theorem ratOk_zero : ratOk [.c (.v (.bool false)), .c (.v (.string { data := #[] })), .c (.v (.bool false)), .c (.v (.string { data := #[] }))] = true := by
 have h := ratOk_cells (0 : Rat)
 unfold ratCells strA at h
 rw [show (0 : Rat).num.natAbs = 0 from rfl, magB_zero] at h
 exact h
def Bnd (N D : Nat) (q : Rat) : Prop := q.num.natAbs ≤ N ∧ q.den ≤ D
theorem Bnd.mono {N D N' D' : Nat} {q : Rat} (h : Bnd N D q) (h1 : N ≤ N') (h2 : D ≤ D') : Bnd N' D' q := ⟨Nat.le_trans h.1 h1, Nat.le_trans h.2 h2⟩
theorem Bnd.divInt {n d : Int} {N D : Nat} (h : 0 < d) (h1 : n.natAbs ≤ N) (h2 : d.natAbs ≤ D) : Bnd N D (Rat.divInt n d) := by
 constructor
 ·rw [Rat.num_divInt, Int.sign_eq_one_of_pos h, Int.one_mul]
  exact Nat.le_trans (Int.natAbs_ediv_le_natAbs _ _) h1
 ·rw [Rat.den_divInt, if_neg (by omega)]
  exact Nat.le_trans (Nat.div_le_self _ _) h2
theorem Bnd.add {x y : Rat} {N D N' D' : Nat} (h : Bnd N D x) (h' : Bnd N' D' y) : Bnd (N * D' + N' * D) (D * D') (x + y) := by
 have hx := x.den_pos
 have hy := y.den_pos
 rw [Rat.add_def']
 refine Bnd.divInt (n := x.num * y.den + y.num * x.den) (d := (x.den * y.den : Nat)) (by have := Nat.mul_pos hx hy; omega) ?_ ?_
 · refine Nat.le_trans (Int.natAbs_add_le _ _) ?_
   rw [Int.natAbs_mul, Int.natAbs_mul, Int.natAbs_natCast, Int.natAbs_natCast]
   exact Nat.add_le_add (Nat.mul_le_mul h.1 h'.2) (Nat.mul_le_mul h'.1 h.2)
 · rw [Int.natAbs_natCast]
   exact Nat.mul_le_mul h.2 h'.2
theorem Bnd.mul {x y : Rat} {N D N' D' : Nat} (h : Bnd N D x) (h' : Bnd N' D' y) : Bnd (N * N') (D * D') (x * y) := by
 have hx := x.den_pos
 have hy := y.den_pos
 rw [Rat.mul_def']
 refine Bnd.divInt (n := x.num * y.num) (d := (x.den * y.den : Nat)) (by have := Nat.mul_pos hx hy; omega) ?_ ?_
 · rw [Int.natAbs_mul]
   exact Nat.mul_le_mul h.1 h'.1
 · rw [Int.natAbs_natCast]
   exact Nat.mul_le_mul h.2 h'.2
theorem Bnd.neg {x : Rat} {N D : Nat} (h : Bnd N D x) : Bnd N D (-x) := ⟨by rw [Rat.neg_num, Int.natAbs_neg]; exact h.1, by rw [Rat.neg_den]; exact h.2⟩
theorem Bnd.int (n : Int) : Bnd n.natAbs 1 (n : Rat) := ⟨Nat.le_refl _, Nat.le_refl _⟩
end Go.Vse
set_option maxRecDepth 100000
namespace Go.Vse
open Go.Proofs
def Γ175 : FuncId → Option Spec := fun f => bif Nat.beq f 189 then some (pureSpec K172) else bif Nat.beq f 160 then some (pureSpec K174) else none
theorem Γ175_ok : ∀ f s, Γ175 f = some s → SpecOk Tryz.prog f s := step_ok f172_ok.spec (one_ok f174_ok.spec)
def K175 : List AV → Option (AV × List Bool)
 | [.c (.v (.string a)), .c (.v (.string b))] => some (.tup [strA (magB (magN a.data.toList / magN b.data.toList)), strA (magB (magN a.data.toList % magN b.data.toList))], [decide (a.data.toList.length ≤ 8), decide (b.data.toList.length ≤ 8), decide (magN b.data.toList ≠ 0)])
 | _ => none
def K257 : List AV → Option (AV × List Bool)
 | [.agg [.c (.v (.bool p)), .c (.v (.string a))], .agg [.c (.v (.bool q)), .c (.v (.string b))]] => some (.tup [intForm (iv p a / iv q b), intForm (iv p a % iv q b), intA .i64 0], [okI p a, okI q b, decide (0 < iv q b), decide (a.data.toList.length ≤ 8), decide (b.data.toList.length ≤ 8)])
 | _ => none
def K220 : List AV → Option (AV × List Bool)
 | [.agg [.c (.v (.bool p)), .c (.v (.string a))], .agg [.c (.v (.bool q)), .c (.v (.string b))]] => some (intForm (iv p a / iv q b), [okI p a, okI q b, decide (0 < iv q b), decide (a.data.toList.length ≤ 8), decide (b.data.toList.length ≤ 8)])
 | _ => none
def Γ257 : FuncId → Option Spec := fun f => bif Nat.beq f 190 then some (pureSpec K175) else bif Nat.beq f 141 then some (pureSpec K222) else bif Nat.beq f 143 then some (pureSpec K223) else bif Nat.beq f 140 then some (pureSpec K173) else none
def Γ220 : FuncId → Option Spec := fun f => bif Nat.beq f 191 then some (pureSpec K257) else none
def M175 (a : ByteArray) (b : ByteArray) : Tr AV :=
 let x1 : Int := IntKind.u64.wrap ((wordV a).tdiv (wordV b))
 let x2 : Int := (wordV a).tmod (wordV b)
 .ite (wordB a && wordB b) (.need (decide (wordV b ≠ 0)) (.need (u64B x1) (.need (decide (wordV b ≠ 0)) (.need (u64B x2) (.ret (AV.tup [.c (.v (.string ⟨⟨magB x1.toNat⟩⟩)), .c (.v (.string ⟨⟨magB x2.toNat⟩⟩))])))))) (.fail "integer.go:245")
def M257 (p : Bool) (q : Bool) (a : ByteArray) (b : ByteArray) : Tr AV :=
 let x1 : List UInt8 := b.data.toList
 let x2 : List UInt8 := a.data.toList
 let x3 : List UInt8 := magB (magN x2 % magN x1)
 let x4 : List UInt8 := magB (magN x2 / magN x1)
 let x5 : Nat := x4.length
 let x6 : Nat := x3.length
 let x7 : Nat := magN x3
 let x8 : List UInt8 := magB (magN x4 + magN [1])
 let x9 : List AV := [.c (.v (.int IntKind.i64 0))]
 .ite (x1 == []) (.ret (AV.tup [AV.agg [.c (.v (.bool false)), .c (.v (.string { data := #[] }))], AV.agg [.c (.v (.bool false)), .c (.v (.string { data := #[] }))], .c (.v (.int IntKind.i64 6))])) (.need (decide (x2.length ≤ 8)) (.need (decide (x1.length ≤ 8)) (.need (decide (magN x1 ≠ 0)) (.need (bif p then true else true) (.ite (bif p then bif true then !x3 == [] else false else false) (.need (decide (x5 ≤ 100000000)) (.need true (.need (decide (x1.length ≤ 100000000)) (.need (decide (x6 ≤ 100000000)) (.need (decide (x7 ≤ magN x1)) (.ret (AV.tup (AV.agg [.c (.v (.bool (!p == q && !x8 == []))), .c (.v (.string ⟨⟨x8⟩⟩))] :: AV.agg [.c (.v (.bool false)), .c (.v (.string ⟨⟨magB (magN x1 - x7)⟩⟩))] :: x9)))))))) (.ret (AV.tup (AV.agg [.c (.v (.bool (!p == q && !x4 == []))), .c (.v (.string ⟨⟨x4⟩⟩))] :: AV.agg [.c (.v (.bool false)), .c (.v (.string ⟨⟨x3⟩⟩))] :: x9))))))))
def M220 (p : Bool) (q : Bool) (a : ByteArray) (b : ByteArray) : Tr AV :=
 let x1 : Int := iv p a / iv q b
 .need (okI p a) (.need (okI q b) (.need (decide (0 < iv q b)) (.need (decide (a.data.toList.length ≤ 8)) (.need (decide (b.data.toList.length ≤ 8)) (.ret (AV.agg [.c (.v (.bool (decide (x1 < 0)))), .c (.v (.string ⟨⟨magB x1.natAbs⟩⟩))]))))))
theorem M175_eq (a b : ByteArray) : execFn Tryz.prog Γ175 noL 1010 Tryz.f190 [.c (.v (.string a)), .c (.v (.string b))] = M175 a b := by kernel_rfl
theorem M257_eq (p q : Bool) (a b : ByteArray) : execFn Tryz.prog Γ257 noL 1010 Tryz.f191 [.agg [.c (.v (.bool p)), .c (.v (.string a))], .agg [.c (.v (.bool q)), .c (.v (.string b))]] = M257 p q a b := by kernel_rfl
theorem M220_eq (p q : Bool) (a b : ByteArray) : execFn Tryz.prog Γ220 noL 1010 Tryz.f138 [.agg [.c (.v (.bool p)), .c (.v (.string a))], .agg [.c (.v (.bool q)), .c (.v (.string b))]] = M220 p q a b := by kernel_rfl
theorem len8_lt {l : List UInt8} (h : l.length ≤ 8) : magN l < 18446744073709551616 := by
 have h1 := magN_lt l
 have h2 : 256 ^ l.length ≤ 256 ^ 8 := Nat.pow_le_pow_right (by omega) h
 omega
theorem magB_len8 {n : Nat} (h : n < 18446744073709551616) : (magB n).length ≤ 8 := magB_len n 8 (by omega)
theorem M175_sat (a b : ByteArray) (la : a.data.toList.length ≤ 8) (lb : b.data.toList.length ≤ 8) (hb : magN b.data.toList ≠ 0) : (M175 a b).sat fun r => r = .tup [strA (magB (magN a.data.toList / magN b.data.toList)), strA (magB (magN a.data.toList % magN b.data.toList))] := by
 have ea : wordV a = (magN a.data.toList : Nat) := by unfold wordV; rw [if_pos la]
 have eb : wordV b = (magN b.data.toList : Nat) := by unfold wordV; rw [if_pos lb]
 have ha := len8_lt la
 have hb2 := len8_lt lb
 generalize magN a.data.toList = n at *
 generalize magN b.data.toList = m at *
 have hq : n / m ≤ n := Nat.div_le_self _ _
 have hr : n % m < m := Nat.mod_lt _ (Nat.pos_of_ne_zero hb)
 have e1 : IntKind.u64.wrap ((wordV a).tdiv (wordV b)) = ((n / m : Nat) : Int) := by
  rw [ea, eb, ← Int.ofNat_tdiv, wrap_u64]
  generalize n / m = q at *
  omega
 have e2 : (wordV a).tmod (wordV b) = ((n % m : Nat) : Int) := by
  rw [ea, eb]; exact (Int.ofNat_tmod n m).symm
 simp only [M175, e1, e2]
 generalize n / m = q at *
 generalize n % m = r at *
 refine sat_ite (fun _ => sat_need ?_ (sat_need ?_ (sat_need ?_ (sat_need ?_ (sat_ret ?_))))) (fun h => ?_)
 ·rw [eb]; exact decide_eq_true (by omega)
 ·unfold u64B; simp; omega
 ·rw [eb]; exact decide_eq_true (by omega)
 ·unfold u64B; simp; omega
 ·rw [Int.toNat_natCast, Int.toNat_natCast]; rfl
 ·have la' : a.data.toList.length ≤ 8 := la
  unfold wordB at h
  rw [decide_eq_true la, decide_eq_true lb] at h
  cases h
theorem div_neg (n m : Nat) (hm : 0 < m) : (-(n : Int)) / (m : Int) = (if n % m = 0 then -((n / m : Nat) : Int) else -((n / m + 1 : Nat) : Int)) ∧ (-(n : Int)) % (m : Int) = (if n % m = 0 then 0 else ((m - n % m : Nat) : Int)) := by
 have h1 := Nat.div_add_mod n m
 have h2 := Nat.mod_lt n hm
 rw [Int.ediv_emod_unique (by omega)]
 generalize hq : n / m = q at *
 generalize n % m = r at *
 have h3 : (m : Int) * (q : Int) + (r : Int) = (n : Int) := by rw [← h1, Int.natCast_add, Int.natCast_mul]
 by_cases hr : r = 0
 ·rw [if_pos hr, if_pos hr]
  subst hr
  rw [Int.mul_neg]
  omega
 ·rw [if_neg hr, if_neg hr, Int.mul_neg, Int.natCast_add, Int.mul_add]
  omega
theorem iv_pos {q : Bool} {b : ByteArray} (h : 0 < iv q b) : q = false ∧ 0 < magN b.data.toList := by
 cases q
 · exact ⟨rfl, by simp only [iv, cond_false] at h; omega⟩
 · simp only [iv, cond_true] at h; omega
theorem made_pos (n : Nat) : AV.agg [.c (.v (.bool false)), strA (magB n)] = intForm (n : Int) := by
 have := made_form false n
 simp only [Bool.false_and, cond_false] at this
 exact this
theorem M257_sat (p q : Bool) (a b : ByteArray) (hb : 0 < iv q b) (la : a.data.toList.length ≤ 8) (lb : b.data.toList.length ≤ 8) : (M257 p q a b).sat fun r => r = .tup [intForm (iv p a / iv q b), intForm (iv p a % iv q b), intA .i64 0] := by
 obtain ⟨rfl, hm⟩ := iv_pos hb
 have ha := len8_lt la
 have hb2 := len8_lt lb
 have hne : (b.data.toList == []) = false := by
   cases hh : b.data.toList with
   | nil => rw [hh] at hm; simp [magN] at hm
   | cons c l => rfl
 have eb : iv false b = ((magN b.data.toList : Nat) : Int) := rfl
 rw [eb]
 unfold M257
 generalize hxb : b.data.toList = lb' at *
 generalize hxa : a.data.toList = la' at *
 have hq : magN la' / magN lb' ≤ magN la' := Nat.div_le_self _ _
 have hr : magN la' % magN lb' < magN lb' := Nat.mod_lt _ hm
 have l1 := magB_len8 (n := magN la' / magN lb') (by omega)
 have l2 := magB_len8 (n := magN la' % magN lb') (by omega)
 have hone : magN [1] = 1 := rfl
 refine sat_ite (fun h => by rw [hne] at h; cases h) (fun _ => sat_need (decide_eq_true la) (sat_need (decide_eq_true lb) (sat_need (decide_eq_true (by omega)) (sat_need (by cases p <;> rfl) (sat_ite (fun h => ?_) (fun h => sat_ret ?_))))))
 · cases p with
   | false => cases h
   | true =>
     simp only [cond_true, magB_nil, Bool.not_eq_true', decide_eq_false_iff_not] at h
     simp only [magN_magB, hone]
     refine sat_need (decide_eq_true (by omega)) (sat_need rfl (sat_need (decide_eq_true (by omega)) (sat_need (decide_eq_true (by omega)) (sat_need (decide_eq_true (by omega)) (sat_ret ?_)))))
     have ea : iv true a = -((magN la' : Nat) : Int) := by show -((magN a.data.toList : Nat) : Int) = _; rw [hxa]
     obtain ⟨d1, d2⟩ := div_neg (magN la') (magN lb') hm
     rw [if_neg h] at d1 d2
     rw [ea, d1, d2]
     have m1 := made_form true (magN la' / magN lb' + 1)
     have m2 := made_pos (magN lb' - magN la' % magN lb')
     simp only [cond_true] at m1
     rw [← m1, ← m2]
     rfl
 · cases p with
   | false =>
     have ea : iv false a = ((magN la' : Nat) : Int) := by show ((magN a.data.toList : Nat) : Int) = _; rw [hxa]
     rw [ea, ← Int.natCast_ediv, ← Int.natCast_emod]
     rw [← made_pos, ← made_pos]
     rfl
   | true =>
     simp only [cond_true, magB_nil, Bool.not_eq_false', decide_eq_true_eq] at h
     have ea : iv true a = -((magN la' : Nat) : Int) := by show -((magN a.data.toList : Nat) : Int) = _; rw [hxa]
     obtain ⟨d1, d2⟩ := div_neg (magN la') (magN lb') hm
     rw [if_pos h] at d1 d2
     rw [ea, d1, d2]
     have m1 := made_form true (magN la' / magN lb')
     have m2 := made_pos 0
     simp only [cond_true] at m1
     rw [← m1]
     rw [h]
     have e0 : intForm ((0 : Nat) : Int) = intForm 0 := rfl
     rw [← e0, ← m2]
     rfl
theorem f175_ok : PureOk Tryz.prog 190 K175 := by
 refine pureOk_of_exec prog_mixed Γ175_ok (fn := Tryz.f190) (c := codeOf Tryz.f190) (by kernel_rfl) (by kernel_rfl) (callFunc_enter (fn := Tryz.f190) (c := codeOf Tryz.f190) (by kernel_rfl) (by kernel_rfl) (by kernel_rfl)) (L := noL) (N := 1010) (blocksOk_none _ _) ?_ ?_
 ·intro args v cs h
  unfold K175 at h
  split at h
  ·cases h; rfl
  ·cases h
 ·intro args v cs h hc
  unfold K175 at h
  split at h
  ·rename_i a b
   cases h
   have h1 : a.data.toList.length ≤ 8 := dec (hc (decide (a.data.toList.length ≤ 8)) (by simp))
   have h2 : b.data.toList.length ≤ 8 := dec (hc (decide (b.data.toList.length ≤ 8)) (by simp))
   have h3 : magN b.data.toList ≠ 0 := dec (hc (decide (magN b.data.toList ≠ 0)) (by simp))
   have hs := M175_sat a b h1 h2 h3
   rw [← M175_eq] at hs
   generalize execFn Tryz.prog Γ175 noL 1010 Tryz.f190 [.c (.v (.string a)), .c (.v (.string b))] = T at hs ⊢
   generalize magN a.data.toList / magN b.data.toList = z at hs ⊢
   generalize magN a.data.toList % magN b.data.toList = y at hs ⊢
   exact Tr.sat_mono (fun r hr => ⟨by subst hr; rfl, Sees.of_eq hr⟩) hs
  ·cases h
theorem Γ257_ok : ∀ f s, Γ257 f = some s → SpecOk Tryz.prog f s := step_ok f175_ok.spec (step_ok f222_ok.spec (step_ok f223_ok.spec (one_ok f173_ok.spec)))
theorem f257_ok : PureOk Tryz.prog 191 K257 := by
 refine pureOk_of_exec prog_mixed Γ257_ok (fn := Tryz.f191) (c := codeOf Tryz.f191) (by kernel_rfl) (by kernel_rfl) (callFunc_enter (fn := Tryz.f191) (c := codeOf Tryz.f191) (by kernel_rfl) (by kernel_rfl) (by kernel_rfl)) (L := noL) (N := 1010) (blocksOk_none _ _) ?_ ?_
 ·intro args v cs h
  unfold K257 at h
  split at h
  ·cases h; rfl
  ·cases h
 ·intro args v cs h hc
  unfold K257 at h
  split at h
  ·rename_i p a q b
   cases h
   have h1 : okI p a = true := hc (okI p a) (by simp)
   have h2 : okI q b = true := hc (okI q b) (by simp)
   have h3 : 0 < iv q b := dec (hc (decide (0 < iv q b)) (by simp))
   have h4 : a.data.toList.length ≤ 8 := dec (hc (decide (a.data.toList.length ≤ 8)) (by simp))
   have h5 : b.data.toList.length ≤ 8 := dec (hc (decide (b.data.toList.length ≤ 8)) (by simp))
   have hs := M257_sat p q a b h3 h4 h5
   rw [← M257_eq] at hs
   generalize execFn Tryz.prog Γ257 noL 1010 Tryz.f191 [.agg [.c (.v (.bool p)), .c (.v (.string a))], .agg [.c (.v (.bool q)), .c (.v (.string b))]] = T at hs ⊢
   generalize iv p a / iv q b = z at hs ⊢
   generalize iv p a % iv q b = y at hs ⊢
   exact Tr.sat_mono (fun r hr => ⟨by subst hr; rfl, Sees.of_eq hr⟩) hs
  ·cases h
theorem Γ220_ok : ∀ f s, Γ220 f = some s → SpecOk Tryz.prog f s := one_ok f257_ok.spec
theorem M220_sat (p q : Bool) (a b : ByteArray) (h1 : okI p a = true) (h2 : okI q b = true) (h3 : 0 < iv q b) (h4 : a.data.toList.length ≤ 8) (h5 : b.data.toList.length ≤ 8) : (M220 p q a b).sat fun r => r = intForm (iv p a / iv q b) := by
 unfold M220
 exact sat_need h1 (sat_need h2 (sat_need (decide_eq_true h3) (sat_need (decide_eq_true h4) (sat_need (decide_eq_true h5) (sat_ret rfl)))))
theorem f220_ok : PureOk Tryz.prog 138 K220 := by
 refine pureOk_of_exec prog_mixed Γ220_ok (fn := Tryz.f138) (c := codeOf Tryz.f138) (by kernel_rfl) (by kernel_rfl) (callFunc_enter (fn := Tryz.f138) (c := codeOf Tryz.f138) (by kernel_rfl) (by kernel_rfl) (by kernel_rfl)) (L := noL) (N := 1010) (blocksOk_none _ _) ?_ ?_
 ·intro args v cs h
  unfold K220 at h
  split at h
  ·cases h; rfl
  ·cases h
 ·intro args v cs h hc
  unfold K220 at h
  split at h
  ·rename_i p a q b
   cases h
   have h1 : okI p a = true := hc (okI p a) (by simp)
   have h2 : okI q b = true := hc (okI q b) (by simp)
   have h3 : 0 < iv q b := dec (hc (decide (0 < iv q b)) (by simp))
   have h4 : a.data.toList.length ≤ 8 := dec (hc (decide (a.data.toList.length ≤ 8)) (by simp))
   have h5 : b.data.toList.length ≤ 8 := dec (hc (decide (b.data.toList.length ≤ 8)) (by simp))
   have hs := M220_sat p q a b h1 h2 h3 h4 h5
   rw [← M220_eq] at hs
   generalize execFn Tryz.prog Γ220 noL 1010 Tryz.f138 [.agg [.c (.v (.bool p)), .c (.v (.string a))], .agg [.c (.v (.bool q)), .c (.v (.string b))]] = T at hs ⊢
   generalize iv p a / iv q b = z at hs ⊢
   exact Tr.sat_mono (fun r hr => ⟨by subst hr; rfl, Sees.of_eq hr⟩) hs
  ·cases h
end Go.Vse
set_option maxRecDepth 100000
namespace Go.Vse
open Go.Proofs
structure W126 where
 u : Int
 v : Int
def cell0 : Ent := .cells [.c (.v (.bool false)), .c (.v (.string ⟨⟨[]⟩⟩))] 44
def head126 (x : W126) : List AV × List (Option Ent) := ([.ptr 0 0, intA .u64 x.u, intA .u64 x.v], [some cell0])
def take126 : List AV × List (Option Ent) → Option (W126 × List Bool)
 | ([.ptr 0 0, .c (.v (.int .u64 u)), .c (.v (.int .u64 v))], [some (.cells [.c (.v (.bool false)), .c (.v (.string ⟨⟨[]⟩⟩))] 44)]) => some (⟨u, v⟩, [])
 | _ => none
def lp126 (w : Way W126) : LoopSt W126 W126 where
 nIn := { nt := 45, live := [4, 7, 8] }
 nOut := { nt := 45, live := [4, 7, 8] }
 head := head126
 take := take126
 out := fun r => (.normal, head126 r)
 takeR := fun q => match q with | (.normal, q) => take126 q | _ => none
 res := w.res
 pre := w.pre
theorem take126_ok (q : List AV × List (Option Ent)) (x : W126) (cs : List Bool) (h : take126 q = some (x, cs)) (hc : ∀ p ∈ cs, p) : SeesL q.1 (head126 x).1 ∧ EntsEqv q.2 (head126 x).2 := by
 unfold take126 at h
 split at h
 ·cases h
  exact ⟨SeesL.refl _, EntsEqv.refl _⟩
 ·cases h
theorem lp126_good (w : Way W126) : (lp126 w).Good2 where
 take := take126_ok
 takeR := by
  intro e q r cs h hc
  cases e with
  | normal => obtain ⟨h1, h2⟩ := take126_ok q r cs h hc; exact ⟨rfl, h1, h2⟩
  | exit j => cases h
  | ret => cases h
 split := fun r Q h => h
def way126 : Way W126 := ⟨fun x => ⟨(Nat.gcd x.u.toNat x.v.toNat : Nat), 0⟩, fun x => u64B x.u && u64B x.v⟩
def L126 : Nat → Option (St → Tr (Ex × St)) := fun id => bif Nat.beq id 2 then some ((lp126 way126).g 0) else none
def Γ126 : FuncId → Option Spec := fun f => bif Nat.beq f 189 then some (pureSpec K172) else bif Nat.beq f 160 then some (pureSpec K174) else bif Nat.beq f 140 then some (pureSpec K173) else none
theorem Γ126_ok : ∀ f s, Γ126 f = some s → SpecOk Tryz.prog f s := step_ok f172_ok.spec (step_ok f174_ok.spec (one_ok f173_ok.spec))
def step126 (u : Int) (v : Int) : Tr (W126 ⊕ W126) :=
 .ite (v != 0) (.need (decide (v ≠ 0)) (.ret (Sum.inl { u := v, v := u.tmod v }))) (.ret (Sum.inr { u := u, v := v }))
def M126 (p : Bool) (q : Bool) (a : ByteArray) (b : ByteArray) : Tr AV :=
 let x1 : Int := ↑((wordV a).toNat.gcd (wordV b).toNat)
 .ite (!b.data.toList == []) (.ite (wordB a && wordB b) (.need (u64B (wordV a) && u64B (wordV b)) (.need (u64B x1) (.ret (AV.agg [.c (.v (.bool false)), .c (.v (.string ⟨⟨magB x1.toNat⟩⟩))])))) (.fail "integer.go:341")) (.ret (AV.agg [.c (.v (.bool false)), .c (.v (.string a))]))
theorem step126_eq (w : Way W126) (x : W126) : (exec Tryz.prog (fun _ => none) noL 1010 (loopOf 2 (codeOf Tryz.f137)) (mkSt (lp126 w).nIn ((lp126 w).head x))).bind ((lp126 w).fin 0 2) = step126 x.u x.v := by
 obtain ⟨u, v⟩ := x
 kernel_rfl
theorem M126_eq (p q : Bool) (a b : ByteArray) : execFn Tryz.prog Γ126 L126 1010 Tryz.f137 [.agg [.c (.v (.bool p)), .c (.v (.string a))], .agg [.c (.v (.bool q)), .c (.v (.string b))]] = M126 p q a b := by kernel_rfl
theorem runs126 (Q : W126 → Prop) : ∀ (n u v : Nat), v < n → Q ⟨(Nat.gcd u v : Nat), 0⟩ → RunsX (fun x : W126 => step126 x.u x.v) Q n ⟨(u : Nat), (v : Nat)⟩
 | 0, u, v, h, _ => absurd h (Nat.not_lt_zero _)
 | n + 1, u, v, h, hq => by
   unfold RunsX
   change Tr.sat _ (step126 (u : Nat) (v : Nat))
   by_cases hv : v = 0
   · subst hv
     refine sat_ite (fun hc => by simp at hc) (fun _ => sat_ret ?_)
     have : Nat.gcd u 0 = u := Nat.gcd_zero_right u
     rw [this] at hq
     exact hq
   · refine sat_ite (fun _ => sat_need (decide_eq_true (by omega)) (sat_ret ?_)) (fun hc => by simp at hc; omega)
     have e1 : ((u : Nat) : Int).tmod ((v : Nat) : Int) = ((u % v : Nat) : Int) := (Int.ofNat_tmod u v).symm
     rw [e1]
     have hlt : u % v < v := Nat.mod_lt _ (by omega)
     refine runs126 Q n v (u % v) (by omega) ?_
     have : Nat.gcd v (u % v) = Nat.gcd u v := by rw [Nat.gcd_comm v, ← Nat.gcd_rec, Nat.gcd_comm]
     rw [this]
     exact hq
theorem f126_loops : BlocksOk Tryz.prog 0 L126 (codeOf Tryz.f137) := by
 refine blocksOk_of (d := fun id => Nat.beq id 2) (fun id => by unfold L126; cases Nat.beq id 2 <;> rfl) _ ?_
 have hb : blocksOf (fun id => Nat.beq id 2) (codeOf Tryz.f137) = [(2, .loop (loopOf 2 (codeOf Tryz.f137)))] := by kernel_rfl
 rw [hb]
 intro p hp g hg
 simp only [List.mem_singleton] at hp
 subst hp
 have hh : L126 2 = some ((lp126 way126).g 0) := rfl
 rw [hh] at hg
 obtain rfl : g = (lp126 way126).g 0 := (Option.some.inj hg).symm
 refine LoopSt.ok2 (N := 1010) prog_mixed noΓ_ok (L := noL) (blocksOk_none 0 _) (lp126_good _) (step126_eq way126) ?_
 rintro ⟨u, v⟩ hx
 have hx : way126.pre ⟨u, v⟩ = true := hx
 simp only [way126, Bool.and_eq_true, u64B, decide_eq_true_eq] at hx
 have e1 : u = ((u.toNat : Nat) : Int) := by omega
 have e2 : v = ((v.toNat : Nat) : Int) := by omega
 have := runs126 (· = way126.res ⟨u, v⟩) (v.toNat + 1) u.toNat v.toNat (by omega) rfl
 rw [← e1, ← e2] at this
 exact ⟨_, this⟩
def K126 : List AV → Option (AV × List Bool)
 | [.agg [.c (.v (.bool p)), .c (.v (.string a))], .agg [.c (.v (.bool q)), .c (.v (.string b))]] => some (intForm (Int.gcd (iv p a) (iv q b) : Nat), [okI p a, okI q b, decide (a.data.toList.length ≤ 8), decide (b.data.toList.length ≤ 8)])
 | _ => none
theorem iv_natAbs (p : Bool) (a : ByteArray) : (iv p a).natAbs = magN a.data.toList := by cases p <;> simp [iv]
theorem M126_sat (p q : Bool) (a b : ByteArray) (ha : okI p a = true) (la : a.data.toList.length ≤ 8) (lb : b.data.toList.length ≤ 8) : (M126 p q a b).sat fun r => r = intForm (Int.gcd (iv p a) (iv q b) : Nat) := by
 have ea : wordV a = (magN a.data.toList : Nat) := by unfold wordV; rw [if_pos la]
 have eb : wordV b = (magN b.data.toList : Nat) := by unfold wordV; rw [if_pos lb]
 have h1 := len8_lt la
 have h2 := len8_lt lb
 have hg : Int.gcd (iv p a) (iv q b) = Nat.gcd (magN a.data.toList) (magN b.data.toList) := by unfold Int.gcd; rw [iv_natAbs, iv_natAbs]
 rw [hg]
 simp only [M126]
 refine sat_ite (fun hb => sat_ite (fun _ => sat_need ?_ (sat_need ?_ (sat_ret ?_))) (fun h => ?_)) (fun hb => sat_ret ?_)
 ·rw [ea, eb]; simp only [u64B, Bool.and_eq_true, decide_eq_true_eq]; omega
 ·rw [ea, eb]
  simp only [Int.toNat_natCast]
  have : Nat.gcd (magN a.data.toList) (magN b.data.toList) < 18446744073709551616 := by
   rcases Nat.eq_zero_or_pos (magN a.data.toList) with h0 | h0
   ·rw [h0, Nat.gcd_zero_left]; omega
   ·have := Nat.gcd_le_left (magN b.data.toList) h0; omega
  simp only [u64B, Bool.and_eq_true, decide_eq_true_eq]; omega
 ·rw [ea, eb]
  simp only [Int.toNat_natCast]
  exact made_pos _
 ·unfold wordB at h
  rw [decide_eq_true la, decide_eq_true lb] at h
  cases h
 ·have hb : b.data.toList = [] := by simpa using hb
  rw [hb]
  show _ = intForm ((Nat.gcd (magN a.data.toList) 0 : Nat) : Int)
  rw [Nat.gcd_zero_right, ← made_pos, magB_magN _ (okI_canon ha)]
  rfl
theorem f126_ok : PureOk Tryz.prog 137 K126 := by
 refine pureOk_of_exec prog_mixed Γ126_ok (fn := Tryz.f137) (c := codeOf Tryz.f137) (by kernel_rfl) (by kernel_rfl) (callFunc_enter (fn := Tryz.f137) (c := codeOf Tryz.f137) (by kernel_rfl) (by kernel_rfl) (by kernel_rfl)) (L := L126) (N := 1010) f126_loops ?_ ?_
 ·intro args v cs h
  unfold K126 at h
  split at h
  ·cases h; rfl
  ·cases h
 ·intro args v cs h hc
  unfold K126 at h
  split at h
  ·rename_i p a q b
   cases h
   have h1 : okI p a = true := hc (okI p a) (by simp)
   have h2 : okI q b = true := hc (okI q b) (by simp)
   have h4 : a.data.toList.length ≤ 8 := dec (hc (decide (a.data.toList.length ≤ 8)) (by simp))
   have h5 : b.data.toList.length ≤ 8 := dec (hc (decide (b.data.toList.length ≤ 8)) (by simp))
   have hs := M126_sat p q a b h1 h4 h5
   rw [← M126_eq] at hs
   generalize execFn Tryz.prog Γ126 L126 1010 Tryz.f137 [.agg [.c (.v (.bool p)), .c (.v (.string a))], .agg [.c (.v (.bool q)), .c (.v (.string b))]] = T at hs ⊢
   generalize Int.gcd (iv p a) (iv q b) = z at hs ⊢
   exact Tr.sat_mono (fun r hr => ⟨by subst hr; rfl, Sees.of_eq hr⟩) hs
  ·cases h
end Go.Vse
set_option maxRecDepth 100000
namespace Go.Vse
open Go.Proofs
def w64 (z : Int) : Bool := decide (z.natAbs < 18446744073709551616)
def K125 : List AV → Option (AV × List Bool)
 | [] => some (intForm 1, [])
 | _ => none
def K187 : List AV → Option (AV × List Bool)
 | [.agg [.c (.v (.bool p)), .c (.v (.string a))], .agg [.c (.v (.bool q)), .c (.v (.string b))]] => some (ratA (Rat.divInt (iv p a) (iv q b)), [okI p a, okI q b, decide (iv q b ≠ 0), decide (a.data.toList.length ≤ 8), decide (b.data.toList.length ≤ 8)])
 | _ => none
def K186 : List AV → Option (AV × List Bool)
 | [.agg l] => some (intForm ((ratV l).den : Nat), [ratOk l])
 | _ => none
def K160 : List AV → Option (AV × List Bool)
 | [.agg l] => some (ratA (hold (-(ratV l))), [ratOk l])
 | _ => none
def K157 : List AV → Option (AV × List Bool)
 | [.agg l] => some (intA .i64 (sgn (ratV l).num 0), [ratOk l])
 | _ => none
def K103 : List AV → Option (AV × List Bool)
 | [.c (.v (.int .i64 n))] => some (ratA (n : Rat), [decide (-9223372036854775808 ≤ n), decide (n ≤ 9223372036854775807)])
 | _ => none
def Γ125 : FuncId → Option Spec := fun f => bif Nat.beq f 103 then some (pureSpec K152) else none
def Γ187 : FuncId → Option Spec := fun f => bif Nat.beq f 135 then some (pureSpec K170) else bif Nat.beq f 136 then some (pureSpec K189) else bif Nat.beq f 137 then some (pureSpec K126) else bif Nat.beq f 138 then some (pureSpec K220) else bif Nat.beq f 139 then some (pureSpec K125) else none
def Γ186 : FuncId → Option Spec := fun f => bif Nat.beq f 139 then some (pureSpec K125) else none
def Γ160 : FuncId → Option Spec := fun f => bif Nat.beq f 136 then some (pureSpec K189) else none
def Γ157 : FuncId → Option Spec := fun f => bif Nat.beq f 135 then some (pureSpec K170) else none
def Γ103 : FuncId → Option Spec := fun f => bif Nat.beq f 103 then some (pureSpec K152) else none
def M125 : Tr AV :=
 .need true (.need true (.ret (AV.agg [.c (.v (.bool false)), .c (.v (.string ⟨⟨magB (Int.natAbs 1)⟩⟩))])))
def M187 (x : Int) (y : Int) : Tr AV :=
 let x1 : ByteArray := ⟨⟨magB y.natAbs⟩⟩
 let x2 : Int := iv (decide (y < 0)) x1
 let x3 : Int := sgn x2 0
 let x4 : ByteArray := ⟨⟨magB x.natAbs⟩⟩
 let x5 : Int := iv (decide (x < 0)) x4
 let x6 : Int := -x5
 let x7 : List UInt8 := magB x6.natAbs
 let x8 : ByteArray := ⟨⟨x7⟩⟩
 let x9 : Int := -x2
 let x10 : List UInt8 := magB x9.natAbs
 let x11 : ByteArray := ⟨⟨x10⟩⟩
 let x12 : Nat := x7.length
 let x13 : Nat := x10.length
 let x14 : Int := iv (decide (x6 < 0)) x8
 let x15 : Int := iv (decide (x9 < 0)) x11
 let x16 : Int := ↑(x14.gcd x15)
 let x17 : List UInt8 := magB x16.natAbs
 let x18 : ByteArray := ⟨⟨x17⟩⟩
 let x19 : Int := iv (decide (x16 < 0)) x18
 let x20 : Nat := x17.length
 let x21 : Int := x15 / x19
 let x22 : List UInt8 := magB x21.natAbs
 let x23 : List UInt8 := magB (Int.natAbs 1)
 let x24 : Int := x14 / x19
 let x25 : List AV := [.c (.v (.bool false)), .c (.v (.string { data := #[] }))]
 let x26 : Int := ↑(x5.gcd x2)
 let x27 : List UInt8 := magB x26.natAbs
 let x28 : ByteArray := ⟨⟨x27⟩⟩
 let x29 : Int := iv (decide (x26 < 0)) x28
 let x30 : Nat := x27.length
 let x31 : Int := x2 / x29
 let x32 : List UInt8 := magB x31.natAbs
 let x33 : Int := x5 / x29
 .need (okI (decide (y < 0)) x1) (.ite (decide (x3 < 0)) (.need (okI (decide (x < 0)) x4) (.need (okI (decide (y < 0)) x1) (.need (okI (decide (x6 < 0)) x8) (.need (okI (decide (x9 < 0)) x11) (.need (decide (x12 ≤ 8)) (.need (decide (x13 ≤ 8)) (.need (okI (decide (x6 < 0)) x8) (.need (okI (decide (x16 < 0)) x18) (.need (decide (0 < x19)) (.need (decide (x12 ≤ 8)) (.need (decide (x20 ≤ 8)) (.need (okI (decide (x9 < 0)) x11) (.need (okI (decide (x16 < 0)) x18) (.need (decide (0 < x19)) (.need (decide (x13 ≤ 8)) (.need (decide (x20 ≤ 8)) (.ite (andAll [x22 == x23, decide (x21 < 0) == decide ((1 : Int) < 0)].reverse) (.ret (AV.agg (.c (.v (.bool (decide (x24 < 0)))) :: .c (.v (.string ⟨⟨magB x24.natAbs⟩⟩)) :: x25))) (.ret (AV.agg [.c (.v (.bool (decide (x24 < 0)))), .c (.v (.string ⟨⟨magB x24.natAbs⟩⟩)), .c (.v (.bool (decide (x21 < 0)))), .c (.v (.string ⟨⟨x22⟩⟩))]))))))))))))))))))) (.need (okI (decide (x < 0)) x4) (.need (okI (decide (y < 0)) x1) (.need (decide ((magB x.natAbs).length ≤ 8)) (.need (decide ((magB y.natAbs).length ≤ 8)) (.need (okI (decide (x < 0)) x4) (.need (okI (decide (x26 < 0)) x28) (.need (decide (0 < x29)) (.need (decide ((magB x.natAbs).length ≤ 8)) (.need (decide (x30 ≤ 8)) (.need (okI (decide (y < 0)) x1) (.need (okI (decide (x26 < 0)) x28) (.need (decide (0 < x29)) (.need (decide ((magB y.natAbs).length ≤ 8)) (.need (decide (x30 ≤ 8)) (.ite (andAll [x32 == x23, decide (x31 < 0) == decide ((1 : Int) < 0)].reverse) (.ret (AV.agg (.c (.v (.bool (decide (x33 < 0)))) :: .c (.v (.string ⟨⟨magB x33.natAbs⟩⟩)) :: x25))) (.ret (AV.agg [.c (.v (.bool (decide (x33 < 0)))), .c (.v (.string ⟨⟨magB x33.natAbs⟩⟩)), .c (.v (.bool (decide (x31 < 0)))), .c (.v (.string ⟨⟨x32⟩⟩))]))))))))))))))))))
def M186 (x : Rat) : Tr AV :=
 .ite (andAll [denB x.den == [], false == false].reverse) (.ret (AV.agg [.c (.v (.bool false)), .c (.v (.string ⟨⟨magB (Int.natAbs 1)⟩⟩))])) (.ret (AV.agg [.c (.v (.bool false)), .c (.v (.string ⟨⟨denB x.den⟩⟩))]))
def M160 (x : Rat) : Tr AV :=
 let x1 : ByteArray := ⟨⟨magB x.num.natAbs⟩⟩
 let x2 : Int := -iv (decide (x.num < 0)) x1
 .need (okI (decide (x.num < 0)) x1) (.ret (AV.agg [.c (.v (.bool (decide (x2 < 0)))), .c (.v (.string ⟨⟨magB x2.natAbs⟩⟩)), .c (.v (.bool false)), .c (.v (.string ⟨⟨denB x.den⟩⟩))]))
def M157 (x : Rat) : Tr AV :=
 let x1 : ByteArray := ⟨⟨magB x.num.natAbs⟩⟩
 .need (okI (decide (x.num < 0)) x1) (.ret (.c (.v (.int IntKind.i64 (sgn (iv (decide (x.num < 0)) x1) 0)))))
def M103 (n : Int) : Tr AV :=
 .need (decide (-9223372036854775808 ≤ n)) (.need (decide (n ≤ 9223372036854775807)) (.ret (AV.agg [.c (.v (.bool (decide (n < 0)))), .c (.v (.string ⟨⟨magB n.natAbs⟩⟩)), .c (.v (.bool false)), .c (.v (.string { data := #[] }))])))
theorem M125_eq : execFn Tryz.prog Γ125 noL 1010 Tryz.f139 [] = M125 := by kernel_rfl
theorem M187_eq (x y : Int) : execFn Tryz.prog Γ187 noL 1010 Tryz.f84 [intForm x, intForm y] = M187 x y := by kernel_rfl
theorem M186_eq (x : Rat) : execFn Tryz.prog Γ186 noL 1010 Tryz.f133 [.agg (ratCells x)] = M186 x := by kernel_rfl
theorem M160_eq (x : Rat) : execFn Tryz.prog Γ160 noL 1010 Tryz.f102 [.agg (ratCells x)] = M160 x := by kernel_rfl
theorem M157_eq (x : Rat) : execFn Tryz.prog Γ157 noL 1010 Tryz.f159 [.agg (ratCells x)] = M157 x := by kernel_rfl
theorem M103_eq (n : Int) : execFn Tryz.prog Γ103 noL 1010 Tryz.f60 [.c (.v (.int .i64 n))] = M103 n := by kernel_rfl
theorem nbeq {d e : Nat} (h : d ≠ e) : Nat.beq d e = false := by
 cases hh : Nat.beq d e with
 | true => exact absurd (Nat.eq_of_beq_eq_true hh) h
 | false => rfl
theorem magB_eq (a b : Nat) : (magB a == magB b) = decide (a = b) := by
 by_cases h : a = b
 ·subst h; simp
 ·rw [decide_eq_false h]
  have : magB a ≠ magB b := fun hh => h (magB_inj hh)
  simpa using this
theorem eqI_cells (a b : Int) : (andAll [magB a.natAbs == magB b.natAbs, decide (a < 0) == decide (b < 0)].reverse) = decide (a = b) := by
 show ((decide (a < 0) == decide (b < 0)) && (magB a.natAbs == magB b.natAbs)) = decide (a = b)
 rw [magB_eq]
 by_cases h : a = b
 ·subst h; simp
 ·rw [decide_eq_false h]
  by_cases h1 : a < 0 <;> by_cases h2 : b < 0 <;> simp [h1, h2] <;> omega
theorem denB_nil (d : Nat) (h : d ≠ 0) : (denB d == []) = decide (d = 1) := by
 unfold denB
 by_cases h1 : d = 1
 ·subst h1; rfl
 ·have : Nat.beq d 1 = false := nbeq h1
  rw [this, decide_eq_false h1]
  simp only [cond_false, magB_nil, decide_eq_false h]
theorem denB_eq (d e : Nat) (h : d ≠ 0) (k : e ≠ 0) : (denB d == denB e) = decide (d = e) := by
 by_cases h1 : d = e
 ·subst h1; simp
 ·rw [decide_eq_false h1]
  have : denB d ≠ denB e := by
   intro hh
   have e1 := denV_denB d h
   have e2 := denV_denB e k
   rw [hh] at e1
   exact h1 (e1.symm.trans e2)
  simpa using this
theorem M125_sat : M125.sat fun r => r = intForm 1 := sat_need rfl (sat_need rfl (sat_ret rfl))
theorem gcd_pos' (x y : Int) (h : y ≠ 0) : 0 < Int.gcd x y := Int.gcd_pos_of_ne_zero_right x h
theorem gcd_le' (x y : Int) (h : y ≠ 0) : Int.gcd x y ≤ y.natAbs := Nat.gcd_le_right _ (by omega)
theorem canon_fin (x y : Int) (hy : 0 < y) : (andAll [magB (y / (Int.gcd x y : Nat)).natAbs == magB (Int.natAbs 1), decide (y / ((Int.gcd x y : Nat) : Int) < 0) == decide ((1 : Int) < 0)].reverse = true → AV.agg [.c (.v (.bool (decide (x / ((Int.gcd x y : Nat) : Int) < 0)))), .c (.v (.string ⟨⟨magB (x / ((Int.gcd x y : Nat) : Int)).natAbs⟩⟩)), .c (.v (.bool false)), .c (.v (.string ⟨#[]⟩))] = ratA (Rat.divInt x y)) ∧
  (andAll [magB (y / (Int.gcd x y : Nat)).natAbs == magB (Int.natAbs 1), decide (y / ((Int.gcd x y : Nat) : Int) < 0) == decide ((1 : Int) < 0)].reverse = false → AV.agg [.c (.v (.bool (decide (x / ((Int.gcd x y : Nat) : Int) < 0)))), .c (.v (.string ⟨⟨magB (x / ((Int.gcd x y : Nat) : Int)).natAbs⟩⟩)), .c (.v (.bool (decide (y / ((Int.gcd x y : Nat) : Int) < 0)))), .c (.v (.string ⟨⟨magB (y / ((Int.gcd x y : Nat) : Int)).natAbs⟩⟩))] = ratA (Rat.divInt x y)) := by
 have hg := gcd_pos' x y (by omega)
 have hd : ((Int.gcd x y : Nat) : Int) ∣ y := Int.gcd_dvd_right ..
 have hq : 0 < y / ((Int.gcd x y : Nat) : Int) := Int.ediv_pos_of_pos_of_dvd hy (by omega) hd
 unfold ratA
 rw [divInt_cells x y hy]
 rw [eqI_cells]
 constructor
 ·intro h
  have h := of_decide_eq_true h
  rw [h]
  rfl
 ·intro h
  have h := of_decide_eq_false h
  have h1 : denB (y / ((Int.gcd x y : Nat) : Int)).natAbs = magB (y / ((Int.gcd x y : Nat) : Int)).natAbs := by
   unfold denB
   have : Nat.beq (y / ((Int.gcd x y : Nat) : Int)).natAbs 1 = false := by
    have : (y / ((Int.gcd x y : Nat) : Int)).natAbs ≠ 1 := by omega
    exact nbeq this
   rw [this]; rfl
  have h2 : decide (y / ((Int.gcd x y : Nat) : Int) < 0) = false := decide_eq_false (by omega)
  rw [h1, h2]
  rfl
theorem M187_sat (x y : Int) (hy : y ≠ 0) (bx : x.natAbs < 18446744073709551616) (by_ : y.natAbs < 18446744073709551616) : (M187 x y).sat fun r => r = ratA (Rat.divInt x y) := by
 have nx : (-x).natAbs = x.natAbs := Int.natAbs_neg x
 have ny : (-y).natAbs = y.natAbs := Int.natAbs_neg y
 have lx := magB_len8 bx
 have ly := magB_len8 by_
 have lx' : (magB (-x).natAbs).length ≤ 8 := by rw [nx]; exact lx
 have ly' : (magB (-y).natAbs).length ≤ 8 := by rw [ny]; exact ly
 have ng : Int.gcd (-x) (-y) = Int.gcd x y := by simp [Int.gcd]
 have gp := gcd_pos' x y hy
 have gl := gcd_le' x y hy
 have lg : (magB ((Int.gcd x y : Nat) : Int).natAbs).length ≤ 8 := magB_len8 (by rw [Int.natAbs_natCast]; omega)
 simp only [M187, iv_form, okI_form, ng]
 refine sat_need rfl (sat_ite (fun h => ?_) (fun h => ?_))
 ·have hneg : y < 0 := by
   have h := of_decide_eq_true h
   unfold sgn at h
   split at h
   ·assumption
   ·split at h <;> omega
  have e0 : Rat.divInt x y = Rat.divInt (-x) (-y) := (Rat.neg_divInt_neg x y).symm
  have hf := canon_fin (-x) (-y) (by omega)
  rw [ng] at hf
  rw [e0]
  refine sat_need rfl (sat_need rfl (sat_need rfl (sat_need rfl (sat_need (decide_eq_true lx') (sat_need (decide_eq_true ly') (sat_need rfl (sat_need rfl (sat_need (decide_eq_true (by omega)) (sat_need (decide_eq_true lx') (sat_need (decide_eq_true lg) (sat_need rfl (sat_need rfl (sat_need (decide_eq_true (by omega)) (sat_need (decide_eq_true ly') (sat_need (decide_eq_true lg) (sat_ite (fun hh => sat_ret ?_) (fun hh => sat_ret ?_)))))))))))))))))
  ·exact hf.1 hh
  ·exact hf.2 hh
 ·have hpos : 0 < y := by
   have h := of_decide_eq_false h
   unfold sgn at h
   split at h
   ·omega
   ·omega
  have hf := canon_fin x y hpos
  refine sat_need rfl (sat_need rfl (sat_need (decide_eq_true lx) (sat_need (decide_eq_true ly) (sat_need rfl (sat_need rfl (sat_need (decide_eq_true (by omega)) (sat_need (decide_eq_true lx) (sat_need (decide_eq_true lg) (sat_need rfl (sat_need rfl (sat_need (decide_eq_true (by omega)) (sat_need (decide_eq_true ly) (sat_need (decide_eq_true lg) (sat_ite (fun hh => sat_ret ?_) (fun hh => sat_ret ?_)))))))))))))))
  ·exact hf.1 hh
  ·exact hf.2 hh
theorem M186_sat (x : Rat) : (M186 x).sat fun r => r = intForm (x.den : Nat) := by
 have h0 := x.den_nz
 unfold M186
 refine sat_ite (fun h => sat_ret ?_) (fun h => sat_ret ?_)
 ·have h : (denB x.den == []) = true := by simpa [andAll] using h
  rw [denB_nil _ h0] at h
  rw [of_decide_eq_true h]
  rfl
 ·have h : (denB x.den == []) = false := by simpa [andAll] using h
  rw [denB_nil _ h0] at h
  have h := of_decide_eq_false h
  have h1 : denB x.den = magB x.den := by
   unfold denB
   have : Nat.beq x.den 1 = false := nbeq h
   rw [this]; rfl
  rw [h1]
  exact made_pos x.den
theorem M160_sat (x : Rat) : (M160 x).sat fun r => r = ratA (hold (-x)) := by
 rw [hold_eq]
 simp only [M160, iv_form, okI_form]
 refine sat_need rfl (sat_ret ?_)
 unfold ratA ratCells
 rw [Rat.neg_num, Rat.neg_den]
 rfl
theorem M157_sat (x : Rat) : (M157 x).sat fun r => r = intA .i64 (sgn x.num 0) := by
 simp only [M157, iv_form, okI_form]
 exact sat_need rfl (sat_ret rfl)
theorem M103_sat (n : Int) (h1 : -9223372036854775808 ≤ n) (h2 : n ≤ 9223372036854775807) : (M103 n).sat fun r => r = ratA (n : Rat) := sat_need (decide_eq_true h1) (sat_need (decide_eq_true h2) (sat_ret rfl))
theorem Γ125_ok : ∀ f s, Γ125 f = some s → SpecOk Tryz.prog f s := one_ok f152_ok.spec
theorem f125_ok : PureOk Tryz.prog 139 K125 := by
 refine pureOk_of_exec prog_mixed Γ125_ok (fn := Tryz.f139) (c := codeOf Tryz.f139) (by kernel_rfl) (by kernel_rfl) (callFunc_enter (fn := Tryz.f139) (c := codeOf Tryz.f139) (by kernel_rfl) (by kernel_rfl) (by kernel_rfl)) (L := noL) (N := 1010) (blocksOk_none _ _) ?_ ?_
 ·intro args v cs h
  unfold K125 at h
  split at h
  ·cases h; rfl
  ·cases h
 ·intro args v cs h hc
  unfold K125 at h
  split at h
  ·skip
   cases h
   have hs := M125_sat
   rw [← M125_eq] at hs
   generalize execFn Tryz.prog Γ125 noL 1010 Tryz.f139 [] = T at hs ⊢
   exact Tr.sat_mono (fun r hr => ⟨by subst hr; rfl, Sees.of_eq hr⟩) hs
  ·cases h
theorem Γ187_ok : ∀ f s, Γ187 f = some s → SpecOk Tryz.prog f s := step_ok f170_ok.spec (step_ok f189_ok.spec (step_ok f126_ok.spec (step_ok f220_ok.spec (one_ok f125_ok.spec))))
theorem f187_ok : PureOk Tryz.prog 84 K187 := by
 refine pureOk_of_exec prog_mixed Γ187_ok (fn := Tryz.f84) (c := codeOf Tryz.f84) (by kernel_rfl) (by kernel_rfl) (callFunc_enter (fn := Tryz.f84) (c := codeOf Tryz.f84) (by kernel_rfl) (by kernel_rfl) (by kernel_rfl)) (L := noL) (N := 1010) (blocksOk_none _ _) ?_ ?_
 ·intro args v cs h
  unfold K187 at h
  split at h
  ·cases h; rfl
  ·cases h
 ·intro args v cs h hc
  unfold K187 at h
  split at h
  ·rename_i p a q b
   cases h
   have h1 : okI p a = true := hc (okI p a) (by simp)
   have h2 : okI q b = true := hc (okI q b) (by simp)
   have h3 : iv q b ≠ 0 := dec (hc (decide (iv q b ≠ 0)) (by simp))
   have h4 : a.data.toList.length ≤ 8 := dec (hc (decide (a.data.toList.length ≤ 8)) (by simp))
   have h5 : b.data.toList.length ≤ 8 := dec (hc (decide (b.data.toList.length ≤ 8)) (by simp))
   have l1 : (iv p a).natAbs < 18446744073709551616 := by rw [iv_natAbs]; exact len8_lt h4
   have l2 : (iv q b).natAbs < 18446744073709551616 := by rw [iv_natAbs]; exact len8_lt h5
   rw [form_eq h1, form_eq h2]
   generalize iv p a = x at *
   generalize iv q b = y at *
   have hs := M187_sat x y h3 l1 l2
   rw [← M187_eq] at hs
   generalize execFn Tryz.prog Γ187 noL 1010 Tryz.f84 [intForm x, intForm y] = T at hs ⊢
   generalize Rat.divInt x y = z at hs ⊢
   exact Tr.sat_mono (fun r hr => ⟨by subst hr; rfl, Sees.of_eq hr⟩) hs
  ·cases h
theorem Γ186_ok : ∀ f s, Γ186 f = some s → SpecOk Tryz.prog f s := one_ok f125_ok.spec
theorem f186_ok : PureOk Tryz.prog 133 K186 := by
 refine pureOk_of_exec prog_mixed Γ186_ok (fn := Tryz.f133) (c := codeOf Tryz.f133) (by kernel_rfl) (by kernel_rfl) (callFunc_enter (fn := Tryz.f133) (c := codeOf Tryz.f133) (by kernel_rfl) (by kernel_rfl) (by kernel_rfl)) (L := noL) (N := 1010) (blocksOk_none _ _) ?_ ?_
 ·intro args v cs h
  unfold K186 at h
  split at h
  ·cases h; rfl
  ·cases h
 ·intro args v cs h hc
  unfold K186 at h
  split at h
  ·rename_i l
   cases h
   have h1 : ratOk l = true := hc (ratOk l) (by simp)
   obtain ⟨x, rfl⟩ : ∃ x, l = ratCells x := ⟨_, ratOk_eq h1⟩
   simp only [ratV_cells] at *
   have hs := M186_sat x
   rw [← M186_eq] at hs
   generalize execFn Tryz.prog Γ186 noL 1010 Tryz.f133 [.agg (ratCells x)] = T at hs ⊢
   exact Tr.sat_mono (fun r hr => ⟨by subst hr; rfl, Sees.of_eq hr⟩) hs
  ·cases h
theorem Γ160_ok : ∀ f s, Γ160 f = some s → SpecOk Tryz.prog f s := one_ok f189_ok.spec
theorem f160_ok : PureOk Tryz.prog 102 K160 := by
 refine pureOk_of_exec prog_mixed Γ160_ok (fn := Tryz.f102) (c := codeOf Tryz.f102) (by kernel_rfl) (by kernel_rfl) (callFunc_enter (fn := Tryz.f102) (c := codeOf Tryz.f102) (by kernel_rfl) (by kernel_rfl) (by kernel_rfl)) (L := noL) (N := 1010) (blocksOk_none _ _) ?_ ?_
 ·intro args v cs h
  unfold K160 at h
  split at h
  ·cases h; rfl
  ·cases h
 ·intro args v cs h hc
  unfold K160 at h
  split at h
  ·rename_i l
   cases h
   have h1 : ratOk l = true := hc (ratOk l) (by simp)
   obtain ⟨x, rfl⟩ : ∃ x, l = ratCells x := ⟨_, ratOk_eq h1⟩
   simp only [ratV_cells] at *
   have hs := M160_sat x
   rw [← M160_eq] at hs
   generalize execFn Tryz.prog Γ160 noL 1010 Tryz.f102 [.agg (ratCells x)] = T at hs ⊢
   generalize hold (-x) = z at hs ⊢
   exact Tr.sat_mono (fun r hr => ⟨by subst hr; rfl, Sees.of_eq hr⟩) hs
  ·cases h
theorem Γ157_ok : ∀ f s, Γ157 f = some s → SpecOk Tryz.prog f s := one_ok f170_ok.spec
theorem f157_ok : PureOk Tryz.prog 159 K157 := by
 refine pureOk_of_exec prog_mixed Γ157_ok (fn := Tryz.f159) (c := codeOf Tryz.f159) (by kernel_rfl) (by kernel_rfl) (callFunc_enter (fn := Tryz.f159) (c := codeOf Tryz.f159) (by kernel_rfl) (by kernel_rfl) (by kernel_rfl)) (L := noL) (N := 1010) (blocksOk_none _ _) ?_ ?_
 ·intro args v cs h
  unfold K157 at h
  split at h
  ·cases h; rfl
  ·cases h
 ·intro args v cs h hc
  unfold K157 at h
  split at h
  ·rename_i l
   cases h
   have h1 : ratOk l = true := hc (ratOk l) (by simp)
   obtain ⟨x, rfl⟩ : ∃ x, l = ratCells x := ⟨_, ratOk_eq h1⟩
   simp only [ratV_cells] at *
   have hs := M157_sat x
   rw [← M157_eq] at hs
   generalize execFn Tryz.prog Γ157 noL 1010 Tryz.f159 [.agg (ratCells x)] = T at hs ⊢
   generalize sgn x.num 0 = z at hs ⊢
   exact Tr.sat_mono (fun r hr => ⟨by subst hr; rfl, Sees.of_eq hr⟩) hs
  ·cases h
theorem Γ103_ok : ∀ f s, Γ103 f = some s → SpecOk Tryz.prog f s := one_ok f152_ok.spec
theorem f103_ok : PureOk Tryz.prog 60 K103 := by
 refine pureOk_of_exec prog_mixed Γ103_ok (fn := Tryz.f60) (c := codeOf Tryz.f60) (by kernel_rfl) (by kernel_rfl) (callFunc_enter (fn := Tryz.f60) (c := codeOf Tryz.f60) (by kernel_rfl) (by kernel_rfl) (by kernel_rfl)) (L := noL) (N := 1010) (blocksOk_none _ _) ?_ ?_
 ·intro args v cs h
  unfold K103 at h
  split at h
  ·cases h; rfl
  ·cases h
 ·intro args v cs h hc
  unfold K103 at h
  split at h
  ·rename_i n
   cases h
   have h1 : -9223372036854775808 ≤ n := dec (hc (decide (-9223372036854775808 ≤ n)) (by simp))
   have h2 : n ≤ 9223372036854775807 := dec (hc (decide (n ≤ 9223372036854775807)) (by simp))
   have hs := M103_sat n h1 h2
   rw [← M103_eq] at hs
   generalize execFn Tryz.prog Γ103 noL 1010 Tryz.f60 [.c (.v (.int .i64 n))] = T at hs ⊢
   generalize (n : Rat) = z at hs ⊢
   exact Tr.sat_mono (fun r hr => ⟨by subst hr; rfl, Sees.of_eq hr⟩) hs
  ·cases h
end Go.Vse
set_option maxRecDepth 100000
namespace Go.Vse
open Go.Proofs
def fit4 (x y : Rat) : Bool := w64 x.num && w64 x.den && w64 y.num && w64 y.den
def fitA (x y : Rat) : Bool := fit4 x y && w64 (x.num * y.den + y.num * x.den) && w64 (x.den * y.den)
def fitM (x y : Rat) : Bool := fit4 x y && w64 (x.num * y.num) && w64 (x.den * y.den)
def fitD (x y : Rat) : Bool := fit4 x y && w64 (x.num * y.den) && w64 (x.den * y.num)
def crs (x y : Rat) : Int × Int × Int := if x.den = y.den then (x.num, y.num, x.den) else (x.num * y.den, y.num * x.den, x.den * y.den)
def K191 : List AV → Option (AV × List Bool)
 | [.agg l, .agg m] => some (.tup [intForm (crs (ratV l) (ratV m)).1, intForm (crs (ratV l) (ratV m)).2.1, intForm (crs (ratV l) (ratV m)).2.2], [ratOk l, ratOk m, fit4 (ratV l) (ratV m)])
 | _ => none
def K162 : List AV → Option (AV × List Bool)
 | [.agg l, .agg m] => some (ratA (hold (ratV l + ratV m)), [ratOk l, ratOk m, fitA (ratV l) (ratV m)])
 | _ => none
def K156 : List AV → Option (AV × List Bool)
 | [.agg l, .agg m] => some (ratA (hold (ratV l * ratV m)), [ratOk l, ratOk m, fitM (ratV l) (ratV m)])
 | _ => none
def K154 : List AV → Option (AV × List Bool)
 | [.agg l, .agg m] => some (ratA (hold (ratV l - ratV m)), [ratOk l, ratOk m, fitA (ratV l) (-(ratV m))])
 | _ => none
def K184 : List AV → Option (AV × List Bool)
 | [.agg [.c (.v (.bool p)), .c (.v (.string a))], .agg [.c (.v (.bool q)), .c (.v (.string b))]] => some (.tup [ratA (Rat.divInt (iv p a) (iv q b)), intA .i64 0], [okI p a, okI q b, decide (iv q b ≠ 0), decide (a.data.toList.length ≤ 8), decide (b.data.toList.length ≤ 8)])
 | _ => none
def K153 : List AV → Option (AV × List Bool)
 | [.agg l, .agg m] => some (.tup [ratA (hold (ratV l / ratV m)), intA .i64 0], [ratOk l, ratOk m, fitD (ratV l) (ratV m), decide (ratV m ≠ 0)])
 | _ => none
def K190 : List AV → Option (AV × List Bool)
 | [.agg l, .agg m] => some (intA .i64 (sgn ((ratV l).num * (ratV m).den) ((ratV m).num * (ratV l).den)), [ratOk l, ratOk m, fit4 (ratV l) (ratV m)])
 | _ => none
def Γ191 : FuncId → Option Spec := fun f => bif Nat.beq f 133 then some (pureSpec K186) else bif Nat.beq f 134 then some (pureSpec K185) else none
def Γ162 : FuncId → Option Spec := fun f => bif Nat.beq f 83 then some (pureSpec K191) else bif Nat.beq f 85 then some (pureSpec K192) else bif Nat.beq f 84 then some (pureSpec K187) else none
def Γ156 : FuncId → Option Spec := fun f => bif Nat.beq f 134 then some (pureSpec K185) else bif Nat.beq f 133 then some (pureSpec K186) else bif Nat.beq f 84 then some (pureSpec K187) else none
def Γ154 : FuncId → Option Spec := fun f => bif Nat.beq f 102 then some (pureSpec K160) else bif Nat.beq f 34 then some (pureSpec K162) else none
def Γ184 : FuncId → Option Spec := fun f => bif Nat.beq f 135 then some (pureSpec K170) else bif Nat.beq f 84 then some (pureSpec K187) else none
def Γ153 : FuncId → Option Spec := fun f => bif Nat.beq f 133 then some (pureSpec K186) else bif Nat.beq f 134 then some (pureSpec K185) else bif Nat.beq f 185 then some (pureSpec K184) else none
def Γ190 : FuncId → Option Spec := fun f => bif Nat.beq f 83 then some (pureSpec K191) else bif Nat.beq f 182 then some (pureSpec K124) else none
def M191 (x : Rat) (y : Rat) : Tr AV :=
 let x1 : List UInt8 := magB x.num.natAbs
 let x2 : ByteArray := ⟨⟨x1⟩⟩
 let x3 : List AV := [.c (.v (.bool (decide (x.num < 0)))), .c (.v (.string x2)), .c (.v (.bool false)), .c (.v (.string ⟨⟨denB x.den⟩⟩))]
 let x4 : List UInt8 := magB y.num.natAbs
 let x5 : ByteArray := ⟨⟨x4⟩⟩
 let x6 : Int := ↑(ratV x3).den
 let x7 : List UInt8 := magB x6.natAbs
 let x8 : ByteArray := ⟨⟨x7⟩⟩
 let x9 : List AV := [.c (.v (.bool (decide (y.num < 0)))), .c (.v (.string x5)), .c (.v (.bool false)), .c (.v (.string ⟨⟨denB y.den⟩⟩))]
 let x10 : Int := ↑(ratV x9).den
 let x11 : List UInt8 := magB x10.natAbs
 let x12 : ByteArray := ⟨⟨x11⟩⟩
 let x13 : Nat := x11.length
 let x14 : Nat := x7.length
 let x15 : Int := iv (decide (x10 < 0)) x12
 let x16 : Int := iv (decide (x.num < 0)) x2 * x15
 let x17 : Int := iv (decide (x6 < 0)) x8
 let x18 : Int := iv (decide (y.num < 0)) x5 * x17
 .ite (andAll [denB x.den == denB y.den, false == false].reverse) (.need (ratOk x3) (.ret (AV.tup [AV.agg [.c (.v (.bool (decide (x.num < 0)))), .c (.v (.string x2))], AV.agg [.c (.v (.bool (decide (y.num < 0)))), .c (.v (.string x5))], AV.agg [.c (.v (.bool false)), .c (.v (.string x8))]]))) (.need (ratOk x9) (.need (okI (decide (x.num < 0)) x2) (.need (okI (decide (x10 < 0)) x12) (.need (decide (x1.length ≤ 100000000)) (.need (decide (x13 ≤ 100000000)) (.need (ratOk x3) (.need (okI (decide (y.num < 0)) x5) (.need (okI (decide (x6 < 0)) x8) (.need (decide (x4.length ≤ 100000000)) (.need (decide (x14 ≤ 100000000)) (.need (ratOk x3) (.need (ratOk x9) (.need (okI (decide (x6 < 0)) x8) (.need (okI (decide (x10 < 0)) x12) (.need (decide (x14 ≤ 100000000)) (.need (decide (x13 ≤ 100000000)) (.ret (AV.tup [AV.agg [.c (.v (.bool (decide (x16 < 0)))), .c (.v (.string ⟨⟨magB x16.natAbs⟩⟩))], AV.agg [.c (.v (.bool (decide (x18 < 0)))), .c (.v (.string ⟨⟨magB x18.natAbs⟩⟩))], AV.agg [.c (.v (.bool false)), .c (.v (.string ⟨⟨magB (x17 * x15).natAbs⟩⟩))]]))))))))))))))))))
def M162 (x : Rat) (y : Rat) : Tr AV :=
 let x1 : List AV := [.c (.v (.bool (decide (x.num < 0)))), .c (.v (.string ⟨⟨magB x.num.natAbs⟩⟩)), .c (.v (.bool false)), .c (.v (.string ⟨⟨denB x.den⟩⟩))]
 let x2 : List AV := [.c (.v (.bool (decide (y.num < 0)))), .c (.v (.string ⟨⟨magB y.num.natAbs⟩⟩)), .c (.v (.bool false)), .c (.v (.string ⟨⟨denB y.den⟩⟩))]
 let x3 : Int := (crs (ratV x1) (ratV x2)).fst
 let x4 : List UInt8 := magB x3.natAbs
 let x5 : ByteArray := ⟨⟨x4⟩⟩
 let x6 : Int := (crs (ratV x1) (ratV x2)).snd.fst
 let x7 : List UInt8 := magB x6.natAbs
 let x8 : ByteArray := ⟨⟨x7⟩⟩
 let x9 : Nat := x4.length
 let x10 : Nat := x7.length
 let x11 : Int := iv (decide (x3 < 0)) x5 + iv (decide (x6 < 0)) x8
 let x12 : List UInt8 := magB x11.natAbs
 let x13 : ByteArray := ⟨⟨x12⟩⟩
 let x14 : Int := (crs (ratV x1) (ratV x2)).snd.snd
 let x15 : List UInt8 := magB x14.natAbs
 let x16 : ByteArray := ⟨⟨x15⟩⟩
 let x17 : Int := iv (decide (x14 < 0)) x16
 let x18 : Nat := x12.length
 let x19 : Nat := x15.length
 let x20 : Int := (Rat.divInt (iv (decide (x11 < 0)) x13) x17).num
 .need (ratOk x1) (.need (ratOk x2) (.need (fit4 (ratV x1) (ratV x2)) (.need (okI (decide (x3 < 0)) x5) (.need (okI (decide (x6 < 0)) x8) (.need (decide (x9 ≤ 100000000)) (.need (decide (x10 ≤ 100000000)) (.need (okI (decide (x11 < 0)) x13) (.need (okI (decide (x14 < 0)) x16) (.need (decide (x17 ≠ 0)) (.need (decide (x18 ≤ 8)) (.need (decide (x19 ≤ 8)) (.ret (AV.agg [.c (.v (.bool (decide (x20 < 0)))), .c (.v (.string ⟨⟨magB x20.natAbs⟩⟩)), .c (.v (.bool false)), .c (.v (.string ⟨⟨denB (Rat.divInt (iv (decide (x11 < 0)) x13) x17).den⟩⟩))])))))))))))))
def M156 (x : Rat) (y : Rat) : Tr AV :=
 let x1 : List UInt8 := magB x.num.natAbs
 let x2 : ByteArray := ⟨⟨x1⟩⟩
 let x3 : List UInt8 := magB y.num.natAbs
 let x4 : ByteArray := ⟨⟨x3⟩⟩
 let x5 : List AV := [.c (.v (.bool (decide (x.num < 0)))), .c (.v (.string x2)), .c (.v (.bool false)), .c (.v (.string ⟨⟨denB x.den⟩⟩))]
 let x6 : List AV := [.c (.v (.bool (decide (y.num < 0)))), .c (.v (.string x4)), .c (.v (.bool false)), .c (.v (.string ⟨⟨denB y.den⟩⟩))]
 let x7 : Int := ↑(ratV x5).den
 let x8 : List UInt8 := magB x7.natAbs
 let x9 : ByteArray := ⟨⟨x8⟩⟩
 let x10 : Int := ↑(ratV x6).den
 let x11 : List UInt8 := magB x10.natAbs
 let x12 : ByteArray := ⟨⟨x11⟩⟩
 let x13 : Nat := x8.length
 let x14 : Nat := x11.length
 let x15 : Int := iv (decide (x.num < 0)) x2 * iv (decide (y.num < 0)) x4
 let x16 : List UInt8 := magB x15.natAbs
 let x17 : ByteArray := ⟨⟨x16⟩⟩
 let x18 : Int := iv (decide (x7 < 0)) x9 * iv (decide (x10 < 0)) x12
 let x19 : List UInt8 := magB x18.natAbs
 let x20 : ByteArray := ⟨⟨x19⟩⟩
 let x21 : Int := iv (decide (x18 < 0)) x20
 let x22 : Nat := x16.length
 let x23 : Nat := x19.length
 let x24 : Int := (Rat.divInt (iv (decide (x15 < 0)) x17) x21).num
 .need (okI (decide (x.num < 0)) x2) (.need (okI (decide (y.num < 0)) x4) (.need (decide (x1.length ≤ 100000000)) (.need (decide (x3.length ≤ 100000000)) (.need (ratOk x5) (.need (ratOk x6) (.need (okI (decide (x7 < 0)) x9) (.need (okI (decide (x10 < 0)) x12) (.need (decide (x13 ≤ 100000000)) (.need (decide (x14 ≤ 100000000)) (.need (okI (decide (x15 < 0)) x17) (.need (okI (decide (x18 < 0)) x20) (.need (decide (x21 ≠ 0)) (.need (decide (x22 ≤ 8)) (.need (decide (x23 ≤ 8)) (.ret (AV.agg [.c (.v (.bool (decide (x24 < 0)))), .c (.v (.string ⟨⟨magB x24.natAbs⟩⟩)), .c (.v (.bool false)), .c (.v (.string ⟨⟨denB (Rat.divInt (iv (decide (x15 < 0)) x17) x21).den⟩⟩))]))))))))))))))))
def M154 (x : Rat) (y : Rat) : Tr AV :=
 let x1 : List AV := [.c (.v (.bool (decide (y.num < 0)))), .c (.v (.string ⟨⟨magB y.num.natAbs⟩⟩)), .c (.v (.bool false)), .c (.v (.string ⟨⟨denB y.den⟩⟩))]
 let x2 : List AV := [.c (.v (.bool (decide (x.num < 0)))), .c (.v (.string ⟨⟨magB x.num.natAbs⟩⟩)), .c (.v (.bool false)), .c (.v (.string ⟨⟨denB x.den⟩⟩))]
 let x3 : Int := (hold (-ratV x1)).num
 let x4 : List AV := [.c (.v (.bool (decide (x3 < 0)))), .c (.v (.string ⟨⟨magB x3.natAbs⟩⟩)), .c (.v (.bool false)), .c (.v (.string ⟨⟨denB (hold (-ratV x1)).den⟩⟩))]
 let x5 : Int := (hold (ratV x2 + ratV x4)).num
 .need (ratOk x1) (.need (ratOk x2) (.need (ratOk x4) (.need (fitA (ratV x2) (ratV x4)) (.ret (AV.agg [.c (.v (.bool (decide (x5 < 0)))), .c (.v (.string ⟨⟨magB x5.natAbs⟩⟩)), .c (.v (.bool false)), .c (.v (.string ⟨⟨denB (hold (ratV x2 + ratV x4)).den⟩⟩))])))))
def M184 (x : Int) (y : Int) : Tr AV :=
 let x1 : ByteArray := ⟨⟨magB y.natAbs⟩⟩
 let x2 : Int := iv (decide (y < 0)) x1
 let x3 : ByteArray := ⟨⟨magB x.natAbs⟩⟩
 let x4 : Int := (Rat.divInt (iv (decide (x < 0)) x3) x2).num
 .need (okI (decide (y < 0)) x1) (.ite (sgn x2 0 == 0) (.ret (AV.tup [AV.agg [.c (.v (.bool false)), .c (.v (.string { data := #[] })), .c (.v (.bool false)), .c (.v (.string { data := #[] }))], .c (.v (.int IntKind.i64 6))])) (.need (okI (decide (x < 0)) x3) (.need (okI (decide (y < 0)) x1) (.need (decide (x2 ≠ 0)) (.need (decide ((magB x.natAbs).length ≤ 8)) (.need (decide ((magB y.natAbs).length ≤ 8)) (.ret (AV.tup [AV.agg [.c (.v (.bool (decide (x4 < 0)))), .c (.v (.string ⟨⟨magB x4.natAbs⟩⟩)), .c (.v (.bool false)), .c (.v (.string ⟨⟨denB (Rat.divInt (iv (decide (x < 0)) x3) x2).den⟩⟩))], .c (.v (.int IntKind.i64 0))]))))))))
def M153 (x : Rat) (y : Rat) : Tr AV :=
 let x1 : List UInt8 := magB y.num.natAbs
 let x2 : ByteArray := ⟨⟨x1⟩⟩
 let x3 : List AV := [.c (.v (.bool (decide (y.num < 0)))), .c (.v (.string x2)), .c (.v (.bool false)), .c (.v (.string ⟨⟨denB y.den⟩⟩))]
 let x4 : List UInt8 := magB x.num.natAbs
 let x5 : ByteArray := ⟨⟨x4⟩⟩
 let x6 : Int := ↑(ratV x3).den
 let x7 : List UInt8 := magB x6.natAbs
 let x8 : ByteArray := ⟨⟨x7⟩⟩
 let x9 : Nat := x7.length
 let x10 : List AV := [.c (.v (.bool (decide (x.num < 0)))), .c (.v (.string x5)), .c (.v (.bool false)), .c (.v (.string ⟨⟨denB x.den⟩⟩))]
 let x11 : Int := ↑(ratV x10).den
 let x12 : List UInt8 := magB x11.natAbs
 let x13 : ByteArray := ⟨⟨x12⟩⟩
 let x14 : Nat := x12.length
 let x15 : Int := iv (decide (x.num < 0)) x5 * iv (decide (x6 < 0)) x8
 let x16 : List UInt8 := magB x15.natAbs
 let x17 : ByteArray := ⟨⟨x16⟩⟩
 let x18 : Int := iv (decide (x11 < 0)) x13 * iv (decide (y.num < 0)) x2
 let x19 : List UInt8 := magB x18.natAbs
 let x20 : ByteArray := ⟨⟨x19⟩⟩
 let x21 : Int := iv (decide (x18 < 0)) x20
 let x22 : Nat := x16.length
 let x23 : Nat := x19.length
 let x24 : Int := (Rat.divInt (iv (decide (x15 < 0)) x17) x21).num
 .need (ratOk x3) (.need (okI (decide (x.num < 0)) x5) (.need (okI (decide (x6 < 0)) x8) (.need (decide (x4.length ≤ 100000000)) (.need (decide (x9 ≤ 100000000)) (.need (ratOk x10) (.need (okI (decide (x11 < 0)) x13) (.need (okI (decide (y.num < 0)) x2) (.need (decide (x14 ≤ 100000000)) (.need (decide (x1.length ≤ 100000000)) (.need (okI (decide (x15 < 0)) x17) (.need (okI (decide (x18 < 0)) x20) (.need (decide (x21 ≠ 0)) (.need (decide (x22 ≤ 8)) (.need (decide (x23 ≤ 8)) (.ret (AV.tup [AV.agg [.c (.v (.bool (decide (x24 < 0)))), .c (.v (.string ⟨⟨magB x24.natAbs⟩⟩)), .c (.v (.bool false)), .c (.v (.string ⟨⟨denB (Rat.divInt (iv (decide (x15 < 0)) x17) x21).den⟩⟩))], .c (.v (.int IntKind.i64 0))]))))))))))))))))
def M190 (x : Rat) (y : Rat) : Tr AV :=
 let x1 : List UInt8 := magB x.num.natAbs
 let x2 : List UInt8 := magB y.num.natAbs
 let x3 : List AV := [.c (.v (.bool (decide (x.num < 0)))), .c (.v (.string ⟨⟨x1⟩⟩)), .c (.v (.bool false)), .c (.v (.string ⟨⟨denB x.den⟩⟩))]
 let x4 : List AV := [.c (.v (.bool (decide (y.num < 0)))), .c (.v (.string ⟨⟨x2⟩⟩)), .c (.v (.bool false)), .c (.v (.string ⟨⟨denB y.den⟩⟩))]
 let x5 : Int := (crs (ratV x3) (ratV x4)).fst
 let x6 : ByteArray := ⟨⟨magB x5.natAbs⟩⟩
 let x7 : Int := (crs (ratV x3) (ratV x4)).snd.fst
 let x8 : ByteArray := ⟨⟨magB x7.natAbs⟩⟩
 .ite (andAll [andAll [denB x.den == denB y.den, false == false].reverse, andAll [x1 == x2, decide (x.num < 0) == decide (y.num < 0)].reverse].reverse) (.ret (.c (.v (.int IntKind.i64 0)))) (.need (ratOk x3) (.need (ratOk x4) (.need (fit4 (ratV x3) (ratV x4)) (.need (okI (decide (x5 < 0)) x6) (.need (okI (decide (x7 < 0)) x8) (.ret (.c (.v (.int IntKind.i64 (sgn (iv (decide (x5 < 0)) x6) (iv (decide (x7 < 0)) x8)))))))))))
theorem M191_eq (x y : Rat) : execFn Tryz.prog Γ191 noL 1010 Tryz.f83 [.agg (ratCells x), .agg (ratCells y)] = M191 x y := by kernel_rfl
theorem M162_eq (x y : Rat) : execFn Tryz.prog Γ162 noL 1010 Tryz.f34 [.agg (ratCells x), .agg (ratCells y)] = M162 x y := by kernel_rfl
theorem M156_eq (x y : Rat) : execFn Tryz.prog Γ156 noL 1010 Tryz.f98 [.agg (ratCells x), .agg (ratCells y)] = M156 x y := by kernel_rfl
theorem M154_eq (x y : Rat) : execFn Tryz.prog Γ154 noL 1010 Tryz.f59 [.agg (ratCells x), .agg (ratCells y)] = M154 x y := by kernel_rfl
theorem M184_eq (x y : Int) : execFn Tryz.prog Γ184 noL 1010 Tryz.f185 [intForm x, intForm y] = M184 x y := by kernel_rfl
theorem M153_eq (x y : Rat) : execFn Tryz.prog Γ153 noL 1010 Tryz.f125 [.agg (ratCells x), .agg (ratCells y)] = M153 x y := by kernel_rfl
theorem M190_eq (x y : Rat) : execFn Tryz.prog Γ190 noL 1010 Tryz.f119 [.agg (ratCells x), .agg (ratCells y)] = M190 x y := by kernel_rfl
theorem sat_true {α : Type} {t : Tr α} {Q : α → Prop} : (Tr.need true t).sat Q = t.sat Q := propext ⟨fun h => h.2 rfl, fun h => ⟨rfl, fun _ => h⟩⟩
theorem lenZ {z : Int} (h : w64 z = true) : (magB z.natAbs).length ≤ 8 := magB_len8 (of_decide_eq_true h)
theorem lenM {z : Int} (h : w64 z = true) : decide ((magB z.natAbs).length ≤ 100000000) = true := decide_eq_true (Nat.le_trans (lenZ h) (by omega))
theorem len88 {z : Int} (h : w64 z = true) : decide ((magB z.natAbs).length ≤ 8) = true := decide_eq_true (lenZ h)
theorem len16 {z : Int} (h : z.natAbs < 340282366920938463463374607431768211456) : decide ((magB z.natAbs).length ≤ 100000000) = true := decide_eq_true (Nat.le_trans (magB_len _ 16 h) (by omega))
theorem mul_lt128 {a b : Int} (h : w64 a = true) (k : w64 b = true) : (a * b).natAbs < 340282366920938463463374607431768211456 := by
 have h := of_decide_eq_true h
 have k := of_decide_eq_true k
 rw [Int.natAbs_mul]
 exact Nat.mul_lt_mul'' h k
theorem w64_128 {a : Int} (h : w64 a = true) : a.natAbs < 340282366920938463463374607431768211456 := by
 have h := of_decide_eq_true h
 omega
theorem fit4_all {x y : Rat} (h : fit4 x y = true) : w64 x.num = true ∧ w64 x.den = true ∧ w64 y.num = true ∧ w64 y.den = true := by
 simp only [fit4, Bool.and_eq_true] at h
 exact ⟨h.1.1.1, h.1.1.2, h.1.2, h.2⟩
theorem made_den (d : Nat) : AV.agg [.c (.v (.bool false)), .c (.v (.string ⟨⟨magB ((d : Nat) : Int).natAbs⟩⟩))] = intForm (d : Int) := made_pos d
theorem den_test (x y : Rat) : (andAll [denB x.den == denB y.den, false == false].reverse) = decide (x.den = y.den) := by
 rw [denB_eq _ _ x.den_nz y.den_nz]
 simp [andAll]
theorem M191_sat (x y : Rat) (h : fit4 x y = true) : (M191 x y).sat fun r => r = .tup [intForm (crs x y).1, intForm (crs x y).2.1, intForm (crs x y).2.2] := by
 obtain ⟨h1, h2, h3, h4⟩ := fit4_all h
 simp only [M191, ratV_lit, ratOk_lit, iv_form, okI_form, lenM h1, lenM h2, lenM h3, lenM h4, sat_true, den_test]
 refine sat_ite (fun hd => ?_) (fun hd => ?_) <;> simp only [sat_true] <;> refine sat_ret ?_
 ·have hd := of_decide_eq_true hd
  unfold crs
  rw [if_pos hd]
  simp only [made_den]
  rfl
 ·have hd := of_decide_eq_false hd
  unfold crs
  rw [if_neg hd]
  have e : ((x.den : Nat) : Int) * ((y.den : Nat) : Int) = ((x.den * y.den : Nat) : Int) := by simp
  simp only [e, made_den]
  rfl
theorem crs_small {x y : Rat} (h : fit4 x y = true) : (crs x y).1.natAbs < 340282366920938463463374607431768211456 ∧ (crs x y).2.1.natAbs < 340282366920938463463374607431768211456 := by
 obtain ⟨h1, h2, h3, h4⟩ := fit4_all h
 unfold crs
 split
 ·exact ⟨w64_128 h1, w64_128 h3⟩
 ·exact ⟨mul_lt128 h1 h4, mul_lt128 h3 h2⟩
theorem crs_add (x y : Rat) : Rat.divInt ((crs x y).1 + (crs x y).2.1) (crs x y).2.2 = x + y := by
 have hx := x.den_nz
 have hy := y.den_nz
 have e : x + y = Rat.divInt (x.num * y.den + y.num * x.den) (x.den * y.den : Int) := by
  rw [Rat.add_def', ← Rat.divInt_ofNat, Int.natCast_mul]
 unfold crs
 split
 ·rename_i hd
  change Rat.divInt (x.num + y.num) (x.den : Int) = x + y
  rw [e, hd]
  rw [Rat.divInt_eq_divInt_iff (by omega) (Int.mul_ne_zero (by omega) (by omega))]
  grind
 ·exact e.symm
theorem crs_den (x y : Rat) : 0 < (crs x y).2.2 := by
 have hx := x.den_pos
 have hy := y.den_pos
 unfold crs
 split
 ·simp only []; omega
 ·simp only []; exact Int.mul_pos (by omega) (by omega)
theorem crs_fit {x y : Rat} (h : fitA x y = true) : w64 ((crs x y).1 + (crs x y).2.1) = true ∧ w64 (crs x y).2.2 = true := by
 simp only [fitA, Bool.and_eq_true] at h
 obtain ⟨⟨h0, h5⟩, h6⟩ := h
 obtain ⟨h1, h2, h3, h4⟩ := fit4_all h0
 unfold crs
 split
 ·rename_i hd
  refine ⟨?_, h2⟩
  have h5 := of_decide_eq_true h5
  refine decide_eq_true ?_
  rw [hd, ← Int.add_mul, Int.natAbs_mul, Int.natAbs_natCast] at h5
  have hy := y.den_pos
  exact Nat.lt_of_le_of_lt (Nat.le_mul_of_pos_right _ hy) h5
 ·exact ⟨h5, h6⟩
theorem M162_sat (x y : Rat) (h : fitA x y = true) : (M162 x y).sat fun r => r = ratA (hold (x + y)) := by
 have h0 : fit4 x y = true := by simp only [fitA, Bool.and_eq_true] at h; exact h.1.1
 obtain ⟨b1, b2⟩ := crs_small h0
 obtain ⟨b3, b4⟩ := crs_fit h
 have hp := crs_den x y
 have hz : decide ((crs x y).2.2 ≠ 0) = true := decide_eq_true (by omega)
 simp only [M162, ratV_lit, ratOk_lit, iv_form, okI_form, h0, len16 b1, len16 b2, len88 b3, len88 b4, hz, sat_true, hold_eq, crs_add]
 exact sat_ret rfl
theorem mul_divInt (x y : Rat) : Rat.divInt (x.num * y.num) (x.den * y.den : Int) = x * y := by
 rw [Rat.mul_def', ← Rat.divInt_ofNat, Int.natCast_mul]
theorem den_mul_ne (x y : Rat) : decide (((x.den : Nat) : Int) * ((y.den : Nat) : Int) ≠ 0) = true := by
 have hx := x.den_pos
 have hy := y.den_pos
 have := Int.mul_pos (a := (x.den : Int)) (b := (y.den : Int)) (by omega) (by omega)
 exact decide_eq_true (by omega)
theorem M156_sat (x y : Rat) (h : fitM x y = true) : (M156 x y).sat fun r => r = ratA (hold (x * y)) := by
 simp only [fitM, Bool.and_eq_true] at h
 obtain ⟨⟨h0, h5⟩, h6⟩ := h
 obtain ⟨h1, h2, h3, h4⟩ := fit4_all h0
 simp only [M156, ratV_lit, ratOk_lit, iv_form, okI_form, lenM h1, lenM h2, lenM h3, lenM h4, len88 h5, len88 h6, den_mul_ne, sat_true, hold_eq, mul_divInt]
 exact sat_ret rfl
theorem M154_sat (x y : Rat) (h : fitA x (-y) = true) : (M154 x y).sat fun r => r = ratA (hold (x - y)) := by
 simp only [M154, ratV_lit, ratOk_lit, hold_eq, h, sat_true, Rat.sub_eq_add_neg]
 exact sat_ret rfl
theorem M184_sat (x y : Int) (hy : y ≠ 0) (bx : x.natAbs < 18446744073709551616) (by_ : y.natAbs < 18446744073709551616) : (M184 x y).sat fun r => r = .tup [ratA (Rat.divInt x y), intA .i64 0] := by
 have lx : decide ((magB x.natAbs).length ≤ 8) = true := decide_eq_true (magB_len8 bx)
 have ly : decide ((magB y.natAbs).length ≤ 8) = true := decide_eq_true (magB_len8 by_)
 have hz : decide (y ≠ 0) = true := decide_eq_true hy
 have hs : (sgn y 0 == 0) = false := by
  unfold sgn
  split
  ·rfl
  ·split
   ·rfl
   ·omega
 simp only [M184, iv_form, okI_form, lx, ly, hz, hs, sat_true]
 refine sat_ite (fun h => by cases h) (fun _ => ?_)
 simp only [sat_true]
 exact sat_ret rfl
theorem div_divInt (x y : Rat) : Rat.divInt (x.num * y.den) ((x.den : Int) * y.num) = x / y := by
 rw [Rat.div_def, Rat.inv_def]
 conv => rhs; rw [← Rat.num_divInt_den x]
 rw [Rat.divInt_mul_divInt]
theorem M153_sat (x y : Rat) (h : fitD x y = true) (hy : y ≠ 0) : (M153 x y).sat fun r => r = .tup [ratA (hold (x / y)), intA .i64 0] := by
 simp only [fitD, Bool.and_eq_true] at h
 obtain ⟨⟨h0, h5⟩, h6⟩ := h
 obtain ⟨h1, h2, h3, h4⟩ := fit4_all h0
 have hn : y.num ≠ 0 := fun hh => hy (Rat.num_eq_zero.1 hh)
 have hz : decide (((x.den : Nat) : Int) * y.num ≠ 0) = true := decide_eq_true (Int.mul_ne_zero (by have := x.den_nz; omega) hn)
 simp only [M153, ratV_lit, ratOk_lit, iv_form, okI_form, lenM h1, lenM h2, lenM h3, lenM h4, len88 h5, len88 h6, hz, sat_true, hold_eq, div_divInt]
 exact sat_ret rfl
theorem rat_test (x y : Rat) : (andAll [andAll [denB x.den == denB y.den, false == false].reverse, andAll [magB x.num.natAbs == magB y.num.natAbs, decide (x.num < 0) == decide (y.num < 0)].reverse].reverse) = decide (x = y) := by
 rw [den_test, eqI_cells]
 show (decide (x.num = y.num) && decide (x.den = y.den)) = decide (x = y)
 by_cases h : x = y
 ·subst h; simp
 ·rw [decide_eq_false h]
  by_cases h1 : x.num = y.num
  ·have h2 : x.den ≠ y.den := fun h2 => h (Rat.ext h1 h2)
   rw [decide_eq_false h2, Bool.and_false]
  ·rw [decide_eq_false h1, Bool.false_and]
theorem sgn_mul (a b d : Int) (h : 0 < d) : sgn (a * d) (b * d) = sgn a b := by
 have h1 : a * d < b * d ↔ a < b := Int.mul_lt_mul_right h
 have h2 : b * d < a * d ↔ b < a := Int.mul_lt_mul_right h
 simp only [sgn, gt_iff_lt, h1, h2]
theorem M190_sat (x y : Rat) (h : fit4 x y = true) : (M190 x y).sat fun r => r = intA .i64 (sgn (x.num * y.den) (y.num * x.den)) := by
 simp only [M190, ratV_lit, ratOk_lit, iv_form, okI_form, h, sat_true, rat_test]
 refine sat_ite (fun hh => sat_ret ?_) (fun _ => ?_)
 · have hh := of_decide_eq_true hh
   subst hh
   have : sgn (x.num * x.den) (x.num * x.den) = 0 := by simp [sgn]
   rw [this]; rfl
 · simp only [sat_true]
   refine sat_ret ?_
   unfold crs
   split
   · rename_i hd
     rw [hd, sgn_mul _ _ _ (by have := y.den_pos; omega)]
     rfl
   · rfl
theorem Γ191_ok : ∀ f s, Γ191 f = some s → SpecOk Tryz.prog f s := step_ok f186_ok.spec (one_ok f185_ok.spec)
theorem f191_ok : PureOk Tryz.prog 83 K191 := by
 refine pureOk_of_exec prog_mixed Γ191_ok (fn := Tryz.f83) (c := codeOf Tryz.f83) (by kernel_rfl) (by kernel_rfl) (callFunc_enter (fn := Tryz.f83) (c := codeOf Tryz.f83) (by kernel_rfl) (by kernel_rfl) (by kernel_rfl)) (L := noL) (N := 1010) (blocksOk_none _ _) ?_ ?_
 ·intro args v cs h
  unfold K191 at h
  split at h
  ·cases h; rfl
  ·cases h
 ·intro args v cs h hc
  unfold K191 at h
  split at h
  ·rename_i l m
   cases h
   have h1 : ratOk l = true := hc (ratOk l) (by simp)
   have h2 : ratOk m = true := hc (ratOk m) (by simp)
   have h3 : fit4 (ratV l) (ratV m) = true := hc (fit4 (ratV l) (ratV m)) (by simp)
   obtain ⟨x, rfl⟩ : ∃ x, l = ratCells x := ⟨_, ratOk_eq h1⟩
   obtain ⟨y, rfl⟩ : ∃ y, m = ratCells y := ⟨_, ratOk_eq h2⟩
   simp only [ratV_cells] at *
   have hs := M191_sat x y h3
   rw [← M191_eq] at hs
   generalize execFn Tryz.prog Γ191 noL 1010 Tryz.f83 [.agg (ratCells x), .agg (ratCells y)] = T at hs ⊢
   generalize crs x y = z at hs ⊢
   exact Tr.sat_mono (fun r hr => ⟨by subst hr; rfl, Sees.of_eq hr⟩) hs
  ·cases h
theorem Γ162_ok : ∀ f s, Γ162 f = some s → SpecOk Tryz.prog f s := step_ok f191_ok.spec (step_ok f192_ok.spec (one_ok f187_ok.spec))
theorem f162_ok : PureOk Tryz.prog 34 K162 := by
 refine pureOk_of_exec prog_mixed Γ162_ok (fn := Tryz.f34) (c := codeOf Tryz.f34) (by kernel_rfl) (by kernel_rfl) (callFunc_enter (fn := Tryz.f34) (c := codeOf Tryz.f34) (by kernel_rfl) (by kernel_rfl) (by kernel_rfl)) (L := noL) (N := 1010) (blocksOk_none _ _) ?_ ?_
 ·intro args v cs h
  unfold K162 at h
  split at h
  ·cases h; rfl
  ·cases h
 ·intro args v cs h hc
  unfold K162 at h
  split at h
  ·rename_i l m
   cases h
   have h1 : ratOk l = true := hc (ratOk l) (by simp)
   have h2 : ratOk m = true := hc (ratOk m) (by simp)
   have h3 : fitA (ratV l) (ratV m) = true := hc (fitA (ratV l) (ratV m)) (by simp)
   obtain ⟨x, rfl⟩ : ∃ x, l = ratCells x := ⟨_, ratOk_eq h1⟩
   obtain ⟨y, rfl⟩ : ∃ y, m = ratCells y := ⟨_, ratOk_eq h2⟩
   simp only [ratV_cells] at *
   have hs := M162_sat x y h3
   rw [← M162_eq] at hs
   generalize execFn Tryz.prog Γ162 noL 1010 Tryz.f34 [.agg (ratCells x), .agg (ratCells y)] = T at hs ⊢
   generalize hold (x + y) = z at hs ⊢
   exact Tr.sat_mono (fun r hr => ⟨by subst hr; rfl, Sees.of_eq hr⟩) hs
  ·cases h
theorem Γ156_ok : ∀ f s, Γ156 f = some s → SpecOk Tryz.prog f s := step_ok f185_ok.spec (step_ok f186_ok.spec (one_ok f187_ok.spec))
theorem f156_ok : PureOk Tryz.prog 98 K156 := by
 refine pureOk_of_exec prog_mixed Γ156_ok (fn := Tryz.f98) (c := codeOf Tryz.f98) (by kernel_rfl) (by kernel_rfl) (callFunc_enter (fn := Tryz.f98) (c := codeOf Tryz.f98) (by kernel_rfl) (by kernel_rfl) (by kernel_rfl)) (L := noL) (N := 1010) (blocksOk_none _ _) ?_ ?_
 ·intro args v cs h
  unfold K156 at h
  split at h
  ·cases h; rfl
  ·cases h
 ·intro args v cs h hc
  unfold K156 at h
  split at h
  ·rename_i l m
   cases h
   have h1 : ratOk l = true := hc (ratOk l) (by simp)
   have h2 : ratOk m = true := hc (ratOk m) (by simp)
   have h3 : fitM (ratV l) (ratV m) = true := hc (fitM (ratV l) (ratV m)) (by simp)
   obtain ⟨x, rfl⟩ : ∃ x, l = ratCells x := ⟨_, ratOk_eq h1⟩
   obtain ⟨y, rfl⟩ : ∃ y, m = ratCells y := ⟨_, ratOk_eq h2⟩
   simp only [ratV_cells] at *
   have hs := M156_sat x y h3
   rw [← M156_eq] at hs
   generalize execFn Tryz.prog Γ156 noL 1010 Tryz.f98 [.agg (ratCells x), .agg (ratCells y)] = T at hs ⊢
   generalize hold (x * y) = z at hs ⊢
   exact Tr.sat_mono (fun r hr => ⟨by subst hr; rfl, Sees.of_eq hr⟩) hs
  ·cases h
theorem Γ154_ok : ∀ f s, Γ154 f = some s → SpecOk Tryz.prog f s := step_ok f160_ok.spec (one_ok f162_ok.spec)
theorem f154_ok : PureOk Tryz.prog 59 K154 := by
 refine pureOk_of_exec prog_mixed Γ154_ok (fn := Tryz.f59) (c := codeOf Tryz.f59) (by kernel_rfl) (by kernel_rfl) (callFunc_enter (fn := Tryz.f59) (c := codeOf Tryz.f59) (by kernel_rfl) (by kernel_rfl) (by kernel_rfl)) (L := noL) (N := 1010) (blocksOk_none _ _) ?_ ?_
 ·intro args v cs h
  unfold K154 at h
  split at h
  ·cases h; rfl
  ·cases h
 ·intro args v cs h hc
  unfold K154 at h
  split at h
  ·rename_i l m
   cases h
   have h1 : ratOk l = true := hc (ratOk l) (by simp)
   have h2 : ratOk m = true := hc (ratOk m) (by simp)
   have h3 : fitA (ratV l) (-(ratV m)) = true := hc (fitA (ratV l) (-(ratV m))) (by simp)
   obtain ⟨x, rfl⟩ : ∃ x, l = ratCells x := ⟨_, ratOk_eq h1⟩
   obtain ⟨y, rfl⟩ : ∃ y, m = ratCells y := ⟨_, ratOk_eq h2⟩
   simp only [ratV_cells] at *
   have hs := M154_sat x y h3
   rw [← M154_eq] at hs
   generalize execFn Tryz.prog Γ154 noL 1010 Tryz.f59 [.agg (ratCells x), .agg (ratCells y)] = T at hs ⊢
   generalize hold (x - y) = z at hs ⊢
   exact Tr.sat_mono (fun r hr => ⟨by subst hr; rfl, Sees.of_eq hr⟩) hs
  ·cases h
theorem Γ184_ok : ∀ f s, Γ184 f = some s → SpecOk Tryz.prog f s := step_ok f170_ok.spec (one_ok f187_ok.spec)
theorem f184_ok : PureOk Tryz.prog 185 K184 := by
 refine pureOk_of_exec prog_mixed Γ184_ok (fn := Tryz.f185) (c := codeOf Tryz.f185) (by kernel_rfl) (by kernel_rfl) (callFunc_enter (fn := Tryz.f185) (c := codeOf Tryz.f185) (by kernel_rfl) (by kernel_rfl) (by kernel_rfl)) (L := noL) (N := 1010) (blocksOk_none _ _) ?_ ?_
 ·intro args v cs h
  unfold K184 at h
  split at h
  ·cases h; rfl
  ·cases h
 ·intro args v cs h hc
  unfold K184 at h
  split at h
  ·rename_i p a q b
   cases h
   have h1 : okI p a = true := hc (okI p a) (by simp)
   have h2 : okI q b = true := hc (okI q b) (by simp)
   have h3 : iv q b ≠ 0 := dec (hc (decide (iv q b ≠ 0)) (by simp))
   have h4 : a.data.toList.length ≤ 8 := dec (hc (decide (a.data.toList.length ≤ 8)) (by simp))
   have h5 : b.data.toList.length ≤ 8 := dec (hc (decide (b.data.toList.length ≤ 8)) (by simp))
   have l1 : (iv p a).natAbs < 18446744073709551616 := by rw [iv_natAbs]; exact len8_lt h4
   have l2 : (iv q b).natAbs < 18446744073709551616 := by rw [iv_natAbs]; exact len8_lt h5
   rw [form_eq h1, form_eq h2]
   generalize iv p a = x at *
   generalize iv q b = y at *
   have hs := M184_sat x y h3 l1 l2
   rw [← M184_eq] at hs
   generalize execFn Tryz.prog Γ184 noL 1010 Tryz.f185 [intForm x, intForm y] = T at hs ⊢
   generalize Rat.divInt x y = z at hs ⊢
   exact Tr.sat_mono (fun r hr => ⟨by subst hr; rfl, Sees.of_eq hr⟩) hs
  ·cases h
theorem Γ153_ok : ∀ f s, Γ153 f = some s → SpecOk Tryz.prog f s := step_ok f186_ok.spec (step_ok f185_ok.spec (one_ok f184_ok.spec))
theorem f153_ok : PureOk Tryz.prog 125 K153 := by
 refine pureOk_of_exec prog_mixed Γ153_ok (fn := Tryz.f125) (c := codeOf Tryz.f125) (by kernel_rfl) (by kernel_rfl) (callFunc_enter (fn := Tryz.f125) (c := codeOf Tryz.f125) (by kernel_rfl) (by kernel_rfl) (by kernel_rfl)) (L := noL) (N := 1010) (blocksOk_none _ _) ?_ ?_
 ·intro args v cs h
  unfold K153 at h
  split at h
  ·cases h; rfl
  ·cases h
 ·intro args v cs h hc
  unfold K153 at h
  split at h
  ·rename_i l m
   cases h
   have h1 : ratOk l = true := hc (ratOk l) (by simp)
   have h2 : ratOk m = true := hc (ratOk m) (by simp)
   have h3 : fitD (ratV l) (ratV m) = true := hc (fitD (ratV l) (ratV m)) (by simp)
   have h4 : ratV m ≠ 0 := dec (hc (decide (ratV m ≠ 0)) (by simp))
   obtain ⟨x, rfl⟩ : ∃ x, l = ratCells x := ⟨_, ratOk_eq h1⟩
   obtain ⟨y, rfl⟩ : ∃ y, m = ratCells y := ⟨_, ratOk_eq h2⟩
   simp only [ratV_cells] at *
   have hs := M153_sat x y h3 h4
   rw [← M153_eq] at hs
   generalize execFn Tryz.prog Γ153 noL 1010 Tryz.f125 [.agg (ratCells x), .agg (ratCells y)] = T at hs ⊢
   generalize hold (x / y) = z at hs ⊢
   exact Tr.sat_mono (fun r hr => ⟨by subst hr; rfl, Sees.of_eq hr⟩) hs
  ·cases h
theorem Γ190_ok : ∀ f s, Γ190 f = some s → SpecOk Tryz.prog f s := step_ok f191_ok.spec (one_ok f124_ok.spec)
theorem f190_ok : PureOk Tryz.prog 119 K190 := by
 refine pureOk_of_exec prog_mixed Γ190_ok (fn := Tryz.f119) (c := codeOf Tryz.f119) (by kernel_rfl) (by kernel_rfl) (callFunc_enter (fn := Tryz.f119) (c := codeOf Tryz.f119) (by kernel_rfl) (by kernel_rfl) (by kernel_rfl)) (L := noL) (N := 1010) (blocksOk_none _ _) ?_ ?_
 ·intro args v cs h
  unfold K190 at h
  split at h
  ·cases h; rfl
  ·cases h
 ·intro args v cs h hc
  unfold K190 at h
  split at h
  ·rename_i l m
   cases h
   have h1 : ratOk l = true := hc (ratOk l) (by simp)
   have h2 : ratOk m = true := hc (ratOk m) (by simp)
   have h3 : fit4 (ratV l) (ratV m) = true := hc (fit4 (ratV l) (ratV m)) (by simp)
   obtain ⟨x, rfl⟩ : ∃ x, l = ratCells x := ⟨_, ratOk_eq h1⟩
   obtain ⟨y, rfl⟩ : ∃ y, m = ratCells y := ⟨_, ratOk_eq h2⟩
   simp only [ratV_cells] at *
   have hs := M190_sat x y h3
   rw [← M190_eq] at hs
   generalize execFn Tryz.prog Γ190 noL 1010 Tryz.f119 [.agg (ratCells x), .agg (ratCells y)] = T at hs ⊢
   generalize sgn (x.num * y.den) (y.num * x.den) = z at hs ⊢
   exact Tr.sat_mono (fun r hr => ⟨by subst hr; rfl, Sees.of_eq hr⟩) hs
  ·cases h
end Go.Vse
set_option maxRecDepth 100000
namespace Go.Vse
open Go.Proofs
structure Q3 where
 c0 : Rat
 c1 : Rat
 c2 : Rat
structure R3 where
 p : Rat
 r : Rat
 neg : Bool
structure L4 where
 x0 : Rat
 x1 : Rat
 y0 : Rat
 y1 : Rat
def quadCells (q : Q3) : List AV := ratCells q.c0 ++ (ratCells q.c1 ++ ratCells q.c2)
def realCells (x : R3) : List AV := ratCells x.p ++ (ratCells x.r ++ [.c (.v (.bool x.neg))])
def lineCells (x : L4) : List AV := ratCells x.x0 ++ (ratCells x.x1 ++ (ratCells x.y0 ++ ratCells x.y1))
def quadA (q : Q3) : AV := .agg (quadCells q)
def realA (x : R3) : AV := .agg (realCells x)
def lineA (x : L4) : AV := .agg (lineCells x)
def boolV : List AV → Bool
 | [.c (.v (.bool b))] => b
 | _ => false
def boolOk : List AV → Bool
 | [.c (.v (.bool b))] => true
 | _ => false
def quadV (l : List AV) : Q3 := ⟨ratV (l.take 4), ratV ((l.drop 4).take 4), ratV (l.drop 8)⟩
def quadOk (l : List AV) : Bool := ratOk (l.take 4) && ratOk ((l.drop 4).take 4) && ratOk (l.drop 8)
def realV (l : List AV) : R3 := ⟨ratV (l.take 4), ratV ((l.drop 4).take 4), boolV (l.drop 8)⟩
def realOk (l : List AV) : Bool := ratOk (l.take 4) && ratOk ((l.drop 4).take 4) && boolOk (l.drop 8)
def lineV (l : List AV) : L4 := ⟨ratV (l.take 4), ratV ((l.drop 4).take 4), ratV ((l.drop 8).take 4), ratV (l.drop 12)⟩
def lineOk (l : List AV) : Bool := ratOk (l.take 4) && ratOk ((l.drop 4).take 4) && ratOk ((l.drop 8).take 4) && ratOk (l.drop 12)
theorem quadOk_eq {l : List AV} (h : quadOk l = true) : l = quadCells (quadV l) := by
 simp only [quadOk, Bool.and_eq_true] at h
 obtain ⟨⟨h1, h2⟩, h3⟩ := h
 have e1 := ratOk_eq h1
 have e2 := ratOk_eq h2
 have e3 := ratOk_eq h3
 show l = ratCells (ratV (l.take 4)) ++ (ratCells (ratV ((l.drop 4).take 4)) ++ ratCells (ratV (l.drop 8)))
 rw [← e1, ← e2, ← e3]
 have := List.take_append_drop 4 (l.drop 4)
 rw [List.drop_drop] at this
 rw [this, List.take_append_drop]
theorem realOk_eq {l : List AV} (h : realOk l = true) : l = realCells (realV l) := by
 simp only [realOk, Bool.and_eq_true] at h
 obtain ⟨⟨h1, h2⟩, h3⟩ := h
 have e1 := ratOk_eq h1
 have e2 := ratOk_eq h2
 have e3 : l.drop 8 = [.c (.v (.bool (boolV (l.drop 8))))] := by
  unfold boolOk at h3
  split at h3
  ·rename_i b hb; rw [hb]; rfl
  ·cases h3
 show l = ratCells (ratV (l.take 4)) ++ (ratCells (ratV ((l.drop 4).take 4)) ++ [.c (.v (.bool (boolV (l.drop 8))))])
 rw [← e1, ← e2, ← e3]
 have := List.take_append_drop 4 (l.drop 4)
 rw [List.drop_drop] at this
 rw [this, List.take_append_drop]
theorem lineOk_eq {l : List AV} (h : lineOk l = true) : l = lineCells (lineV l) := by
 simp only [lineOk, Bool.and_eq_true] at h
 obtain ⟨⟨⟨h1, h2⟩, h3⟩, h4⟩ := h
 have e1 := ratOk_eq h1
 have e2 := ratOk_eq h2
 have e3 := ratOk_eq h3
 have e4 := ratOk_eq h4
 show l = ratCells (ratV (l.take 4)) ++ (ratCells (ratV ((l.drop 4).take 4)) ++ (ratCells (ratV ((l.drop 8).take 4)) ++ ratCells (ratV (l.drop 12))))
 rw [← e1, ← e2, ← e3, ← e4]
 have h8 := List.take_append_drop 4 (l.drop 8)
 rw [List.drop_drop] at h8
 have := List.take_append_drop 4 (l.drop 4)
 rw [List.drop_drop] at this
 rw [h8, this, List.take_append_drop]
theorem quadV_cells (q : Q3) : quadV (quadCells q) = q := by
 show Q3.mk (ratV (ratCells q.c0)) (ratV (ratCells q.c1)) (ratV (ratCells q.c2)) = q
 rw [ratV_cells, ratV_cells, ratV_cells]
theorem realV_cells (x : R3) : realV (realCells x) = x := by
 show R3.mk (ratV (ratCells x.p)) (ratV (ratCells x.r)) x.neg = x
 rw [ratV_cells, ratV_cells]
theorem lineV_cells (x : L4) : lineV (lineCells x) = x := by
 show L4.mk (ratV (ratCells x.x0)) (ratV (ratCells x.x1)) (ratV (ratCells x.y0)) (ratV (ratCells x.y1)) = x
 rw [ratV_cells, ratV_cells, ratV_cells, ratV_cells]
section
variable (a1 a2 a3 a4 b1 b2 b3 b4 c1 c2 c3 c4 d1 d2 d3 d4 : AV)
theorem quadV_lit : quadV [a1, a2, a3, a4, b1, b2, b3, b4, c1, c2, c3, c4] = ⟨ratV [a1, a2, a3, a4], ratV [b1, b2, b3, b4], ratV [c1, c2, c3, c4]⟩ := rfl
theorem quadOk_lit : quadOk [a1, a2, a3, a4, b1, b2, b3, b4, c1, c2, c3, c4] = (ratOk [a1, a2, a3, a4] && ratOk [b1, b2, b3, b4] && ratOk [c1, c2, c3, c4]) := rfl
theorem realV_lit (b : Bool) : realV [a1, a2, a3, a4, b1, b2, b3, b4, .c (.v (.bool b))] = ⟨ratV [a1, a2, a3, a4], ratV [b1, b2, b3, b4], b⟩ := rfl
theorem realOk_lit (b : Bool) : realOk [a1, a2, a3, a4, b1, b2, b3, b4, .c (.v (.bool b))] = (ratOk [a1, a2, a3, a4] && ratOk [b1, b2, b3, b4] && true) := rfl
theorem lineV_lit : lineV [a1, a2, a3, a4, b1, b2, b3, b4, c1, c2, c3, c4, d1, d2, d3, d4] = ⟨ratV [a1, a2, a3, a4], ratV [b1, b2, b3, b4], ratV [c1, c2, c3, c4], ratV [d1, d2, d3, d4]⟩ := rfl
theorem lineOk_lit : lineOk [a1, a2, a3, a4, b1, b2, b3, b4, c1, c2, c3, c4, d1, d2, d3, d4] = (ratOk [a1, a2, a3, a4] && ratOk [b1, b2, b3, b4] && ratOk [c1, c2, c3, c4] && ratOk [d1, d2, d3, d4]) := rfl
end
def subQ (p q : Q3) : Q3 := ⟨p.c0 - q.c0, p.c1 - q.c1, p.c2 - q.c2⟩
def evalQ (q : Q3) (t : Rat) : Rat := q.c0 + t * (q.c1 + t * q.c2)
def slopeQ (q : Q3) (t : Rat) : Rat := q.c1 + (q.c2 + q.c2) * t
def fitSub (x y : Rat) : Bool := fitA x (-y)
def fitSubQ (p q : Q3) : Bool := fitSub p.c0 q.c0 && fitSub p.c1 q.c1 && fitSub p.c2 q.c2
def fitEval (q : Q3) (t : Rat) : Bool := fitM t q.c2 && fitA q.c1 (t * q.c2) && fitM t (q.c1 + t * q.c2) && fitA q.c0 (t * (q.c1 + t * q.c2))
def fitSlope (q : Q3) (t : Rat) : Bool := fitA q.c2 q.c2 && fitM (q.c2 + q.c2) t && fitA q.c1 ((q.c2 + q.c2) * t)
def mkP (p q r : Rat) : Rat := bif decide (r = 0) then p + q * 0 else p
def mkR (p q r : Rat) : Rat := bif decide (r = 0) then 0 else q * q * r
def mkN (p q r : Rat) : Bool := bif decide (r = 0) then false else decide (q.num < 0)
def fitMake (p q r : Rat) : Bool := (decide (r = 0) || decide (r = 2)) && fitM q 0 && fitA p (q * 0) && fitM q q && fitM (q * q) r
def signV (a b r : Rat) : Int :=
 let m := sgn a.num 0
 let n := sgn b.num 0 * sgn r.num 0
 if n = 0 ∨ m = n then m else if m = 0 then n else m * sgn ((a * a).num * (b * b * r).den) ((b * b * r).num * (a * a).den)
def fitSign (a b r : Rat) : Bool := fitM a a && fitM b b && fitM (b * b) r && fit4 (a * a) (b * b * r)
theorem sgn_abs (a b : Int) : sgn a b = -1 ∨ sgn a b = 0 ∨ sgn a b = 1 := by
 unfold sgn
 by_cases h : a < b
 ·rw [if_pos h]; exact .inl rfl
 ·rw [if_neg h]
  by_cases k : a > b
  ·rw [if_pos k]; exact .inr (.inr rfl)
  ·rw [if_neg k]; exact .inr (.inl rfl)
end Go.Vse
set_option maxRecDepth 100000
namespace Go.Vse
open Go.Proofs
def K278 : List AV → Option (AV × List Bool)
 | [.agg l1, .agg l2] => some (quadA ⟨hold ((quadV l1).c0 - (quadV l2).c0), hold ((quadV l1).c1 - (quadV l2).c1), hold ((quadV l1).c2 - (quadV l2).c2)⟩, [quadOk l1, quadOk l2, fitSubQ (quadV l1) (quadV l2)])
 | _ => none
def K321 : List AV → Option (AV × List Bool)
 | [.agg l1, .agg l2] => some (ratA (hold (evalQ (quadV l1) (ratV l2))), [quadOk l1, ratOk l2, fitEval (quadV l1) (ratV l2)])
 | _ => none
def K322 : List AV → Option (AV × List Bool)
 | [.agg l1, .agg l2] => some (ratA (hold (slopeQ (quadV l1) (ratV l2))), [quadOk l1, ratOk l2, fitSlope (quadV l1) (ratV l2)])
 | _ => none
def K161 : List AV → Option (AV × List Bool)
 | [.agg l1, .agg l2, .agg l3] => some (intA .i64 (signV (ratV l1) (ratV l2) (ratV l3)), [ratOk l1, ratOk l2, ratOk l3, fitSign (ratV l1) (ratV l2) (ratV l3)])
 | _ => none
def Γ278 : FuncId → Option Spec := fun f => bif Nat.beq f 59 then some (pureSpec K154) else none
def Γ321 : FuncId → Option Spec := fun f => bif Nat.beq f 98 then some (pureSpec K156) else bif Nat.beq f 34 then some (pureSpec K162) else none
def Γ322 : FuncId → Option Spec := fun f => bif Nat.beq f 98 then some (pureSpec K156) else bif Nat.beq f 34 then some (pureSpec K162) else none
def Γ161 : FuncId → Option Spec := fun f => bif Nat.beq f 159 then some (pureSpec K157) else bif Nat.beq f 98 then some (pureSpec K156) else bif Nat.beq f 119 then some (pureSpec K190) else none
def M278 (v1 : Q3) (v2 : Q3) : Tr AV :=
 let x1 : List AV := [.c (.v (.bool (decide (v1.c0.num < 0)))), .c (.v (.string ⟨⟨magB v1.c0.num.natAbs⟩⟩)), .c (.v (.bool false)), .c (.v (.string ⟨⟨denB v1.c0.den⟩⟩))]
 let x2 : List AV := [.c (.v (.bool (decide (v2.c0.num < 0)))), .c (.v (.string ⟨⟨magB v2.c0.num.natAbs⟩⟩)), .c (.v (.bool false)), .c (.v (.string ⟨⟨denB v2.c0.den⟩⟩))]
 let x3 : List AV := [.c (.v (.bool (decide (v1.c1.num < 0)))), .c (.v (.string ⟨⟨magB v1.c1.num.natAbs⟩⟩)), .c (.v (.bool false)), .c (.v (.string ⟨⟨denB v1.c1.den⟩⟩))]
 let x4 : List AV := [.c (.v (.bool (decide (v2.c1.num < 0)))), .c (.v (.string ⟨⟨magB v2.c1.num.natAbs⟩⟩)), .c (.v (.bool false)), .c (.v (.string ⟨⟨denB v2.c1.den⟩⟩))]
 let x5 : List AV := [.c (.v (.bool (decide (v1.c2.num < 0)))), .c (.v (.string ⟨⟨magB v1.c2.num.natAbs⟩⟩)), .c (.v (.bool false)), .c (.v (.string ⟨⟨denB v1.c2.den⟩⟩))]
 let x6 : List AV := [.c (.v (.bool (decide (v2.c2.num < 0)))), .c (.v (.string ⟨⟨magB v2.c2.num.natAbs⟩⟩)), .c (.v (.bool false)), .c (.v (.string ⟨⟨denB v2.c2.den⟩⟩))]
 let x7 : Int := (hold (ratV x1 - ratV x2)).num
 let x8 : Int := (hold (ratV x3 - ratV x4)).num
 let x9 : Int := (hold (ratV x5 - ratV x6)).num
 .need (ratOk x1) (.need (ratOk x2) (.need (fitA (ratV x1) (-ratV x2)) (.need (ratOk x3) (.need (ratOk x4) (.need (fitA (ratV x3) (-ratV x4)) (.need (ratOk x5) (.need (ratOk x6) (.need (fitA (ratV x5) (-ratV x6)) (.ret (AV.agg [.c (.v (.bool (decide (x7 < 0)))), .c (.v (.string ⟨⟨magB x7.natAbs⟩⟩)), .c (.v (.bool false)), .c (.v (.string ⟨⟨denB (hold (ratV x1 - ratV x2)).den⟩⟩)), .c (.v (.bool (decide (x8 < 0)))), .c (.v (.string ⟨⟨magB x8.natAbs⟩⟩)), .c (.v (.bool false)), .c (.v (.string ⟨⟨denB (hold (ratV x3 - ratV x4)).den⟩⟩)), .c (.v (.bool (decide (x9 < 0)))), .c (.v (.string ⟨⟨magB x9.natAbs⟩⟩)), .c (.v (.bool false)), .c (.v (.string ⟨⟨denB (hold (ratV x5 - ratV x6)).den⟩⟩))]))))))))))
def M321 (v1 : Q3) (v2 : Rat) : Tr AV :=
 let x1 : List AV := [.c (.v (.bool (decide (v2.num < 0)))), .c (.v (.string ⟨⟨magB v2.num.natAbs⟩⟩)), .c (.v (.bool false)), .c (.v (.string ⟨⟨denB v2.den⟩⟩))]
 let x2 : List AV := [.c (.v (.bool (decide (v1.c2.num < 0)))), .c (.v (.string ⟨⟨magB v1.c2.num.natAbs⟩⟩)), .c (.v (.bool false)), .c (.v (.string ⟨⟨denB v1.c2.den⟩⟩))]
 let x3 : List AV := [.c (.v (.bool (decide (v1.c1.num < 0)))), .c (.v (.string ⟨⟨magB v1.c1.num.natAbs⟩⟩)), .c (.v (.bool false)), .c (.v (.string ⟨⟨denB v1.c1.den⟩⟩))]
 let x4 : Int := (hold (ratV x1 * ratV x2)).num
 let x5 : List AV := [.c (.v (.bool (decide (x4 < 0)))), .c (.v (.string ⟨⟨magB x4.natAbs⟩⟩)), .c (.v (.bool false)), .c (.v (.string ⟨⟨denB (hold (ratV x1 * ratV x2)).den⟩⟩))]
 let x6 : Int := (hold (ratV x3 + ratV x5)).num
 let x7 : List AV := [.c (.v (.bool (decide (x6 < 0)))), .c (.v (.string ⟨⟨magB x6.natAbs⟩⟩)), .c (.v (.bool false)), .c (.v (.string ⟨⟨denB (hold (ratV x3 + ratV x5)).den⟩⟩))]
 let x8 : List AV := [.c (.v (.bool (decide (v1.c0.num < 0)))), .c (.v (.string ⟨⟨magB v1.c0.num.natAbs⟩⟩)), .c (.v (.bool false)), .c (.v (.string ⟨⟨denB v1.c0.den⟩⟩))]
 let x9 : Int := (hold (ratV x1 * ratV x7)).num
 let x10 : List AV := [.c (.v (.bool (decide (x9 < 0)))), .c (.v (.string ⟨⟨magB x9.natAbs⟩⟩)), .c (.v (.bool false)), .c (.v (.string ⟨⟨denB (hold (ratV x1 * ratV x7)).den⟩⟩))]
 let x11 : Int := (hold (ratV x8 + ratV x10)).num
 .need (ratOk x1) (.need (ratOk x2) (.need (fitM (ratV x1) (ratV x2)) (.need (ratOk x3) (.need (ratOk x5) (.need (fitA (ratV x3) (ratV x5)) (.need (ratOk x1) (.need (ratOk x7) (.need (fitM (ratV x1) (ratV x7)) (.need (ratOk x8) (.need (ratOk x10) (.need (fitA (ratV x8) (ratV x10)) (.ret (AV.agg [.c (.v (.bool (decide (x11 < 0)))), .c (.v (.string ⟨⟨magB x11.natAbs⟩⟩)), .c (.v (.bool false)), .c (.v (.string ⟨⟨denB (hold (ratV x8 + ratV x10)).den⟩⟩))])))))))))))))
def M322 (v1 : Q3) (v2 : Rat) : Tr AV :=
 let x1 : List AV := [.c (.v (.bool (decide (v1.c2.num < 0)))), .c (.v (.string ⟨⟨magB v1.c2.num.natAbs⟩⟩)), .c (.v (.bool false)), .c (.v (.string ⟨⟨denB v1.c2.den⟩⟩))]
 let x2 : Int := (hold (ratV x1 + ratV x1)).num
 let x3 : List AV := [.c (.v (.bool (decide (x2 < 0)))), .c (.v (.string ⟨⟨magB x2.natAbs⟩⟩)), .c (.v (.bool false)), .c (.v (.string ⟨⟨denB (hold (ratV x1 + ratV x1)).den⟩⟩))]
 let x4 : List AV := [.c (.v (.bool (decide (v2.num < 0)))), .c (.v (.string ⟨⟨magB v2.num.natAbs⟩⟩)), .c (.v (.bool false)), .c (.v (.string ⟨⟨denB v2.den⟩⟩))]
 let x5 : List AV := [.c (.v (.bool (decide (v1.c1.num < 0)))), .c (.v (.string ⟨⟨magB v1.c1.num.natAbs⟩⟩)), .c (.v (.bool false)), .c (.v (.string ⟨⟨denB v1.c1.den⟩⟩))]
 let x6 : Int := (hold (ratV x3 * ratV x4)).num
 let x7 : List AV := [.c (.v (.bool (decide (x6 < 0)))), .c (.v (.string ⟨⟨magB x6.natAbs⟩⟩)), .c (.v (.bool false)), .c (.v (.string ⟨⟨denB (hold (ratV x3 * ratV x4)).den⟩⟩))]
 let x8 : Int := (hold (ratV x5 + ratV x7)).num
 .need (ratOk x1) (.need (ratOk x1) (.need (fitA (ratV x1) (ratV x1)) (.need (ratOk x3) (.need (ratOk x4) (.need (fitM (ratV x3) (ratV x4)) (.need (ratOk x5) (.need (ratOk x7) (.need (fitA (ratV x5) (ratV x7)) (.ret (AV.agg [.c (.v (.bool (decide (x8 < 0)))), .c (.v (.string ⟨⟨magB x8.natAbs⟩⟩)), .c (.v (.bool false)), .c (.v (.string ⟨⟨denB (hold (ratV x5 + ratV x7)).den⟩⟩))]))))))))))
def M161 (v1 : Rat) (v2 : Rat) (v3 : Rat) : Tr AV :=
 let x1 : List AV := [.c (.v (.bool (decide (v1.num < 0)))), .c (.v (.string ⟨⟨magB v1.num.natAbs⟩⟩)), .c (.v (.bool false)), .c (.v (.string ⟨⟨denB v1.den⟩⟩))]
 let x2 : List AV := [.c (.v (.bool (decide (v2.num < 0)))), .c (.v (.string ⟨⟨magB v2.num.natAbs⟩⟩)), .c (.v (.bool false)), .c (.v (.string ⟨⟨denB v2.den⟩⟩))]
 let x3 : List AV := [.c (.v (.bool (decide (v3.num < 0)))), .c (.v (.string ⟨⟨magB v3.num.natAbs⟩⟩)), .c (.v (.bool false)), .c (.v (.string ⟨⟨denB v3.den⟩⟩))]
 let x4 : Int := IntKind.i64.wrap (sgn (ratV x2).num 0 * sgn (ratV x3).num 0)
 let x5 : Int := sgn (ratV x1).num 0
 let x6 : Int := (hold (ratV x2 * ratV x2)).num
 let x7 : List AV := [.c (.v (.bool (decide (x6 < 0)))), .c (.v (.string ⟨⟨magB x6.natAbs⟩⟩)), .c (.v (.bool false)), .c (.v (.string ⟨⟨denB (hold (ratV x2 * ratV x2)).den⟩⟩))]
 let x8 : Int := (hold (ratV x1 * ratV x1)).num
 let x9 : List AV := [.c (.v (.bool (decide (x8 < 0)))), .c (.v (.string ⟨⟨magB x8.natAbs⟩⟩)), .c (.v (.bool false)), .c (.v (.string ⟨⟨denB (hold (ratV x1 * ratV x1)).den⟩⟩))]
 let x10 : Int := (hold (ratV x7 * ratV x3)).num
 let x11 : List AV := [.c (.v (.bool (decide (x10 < 0)))), .c (.v (.string ⟨⟨magB x10.natAbs⟩⟩)), .c (.v (.bool false)), .c (.v (.string ⟨⟨denB (hold (ratV x7 * ratV x3)).den⟩⟩))]
 .need (ratOk x1) (.need (ratOk x2) (.need (ratOk x3) (.need (bif x4 == 0 then true else true) (.ite (bif x4 == 0 then true else bif false then true else x5 == x4) (.ret (.c (.v (.int IntKind.i64 x5)))) (.ite (x5 == 0) (.ret (.c (.v (.int IntKind.i64 x4)))) (.need (ratOk x1) (.need (ratOk x1) (.need (fitM (ratV x1) (ratV x1)) (.need (ratOk x2) (.need (ratOk x2) (.need (fitM (ratV x2) (ratV x2)) (.need (ratOk x7) (.need (ratOk x3) (.need (fitM (ratV x7) (ratV x3)) (.need (ratOk x9) (.need (ratOk x11) (.need (fit4 (ratV x9) (ratV x11)) (.ret (.c (.v (.int IntKind.i64 (IntKind.i64.wrap (x5 * sgn ((ratV x9).num * ↑(ratV x11).den) ((ratV x11).num * ↑(ratV x9).den))))))))))))))))))))))))
theorem M278_eq (v1 : Q3) (v2 : Q3) : execFn Tryz.prog Γ278 noL 1010 Tryz.f167 [.agg (quadCells v1), .agg (quadCells v2)] = M278 v1 v2 := by kernel_rfl
theorem M321_eq (v1 : Q3) (v2 : Rat) : execFn Tryz.prog Γ321 noL 1010 Tryz.f51 [.agg (quadCells v1), .agg (ratCells v2)] = M321 v1 v2 := by kernel_rfl
theorem M322_eq (v1 : Q3) (v2 : Rat) : execFn Tryz.prog Γ322 noL 1010 Tryz.f216 [.agg (quadCells v1), .agg (ratCells v2)] = M322 v1 v2 := by kernel_rfl
theorem M161_eq (v1 : Rat) (v2 : Rat) (v3 : Rat) : execFn Tryz.prog Γ161 noL 1010 Tryz.f158 [.agg (ratCells v1), .agg (ratCells v2), .agg (ratCells v3)] = M161 v1 v2 v3 := by kernel_rfl
theorem M278_sat (v1 : Q3) (v2 : Q3) (c1 : fitSubQ v1 v2 = true) : (M278 v1 v2).sat fun r => r = quadA ⟨hold (v1.c0 - v2.c0), hold (v1.c1 - v2.c1), hold (v1.c2 - v2.c2)⟩ := by
 simp only [fitSubQ, fitSub, Bool.and_eq_true] at c1
 simp only [M278, ratV_lit, ratOk_lit, quadV_lit, quadOk_lit, realV_lit, realOk_lit, lineV_lit, lineOk_lit, ratV_int, ratOk_int, ratV_zero, ratOk_zero, hold_eq, Bool.and_self, sat_true, c1]
 exact sat_ret rfl
theorem M321_sat (v1 : Q3) (v2 : Rat) (c1 : fitEval v1 v2 = true) : (M321 v1 v2).sat fun r => r = ratA (hold (evalQ v1 v2)) := by
 simp only [fitEval, Bool.and_eq_true] at c1
 simp only [M321, ratV_lit, ratOk_lit, quadV_lit, quadOk_lit, realV_lit, realOk_lit, lineV_lit, lineOk_lit, ratV_int, ratOk_int, ratV_zero, ratOk_zero, hold_eq, Bool.and_self, sat_true, c1]
 exact sat_ret rfl
theorem M322_sat (v1 : Q3) (v2 : Rat) (c1 : fitSlope v1 v2 = true) : (M322 v1 v2).sat fun r => r = ratA (hold (slopeQ v1 v2)) := by
 simp only [fitSlope, Bool.and_eq_true] at c1
 simp only [M322, ratV_lit, ratOk_lit, quadV_lit, quadOk_lit, realV_lit, realOk_lit, lineV_lit, lineOk_lit, ratV_int, ratOk_int, ratV_zero, ratOk_zero, hold_eq, Bool.and_self, sat_true, c1]
 exact sat_ret rfl
theorem M161_sat (v1 : Rat) (v2 : Rat) (v3 : Rat) (c1 : fitSign v1 v2 v3 = true) : (M161 v1 v2 v3).sat fun r => r = intA .i64 (signV v1 v2 v3) := by
 simp only [fitSign, Bool.and_eq_true] at c1
 have hw : IntKind.i64.wrap (sgn v2.num 0 * sgn v3.num 0) = sgn v2.num 0 * sgn v3.num 0 := by
   rcases sgn_abs v2.num 0 with h | h | h <;> rcases sgn_abs v3.num 0 with k | k | k <;> rw [h, k] <;> rfl
 have hw2 : ∀ a b : Int, IntKind.i64.wrap (sgn v1.num 0 * sgn a b) = sgn v1.num 0 * sgn a b := by
   intro a b
   rcases sgn_abs v1.num 0 with h | h | h <;> rcases sgn_abs a b with k | k | k <;> rw [h, k] <;> rfl
 simp only [M161, ratV_lit, ratOk_lit, quadV_lit, quadOk_lit, realV_lit, realOk_lit, lineV_lit, lineOk_lit, ratV_int, ratOk_int, ratV_zero, ratOk_zero, hold_eq, Bool.and_self, sat_true, c1, hw, hw2]
 have hs : ∀ z : Int, z = signV v1 v2 v3 → AV.c (.v (.int .i64 z)) = intA .i64 (signV v1 v2 v3) := fun z hz => by rw [hz]; rfl
 refine sat_need (by cases (sgn v2.num 0 * sgn v3.num 0 == 0) <;> rfl) (sat_ite (fun h => sat_ret (hs _ ?_)) (fun h => sat_ite (fun k => sat_ret (hs _ ?_)) (fun k => ?_)))
 · unfold signV
   simp only []
   rw [if_pos]
   cases h0 : (sgn v2.num 0 * sgn v3.num 0 == 0) with
   | true => exact .inl (eq_of_beq h0)
   | false => rw [h0] at h; exact .inr (eq_of_beq h)
 · unfold signV
   simp only []
   cases h0 : (sgn v2.num 0 * sgn v3.num 0 == 0) with
   | true => rw [h0] at h; cases h
   | false =>
     rw [h0] at h
     have h1 : ¬ (sgn v2.num 0 * sgn v3.num 0 = 0 ∨ sgn v1.num 0 = sgn v2.num 0 * sgn v3.num 0) := by
       rintro (h1 | h1)
       · rw [h1] at h0; cases h0
       · have : (sgn v1.num 0 == sgn v2.num 0 * sgn v3.num 0) = true := by rw [h1]; simp
         rw [this] at h; cases h
     rw [if_neg h1, if_pos (eq_of_beq k)]
 · simp only [sat_true]
   refine sat_ret (hs _ ?_)
   unfold signV
   simp only []
   cases h0 : (sgn v2.num 0 * sgn v3.num 0 == 0) with
   | true => rw [h0] at h; cases h
   | false =>
     rw [h0] at h
     have h1 : ¬ (sgn v2.num 0 * sgn v3.num 0 = 0 ∨ sgn v1.num 0 = sgn v2.num 0 * sgn v3.num 0) := by
       rintro (h1 | h1)
       · rw [h1] at h0; cases h0
       · have : (sgn v1.num 0 == sgn v2.num 0 * sgn v3.num 0) = true := by rw [h1]; simp
         rw [this] at h; cases h
     have k1 : ¬ sgn v1.num 0 = 0 := by
       intro hh
       rw [hh] at k; cases k
     rw [if_neg h1, if_neg k1]
theorem Γ278_ok : ∀ f s, Γ278 f = some s → SpecOk Tryz.prog f s := one_ok f154_ok.spec
theorem f278_ok : PureOk Tryz.prog 167 K278 := by
 refine pureOk_of_exec prog_mixed Γ278_ok (fn := Tryz.f167) (c := codeOf Tryz.f167) (by kernel_rfl) (by kernel_rfl) (callFunc_enter (fn := Tryz.f167) (c := codeOf Tryz.f167) (by kernel_rfl) (by kernel_rfl) (by kernel_rfl)) (L := noL) (N := 1010) (blocksOk_none _ _) ?_ ?_
 ·intro args v cs h
  unfold K278 at h
  split at h
  ·cases h; rfl
  ·cases h
 ·intro args v cs h hc
  unfold K278 at h
  split at h
  ·rename_i l1 l2
   cases h
   have h1 : quadOk l1 = true := hc (quadOk l1) (by simp)
   have h2 : quadOk l2 = true := hc (quadOk l2) (by simp)
   have c1 : fitSubQ (quadV l1) (quadV l2) = true := hc (fitSubQ (quadV l1) (quadV l2)) (by simp)
   obtain ⟨v1, rfl⟩ : ∃ x, l1 = quadCells x := ⟨_, quadOk_eq h1⟩
   obtain ⟨v2, rfl⟩ : ∃ x, l2 = quadCells x := ⟨_, quadOk_eq h2⟩
   simp only [quadV_cells] at *
   have hs := M278_sat v1 v2 c1
   rw [← M278_eq] at hs
   generalize execFn Tryz.prog Γ278 noL 1010 Tryz.f167 [.agg (quadCells v1), .agg (quadCells v2)] = T at hs ⊢
   generalize hold (v1.c0 - v2.c0) = z0 at hs ⊢
   generalize hold (v1.c1 - v2.c1) = z1 at hs ⊢
   generalize hold (v1.c2 - v2.c2) = z2 at hs ⊢
   exact Tr.sat_mono (fun r hr => ⟨by subst hr; rfl, Sees.of_eq hr⟩) hs
  ·cases h
theorem Γ321_ok : ∀ f s, Γ321 f = some s → SpecOk Tryz.prog f s := step_ok f156_ok.spec (one_ok f162_ok.spec)
theorem f321_ok : PureOk Tryz.prog 51 K321 := by
 refine pureOk_of_exec prog_mixed Γ321_ok (fn := Tryz.f51) (c := codeOf Tryz.f51) (by kernel_rfl) (by kernel_rfl) (callFunc_enter (fn := Tryz.f51) (c := codeOf Tryz.f51) (by kernel_rfl) (by kernel_rfl) (by kernel_rfl)) (L := noL) (N := 1010) (blocksOk_none _ _) ?_ ?_
 ·intro args v cs h
  unfold K321 at h
  split at h
  ·cases h; rfl
  ·cases h
 ·intro args v cs h hc
  unfold K321 at h
  split at h
  ·rename_i l1 l2
   cases h
   have h1 : quadOk l1 = true := hc (quadOk l1) (by simp)
   have h2 : ratOk l2 = true := hc (ratOk l2) (by simp)
   have c1 : fitEval (quadV l1) (ratV l2) = true := hc (fitEval (quadV l1) (ratV l2)) (by simp)
   obtain ⟨v1, rfl⟩ : ∃ x, l1 = quadCells x := ⟨_, quadOk_eq h1⟩
   obtain ⟨v2, rfl⟩ : ∃ x, l2 = ratCells x := ⟨_, ratOk_eq h2⟩
   simp only [quadV_cells, ratV_cells] at *
   have hs := M321_sat v1 v2 c1
   rw [← M321_eq] at hs
   generalize execFn Tryz.prog Γ321 noL 1010 Tryz.f51 [.agg (quadCells v1), .agg (ratCells v2)] = T at hs ⊢
   generalize hold (evalQ v1 v2) = z at hs ⊢
   exact Tr.sat_mono (fun r hr => ⟨by subst hr; rfl, Sees.of_eq hr⟩) hs
  ·cases h
theorem Γ322_ok : ∀ f s, Γ322 f = some s → SpecOk Tryz.prog f s := step_ok f156_ok.spec (one_ok f162_ok.spec)
theorem f322_ok : PureOk Tryz.prog 216 K322 := by
 refine pureOk_of_exec prog_mixed Γ322_ok (fn := Tryz.f216) (c := codeOf Tryz.f216) (by kernel_rfl) (by kernel_rfl) (callFunc_enter (fn := Tryz.f216) (c := codeOf Tryz.f216) (by kernel_rfl) (by kernel_rfl) (by kernel_rfl)) (L := noL) (N := 1010) (blocksOk_none _ _) ?_ ?_
 ·intro args v cs h
  unfold K322 at h
  split at h
  ·cases h; rfl
  ·cases h
 ·intro args v cs h hc
  unfold K322 at h
  split at h
  ·rename_i l1 l2
   cases h
   have h1 : quadOk l1 = true := hc (quadOk l1) (by simp)
   have h2 : ratOk l2 = true := hc (ratOk l2) (by simp)
   have c1 : fitSlope (quadV l1) (ratV l2) = true := hc (fitSlope (quadV l1) (ratV l2)) (by simp)
   obtain ⟨v1, rfl⟩ : ∃ x, l1 = quadCells x := ⟨_, quadOk_eq h1⟩
   obtain ⟨v2, rfl⟩ : ∃ x, l2 = ratCells x := ⟨_, ratOk_eq h2⟩
   simp only [quadV_cells, ratV_cells] at *
   have hs := M322_sat v1 v2 c1
   rw [← M322_eq] at hs
   generalize execFn Tryz.prog Γ322 noL 1010 Tryz.f216 [.agg (quadCells v1), .agg (ratCells v2)] = T at hs ⊢
   generalize hold (slopeQ v1 v2) = z at hs ⊢
   exact Tr.sat_mono (fun r hr => ⟨by subst hr; rfl, Sees.of_eq hr⟩) hs
  ·cases h
theorem Γ161_ok : ∀ f s, Γ161 f = some s → SpecOk Tryz.prog f s := step_ok f157_ok.spec (step_ok f156_ok.spec (one_ok f190_ok.spec))
theorem f161_ok : PureOk Tryz.prog 158 K161 := by
 refine pureOk_of_exec prog_mixed Γ161_ok (fn := Tryz.f158) (c := codeOf Tryz.f158) (by kernel_rfl) (by kernel_rfl) (callFunc_enter (fn := Tryz.f158) (c := codeOf Tryz.f158) (by kernel_rfl) (by kernel_rfl) (by kernel_rfl)) (L := noL) (N := 1010) (blocksOk_none _ _) ?_ ?_
 ·intro args v cs h
  unfold K161 at h
  split at h
  ·cases h; rfl
  ·cases h
 ·intro args v cs h hc
  unfold K161 at h
  split at h
  ·rename_i l1 l2 l3
   cases h
   have h1 : ratOk l1 = true := hc (ratOk l1) (by simp)
   have h2 : ratOk l2 = true := hc (ratOk l2) (by simp)
   have h3 : ratOk l3 = true := hc (ratOk l3) (by simp)
   have c1 : fitSign (ratV l1) (ratV l2) (ratV l3) = true := hc (fitSign (ratV l1) (ratV l2) (ratV l3)) (by simp)
   obtain ⟨v1, rfl⟩ : ∃ x, l1 = ratCells x := ⟨_, ratOk_eq h1⟩
   obtain ⟨v2, rfl⟩ : ∃ x, l2 = ratCells x := ⟨_, ratOk_eq h2⟩
   obtain ⟨v3, rfl⟩ : ∃ x, l3 = ratCells x := ⟨_, ratOk_eq h3⟩
   simp only [ratV_cells] at *
   have hs := M161_sat v1 v2 v3 c1
   rw [← M161_eq] at hs
   generalize execFn Tryz.prog Γ161 noL 1010 Tryz.f158 [.agg (ratCells v1), .agg (ratCells v2), .agg (ratCells v3)] = T at hs ⊢
   generalize signV v1 v2 v3 = z at hs ⊢
   exact Tr.sat_mono (fun r hr => ⟨by subst hr; rfl, Sees.of_eq hr⟩) hs
  ·cases h
end Go.Vse
namespace Go.Vse
open Go.RowKit
def concMemF (P : Program) (Γ : FuncId → Option Spec) (N : Nat) (fn : Func) : MSpec := fun ents args => (execM P Γ noL N false fn ents args).run
def concS2 (P : Program) (Γ : FuncId → Option Spec) (N : Nat) (ms : Bool) (fn : Func) : Spec := bif ms then memSpec (concMemF P Γ N fn) else concS P Γ N fn
def concΓ2 (P : Program) (base : FuncId → Option Spec) (ms : FuncId → Bool) (N : Nat) : Nat → FuncId → Option Spec
 | 0 => base
 | d + 1 => fun f =>
  match base f with
  | some s => some s
  | none =>
   match P.funcs[f]? with
   | some fn =>
    match fn.body with
    | some _ => bif okName fn then some (concS2 P (concΓ2 P base ms N d) N (ms f) fn) else none
    | none => none
   | none => none
section
variable {P : Program} {Γ : FuncId → Option Spec} {N : Nat}
theorem concMemF_ok (hm : P.follows .mixedOrders = true) (hΓ : ∀ f s, Γ f = some s → SpecOk P f s) {f : FuncId} {fn : Func} {c : Code} (hf : P.funcs[f]? = some fn) (hb : fn.body = some c) (hn : okName fn = true) : MemOk P f (concMemF P Γ N fn) := by
 refine memOk_of_exec (L := fun _ => noL) hm hΓ hf hb (callFunc_enter hf hb hn) (N := N) (frz := false) (fun ents args o _ => blocksOk_none ents.length c) fun ents args o h _ => ?_
 refine Tr.sat_mono ?_ (Tr.run_sat h)
 rintro r rfl
 exact ⟨Sees.refl _, EntsEqv.refl _⟩
theorem concS2_ok (hm : P.follows .mixedOrders = true) (hΓ : ∀ f s, Γ f = some s → SpecOk P f s) {f : FuncId} {fn : Func} {c : Code} (hf : P.funcs[f]? = some fn) (hb : fn.body = some c) (hn : okName fn = true) (ms : Bool) : SpecOk P f (concS2 P Γ N ms fn) := by
 cases ms with
 | true => exact (concMemF_ok hm hΓ hf hb hn).spec
 | false => exact concS_ok hm hΓ hf hb hn
theorem concΓ2_ok (hm : P.follows .mixedOrders = true) {base : FuncId → Option Spec} {ms : FuncId → Bool} (hΓ : ∀ f s, base f = some s → SpecOk P f s) : ∀ (d : Nat) (f : FuncId) (s : Spec), concΓ2 P base ms N d f = some s → SpecOk P f s
 | 0, f, s, h => hΓ f s h
 | d + 1, f, s, h => by
  unfold concΓ2 at h
  split at h
  ·rename_i s' hs'
   cases h
   exact hΓ f _ hs'
  ·split at h
   ·rename_i fn hf
    split at h
    ·rename_i c hb
     cases hn : okName fn with
     | false => rw [hn] at h; cases h
     | true =>
      rw [hn] at h
      simp only [cond_true, Option.some.injEq] at h
      subst h
      exact concS2_ok hm (concΓ2_ok hm hΓ d) hf hb hn _
    ·cases h
   ·cases h
end
end Go.Vse
set_option maxRecDepth 100000
namespace Go.Vse
open Go.Proofs
def Γb : FuncId → Option Spec := fun f => bif Nat.beq f 261 then some (pureSpec cmpPure) else bif Nat.beq f 192 then some (pureSpec addPure) else none
theorem Γb_ok : ∀ f s, Γb f = some s → SpecOk Tryz.prog f s := step_ok (cmp_ok cmp_ext).spec (one_ok (add_ok add_ext).spec)
def litZ : List AV := [.c (.v (.bool false)), .c (.v (.string ⟨⟨[]⟩⟩)), .c (.v (.bool false)), .c (.v (.string ⟨⟨[]⟩⟩))]
def litB (c : UInt8) : List AV := [.c (.v (.bool false)), .c (.v (.string ⟨⟨[c]⟩⟩)), .c (.v (.bool false)), .c (.v (.string ⟨⟨[]⟩⟩))]
theorem root0 : concPure Tryz.prog (concΓ Tryz.prog Γb 70 14) 70 Tryz.f204 [.agg litZ] = some (.tup [.agg litZ, boolA true], []) := by kernel_rfl
theorem root2 : concPure Tryz.prog (concΓ Tryz.prog Γb 70 14) 70 Tryz.f204 [.agg (litB 2)] = some (.tup [.agg litZ, boolA false], []) := by kernel_rfl
end Go.Vse
set_option maxRecDepth 100000
namespace Go.Vse
open Go.Proofs
def facV (b : Bool) : Rat := bif b then -1 else 1
def byQ (q : Q3) (t : R3) : Rat := bif t.neg then -(slopeQ q t.p) else slopeQ q t.p
def baseQ (q : Q3) (t : R3) : Rat := evalQ q t.p + q.c2 * t.r
def fitAt (q : Q3) (t : R3) : Bool := fitEval q t.p && fitM q.c2 t.r && fitA (evalQ q t.p) (q.c2 * t.r) && fitSlope q t.p && fitMake (baseQ q t) (byQ q t) t.r
def atP (q : Q3) (t : R3) : Rat := mkP (baseQ q t) (byQ q t) t.r
def atR (q : Q3) (t : R3) : Rat := mkR (baseQ q t) (byQ q t) t.r
def atN (q : Q3) (t : R3) : Bool := mkN (baseQ q t) (byQ q t) t.r
def red0 (q : Q3) (t : R3) : Rat := bif decide (t.r = 0) then evalQ q t.p else q.c0 + q.c2 * (t.r - t.p * t.p)
def red1 (q : Q3) (t : R3) : Rat := bif decide (t.r = 0) then 0 else slopeQ q t.p
def fitRed (q : Q3) (t : R3) : Bool := bif decide (t.r = 0) then fitEval q t.p else fitM t.p t.p && fitSub t.r (t.p * t.p) && fitM q.c2 (t.r - t.p * t.p) && fitA q.c0 (q.c2 * (t.r - t.p * t.p)) && fitSlope q t.p
def slopeB (t v u w : Rat) : Rat := (w - v) / (u - t)
def fitBet (t v u w : Rat) : Bool := fitSub w v && fitSub u t && fitD (w - v) (u - t) && decide (u - t ≠ 0) && fitM (slopeB t v u w) t && fitSub v (slopeB t v u w * t)
theorem ratV_zero' : ratV [.c (.v (.bool false)), .c (.v (.string ⟨⟨[]⟩⟩)), .c (.v (.bool false)), .c (.v (.string ⟨⟨[]⟩⟩))] = 0 := ratV_zero
theorem ratOk_zero' : ratOk [.c (.v (.bool false)), .c (.v (.string ⟨⟨[]⟩⟩)), .c (.v (.bool false)), .c (.v (.string ⟨⟨[]⟩⟩))] = true := ratOk_zero
theorem sgn_lt (n : Int) : decide (sgn n 0 < 0) = decide (n < 0) := by
 unfold sgn
 by_cases h : n < 0
 ·rw [if_pos h, decide_eq_true h]; rfl
 ·rw [if_neg h, decide_eq_false h]
  by_cases k : n > 0
  ·rw [if_pos k]; rfl
  ·rw [if_neg k]; rfl
theorem boolV_lit (b : Bool) : boolV [.c (.v (.bool b))] = b := rfl
theorem rat_test0 (x : Rat) : (andAll [andAll [denB x.den == [], false == false].reverse, andAll [magB x.num.natAbs == [], decide (x.num < 0) == false].reverse].reverse) = decide (x = 0) := by
 have h := rat_test x 0
 have e1 : denB (0 : Rat).den = [] := rfl
 have e2 : magB (0 : Rat).num.natAbs = [] := magB_zero
 have e3 : decide ((0 : Rat).num < 0) = false := rfl
 rw [e1, e2, e3] at h
 exact h
theorem cells0 : ratCells 0 = litZ := by
 unfold ratCells strA litZ
 rw [show (0 : Rat).num.natAbs = 0 from rfl, magB_zero]
 rfl
theorem cells2 : ratCells 2 = litB 2 := by
 unfold ratCells strA litB
 rw [show (2 : Rat).num.natAbs = 2 from rfl, magB_pos (by omega), show (2 : Nat) / 256 = 0 from rfl, magB_zero]
 rfl
def K158 : List AV → Option (AV × List Bool)
 | [.agg l1] => some (.tup [.agg litZ, boolA (decide ((ratV l1) = 0))], [ratOk l1, decide ((ratV l1) = 0) || decide ((ratV l1) = 2)])
 | _ => none
theorem f158_ok : PureOk Tryz.prog 204 K158 where
 sound := by
   intro args v cs h
   unfold K158 at h
   split at h
   · rename_i l
     cases h
     refine ⟨rfl, fun A w vs hA hc hargs => ?_⟩
     have h1 : ratOk l = true := hc (ratOk l) (by simp)
     have h2 : (decide (ratV l = 0) || decide (ratV l = 2)) = true := hc (decide (ratV l = 0) || decide (ratV l = 2)) (by simp)
     have e := ratOk_eq h1
     have hp := concPure_ok (N := 70) prog_mixed (concΓ_ok (N := 70) prog_mixed Γb_ok 14) (f := 204) (fn := Tryz.f204) (c := codeOf Tryz.f204) (by kernel_rfl) (by kernel_rfl) (by kernel_rfl)
     by_cases h0 : ratV l = 0
     · rw [h0, cells0] at e
       subst e
       rw [h0]
       exact (hp.sound _ _ _ root0).2 A w vs hA (fun p hp => by cases hp) hargs
     · have h2 : ratV l = 2 := by simpa [h0] using h2
       rw [h2, cells2] at e
       subst e
       rw [decide_eq_false h0]
       exact (hp.sound _ _ _ root2).2 A w vs hA (fun p hp => by cases hp) hargs
   · cases h
def K159 : List AV → Option (AV × List Bool)
 | [.agg l1] => some (ratA (hold (facV (realV l1).neg)), [realOk l1])
 | _ => none
def K319 : List AV → Option (AV × List Bool)
 | [.agg l1, .agg l2, .agg l3] => some (.tup [realA ⟨hold (mkP (ratV l1) (ratV l2) (ratV l3)), hold (mkR (ratV l1) (ratV l2) (ratV l3)), mkN (ratV l1) (ratV l2) (ratV l3)⟩, intA .i64 0], [ratOk l1, ratOk l2, ratOk l3, fitMake (ratV l1) (ratV l2) (ratV l3)])
 | _ => none
def K284 : List AV → Option (AV × List Bool)
 | [.agg l1, .agg l2] => some (realA ⟨hold (atP (quadV l1) (realV l2)), hold (atR (quadV l1) (realV l2)), atN (quadV l1) (realV l2)⟩, [quadOk l1, realOk l2, fitAt (quadV l1) (realV l2)])
 | _ => none
def K283 : List AV → Option (AV × List Bool)
 | [.agg l1] => some (intA .i64 (signV (realV l1).p (facV (realV l1).neg) (realV l1).r), [realOk l1, fitSign (realV l1).p (facV (realV l1).neg) (realV l1).r])
 | _ => none
def K253 : List AV → Option (AV × List Bool)
 | [.agg l1, .agg l2] => some (intA .i64 (signV (atP (quadV l1) (realV l2)) (facV (atN (quadV l1) (realV l2))) (atR (quadV l1) (realV l2))), [quadOk l1, realOk l2, fitAt (quadV l1) (realV l2), fitSign (atP (quadV l1) (realV l2)) (facV (atN (quadV l1) (realV l2))) (atR (quadV l1) (realV l2))])
 | _ => none
def K397 : List AV → Option (AV × List Bool)
 | [.agg l1] => some (.tup [ratA (hold (bif decide ((realV l1).r = 0) then (realV l1).p else 0)), boolA (decide ((realV l1).r = 0))], [realOk l1])
 | _ => none
def K395 : List AV → Option (AV × List Bool)
 | [.agg l1, .agg l2] => some (.agg (ratCells (hold (red0 (quadV l1) (realV l2))) ++ (ratCells (hold (red1 (quadV l1) (realV l2))) ++ litZ)), [quadOk l1, realOk l2, fitRed (quadV l1) (realV l2)])
 | _ => none
def K396 : List AV → Option (AV × List Bool)
 | [.agg l1, .agg l2, .agg l3] => some (boolA (decide (red0 (subQ (quadV l1) (quadV l2)) (realV l3) = 0) && decide (red1 (subQ (quadV l1) (quadV l2)) (realV l3) = 0)), [quadOk l1, quadOk l2, realOk l3, fitSubQ (quadV l1) (quadV l2), fitRed (subQ (quadV l1) (quadV l2)) (realV l3)])
 | _ => none
def K105 : List AV → Option (AV × List Bool)
 | [.agg l1, .agg l2, .agg l3, .agg l4] => some (.tup [.agg (ratCells (hold ((ratV l2) - slopeB (ratV l1) (ratV l2) (ratV l3) (ratV l4) * (ratV l1))) ++ (ratCells (hold (slopeB (ratV l1) (ratV l2) (ratV l3) (ratV l4))) ++ litZ)), intA .i64 0], [ratOk l1, ratOk l2, ratOk l3, ratOk l4, fitBet (ratV l1) (ratV l2) (ratV l3) (ratV l4)])
 | _ => none
def Γ159 : FuncId → Option Spec := fun f => bif Nat.beq f 60 then some (pureSpec K103) else none
def Γ319 : FuncId → Option Spec := fun f => bif Nat.beq f 159 then some (pureSpec K157) else bif Nat.beq f 204 then some (pureSpec K158) else bif Nat.beq f 98 then some (pureSpec K156) else bif Nat.beq f 34 then some (pureSpec K162) else none
def Γ284 : FuncId → Option Spec := fun f => bif Nat.beq f 51 then some (pureSpec K321) else bif Nat.beq f 98 then some (pureSpec K156) else bif Nat.beq f 34 then some (pureSpec K162) else bif Nat.beq f 216 then some (pureSpec K322) else bif Nat.beq f 102 then some (pureSpec K160) else bif Nat.beq f 214 then some (pureSpec K319) else none
def Γ283 : FuncId → Option Spec := fun f => bif Nat.beq f 157 then some (pureSpec K159) else bif Nat.beq f 158 then some (pureSpec K161) else none
def Γ253 : FuncId → Option Spec := fun f => bif Nat.beq f 173 then some (pureSpec K284) else bif Nat.beq f 172 then some (pureSpec K283) else none
def Γb395 : FuncId → Option Spec := fun f => bif Nat.beq f 44 then some (pureSpec K397) else bif Nat.beq f 51 then some (pureSpec K321) else bif Nat.beq f 98 then some (pureSpec K156) else bif Nat.beq f 59 then some (pureSpec K154) else bif Nat.beq f 34 then some (pureSpec K162) else bif Nat.beq f 216 then some (pureSpec K322) else none
def Γ396 : FuncId → Option Spec := fun f => bif Nat.beq f 167 then some (pureSpec K278) else bif Nat.beq f 323 then some (pureSpec K395) else none
def Γb105 : FuncId → Option Spec := fun f => bif Nat.beq f 59 then some (pureSpec K154) else bif Nat.beq f 125 then some (pureSpec K153) else bif Nat.beq f 98 then some (pureSpec K156) else none
def M159 (v1 : R3) : Tr AV :=
 let x1 : List AV := [.c (.v (.bool false)), .c (.v (.string ⟨⟨denB 1⟩⟩))]
 .ite v1.neg (.need true (.need true (.ret (AV.agg (.c (.v (.bool true)) :: .c (.v (.string ⟨⟨magB (-1).natAbs⟩⟩)) :: x1))))) (.need true (.need true (.ret (AV.agg (.c (.v (.bool false)) :: .c (.v (.string ⟨⟨magB (Int.natAbs 1)⟩⟩)) :: x1)))))
def M319 (v1 : Rat) (v2 : Rat) (v3 : Rat) : Tr AV :=
 let x1 : List AV := [.c (.v (.bool (decide (v3.num < 0)))), .c (.v (.string ⟨⟨magB v3.num.natAbs⟩⟩)), .c (.v (.bool false)), .c (.v (.string ⟨⟨denB v3.den⟩⟩))]
 let x2 : Int := sgn (ratV x1).num 0
 let x3 : List AV := [.c (.v (.bool false)), .c (.v (.string { data := #[] })), .c (.v (.bool false)), .c (.v (.string { data := #[] })), .c (.v (.bool false))]
 let x4 : List AV := [.c (.v (.bool (decide (v2.num < 0)))), .c (.v (.string ⟨⟨magB v2.num.natAbs⟩⟩)), .c (.v (.bool false)), .c (.v (.string ⟨⟨denB v2.den⟩⟩))]
 let x5 : List AV := [.c (.v (.bool (decide (v1.num < 0)))), .c (.v (.string ⟨⟨magB v1.num.natAbs⟩⟩)), .c (.v (.bool false)), .c (.v (.string ⟨⟨denB v1.den⟩⟩))]
 let x6 : Int := (hold (ratV x4 * ratV [.c (.v (.bool false)), .c (.v (.string ⟨⟨[]⟩⟩)), .c (.v (.bool false)), .c (.v (.string ⟨⟨[]⟩⟩))])).num
 let x7 : List AV := [.c (.v (.bool (decide (x6 < 0)))), .c (.v (.string ⟨⟨magB x6.natAbs⟩⟩)), .c (.v (.bool false)), .c (.v (.string { data := { toList := denB (hold (ratV x4 * ratV [.c (.v (.bool false)), .c (.v (.string ⟨⟨[]⟩⟩)), .c (.v (.bool false)), .c (.v (.string ⟨⟨[]⟩⟩))])).den } }))]
 let x8 : Int := (hold (ratV x5 + ratV x7)).num
 let x9 : List AV := [.c (.v (.int IntKind.i64 0))]
 let x10 : Int := (hold (ratV x4 * ratV x4)).num
 let x11 : List AV := [.c (.v (.bool (decide (x10 < 0)))), .c (.v (.string ⟨⟨magB x10.natAbs⟩⟩)), .c (.v (.bool false)), .c (.v (.string ⟨⟨denB (hold (ratV x4 * ratV x4)).den⟩⟩))]
 let x12 : Int := (hold (ratV x11 * ratV x1)).num
 let x13 : Int := sgn (ratV x4).num 0
 .need (ratOk x1) (.ite (decide (x2 < 0)) (.ret (AV.tup [AV.agg (.c (.v (.bool false)) :: .c (.v (.string { data := #[] })) :: .c (.v (.bool false)) :: .c (.v (.string { data := #[] })) :: x3), .c (.v (.int IntKind.i64 2))])) (.need (ratOk x1) (.need (decide (ratV x1 = 0) || decide (ratV x1 = 2)) (.ite (decide (ratV x1 = 0)) (.need (ratOk x4) (.need true (.need (fitM (ratV x4) (ratV [.c (.v (.bool false)), .c (.v (.string ⟨⟨[]⟩⟩)), .c (.v (.bool false)), .c (.v (.string ⟨⟨[]⟩⟩))])) (.need (ratOk x5) (.need (ratOk x7) (.need (fitA (ratV x5) (ratV x7)) (.ret (AV.tup (AV.agg (.c (.v (.bool (decide (x8 < 0)))) :: .c (.v (.string ⟨⟨magB x8.natAbs⟩⟩)) :: .c (.v (.bool false)) :: .c (.v (.string ⟨⟨denB (hold (ratV x5 + ratV x7)).den⟩⟩)) :: x3) :: x9))))))))) (.need (ratOk x4) (.need (ratOk x4) (.need (fitM (ratV x4) (ratV x4)) (.need (ratOk x11) (.need (ratOk x1) (.need (fitM (ratV x11) (ratV x1)) (.need (ratOk x4) (.ret (AV.tup (AV.agg [.c (.v (.bool (decide (v1.num < 0)))), .c (.v (.string ⟨⟨magB v1.num.natAbs⟩⟩)), .c (.v (.bool false)), .c (.v (.string ⟨⟨denB v1.den⟩⟩)), .c (.v (.bool (decide (x12 < 0)))), .c (.v (.string ⟨⟨magB x12.natAbs⟩⟩)), .c (.v (.bool false)), .c (.v (.string ⟨⟨denB (hold (ratV x11 * ratV x1)).den⟩⟩)), .c (.v (.bool (decide (x13 < 0))))] :: x9))))))))))))))
def M284 (v1 : Q3) (v2 : R3) : Tr AV :=
 let x1 : List AV := [.c (.v (.bool (decide (v1.c2.num < 0)))), .c (.v (.string ⟨⟨magB v1.c2.num.natAbs⟩⟩)), .c (.v (.bool false)), .c (.v (.string ⟨⟨denB v1.c2.den⟩⟩))]
 let x2 : List AV := .c (.v (.bool (decide (v1.c0.num < 0)))) :: .c (.v (.string ⟨⟨magB v1.c0.num.natAbs⟩⟩)) :: .c (.v (.bool false)) :: .c (.v (.string ⟨⟨denB v1.c0.den⟩⟩)) :: .c (.v (.bool (decide (v1.c1.num < 0)))) :: .c (.v (.string ⟨⟨magB v1.c1.num.natAbs⟩⟩)) :: .c (.v (.bool false)) :: .c (.v (.string ⟨⟨denB v1.c1.den⟩⟩)) :: x1
 let x3 : List AV := [.c (.v (.bool (decide (v2.p.num < 0)))), .c (.v (.string ⟨⟨magB v2.p.num.natAbs⟩⟩)), .c (.v (.bool false)), .c (.v (.string ⟨⟨denB v2.p.den⟩⟩))]
 let x4 : List AV := [.c (.v (.bool (decide (v2.r.num < 0)))), .c (.v (.string ⟨⟨magB v2.r.num.natAbs⟩⟩)), .c (.v (.bool false)), .c (.v (.string ⟨⟨denB v2.r.den⟩⟩))]
 let x5 : Int := (hold (evalQ (quadV x2) (ratV x3))).num
 let x6 : List AV := [.c (.v (.bool (decide (x5 < 0)))), .c (.v (.string ⟨⟨magB x5.natAbs⟩⟩)), .c (.v (.bool false)), .c (.v (.string ⟨⟨denB (hold (evalQ (quadV x2) (ratV x3))).den⟩⟩))]
 let x7 : Int := (hold (ratV x1 * ratV x4)).num
 let x8 : List AV := [.c (.v (.bool (decide (x7 < 0)))), .c (.v (.string ⟨⟨magB x7.natAbs⟩⟩)), .c (.v (.bool false)), .c (.v (.string ⟨⟨denB (hold (ratV x1 * ratV x4)).den⟩⟩))]
 let x9 : Int := (hold (slopeQ (quadV x2) (ratV x3))).num
 let x10 : List AV := [.c (.v (.bool (decide (x9 < 0)))), .c (.v (.string ⟨⟨magB x9.natAbs⟩⟩)), .c (.v (.bool false)), .c (.v (.string ⟨⟨denB (hold (slopeQ (quadV x2) (ratV x3))).den⟩⟩))]
 let x11 : Int := (hold (ratV x6 + ratV x8)).num
 let x12 : List AV := [.c (.v (.bool (decide (x11 < 0)))), .c (.v (.string ⟨⟨magB x11.natAbs⟩⟩)), .c (.v (.bool false)), .c (.v (.string ⟨⟨denB (hold (ratV x6 + ratV x8)).den⟩⟩))]
 let x13 : Int := (hold (-ratV x10)).num
 let x14 : List AV := [.c (.v (.bool (decide (x13 < 0)))), .c (.v (.string ⟨⟨magB x13.natAbs⟩⟩)), .c (.v (.bool false)), .c (.v (.string ⟨⟨denB (hold (-ratV x10)).den⟩⟩))]
 let x15 : Int := (hold (mkP (ratV x12) (ratV x14) (ratV x4))).num
 let x16 : Int := (hold (mkR (ratV x12) (ratV x14) (ratV x4))).num
 let x17 : Int := (hold (mkP (ratV x12) (ratV x10) (ratV x4))).num
 let x18 : Int := (hold (mkR (ratV x12) (ratV x10) (ratV x4))).num
 .need (quadOk x2) (.need (ratOk x3) (.need (fitEval (quadV x2) (ratV x3)) (.need (ratOk x1) (.need (ratOk x4) (.need (fitM (ratV x1) (ratV x4)) (.need (ratOk x6) (.need (ratOk x8) (.need (fitA (ratV x6) (ratV x8)) (.need (quadOk x2) (.need (ratOk x3) (.need (fitSlope (quadV x2) (ratV x3)) (.ite v2.neg (.need (ratOk x10) (.need (ratOk x12) (.need (ratOk x14) (.need (ratOk x4) (.need (fitMake (ratV x12) (ratV x14) (ratV x4)) (.ret (AV.agg [.c (.v (.bool (decide (x15 < 0)))), .c (.v (.string ⟨⟨magB x15.natAbs⟩⟩)), .c (.v (.bool false)), .c (.v (.string ⟨⟨denB (hold (mkP (ratV x12) (ratV x14) (ratV x4))).den⟩⟩)), .c (.v (.bool (decide (x16 < 0)))), .c (.v (.string ⟨⟨magB x16.natAbs⟩⟩)), .c (.v (.bool false)), .c (.v (.string ⟨⟨denB (hold (mkR (ratV x12) (ratV x14) (ratV x4))).den⟩⟩)), .c (.v (.bool (mkN (ratV x12) (ratV x14) (ratV x4))))]))))))) (.need (ratOk x12) (.need (ratOk x10) (.need (ratOk x4) (.need (fitMake (ratV x12) (ratV x10) (ratV x4)) (.ret (AV.agg [.c (.v (.bool (decide (x17 < 0)))), .c (.v (.string ⟨⟨magB x17.natAbs⟩⟩)), .c (.v (.bool false)), .c (.v (.string ⟨⟨denB (hold (mkP (ratV x12) (ratV x10) (ratV x4))).den⟩⟩)), .c (.v (.bool (decide (x18 < 0)))), .c (.v (.string ⟨⟨magB x18.natAbs⟩⟩)), .c (.v (.bool false)), .c (.v (.string ⟨⟨denB (hold (mkR (ratV x12) (ratV x10) (ratV x4))).den⟩⟩)), .c (.v (.bool (mkN (ratV x12) (ratV x10) (ratV x4))))]))))))))))))))))))
def M283 (v1 : R3) : Tr AV :=
 let x1 : List AV := [.c (.v (.bool (decide (v1.p.num < 0)))), .c (.v (.string ⟨⟨magB v1.p.num.natAbs⟩⟩)), .c (.v (.bool false)), .c (.v (.string ⟨⟨denB v1.p.den⟩⟩)), .c (.v (.bool (decide (v1.r.num < 0)))), .c (.v (.string ⟨⟨magB v1.r.num.natAbs⟩⟩)), .c (.v (.bool false)), .c (.v (.string ⟨⟨denB v1.r.den⟩⟩)), .c (.v (.bool v1.neg))]
 let x2 : List AV := [.c (.v (.bool (decide (v1.p.num < 0)))), .c (.v (.string ⟨⟨magB v1.p.num.natAbs⟩⟩)), .c (.v (.bool false)), .c (.v (.string ⟨⟨denB v1.p.den⟩⟩))]
 let x3 : Int := (hold (facV (boolV (List.drop 8 x1)))).num
 let x4 : List AV := [.c (.v (.bool (decide (x3 < 0)))), .c (.v (.string ⟨⟨magB x3.natAbs⟩⟩)), .c (.v (.bool false)), .c (.v (.string ⟨⟨denB (hold (facV (boolV (List.drop 8 x1)))).den⟩⟩))]
 let x5 : List AV := [.c (.v (.bool (decide (v1.r.num < 0)))), .c (.v (.string ⟨⟨magB v1.r.num.natAbs⟩⟩)), .c (.v (.bool false)), .c (.v (.string ⟨⟨denB v1.r.den⟩⟩))]
 .need (realOk x1) (.need (ratOk x2) (.need (ratOk x4) (.need (ratOk x5) (.need (fitSign (ratV x2) (ratV x4) (ratV x5)) (.ret (.c (.v (.int IntKind.i64 (signV (ratV x2) (ratV x4) (ratV x5))))))))))
def M253 (v1 : Q3) (v2 : R3) : Tr AV :=
 let x1 : List AV := [.c (.v (.bool (decide (v1.c0.num < 0)))), .c (.v (.string ⟨⟨magB v1.c0.num.natAbs⟩⟩)), .c (.v (.bool false)), .c (.v (.string ⟨⟨denB v1.c0.den⟩⟩)), .c (.v (.bool (decide (v1.c1.num < 0)))), .c (.v (.string ⟨⟨magB v1.c1.num.natAbs⟩⟩)), .c (.v (.bool false)), .c (.v (.string ⟨⟨denB v1.c1.den⟩⟩)), .c (.v (.bool (decide (v1.c2.num < 0)))), .c (.v (.string ⟨⟨magB v1.c2.num.natAbs⟩⟩)), .c (.v (.bool false)), .c (.v (.string ⟨⟨denB v1.c2.den⟩⟩))]
 let x2 : List AV := [.c (.v (.bool (decide (v2.p.num < 0)))), .c (.v (.string ⟨⟨magB v2.p.num.natAbs⟩⟩)), .c (.v (.bool false)), .c (.v (.string ⟨⟨denB v2.p.den⟩⟩)), .c (.v (.bool (decide (v2.r.num < 0)))), .c (.v (.string ⟨⟨magB v2.r.num.natAbs⟩⟩)), .c (.v (.bool false)), .c (.v (.string ⟨⟨denB v2.r.den⟩⟩)), .c (.v (.bool v2.neg))]
 let x3 : Int := (hold (atP (quadV x1) (realV x2))).num
 let x4 : Int := (hold (atR (quadV x1) (realV x2))).num
 let x5 : List AV := [.c (.v (.bool (decide (x3 < 0)))), .c (.v (.string ⟨⟨magB x3.natAbs⟩⟩)), .c (.v (.bool false)), .c (.v (.string ⟨⟨denB (hold (atP (quadV x1) (realV x2))).den⟩⟩)), .c (.v (.bool (decide (x4 < 0)))), .c (.v (.string ⟨⟨magB x4.natAbs⟩⟩)), .c (.v (.bool false)), .c (.v (.string ⟨⟨denB (hold (atR (quadV x1) (realV x2))).den⟩⟩)), .c (.v (.bool (atN (quadV x1) (realV x2))))]
 .need (quadOk x1) (.need (realOk x2) (.need (fitAt (quadV x1) (realV x2)) (.need (realOk x5) (.need (fitSign (ratV (List.take 4 x5)) (facV (boolV (List.drop 8 x5))) (ratV (List.take 4 (List.drop 4 x5)))) (.ret (.c (.v (.int IntKind.i64 (signV (ratV (List.take 4 x5)) (facV (boolV (List.drop 8 x5))) (ratV (List.take 4 (List.drop 4 x5))))))))))))
def M397 (v1 : R3) : Tr AV :=
 .ite (!andAll [andAll [denB v1.r.den == [], false == false].reverse, andAll [magB v1.r.num.natAbs == [], decide (v1.r.num < 0) == false].reverse].reverse) (.ret (AV.tup [AV.agg [.c (.v (.bool false)), .c (.v (.string { data := #[] })), .c (.v (.bool false)), .c (.v (.string { data := #[] }))], .c (.v (.bool false))])) (.ret (AV.tup [AV.agg [.c (.v (.bool (decide (v1.p.num < 0)))), .c (.v (.string ⟨⟨magB v1.p.num.natAbs⟩⟩)), .c (.v (.bool false)), .c (.v (.string ⟨⟨denB v1.p.den⟩⟩))], .c (.v (.bool true))]))
def M395 (v1 : Q3) (v2 : R3) : Tr AV :=
 let x1 : List AV := [.c (.v (.bool (decide (v2.p.num < 0)))), .c (.v (.string ⟨⟨magB v2.p.num.natAbs⟩⟩)), .c (.v (.bool false)), .c (.v (.string ⟨⟨denB v2.p.den⟩⟩)), .c (.v (.bool (decide (v2.r.num < 0)))), .c (.v (.string ⟨⟨magB v2.r.num.natAbs⟩⟩)), .c (.v (.bool false)), .c (.v (.string ⟨⟨denB v2.r.den⟩⟩)), .c (.v (.bool v2.neg))]
 let x2 : List AV := [.c (.v (.bool (decide (v1.c2.num < 0)))), .c (.v (.string ⟨⟨magB v1.c2.num.natAbs⟩⟩)), .c (.v (.bool false)), .c (.v (.string ⟨⟨denB v1.c2.den⟩⟩))]
 let x3 : List AV := .c (.v (.bool (decide (v1.c0.num < 0)))) :: .c (.v (.string ⟨⟨magB v1.c0.num.natAbs⟩⟩)) :: .c (.v (.bool false)) :: .c (.v (.string ⟨⟨denB v1.c0.den⟩⟩)) :: .c (.v (.bool (decide (v1.c1.num < 0)))) :: .c (.v (.string ⟨⟨magB v1.c1.num.natAbs⟩⟩)) :: .c (.v (.bool false)) :: .c (.v (.string ⟨⟨denB v1.c1.den⟩⟩)) :: x2
 let x4 : Int := (hold (bif decide (ratV (List.take 4 (List.drop 4 x1)) = 0) then ratV (List.take 4 x1) else 0)).num
 let x5 : List AV := [.c (.v (.bool (decide (x4 < 0)))), .c (.v (.string ⟨⟨magB x4.natAbs⟩⟩)), .c (.v (.bool false)), .c (.v (.string ⟨⟨denB (hold (bif decide (ratV (List.take 4 (List.drop 4 x1)) = 0) then ratV (List.take 4 x1) else 0)).den⟩⟩))]
 let x6 : Int := (hold (evalQ (quadV x3) (ratV x5))).num
 let x7 : List AV := [.c (.v (.bool false)), .c (.v (.string { data := #[] })), .c (.v (.bool false)), .c (.v (.string { data := #[] }))]
 let x8 : List AV := [.c (.v (.bool (decide (v2.p.num < 0)))), .c (.v (.string ⟨⟨magB v2.p.num.natAbs⟩⟩)), .c (.v (.bool false)), .c (.v (.string ⟨⟨denB v2.p.den⟩⟩))]
 let x9 : List AV := [.c (.v (.bool (decide (v2.r.num < 0)))), .c (.v (.string ⟨⟨magB v2.r.num.natAbs⟩⟩)), .c (.v (.bool false)), .c (.v (.string ⟨⟨denB v2.r.den⟩⟩))]
 let x10 : Int := (hold (ratV x8 * ratV x8)).num
 let x11 : List AV := [.c (.v (.bool (decide (x10 < 0)))), .c (.v (.string ⟨⟨magB x10.natAbs⟩⟩)), .c (.v (.bool false)), .c (.v (.string ⟨⟨denB (hold (ratV x8 * ratV x8)).den⟩⟩))]
 let x12 : Int := (hold (ratV x9 - ratV x11)).num
 let x13 : List AV := [.c (.v (.bool (decide (x12 < 0)))), .c (.v (.string ⟨⟨magB x12.natAbs⟩⟩)), .c (.v (.bool false)), .c (.v (.string ⟨⟨denB (hold (ratV x9 - ratV x11)).den⟩⟩))]
 let x14 : List AV := [.c (.v (.bool (decide (v1.c0.num < 0)))), .c (.v (.string ⟨⟨magB v1.c0.num.natAbs⟩⟩)), .c (.v (.bool false)), .c (.v (.string ⟨⟨denB v1.c0.den⟩⟩))]
 let x15 : Int := (hold (ratV x2 * ratV x13)).num
 let x16 : List AV := [.c (.v (.bool (decide (x15 < 0)))), .c (.v (.string ⟨⟨magB x15.natAbs⟩⟩)), .c (.v (.bool false)), .c (.v (.string ⟨⟨denB (hold (ratV x2 * ratV x13)).den⟩⟩))]
 let x17 : Int := (hold (ratV x14 + ratV x16)).num
 let x18 : Int := (hold (slopeQ (quadV x3) (ratV x8))).num
 .need (realOk x1) (.ite (decide (ratV (List.take 4 (List.drop 4 x1)) = 0)) (.need (quadOk x3) (.need (ratOk x5) (.need (fitEval (quadV x3) (ratV x5)) (.ret (AV.agg (.c (.v (.bool (decide (x6 < 0)))) :: .c (.v (.string ⟨⟨magB x6.natAbs⟩⟩)) :: .c (.v (.bool false)) :: .c (.v (.string ⟨⟨denB (hold (evalQ (quadV x3) (ratV x5))).den⟩⟩)) :: .c (.v (.bool false)) :: .c (.v (.string { data := #[] })) :: .c (.v (.bool false)) :: .c (.v (.string { data := #[] })) :: x7)))))) (.need (ratOk x8) (.need (ratOk x8) (.need (fitM (ratV x8) (ratV x8)) (.need (ratOk x9) (.need (ratOk x11) (.need (fitA (ratV x9) (-ratV x11)) (.need (ratOk x2) (.need (ratOk x13) (.need (fitM (ratV x2) (ratV x13)) (.need (ratOk x14) (.need (ratOk x16) (.need (fitA (ratV x14) (ratV x16)) (.need (quadOk x3) (.need (ratOk x8) (.need (fitSlope (quadV x3) (ratV x8)) (.ret (AV.agg (.c (.v (.bool (decide (x17 < 0)))) :: .c (.v (.string ⟨⟨magB x17.natAbs⟩⟩)) :: .c (.v (.bool false)) :: .c (.v (.string ⟨⟨denB (hold (ratV x14 + ratV x16)).den⟩⟩)) :: .c (.v (.bool (decide (x18 < 0)))) :: .c (.v (.string ⟨⟨magB x18.natAbs⟩⟩)) :: .c (.v (.bool false)) :: .c (.v (.string ⟨⟨denB (hold (slopeQ (quadV x3) (ratV x8))).den⟩⟩)) :: x7)))))))))))))))))))
def M396 (v1 : Q3) (v2 : Q3) (v3 : R3) : Tr AV :=
 let x1 : List AV := [.c (.v (.bool (decide (v1.c0.num < 0)))), .c (.v (.string ⟨⟨magB v1.c0.num.natAbs⟩⟩)), .c (.v (.bool false)), .c (.v (.string ⟨⟨denB v1.c0.den⟩⟩)), .c (.v (.bool (decide (v1.c1.num < 0)))), .c (.v (.string ⟨⟨magB v1.c1.num.natAbs⟩⟩)), .c (.v (.bool false)), .c (.v (.string ⟨⟨denB v1.c1.den⟩⟩)), .c (.v (.bool (decide (v1.c2.num < 0)))), .c (.v (.string ⟨⟨magB v1.c2.num.natAbs⟩⟩)), .c (.v (.bool false)), .c (.v (.string ⟨⟨denB v1.c2.den⟩⟩))]
 let x2 : List AV := [.c (.v (.bool (decide (v2.c0.num < 0)))), .c (.v (.string ⟨⟨magB v2.c0.num.natAbs⟩⟩)), .c (.v (.bool false)), .c (.v (.string ⟨⟨denB v2.c0.den⟩⟩)), .c (.v (.bool (decide (v2.c1.num < 0)))), .c (.v (.string ⟨⟨magB v2.c1.num.natAbs⟩⟩)), .c (.v (.bool false)), .c (.v (.string ⟨⟨denB v2.c1.den⟩⟩)), .c (.v (.bool (decide (v2.c2.num < 0)))), .c (.v (.string ⟨⟨magB v2.c2.num.natAbs⟩⟩)), .c (.v (.bool false)), .c (.v (.string ⟨⟨denB v2.c2.den⟩⟩))]
 let x3 : Int := (hold (ratV (List.take 4 x1) - ratV (List.take 4 x2))).num
 let x4 : Int := (hold (ratV (List.take 4 (List.drop 4 x1)) - ratV (List.take 4 (List.drop 4 x2)))).num
 let x5 : Int := (hold (ratV (List.drop 8 x1) - ratV (List.drop 8 x2))).num
 let x6 : List AV := [.c (.v (.bool (decide (x3 < 0)))), .c (.v (.string ⟨⟨magB x3.natAbs⟩⟩)), .c (.v (.bool false)), .c (.v (.string ⟨⟨denB (hold (ratV (List.take 4 x1) - ratV (List.take 4 x2))).den⟩⟩)), .c (.v (.bool (decide (x4 < 0)))), .c (.v (.string ⟨⟨magB x4.natAbs⟩⟩)), .c (.v (.bool false)), .c (.v (.string ⟨⟨denB (hold (ratV (List.take 4 (List.drop 4 x1)) - ratV (List.take 4 (List.drop 4 x2)))).den⟩⟩)), .c (.v (.bool (decide (x5 < 0)))), .c (.v (.string ⟨⟨magB x5.natAbs⟩⟩)), .c (.v (.bool false)), .c (.v (.string ⟨⟨denB (hold (ratV (List.drop 8 x1) - ratV (List.drop 8 x2))).den⟩⟩))]
 let x7 : List AV := [.c (.v (.bool (decide (v3.p.num < 0)))), .c (.v (.string ⟨⟨magB v3.p.num.natAbs⟩⟩)), .c (.v (.bool false)), .c (.v (.string ⟨⟨denB v3.p.den⟩⟩)), .c (.v (.bool (decide (v3.r.num < 0)))), .c (.v (.string ⟨⟨magB v3.r.num.natAbs⟩⟩)), .c (.v (.bool false)), .c (.v (.string ⟨⟨denB v3.r.den⟩⟩)), .c (.v (.bool v3.neg))]
 let x8 : List Bool := [false == false]
 let x9 : Int := (hold (red1 (quadV x6) (realV x7))).num
 let x10 : Int := (hold (red0 (quadV x6) (realV x7))).num
 .need (quadOk x1) (.need (quadOk x2) (.need (fitSubQ (quadV x1) (quadV x2)) (.need (quadOk x6) (.need (realOk x7) (.need (fitRed (quadV x6) (realV x7)) (.ret (.c (.v (.bool (andAll [andAll [andAll ((([] : List UInt8) == []) :: x8).reverse, andAll ((([] : List UInt8) == []) :: x8).reverse].reverse, andAll [andAll ((denB (hold (red1 (quadV x6) (realV x7))).den == []) :: x8).reverse, andAll [magB x9.natAbs == [], decide (x9 < 0) == false].reverse].reverse, andAll [andAll ((denB (hold (red0 (quadV x6) (realV x7))).den == []) :: x8).reverse, andAll [magB x10.natAbs == [], decide (x10 < 0) == false].reverse].reverse].reverse))))))))))
def M105 (v1 : Rat) (v2 : Rat) (v3 : Rat) (v4 : Rat) : Tr AV :=
 let x1 : List AV := [.c (.v (.bool (decide (v4.num < 0)))), .c (.v (.string ⟨⟨magB v4.num.natAbs⟩⟩)), .c (.v (.bool false)), .c (.v (.string ⟨⟨denB v4.den⟩⟩))]
 let x2 : List AV := [.c (.v (.bool (decide (v2.num < 0)))), .c (.v (.string ⟨⟨magB v2.num.natAbs⟩⟩)), .c (.v (.bool false)), .c (.v (.string ⟨⟨denB v2.den⟩⟩))]
 let x3 : List AV := [.c (.v (.bool (decide (v3.num < 0)))), .c (.v (.string ⟨⟨magB v3.num.natAbs⟩⟩)), .c (.v (.bool false)), .c (.v (.string ⟨⟨denB v3.den⟩⟩))]
 let x4 : List AV := [.c (.v (.bool (decide (v1.num < 0)))), .c (.v (.string ⟨⟨magB v1.num.natAbs⟩⟩)), .c (.v (.bool false)), .c (.v (.string ⟨⟨denB v1.den⟩⟩))]
 let x5 : Int := (hold (ratV x1 - ratV x2)).num
 let x6 : List AV := [.c (.v (.bool (decide (x5 < 0)))), .c (.v (.string ⟨⟨magB x5.natAbs⟩⟩)), .c (.v (.bool false)), .c (.v (.string ⟨⟨denB (hold (ratV x1 - ratV x2)).den⟩⟩))]
 let x7 : Int := (hold (ratV x3 - ratV x4)).num
 let x8 : List AV := [.c (.v (.bool (decide (x7 < 0)))), .c (.v (.string ⟨⟨magB x7.natAbs⟩⟩)), .c (.v (.bool false)), .c (.v (.string ⟨⟨denB (hold (ratV x3 - ratV x4)).den⟩⟩))]
 let x9 : List AV := [.c (.v (.bool false)), .c (.v (.string { data := #[] })), .c (.v (.bool false)), .c (.v (.string { data := #[] }))]
 let x10 : List AV := [.c (.v (.int IntKind.i64 0))]
 let x11 : Int := (hold (ratV x6 / ratV x8)).num
 let x12 : List AV := [.c (.v (.bool (decide (x11 < 0)))), .c (.v (.string ⟨⟨magB x11.natAbs⟩⟩)), .c (.v (.bool false)), .c (.v (.string ⟨⟨denB (hold (ratV x6 / ratV x8)).den⟩⟩))]
 let x13 : Int := (hold (ratV x12 * ratV x4)).num
 let x14 : List AV := [.c (.v (.bool (decide (x13 < 0)))), .c (.v (.string ⟨⟨magB x13.natAbs⟩⟩)), .c (.v (.bool false)), .c (.v (.string ⟨⟨denB (hold (ratV x12 * ratV x4)).den⟩⟩))]
 let x15 : Int := (hold (ratV x2 - ratV x14)).num
 .need (ratOk x1) (.need (ratOk x2) (.need (fitA (ratV x1) (-ratV x2)) (.need (ratOk x3) (.need (ratOk x4) (.need (fitA (ratV x3) (-ratV x4)) (.need (ratOk x6) (.need (ratOk x8) (.need (fitD (ratV x6) (ratV x8)) (.need (decide (ratV x8 ≠ 0)) (.ite false (.ret (AV.tup (AV.agg (.c (.v (.bool false)) :: .c (.v (.string { data := #[] })) :: .c (.v (.bool false)) :: .c (.v (.string { data := #[] })) :: .c (.v (.bool false)) :: .c (.v (.string { data := #[] })) :: .c (.v (.bool false)) :: .c (.v (.string { data := #[] })) :: x9) :: x10))) (.need (ratOk x12) (.need (ratOk x4) (.need (fitM (ratV x12) (ratV x4)) (.need (ratOk x2) (.need (ratOk x14) (.need (fitA (ratV x2) (-ratV x14)) (.ret (AV.tup (AV.agg (.c (.v (.bool (decide (x15 < 0)))) :: .c (.v (.string ⟨⟨magB x15.natAbs⟩⟩)) :: .c (.v (.bool false)) :: .c (.v (.string ⟨⟨denB (hold (ratV x2 - ratV x14)).den⟩⟩)) :: .c (.v (.bool (decide (x11 < 0)))) :: .c (.v (.string ⟨⟨magB x11.natAbs⟩⟩)) :: .c (.v (.bool false)) :: .c (.v (.string ⟨⟨denB (hold (ratV x6 / ratV x8)).den⟩⟩)) :: x9) :: x10)))))))))))))))))))
theorem M159_eq (v1 : R3) : execFn Tryz.prog Γ159 noL 1010 Tryz.f157 [.agg (realCells v1)] = M159 v1 := by kernel_rfl
theorem M319_eq (v1 : Rat) (v2 : Rat) (v3 : Rat) : execFn Tryz.prog Γ319 noL 1010 Tryz.f214 [.agg (ratCells v1), .agg (ratCells v2), .agg (ratCells v3)] = M319 v1 v2 v3 := by kernel_rfl
theorem M284_eq (v1 : Q3) (v2 : R3) : execFn Tryz.prog Γ284 noL 1010 Tryz.f173 [.agg (quadCells v1), .agg (realCells v2)] = M284 v1 v2 := by kernel_rfl
theorem M283_eq (v1 : R3) : execFn Tryz.prog Γ283 noL 1010 Tryz.f172 [.agg (realCells v1)] = M283 v1 := by kernel_rfl
theorem M253_eq (v1 : Q3) (v2 : R3) : execFn Tryz.prog Γ253 noL 1010 Tryz.f114 [.agg (quadCells v1), .agg (realCells v2)] = M253 v1 v2 := by kernel_rfl
theorem M397_eq (v1 : R3) : execFn Tryz.prog (fun _ => none) noL 1010 Tryz.f44 [.agg (realCells v1)] = M397 v1 := by kernel_rfl
theorem M395_eq (v1 : Q3) (v2 : R3) : execFn Tryz.prog (concΓ Tryz.prog Γb395 70 3) noL 1010 Tryz.f323 [.agg (quadCells v1), .agg (realCells v2)] = M395 v1 v2 := by kernel_rfl
theorem M396_eq (v1 : Q3) (v2 : Q3) (v3 : R3) : execFn Tryz.prog Γ396 noL 1010 Tryz.f324 [.agg (quadCells v1), .agg (quadCells v2), .agg (realCells v3)] = M396 v1 v2 v3 := by kernel_rfl
theorem M105_eq (v1 : Rat) (v2 : Rat) (v3 : Rat) (v4 : Rat) : execFn Tryz.prog (concΓ Tryz.prog Γb105 70 3) noL 1010 Tryz.f76 [.agg (ratCells v1), .agg (ratCells v2), .agg (ratCells v3), .agg (ratCells v4)] = M105 v1 v2 v3 v4 := by kernel_rfl
theorem M159_sat (v1 : R3)  : (M159 v1).sat fun r => r = ratA (hold (facV v1.neg)) := by
 obtain ⟨p, r, neg⟩ := v1
 simp only [M159, sat_true, hold_eq]
 cases neg
 · refine sat_ite (fun h => by cases h) (fun _ => ?_)
   simp only [sat_true]
   exact sat_ret rfl
 · refine sat_ite (fun _ => ?_) (fun h => by cases h)
   simp only [sat_true]
   exact sat_ret rfl
theorem M319_sat (v1 : Rat) (v2 : Rat) (v3 : Rat) (c1 : fitMake v1 v2 v3 = true) : (M319 v1 v2 v3).sat fun r => r = .tup [realA ⟨hold (mkP v1 v2 v3), hold (mkR v1 v2 v3), mkN v1 v2 v3⟩, intA .i64 0] := by
 simp only [fitMake, Bool.and_eq_true] at c1
 obtain ⟨⟨⟨⟨c1, c2⟩, c3⟩, c4⟩, c5⟩ := c1
 have hs : decide (sgn v3.num 0 < 0) = false := by
  simp only [Bool.or_eq_true, decide_eq_true_eq] at c1
  rcases c1 with h | h <;> rw [h] <;> rfl
 simp only [M319, ratV_lit, ratOk_lit, quadV_lit, quadOk_lit, realV_lit, realOk_lit, lineV_lit, lineOk_lit, ratV_int, ratOk_int, ratV_zero, ratOk_zero, ratV_zero', ratOk_zero', boolV_lit, List.take_succ_cons, List.take_zero, List.drop_succ_cons, List.drop_zero, hold_eq, Bool.and_self, rat_test0, sat_true, c1, c2, c3, c4, c5, hs]
 refine sat_ite (fun h => by cases h) (fun _ => ?_)
 simp only [sat_true]
 refine sat_ite (fun h => ?_) (fun h => ?_)
 ·simp only [sat_true]
  refine sat_ret ?_
  simp only [mkP, mkR, mkN, h, cond_true, realA, realCells, cells0]
  rfl
 ·simp only [sat_true]
  refine sat_ret ?_
  simp only [mkP, mkR, mkN, h, cond_false, sgn_lt]
  rfl
theorem M284_sat (v1 : Q3) (v2 : R3) (c1 : fitAt v1 v2 = true) : (M284 v1 v2).sat fun r => r = realA ⟨hold (atP v1 v2), hold (atR v1 v2), atN v1 v2⟩ := by
 obtain ⟨a0, a1, a2⟩ := v1
 obtain ⟨p, r, neg⟩ := v2
 cases neg
 · simp only [fitAt, byQ, baseQ, cond_false, Bool.and_eq_true] at c1
   simp only [M284, ratV_lit, ratOk_lit, quadV_lit, quadOk_lit, realV_lit, realOk_lit, lineV_lit, lineOk_lit, ratV_int, ratOk_int, ratV_zero, ratOk_zero, ratV_zero', ratOk_zero', boolV_lit, List.take_succ_cons, List.take_zero, List.drop_succ_cons, List.drop_zero, hold_eq, Bool.and_self, rat_test0, sat_true, c1, atP, atR, atN, byQ, baseQ, cond_false]
   refine sat_ite (fun h => by cases h) (fun _ => ?_)
   simp only [sat_true]
   exact sat_ret rfl
 · simp only [fitAt, byQ, baseQ, cond_true, Bool.and_eq_true] at c1
   simp only [M284, ratV_lit, ratOk_lit, quadV_lit, quadOk_lit, realV_lit, realOk_lit, lineV_lit, lineOk_lit, ratV_int, ratOk_int, ratV_zero, ratOk_zero, ratV_zero', ratOk_zero', boolV_lit, List.take_succ_cons, List.take_zero, List.drop_succ_cons, List.drop_zero, hold_eq, Bool.and_self, rat_test0, sat_true, c1, atP, atR, atN, byQ, baseQ, cond_true]
   refine sat_ite (fun _ => ?_) (fun h => by cases h)
   simp only [sat_true]
   exact sat_ret rfl
theorem M283_sat (v1 : R3) (c1 : fitSign v1.p (facV v1.neg) v1.r = true) : (M283 v1).sat fun r => r = intA .i64 (signV v1.p (facV v1.neg) v1.r) := by
 obtain ⟨p, r, neg⟩ := v1
 simp only [M283, ratV_lit, ratOk_lit, quadV_lit, quadOk_lit, realV_lit, realOk_lit, lineV_lit, lineOk_lit, ratV_int, ratOk_int, ratV_zero, ratOk_zero, ratV_zero', ratOk_zero', boolV_lit, List.take_succ_cons, List.take_zero, List.drop_succ_cons, List.drop_zero, hold_eq, Bool.and_self, rat_test0, sat_true, c1]
 exact sat_ret rfl
theorem M253_sat (v1 : Q3) (v2 : R3) (c1 : fitAt v1 v2 = true) (c2 : fitSign (atP v1 v2) (facV (atN v1 v2)) (atR v1 v2) = true) : (M253 v1 v2).sat fun r => r = intA .i64 (signV (atP v1 v2) (facV (atN v1 v2)) (atR v1 v2)) := by
 obtain ⟨a0, a1, a2⟩ := v1
 obtain ⟨p, r, neg⟩ := v2
 simp only [M253, ratV_lit, ratOk_lit, quadV_lit, quadOk_lit, realV_lit, realOk_lit, lineV_lit, lineOk_lit, ratV_int, ratOk_int, ratV_zero, ratOk_zero, ratV_zero', ratOk_zero', boolV_lit, List.take_succ_cons, List.take_zero, List.drop_succ_cons, List.drop_zero, hold_eq, Bool.and_self, rat_test0, sat_true, c1, c2]
 exact sat_ret rfl
theorem M397_sat (v1 : R3)  : (M397 v1).sat fun r => r = .tup [ratA (hold (bif decide (v1.r = 0) then v1.p else 0)), boolA (decide (v1.r = 0))] := by
 obtain ⟨p, r, neg⟩ := v1
 simp only [M397, ratV_lit, ratOk_lit, quadV_lit, quadOk_lit, realV_lit, realOk_lit, lineV_lit, lineOk_lit, ratV_int, ratOk_int, ratV_zero, ratOk_zero, ratV_zero', ratOk_zero', boolV_lit, List.take_succ_cons, List.take_zero, List.drop_succ_cons, List.drop_zero, hold_eq, Bool.and_self, rat_test0, sat_true]
 refine sat_ite (fun h => ?_) (fun h => ?_)
 ·have h : decide (r = 0) = false := by simpa using h
  rw [h]
  refine sat_ret ?_
  simp only [cond_false, ratA, cells0]
  rfl
 ·have h : decide (r = 0) = true := by simpa using h
  rw [h]
  exact sat_ret rfl
theorem M395_sat (v1 : Q3) (v2 : R3) (c1 : fitRed v1 v2 = true) : (M395 v1 v2).sat fun r => r = .agg (ratCells (hold (red0 v1 v2)) ++ (ratCells (hold (red1 v1 v2)) ++ litZ)) := by
 obtain ⟨a0, a1, a2⟩ := v1
 obtain ⟨p, r, neg⟩ := v2
 simp only [M395, ratV_lit, ratOk_lit, quadV_lit, quadOk_lit, realV_lit, realOk_lit, lineV_lit, lineOk_lit, ratV_int, ratOk_int, ratV_zero, ratOk_zero, ratV_zero', ratOk_zero', boolV_lit, List.take_succ_cons, List.take_zero, List.drop_succ_cons, List.drop_zero, hold_eq, Bool.and_self, rat_test0, sat_true]
 refine sat_ite (fun h => ?_) (fun h => ?_)
 ·simp only [fitRed, h, cond_true, Bool.and_eq_true] at c1
  simp only [ratV_lit, ratOk_lit, quadV_lit, quadOk_lit, realV_lit, realOk_lit, lineV_lit, lineOk_lit, ratV_int, ratOk_int, ratV_zero, ratOk_zero, ratV_zero', ratOk_zero', boolV_lit, List.take_succ_cons, List.take_zero, List.drop_succ_cons, List.drop_zero, hold_eq, Bool.and_self, rat_test0, sat_true, h, cond_true, c1, red0, red1, cells0]
  exact sat_ret rfl
 ·simp only [fitRed, fitSub, h, cond_false, Bool.and_eq_true] at c1
  simp only [ratV_lit, ratOk_lit, quadV_lit, quadOk_lit, realV_lit, realOk_lit, lineV_lit, lineOk_lit, ratV_int, ratOk_int, ratV_zero, ratOk_zero, ratV_zero', ratOk_zero', boolV_lit, List.take_succ_cons, List.take_zero, List.drop_succ_cons, List.drop_zero, hold_eq, Bool.and_self, rat_test0, sat_true, c1]
  refine sat_ret ?_
  simp only [red0, red1, h, cond_false]
  rfl
theorem M396_sat (v1 : Q3) (v2 : Q3) (v3 : R3) (c1 : fitSubQ v1 v2 = true) (c2 : fitRed (subQ v1 v2) v3 = true) : (M396 v1 v2 v3).sat fun r => r = boolA (decide (red0 (subQ v1 v2) v3 = 0) && decide (red1 (subQ v1 v2) v3 = 0)) := by
 obtain ⟨a0, a1, a2⟩ := v1
 obtain ⟨b0, b1, b2⟩ := v2
 obtain ⟨p, r, neg⟩ := v3
 simp only [subQ] at c2 ⊢
 simp only [M396, ratV_lit, ratOk_lit, quadV_lit, quadOk_lit, realV_lit, realOk_lit, lineV_lit, lineOk_lit, ratV_int, ratOk_int, ratV_zero, ratOk_zero, ratV_zero', ratOk_zero', boolV_lit, List.take_succ_cons, List.take_zero, List.drop_succ_cons, List.drop_zero, hold_eq, Bool.and_self, rat_test0, sat_true, c1, c2]
 refine sat_ret ?_
 show AV.c (.v (.bool (decide (red0 ⟨a0 - b0, a1 - b1, a2 - b2⟩ ⟨p, r, neg⟩ = 0) && (decide (red1 ⟨a0 - b0, a1 - b1, a2 - b2⟩ ⟨p, r, neg⟩ = 0) && true)))) = _
 rw [Bool.and_true]
 rfl
theorem M105_sat (v1 : Rat) (v2 : Rat) (v3 : Rat) (v4 : Rat) (c1 : fitBet v1 v2 v3 v4 = true) : (M105 v1 v2 v3 v4).sat fun r => r = .tup [.agg (ratCells (hold (v2 - slopeB v1 v2 v3 v4 * v1)) ++ (ratCells (hold (slopeB v1 v2 v3 v4)) ++ litZ)), intA .i64 0] := by
 simp only [fitBet, fitSub, Bool.and_eq_true] at c1
 obtain ⟨⟨⟨⟨⟨c1, c2⟩, c3⟩, c4⟩, c5⟩, c6⟩ := c1
 unfold slopeB at c5 c6
 simp only [M105, slopeB, ratV_lit, ratOk_lit, quadV_lit, quadOk_lit, realV_lit, realOk_lit, lineV_lit, lineOk_lit, ratV_int, ratOk_int, ratV_zero, ratOk_zero, ratV_zero', ratOk_zero', boolV_lit, List.take_succ_cons, List.take_zero, List.drop_succ_cons, List.drop_zero, hold_eq, Bool.and_self, rat_test0, sat_true, c1, c2, c3, c4, c5, c6]
 refine sat_ite (fun h => by cases h) (fun _ => ?_)
 simp only [sat_true]
 exact sat_ret rfl
theorem Γ159_ok : ∀ f s, Γ159 f = some s → SpecOk Tryz.prog f s := one_ok f103_ok.spec
theorem f159_ok : PureOk Tryz.prog 157 K159 := by
 refine pureOk_of_exec prog_mixed Γ159_ok (fn := Tryz.f157) (c := codeOf Tryz.f157) (by kernel_rfl) (by kernel_rfl) (callFunc_enter (fn := Tryz.f157) (c := codeOf Tryz.f157) (by kernel_rfl) (by kernel_rfl) (by kernel_rfl)) (L := noL) (N := 1010) (blocksOk_none _ _) ?_ ?_
 ·intro args v cs h
  unfold K159 at h
  split at h
  ·cases h; rfl
  ·cases h
 ·intro args v cs h hc
  unfold K159 at h
  split at h
  ·rename_i l1
   cases h
   have h1 : realOk l1 = true := hc (realOk l1) (by simp)
   obtain ⟨v1, rfl⟩ : ∃ x, l1 = realCells x := ⟨_, realOk_eq h1⟩
   simp only [realV_cells] at *
   have hs := M159_sat v1
   rw [← M159_eq] at hs
   generalize execFn Tryz.prog Γ159 noL 1010 Tryz.f157 [.agg (realCells v1)] = T at hs ⊢
   generalize hold (facV v1.neg) = z at hs ⊢
   exact Tr.sat_mono (fun r hr => ⟨by subst hr; rfl, Sees.of_eq hr⟩) hs
  ·cases h
theorem Γ319_ok : ∀ f s, Γ319 f = some s → SpecOk Tryz.prog f s := step_ok f157_ok.spec (step_ok f158_ok.spec (step_ok f156_ok.spec (one_ok f162_ok.spec)))
theorem f319_ok : PureOk Tryz.prog 214 K319 := by
 refine pureOk_of_exec prog_mixed Γ319_ok (fn := Tryz.f214) (c := codeOf Tryz.f214) (by kernel_rfl) (by kernel_rfl) (callFunc_enter (fn := Tryz.f214) (c := codeOf Tryz.f214) (by kernel_rfl) (by kernel_rfl) (by kernel_rfl)) (L := noL) (N := 1010) (blocksOk_none _ _) ?_ ?_
 ·intro args v cs h
  unfold K319 at h
  split at h
  ·cases h; rfl
  ·cases h
 ·intro args v cs h hc
  unfold K319 at h
  split at h
  ·rename_i l1 l2 l3
   cases h
   have h1 : ratOk l1 = true := hc (ratOk l1) (by simp)
   have h2 : ratOk l2 = true := hc (ratOk l2) (by simp)
   have h3 : ratOk l3 = true := hc (ratOk l3) (by simp)
   have c1 : fitMake (ratV l1) (ratV l2) (ratV l3) = true := hc (fitMake (ratV l1) (ratV l2) (ratV l3)) (by simp)
   obtain ⟨v1, rfl⟩ : ∃ x, l1 = ratCells x := ⟨_, ratOk_eq h1⟩
   obtain ⟨v2, rfl⟩ : ∃ x, l2 = ratCells x := ⟨_, ratOk_eq h2⟩
   obtain ⟨v3, rfl⟩ : ∃ x, l3 = ratCells x := ⟨_, ratOk_eq h3⟩
   simp only [ratV_cells] at *
   have hs := M319_sat v1 v2 v3 c1
   rw [← M319_eq] at hs
   generalize execFn Tryz.prog Γ319 noL 1010 Tryz.f214 [.agg (ratCells v1), .agg (ratCells v2), .agg (ratCells v3)] = T at hs ⊢
   generalize hold (mkP v1 v2 v3) = z0 at hs ⊢
   generalize hold (mkR v1 v2 v3) = z1 at hs ⊢
   generalize mkN v1 v2 v3 = z2 at hs ⊢
   exact Tr.sat_mono (fun r hr => ⟨by subst hr; rfl, Sees.of_eq hr⟩) hs
  ·cases h
theorem Γ284_ok : ∀ f s, Γ284 f = some s → SpecOk Tryz.prog f s := step_ok f321_ok.spec (step_ok f156_ok.spec (step_ok f162_ok.spec (step_ok f322_ok.spec (step_ok f160_ok.spec (one_ok f319_ok.spec)))))
theorem f284_ok : PureOk Tryz.prog 173 K284 := by
 refine pureOk_of_exec prog_mixed Γ284_ok (fn := Tryz.f173) (c := codeOf Tryz.f173) (by kernel_rfl) (by kernel_rfl) (callFunc_enter (fn := Tryz.f173) (c := codeOf Tryz.f173) (by kernel_rfl) (by kernel_rfl) (by kernel_rfl)) (L := noL) (N := 1010) (blocksOk_none _ _) ?_ ?_
 ·intro args v cs h
  unfold K284 at h
  split at h
  ·cases h; rfl
  ·cases h
 ·intro args v cs h hc
  unfold K284 at h
  split at h
  ·rename_i l1 l2
   cases h
   have h1 : quadOk l1 = true := hc (quadOk l1) (by simp)
   have h2 : realOk l2 = true := hc (realOk l2) (by simp)
   have c1 : fitAt (quadV l1) (realV l2) = true := hc (fitAt (quadV l1) (realV l2)) (by simp)
   obtain ⟨v1, rfl⟩ : ∃ x, l1 = quadCells x := ⟨_, quadOk_eq h1⟩
   obtain ⟨v2, rfl⟩ : ∃ x, l2 = realCells x := ⟨_, realOk_eq h2⟩
   simp only [quadV_cells, realV_cells] at *
   have hs := M284_sat v1 v2 c1
   rw [← M284_eq] at hs
   generalize execFn Tryz.prog Γ284 noL 1010 Tryz.f173 [.agg (quadCells v1), .agg (realCells v2)] = T at hs ⊢
   generalize hold (atP v1 v2) = z0 at hs ⊢
   generalize hold (atR v1 v2) = z1 at hs ⊢
   generalize atN v1 v2 = z2 at hs ⊢
   exact Tr.sat_mono (fun r hr => ⟨by subst hr; rfl, Sees.of_eq hr⟩) hs
  ·cases h
theorem Γ283_ok : ∀ f s, Γ283 f = some s → SpecOk Tryz.prog f s := step_ok f159_ok.spec (one_ok f161_ok.spec)
theorem f283_ok : PureOk Tryz.prog 172 K283 := by
 refine pureOk_of_exec prog_mixed Γ283_ok (fn := Tryz.f172) (c := codeOf Tryz.f172) (by kernel_rfl) (by kernel_rfl) (callFunc_enter (fn := Tryz.f172) (c := codeOf Tryz.f172) (by kernel_rfl) (by kernel_rfl) (by kernel_rfl)) (L := noL) (N := 1010) (blocksOk_none _ _) ?_ ?_
 ·intro args v cs h
  unfold K283 at h
  split at h
  ·cases h; rfl
  ·cases h
 ·intro args v cs h hc
  unfold K283 at h
  split at h
  ·rename_i l1
   cases h
   have h1 : realOk l1 = true := hc (realOk l1) (by simp)
   have c1 : fitSign (realV l1).p (facV (realV l1).neg) (realV l1).r = true := hc (fitSign (realV l1).p (facV (realV l1).neg) (realV l1).r) (by simp)
   obtain ⟨v1, rfl⟩ : ∃ x, l1 = realCells x := ⟨_, realOk_eq h1⟩
   simp only [realV_cells] at *
   have hs := M283_sat v1 c1
   rw [← M283_eq] at hs
   generalize execFn Tryz.prog Γ283 noL 1010 Tryz.f172 [.agg (realCells v1)] = T at hs ⊢
   generalize signV v1.p (facV v1.neg) v1.r = z at hs ⊢
   exact Tr.sat_mono (fun r hr => ⟨by subst hr; rfl, Sees.of_eq hr⟩) hs
  ·cases h
theorem Γ253_ok : ∀ f s, Γ253 f = some s → SpecOk Tryz.prog f s := step_ok f284_ok.spec (one_ok f283_ok.spec)
theorem f253_ok : PureOk Tryz.prog 114 K253 := by
 refine pureOk_of_exec prog_mixed Γ253_ok (fn := Tryz.f114) (c := codeOf Tryz.f114) (by kernel_rfl) (by kernel_rfl) (callFunc_enter (fn := Tryz.f114) (c := codeOf Tryz.f114) (by kernel_rfl) (by kernel_rfl) (by kernel_rfl)) (L := noL) (N := 1010) (blocksOk_none _ _) ?_ ?_
 ·intro args v cs h
  unfold K253 at h
  split at h
  ·cases h; rfl
  ·cases h
 ·intro args v cs h hc
  unfold K253 at h
  split at h
  ·rename_i l1 l2
   cases h
   have h1 : quadOk l1 = true := hc (quadOk l1) (by simp)
   have h2 : realOk l2 = true := hc (realOk l2) (by simp)
   have c1 : fitAt (quadV l1) (realV l2) = true := hc (fitAt (quadV l1) (realV l2)) (by simp)
   have c2 : fitSign (atP (quadV l1) (realV l2)) (facV (atN (quadV l1) (realV l2))) (atR (quadV l1) (realV l2)) = true := hc (fitSign (atP (quadV l1) (realV l2)) (facV (atN (quadV l1) (realV l2))) (atR (quadV l1) (realV l2))) (by simp)
   obtain ⟨v1, rfl⟩ : ∃ x, l1 = quadCells x := ⟨_, quadOk_eq h1⟩
   obtain ⟨v2, rfl⟩ : ∃ x, l2 = realCells x := ⟨_, realOk_eq h2⟩
   simp only [quadV_cells, realV_cells] at *
   have hs := M253_sat v1 v2 c1 c2
   rw [← M253_eq] at hs
   generalize execFn Tryz.prog Γ253 noL 1010 Tryz.f114 [.agg (quadCells v1), .agg (realCells v2)] = T at hs ⊢
   generalize signV (atP v1 v2) (facV (atN v1 v2)) (atR v1 v2) = z at hs ⊢
   exact Tr.sat_mono (fun r hr => ⟨by subst hr; rfl, Sees.of_eq hr⟩) hs
  ·cases h
theorem f397_ok : PureOk Tryz.prog 44 K397 := by
 refine pureOk_of_exec prog_mixed noΓ_ok (fn := Tryz.f44) (c := codeOf Tryz.f44) (by kernel_rfl) (by kernel_rfl) (callFunc_enter (fn := Tryz.f44) (c := codeOf Tryz.f44) (by kernel_rfl) (by kernel_rfl) (by kernel_rfl)) (L := noL) (N := 1010) (blocksOk_none _ _) ?_ ?_
 ·intro args v cs h
  unfold K397 at h
  split at h
  ·cases h; rfl
  ·cases h
 ·intro args v cs h hc
  unfold K397 at h
  split at h
  ·rename_i l1
   cases h
   have h1 : realOk l1 = true := hc (realOk l1) (by simp)
   obtain ⟨v1, rfl⟩ : ∃ x, l1 = realCells x := ⟨_, realOk_eq h1⟩
   simp only [realV_cells] at *
   have hs := M397_sat v1
   rw [← M397_eq] at hs
   generalize execFn Tryz.prog (fun _ => none) noL 1010 Tryz.f44 [.agg (realCells v1)] = T at hs ⊢
   generalize hold (bif decide (v1.r = 0) then v1.p else 0) = z0 at hs ⊢
   generalize decide (v1.r = 0) = z1 at hs ⊢
   exact Tr.sat_mono (fun r hr => ⟨by subst hr; rfl, Sees.of_eq hr⟩) hs
  ·cases h
theorem Γb395_ok : ∀ f s, Γb395 f = some s → SpecOk Tryz.prog f s := step_ok f397_ok.spec (step_ok f321_ok.spec (step_ok f156_ok.spec (step_ok f154_ok.spec (step_ok f162_ok.spec (one_ok f322_ok.spec)))))
theorem f395_ok : PureOk Tryz.prog 323 K395 := by
 refine pureOk_of_exec prog_mixed (concΓ_ok (N := 70) prog_mixed Γb395_ok 3) (fn := Tryz.f323) (c := codeOf Tryz.f323) (by kernel_rfl) (by kernel_rfl) (callFunc_enter (fn := Tryz.f323) (c := codeOf Tryz.f323) (by kernel_rfl) (by kernel_rfl) (by kernel_rfl)) (L := noL) (N := 1010) (blocksOk_none _ _) ?_ ?_
 ·intro args v cs h
  unfold K395 at h
  split at h
  ·cases h; rfl
  ·cases h
 ·intro args v cs h hc
  unfold K395 at h
  split at h
  ·rename_i l1 l2
   cases h
   have h1 : quadOk l1 = true := hc (quadOk l1) (by simp)
   have h2 : realOk l2 = true := hc (realOk l2) (by simp)
   have c1 : fitRed (quadV l1) (realV l2) = true := hc (fitRed (quadV l1) (realV l2)) (by simp)
   obtain ⟨v1, rfl⟩ : ∃ x, l1 = quadCells x := ⟨_, quadOk_eq h1⟩
   obtain ⟨v2, rfl⟩ : ∃ x, l2 = realCells x := ⟨_, realOk_eq h2⟩
   simp only [quadV_cells, realV_cells] at *
   have hs := M395_sat v1 v2 c1
   rw [← M395_eq] at hs
   generalize execFn Tryz.prog (concΓ Tryz.prog Γb395 70 3) noL 1010 Tryz.f323 [.agg (quadCells v1), .agg (realCells v2)] = T at hs ⊢
   generalize hold (red0 v1 v2) = z0 at hs ⊢
   generalize hold (red1 v1 v2) = z1 at hs ⊢
   exact Tr.sat_mono (fun r hr => ⟨by subst hr; rfl, Sees.of_eq hr⟩) hs
  ·cases h
theorem Γ396_ok : ∀ f s, Γ396 f = some s → SpecOk Tryz.prog f s := step_ok f278_ok.spec (one_ok f395_ok.spec)
theorem f396_ok : PureOk Tryz.prog 324 K396 := by
 refine pureOk_of_exec prog_mixed Γ396_ok (fn := Tryz.f324) (c := codeOf Tryz.f324) (by kernel_rfl) (by kernel_rfl) (callFunc_enter (fn := Tryz.f324) (c := codeOf Tryz.f324) (by kernel_rfl) (by kernel_rfl) (by kernel_rfl)) (L := noL) (N := 1010) (blocksOk_none _ _) ?_ ?_
 ·intro args v cs h
  unfold K396 at h
  split at h
  ·cases h; rfl
  ·cases h
 ·intro args v cs h hc
  unfold K396 at h
  split at h
  ·rename_i l1 l2 l3
   cases h
   have h1 : quadOk l1 = true := hc (quadOk l1) (by simp)
   have h2 : quadOk l2 = true := hc (quadOk l2) (by simp)
   have h3 : realOk l3 = true := hc (realOk l3) (by simp)
   have c1 : fitSubQ (quadV l1) (quadV l2) = true := hc (fitSubQ (quadV l1) (quadV l2)) (by simp)
   have c2 : fitRed (subQ (quadV l1) (quadV l2)) (realV l3) = true := hc (fitRed (subQ (quadV l1) (quadV l2)) (realV l3)) (by simp)
   obtain ⟨v1, rfl⟩ : ∃ x, l1 = quadCells x := ⟨_, quadOk_eq h1⟩
   obtain ⟨v2, rfl⟩ : ∃ x, l2 = quadCells x := ⟨_, quadOk_eq h2⟩
   obtain ⟨v3, rfl⟩ : ∃ x, l3 = realCells x := ⟨_, realOk_eq h3⟩
   simp only [quadV_cells, realV_cells] at *
   have hs := M396_sat v1 v2 v3 c1 c2
   rw [← M396_eq] at hs
   generalize execFn Tryz.prog Γ396 noL 1010 Tryz.f324 [.agg (quadCells v1), .agg (quadCells v2), .agg (realCells v3)] = T at hs ⊢
   generalize (decide (red0 (subQ v1 v2) v3 = 0) && decide (red1 (subQ v1 v2) v3 = 0)) = z at hs ⊢
   exact Tr.sat_mono (fun r hr => ⟨by subst hr; rfl, Sees.of_eq hr⟩) hs
  ·cases h
theorem Γb105_ok : ∀ f s, Γb105 f = some s → SpecOk Tryz.prog f s := step_ok f154_ok.spec (step_ok f153_ok.spec (one_ok f156_ok.spec))
theorem f105_ok : PureOk Tryz.prog 76 K105 := by
 refine pureOk_of_exec prog_mixed (concΓ_ok (N := 70) prog_mixed Γb105_ok 3) (fn := Tryz.f76) (c := codeOf Tryz.f76) (by kernel_rfl) (by kernel_rfl) (callFunc_enter (fn := Tryz.f76) (c := codeOf Tryz.f76) (by kernel_rfl) (by kernel_rfl) (by kernel_rfl)) (L := noL) (N := 1010) (blocksOk_none _ _) ?_ ?_
 ·intro args v cs h
  unfold K105 at h
  split at h
  ·cases h; rfl
  ·cases h
 ·intro args v cs h hc
  unfold K105 at h
  split at h
  ·rename_i l1 l2 l3 l4
   cases h
   have h1 : ratOk l1 = true := hc (ratOk l1) (by simp)
   have h2 : ratOk l2 = true := hc (ratOk l2) (by simp)
   have h3 : ratOk l3 = true := hc (ratOk l3) (by simp)
   have h4 : ratOk l4 = true := hc (ratOk l4) (by simp)
   have c1 : fitBet (ratV l1) (ratV l2) (ratV l3) (ratV l4) = true := hc (fitBet (ratV l1) (ratV l2) (ratV l3) (ratV l4)) (by simp)
   obtain ⟨v1, rfl⟩ : ∃ x, l1 = ratCells x := ⟨_, ratOk_eq h1⟩
   obtain ⟨v2, rfl⟩ : ∃ x, l2 = ratCells x := ⟨_, ratOk_eq h2⟩
   obtain ⟨v3, rfl⟩ : ∃ x, l3 = ratCells x := ⟨_, ratOk_eq h3⟩
   obtain ⟨v4, rfl⟩ : ∃ x, l4 = ratCells x := ⟨_, ratOk_eq h4⟩
   simp only [ratV_cells] at *
   have hs := M105_sat v1 v2 v3 v4 c1
   rw [← M105_eq] at hs
   generalize execFn Tryz.prog (concΓ Tryz.prog Γb105 70 3) noL 1010 Tryz.f76 [.agg (ratCells v1), .agg (ratCells v2), .agg (ratCells v3), .agg (ratCells v4)] = T at hs ⊢
   generalize hold (v2 - slopeB v1 v2 v3 v4 * v1) = z0 at hs ⊢
   generalize hold (slopeB v1 v2 v3 v4) = z1 at hs ⊢
   exact Tr.sat_mono (fun r hr => ⟨by subst hr; rfl, Sees.of_eq hr⟩) hs
  ·cases h
end Go.Vse
set_option maxRecDepth 100000
namespace Go.Vse
open Go.Proofs
theorem fit4_of {x y : Rat} {N D N' D' : Nat} (hx : Bnd N D x) (hy : Bnd N' D' y) (h1 : N < 18446744073709551616) (h2 : D < 18446744073709551616) (h3 : N' < 18446744073709551616) (h4 : D' < 18446744073709551616) : fit4 x y = true := by
 obtain ⟨a1, a2⟩ := hx
 obtain ⟨b1, b2⟩ := hy
 simp only [fit4, w64, Bool.and_eq_true, decide_eq_true_eq, Int.natAbs_natCast]
 omega
theorem fitA_of {x y : Rat} {N D N' D' : Nat} (hx : Bnd N D x) (hy : Bnd N' D' y) (h1 : N < 18446744073709551616) (h2 : D < 18446744073709551616) (h3 : N' < 18446744073709551616) (h4 : D' < 18446744073709551616)
  (h5 : N * D' + N' * D < 18446744073709551616) (h6 : D * D' < 18446744073709551616) : fitA x y = true := by
 have h0 := fit4_of hx hy h1 h2 h3 h4
 obtain ⟨a1, a2⟩ := hx
 obtain ⟨b1, b2⟩ := hy
 have e1 := Nat.mul_le_mul a1 b2
 have e2 := Nat.mul_le_mul b1 a2
 have e3 := Nat.mul_le_mul a2 b2
 have e4 := Int.natAbs_add_le (x.num * y.den) (y.num * x.den)
 rw [Int.natAbs_mul, Int.natAbs_mul, Int.natAbs_natCast, Int.natAbs_natCast] at e4
 have e5 : ((x.den : Int) * (y.den : Int)).natAbs = x.den * y.den := by rw [Int.natAbs_mul, Int.natAbs_natCast, Int.natAbs_natCast]
 simp only [fitA, h0, w64, Bool.and_eq_true, decide_eq_true_eq, e5]
 exact ⟨⟨trivial, Nat.lt_of_le_of_lt (Nat.le_trans e4 (Nat.add_le_add e1 e2)) h5⟩, Nat.lt_of_le_of_lt e3 h6⟩
theorem fitM_of {x y : Rat} {N D N' D' : Nat} (hx : Bnd N D x) (hy : Bnd N' D' y) (h1 : N < 18446744073709551616) (h2 : D < 18446744073709551616) (h3 : N' < 18446744073709551616) (h4 : D' < 18446744073709551616)
  (h5 : N * N' < 18446744073709551616) (h6 : D * D' < 18446744073709551616) : fitM x y = true := by
 have h0 := fit4_of hx hy h1 h2 h3 h4
 obtain ⟨a1, a2⟩ := hx
 obtain ⟨b1, b2⟩ := hy
 have e1 := Nat.mul_le_mul a1 b1
 have e3 := Nat.mul_le_mul a2 b2
 have e4 : (x.num * y.num).natAbs = x.num.natAbs * y.num.natAbs := Int.natAbs_mul ..
 have e5 : ((x.den : Int) * (y.den : Int)).natAbs = x.den * y.den := by rw [Int.natAbs_mul, Int.natAbs_natCast, Int.natAbs_natCast]
 simp only [fitM, h0, w64, Bool.and_eq_true, decide_eq_true_eq, e4, e5]
 exact ⟨⟨trivial, Nat.lt_of_le_of_lt e1 h5⟩, Nat.lt_of_le_of_lt e3 h6⟩
theorem fitD_of {x y : Rat} {N D N' D' : Nat} (hx : Bnd N D x) (hy : Bnd N' D' y) (h1 : N < 18446744073709551616) (h2 : D < 18446744073709551616) (h3 : N' < 18446744073709551616) (h4 : D' < 18446744073709551616)
  (h5 : N * D' < 18446744073709551616) (h6 : D * N' < 18446744073709551616) : fitD x y = true := by
 have h0 := fit4_of hx hy h1 h2 h3 h4
 obtain ⟨a1, a2⟩ := hx
 obtain ⟨b1, b2⟩ := hy
 have e1 := Nat.mul_le_mul a1 b2
 have e3 := Nat.mul_le_mul a2 b1
 have e4 : (x.num * (y.den : Int)).natAbs = x.num.natAbs * y.den := by rw [Int.natAbs_mul, Int.natAbs_natCast]
 have e5 : ((x.den : Int) * y.num).natAbs = x.den * y.num.natAbs := by rw [Int.natAbs_mul, Int.natAbs_natCast]
 simp only [fitD, h0, w64, Bool.and_eq_true, decide_eq_true_eq, e4, e5]
 exact ⟨⟨trivial, Nat.lt_of_le_of_lt e1 h5⟩, Nat.lt_of_le_of_lt e3 h6⟩
def bndB (N D : Nat) (q : Rat) : Bool := decide (q.num.natAbs ≤ N ∧ q.den ≤ D)
theorem bndB_iff {N D : Nat} {q : Rat} : bndB N D q = true ↔ Bnd N D q := by unfold bndB Bnd; exact decide_eq_true_iff
theorem Bnd.zero : Bnd 0 1 0 := ⟨Nat.le_refl _, Nat.le_refl _⟩
theorem Bnd.one : Bnd 1 1 1 := ⟨Nat.le_refl _, Nat.le_refl _⟩
theorem Bnd.two : Bnd 2 1 2 := ⟨Nat.le_refl _, Nat.le_refl _⟩
theorem Bnd.sub {x y : Rat} {N D N' D' : Nat} (h : Bnd N D x) (h' : Bnd N' D' y) : Bnd (N * D' + N' * D) (D * D') (x - y) := by
 rw [Rat.sub_eq_add_neg]
 exact h.add h'.neg
end Go.Vse
namespace Go.Vse
open Go.RowKit
def Tr.flatS {α : Type} : Tr α → Option (α × List Bool)
 | .ret a => some (a, [])
 | .ite c t e => bif c then t.flatS else e.flatS
 | .need p t =>
  match t.flatS with
  | some (a, cs) => some (a, p :: cs)
  | none => none
 | .both _ _ => none
 | .fail _ => none
theorem Tr.flatS_sat {α : Type} : ∀ {t : Tr α} {a : α} {cs : List Bool}, t.flatS = some (a, cs) → (∀ p ∈ cs, p = true) → t.sat (· = a)
 | .ret a, b, cs, h, _ => by
   simp only [Tr.flatS, Option.some.injEq, Prod.mk.injEq] at h
   exact h.1
 | .ite c t e, b, cs, h, hc => by
   cases c with
   | true => exact ⟨fun _ => Tr.flatS_sat (by simpa [Tr.flatS] using h) hc, fun h => by cases h⟩
   | false => exact ⟨fun h => (by cases h), fun _ => Tr.flatS_sat (by simpa [Tr.flatS] using h) hc⟩
 | .need p t, b, cs, h, hc => by
   simp only [Tr.flatS] at h
   split at h
   · rename_i a cs' ht
     simp only [Option.some.injEq, Prod.mk.injEq] at h
     obtain ⟨rfl, rfl⟩ := h
     exact ⟨hc p (by simp), fun _ => Tr.flatS_sat ht fun q hq => hc q (by simp [hq])⟩
   · cases h
 | .both _ _, b, cs, h, _ => by simp [Tr.flatS] at h
 | .fail _, b, cs, h, _ => by simp [Tr.flatS] at h
def inlPure (P : Program) (Γ : FuncId → Option Spec) (N : Nat) (fn : Func) (args : List AV) : Option (AV × List Bool) :=
 match (execFn P Γ noL N fn args).flatS with
 | some (v, cs) => bif noPtr v then some (v, cs) else none
 | none => none
def inlMem (P : Program) (Γ : FuncId → Option Spec) (N : Nat) (frz : Bool) (fn : Func) : MSpec := fun ents args =>
 match (execM P Γ noL N frz fn ents args).flatS with
 | some (o, cs) => some { val := o.val, outs := o.outs, new := o.new, conds := cs }
 | none => none
def inlS (P : Program) (Γ : FuncId → Option Spec) (N : Nat) (ms : Bool) (fn : Func) : Spec :=
 bif ms then memSpec (inlMem P Γ N false fn) else fun slot m args =>
  bif freeL args then pureSpec (inlPure P Γ N fn) slot m args else memSpec (inlMem P Γ N true fn) slot m args
def inlΓ (P : Program) (base : FuncId → Option Spec) (ms : FuncId → Bool) (N : Nat) : Nat → FuncId → Option Spec
 | 0 => base
 | d + 1 => fun f =>
  match base f with
  | some s => some s
  | none =>
   match P.funcs[f]? with
   | some fn =>
    match fn.body with
    | some _ => bif okName fn then some (inlS P (inlΓ P base ms N d) N (ms f) fn) else none
    | none => none
   | none => none
section
variable {P : Program} {Γ : FuncId → Option Spec} {N : Nat}
theorem inlPure_ok (hm : P.follows .mixedOrders = true) (hΓ : ∀ f s, Γ f = some s → SpecOk P f s) {f : FuncId} {fn : Func} {c : Code} (hf : P.funcs[f]? = some fn) (hb : fn.body = some c) (hn : okName fn = true) : PureOk P f (inlPure P Γ N fn) := by
 have hk : ∀ args v cs, inlPure P Γ N fn args = some (v, cs) → Vse.noPtr v = true ∧ (execFn P Γ noL N fn args).flatS = some (v, cs) := by
  intro args v cs h
  unfold inlPure at h
  split at h
  ·rename_i u ds hu
   cases hp : Vse.noPtr u with
   | false => rw [hp] at h; cases h
   | true =>
    rw [hp] at h
    simp only [cond_true, Option.some.injEq, Prod.mk.injEq] at h
    obtain ⟨rfl, rfl⟩ := h
    exact ⟨hp, hu⟩
  ·cases h
 refine pureOk_of_exec hm hΓ hf hb (callFunc_enter hf hb hn) (L := noL) (N := N) (blocksOk_none 0 c) (fun args v cs h => (hk args v cs h).1) fun args v cs h hc => ?_
 refine Tr.sat_mono ?_ (Tr.flatS_sat (hk args v cs h).2 hc)
 rintro r rfl
 exact ⟨(hk args r cs h).1, Sees.refl r⟩
theorem inlMem_ok (hm : P.follows .mixedOrders = true) (hΓ : ∀ f s, Γ f = some s → SpecOk P f s) {f : FuncId} {fn : Func} {c : Code} (hf : P.funcs[f]? = some fn) (hb : fn.body = some c) (hn : okName fn = true) (frz : Bool) : MemOk P f (inlMem P Γ N frz fn) := by
 refine memOk_of_exec (L := fun _ => noL) hm hΓ hf hb (callFunc_enter hf hb hn) (N := N) (frz := frz) (fun ents args o _ => blocksOk_none ents.length c) fun ents args o h hc => ?_
 unfold inlMem at h
 split at h
 ·rename_i o' cs ho
  simp only [Option.some.injEq] at h
  subst h
  refine Tr.sat_mono ?_ (Tr.flatS_sat ho hc)
  rintro r rfl
  exact ⟨Sees.refl _, EntsEqv.refl _⟩
 ·cases h
theorem inlS_ok (hm : P.follows .mixedOrders = true) (hΓ : ∀ f s, Γ f = some s → SpecOk P f s) {f : FuncId} {fn : Func} {c : Code} (hf : P.funcs[f]? = some fn) (hb : fn.body = some c) (hn : okName fn = true) (ms : Bool) : SpecOk P f (inlS P Γ N ms fn) := by
 cases ms with
 | true => exact (inlMem_ok hm hΓ hf hb hn false).spec
 | false => exact SpecOk.pick freeL (inlPure_ok hm hΓ hf hb hn).spec (inlMem_ok hm hΓ hf hb hn true).spec
theorem inlΓ_ok (hm : P.follows .mixedOrders = true) {base : FuncId → Option Spec} {ms : FuncId → Bool} (hΓ : ∀ f s, base f = some s → SpecOk P f s) : ∀ (d : Nat) (f : FuncId) (s : Spec), inlΓ P base ms N d f = some s → SpecOk P f s
 | 0, f, s, h => hΓ f s h
 | d + 1, f, s, h => by
  unfold inlΓ at h
  split at h
  ·rename_i s' hs'
   cases h
   exact hΓ f _ hs'
  ·split at h
   ·rename_i fn hf
    split at h
    ·rename_i c hb
     cases hn : okName fn with
     | false => rw [hn] at h; cases h
     | true =>
      rw [hn] at h
      simp only [cond_true, Option.some.injEq] at h
      subst h
      exact inlS_ok hm (inlΓ_ok hm hΓ d) hf hb hn _
    ·cases h
   ·cases h
end
end Go.Vse
namespace Go.Vse
open Go.RowKit
structure Arg (X : Type) where
 get : AV → Option (X × List Bool)
 put : X → AV
 ok : ∀ a x cs, get a = some (x, cs) → (∀ p ∈ cs, p = true) → Sees a (put x)
structure Form (X : Type) where
 parse : List AV → Option (X × List Bool)
 args : X → List AV
 ok : ∀ l x cs, parse l = some (x, cs) → (∀ p ∈ cs, p = true) → SeesL l (args x)
def Form.nil : Form Unit where
 parse := fun l => match l with | [] => some ((), []) | _ => none
 args := fun _ => []
 ok := by
  intro l x cs h hc
  cases l with
  | nil => exact .nil
  | cons a l => cases h
def Form.cons {X Y : Type} (A : Arg X) (F : Form Y) : Form (X × Y) where
 parse := fun l =>
  match l with
  | a :: l =>
   match A.get a, F.parse l with
   | some (x, cs), some (y, ds) => some ((x, y), cs ++ ds)
   | _, _ => none
  | [] => none
 args := fun p => A.put p.1 :: F.args p.2
 ok := by
  intro l p cs h hc
  cases l with
  | nil => cases h
  | cons a l =>
   simp only at h
   split at h
   ·rename_i x c1 y c2 h1 h2
    simp only [Option.some.injEq, Prod.mk.injEq] at h
    obtain ⟨rfl, rfl⟩ := h
    exact .cons (A.ok a x c1 h1 fun p hp => hc p (by simp [hp])) (F.ok l y c2 h2 fun p hp => hc p (by simp [hp]))
   ·cases h
def Form.map {X Y : Type} (F : Form X) (f : X → Y) (g : Y → X) (h : ∀ x, g (f x) = x) : Form Y where
 parse := fun l => match F.parse l with | some (x, cs) => some (f x, cs) | none => none
 args := fun y => F.args (g y)
 ok := by
  intro l y cs hp hc
  split at hp
  ·rename_i x ds hx
   simp only [Option.some.injEq, Prod.mk.injEq] at hp
   obtain ⟨rfl, rfl⟩ := hp
   rw [h]
   exact F.ok l x _ hx hc
  ·cases hp
def Form.K {X : Type} (F : Form X) (val : X → AV) (pre : X → List Bool) : List AV → Option (AV × List Bool) := fun l =>
 match F.parse l with
 | some (x, cs) => some (val x, cs ++ pre x)
 | none => none
section
variable {P : Program} {Γ : FuncId → Option Spec} {L : Nat → Option (St → Tr (Ex × St))} {N : Nat}
theorem Form.pureOk {X : Type} (F : Form X) {val : X → AV} {pre : X → List Bool} (hm : P.follows .mixedOrders = true) (hΓ : ∀ f s, Γ f = some s → SpecOk P f s) {f : FuncId} {fn : Func} {c : Code} (hf : P.funcs[f]? = some fn) (hb : fn.body = some c)
  (hn : okName fn = true) (hl : BlocksOk P 0 L c) (hv : ∀ x, Vse.noPtr (val x) = true)
  (h : ∀ x, (∀ p ∈ pre x, p = true) → (execFn P Γ L N fn (F.args x)).sat fun r => Vse.noPtr r = true ∧ Sees r (val x)) : PureOk P f (F.K val pre) := by
 refine pureOk_of_exec_c hm hΓ hf hb (callFunc_enter hf hb hn) (L := L) (N := N) hl (fun args v cs hk => ?_) fun args v cs hk hc => ?_
 ·unfold Form.K at hk
  split at hk
  ·simp only [Option.some.injEq, Prod.mk.injEq] at hk
   rw [← hk.1]; exact hv _
  ·cases hk
 ·unfold Form.K at hk
  split at hk
  ·rename_i x ds hx
   simp only [Option.some.injEq, Prod.mk.injEq] at hk
   obtain ⟨rfl, rfl⟩ := hk
   exact ⟨F.args x, F.ok args x ds hx fun p hp => hc p (by simp [hp]), h x fun p hp => hc p (by simp [hp])⟩
  ·cases hk
theorem Form.pureEq {X : Type} (F : Form X) {val : X → AV} {pre : X → List Bool} (hm : P.follows .mixedOrders = true) (hΓ : ∀ f s, Γ f = some s → SpecOk P f s) {f : FuncId} {fn : Func} {c : Code} (hf : P.funcs[f]? = some fn) (hb : fn.body = some c)
  (hn : okName fn = true) (hl : BlocksOk P 0 L c) (hv : ∀ x, Vse.noPtr (val x) = true) {M : X → Tr AV} (hM : ∀ x, execFn P Γ L N fn (F.args x) = M x)
  (h : ∀ x, (∀ p ∈ pre x, p = true) → (M x).sat fun r => r = val x) : PureOk P f (F.K val pre) :=
 F.pureOk hm hΓ hf hb hn hl hv fun x hx => by
  rw [hM x]
  exact Tr.sat_mono (fun r hr => ⟨by rw [hr]; exact hv x, Sees.of_eq hr⟩) (h x hx)
structure MForm (X : Type) where
 parse : List (Option Ent) → List AV → Option (X × List Bool)
 ents : X → List (Option Ent)
 args : X → List AV
 ok : ∀ e l x cs, parse e l = some (x, cs) → (∀ p ∈ cs, p = true) → EntsEqv e (ents x) ∧ SeesL l (args x)
def MForm.K {X : Type} (F : MForm X) (out : X → MemOut) (pre : X → List Bool) : MSpec := fun e l =>
 match F.parse e l with
 | some (x, cs) => some { out x with conds := cs ++ pre x }
 | none => none
def OutOf (o : MemOut) (p : MemOut) : Prop := Sees p.val o.val ∧ EntsEqv (p.outs ++ [p.new]) (o.outs ++ [o.new])
theorem OutOf.refl (o : MemOut) : OutOf o o := ⟨Sees.refl _, EntsEqv.refl _⟩
theorem MForm.memOk {X : Type} (F : MForm X) {out : X → MemOut} {pre : X → List Bool} {frz : Bool} {L : Nat → Nat → Option (St → Tr (Ex × St))} (hm : P.follows .mixedOrders = true) (hΓ : ∀ f s, Γ f = some s → SpecOk P f s) {f : FuncId} {fn : Func} {c : Code} (hf : P.funcs[f]? = some fn)
  (hb : fn.body = some c) (hn : okName fn = true) (hl : ∀ e l x cs, F.parse e l = some (x, cs) → BlocksOk P e.length (L e.length) c)
  (hle : ∀ x e, EntsEqv e (F.ents x) → L e.length = L (F.ents x).length)
  (h : ∀ x, (∀ p ∈ pre x, p = true) → (execM P Γ (L (F.ents x).length) N frz fn (F.ents x) (F.args x)).sat (OutOf (out x))) : MemOk P f (F.K out pre) := by
 refine memOk_of_exec_c (L := L) hm hΓ hf hb (callFunc_enter hf hb hn) (N := N) (frz := frz) (fun e l o ho => ?_) fun e l o ho hc => ?_
 ·unfold MForm.K at ho
  split at ho
  ·rename_i x cs hx
   exact hl e l x cs hx
  ·cases ho
 ·unfold MForm.K at ho
  split at ho
  ·rename_i x cs hx
   cases ho
   obtain ⟨h1, h2⟩ := F.ok e l x cs hx fun p hp => hc p (by simp [hp])
   refine ⟨F.ents x, F.args x, h1, h2, ?_⟩
   rw [hle x e h1]
   exact h x fun p hp => hc p (by simp [hp])
  ·cases ho
def MForm.pure {X : Type} (F : Form X) : MForm X where
 parse := fun e l => match e with | [] => F.parse l | _ => none
 ents := fun _ => []
 args := F.args
 ok := by
  intro e l x cs h hc
  cases e with
  | nil => exact ⟨EntsEqv.refl _, F.ok l x cs h hc⟩
  | cons _ _ => cases h
structure EForm (X : Type) where
 parse : List (Option Ent) → Option (X × List Bool)
 ents : X → List (Option Ent)
 ok : ∀ e x cs, parse e = some (x, cs) → (∀ p ∈ cs, p = true) → EntsEqv e (ents x)
def MForm.with {X Y : Type} (E : EForm Y) (F : Form X) : MForm (X × Y) where
 parse := fun e l =>
  match F.parse l, E.parse e with
  | some (x, cs), some (y, ds) => some ((x, y), cs ++ ds)
  | _, _ => none
 ents := fun p => E.ents p.2
 args := fun p => F.args p.1
 ok := by
  intro e l p cs h hc
  split at h
  ·rename_i x c1 y c2 h1 h2
   simp only [Option.some.injEq, Prod.mk.injEq] at h
   obtain ⟨rfl, rfl⟩ := h
   exact ⟨E.ok e y c2 h2 fun p hp => hc p (by simp [hp]), F.ok l x c1 h1 fun p hp => hc p (by simp [hp])⟩
  ·cases h
end
def argInt : Arg Int where
 get := fun a => match a with | .c (.v (.int .i64 n)) => some (n, []) | _ => none
 put := fun n => .c (.v (.int .i64 n))
 ok := by
  intro a x cs h hc
  split at h
  ·cases h; exact Sees.refl _
  ·cases h
def argBool : Arg Bool where
 get := fun a => match a with | .c (.v (.bool b)) => some (b, []) | _ => none
 put := fun b => .c (.v (.bool b))
 ok := by
  intro a x cs h hc
  split at h
  ·cases h; exact Sees.refl _
  ·cases h
def argPtr (b o : Nat) : Arg Unit where
 get := fun a => match a with | .ptr b' o' => bif Nat.beq b b' && Nat.beq o o' then some ((), []) else none | _ => none
 put := fun _ => .ptr b o
 ok := by
  intro a x cs h hc
  split at h
  ·rename_i b' o'
   cases hb : (Nat.beq b b' && Nat.beq o o') with
   | false => rw [hb] at h; cases h
   | true =>
    simp only [Bool.and_eq_true] at hb
    obtain ⟨h1, h2⟩ := hb
    obtain rfl : b = b' := by simpa using h1
    obtain rfl : o = o' := by simpa using h2
    exact Sees.refl _
  ·cases h
def argFn1 (f b o : Nat) : Arg Unit where
 get := fun a => match a with | .fn f' [.ptr b' o'] => bif Nat.beq f f' && (Nat.beq b b' && Nat.beq o o') then some ((), []) else none | _ => none
 put := fun _ => .fn f [.ptr b o]
 ok := by
  intro a x cs h hc
  split at h
  ·rename_i f' b' o'
   cases hb : (Nat.beq f f' && (Nat.beq b b' && Nat.beq o o')) with
   | false => rw [hb] at h; cases h
   | true =>
    simp only [Bool.and_eq_true] at hb
    obtain ⟨h0, h1, h2⟩ := hb
    obtain rfl : f = f' := by simpa using h0
    obtain rfl : b = b' := by simpa using h1
    obtain rfl : o = o' := by simpa using h2
    exact Sees.refl _
  ·cases h
def argFnV (f : Nat) : Arg Unit where
 get := fun a => match a with | .c (.v (.func (.func f') first cap)) => bif Nat.beq f f' && (first.isEmpty && cap.isEmpty) then some ((), []) else none | _ => none
 put := fun _ => .c (.v (.func (.func f) #[] #[]))
 ok := by
  intro a x cs h hc
  split at h
  ·rename_i f' first cap
   cases hb : (Nat.beq f f' && (first.isEmpty && cap.isEmpty)) with
   | false => rw [hb] at h; cases h
   | true =>
    simp only [Bool.and_eq_true, Array.isEmpty_iff] at hb
    obtain ⟨h0, rfl, rfl⟩ := hb
    obtain rfl : f = f' := by simpa using h0
    exact Sees.refl _
  ·cases h
def argIface (t : Nat) : Arg Unit where
 get := fun a => match a with | .c (.v (.iface t' (.agg cs))) => bif Nat.beq t t' && cs.isEmpty then some ((), []) else none | _ => none
 put := fun _ => .c (.v (.iface t (.agg #[])))
 ok := by
  intro a x cs h hc
  split at h
  ·rename_i t' es
   cases hb : (Nat.beq t t' && es.isEmpty) with
   | false => rw [hb] at h; cases h
   | true =>
    simp only [Bool.and_eq_true, Array.isEmpty_iff] at hb
    obtain ⟨h0, rfl⟩ := hb
    obtain rfl : t = t' := by simpa using h0
    exact Sees.refl _
  ·cases h
def argUnit : Arg Unit where
 get := fun a => match a with | .agg [] => some ((), []) | _ => none
 put := fun _ => .agg []
 ok := by
  intro a x cs h hc
  split at h
  ·exact Sees.refl _
  ·cases h
end Go.Vse
namespace Go.Vse
open Go.Proofs
section
variable {X : Type} (F : Form X) {val : X → AV} {pre : X → List Bool} {Γ : FuncId → Option Spec} {L : Nat → Option (St → Tr (Ex × St))} {f : FuncId} {fn : Func} {M : X → Tr AV}
theorem Form.pl (hΓ : ∀ f s, Γ f = some s → SpecOk Tryz.prog f s) (hl : BlocksOk Tryz.prog 0 L (codeOf fn)) (hv : ∀ x, Vse.noPtr (val x) = true) (hM : ∀ x, execFn Tryz.prog Γ L 1010 fn (F.args x) = M x) (h : ∀ x, (∀ p ∈ pre x, p = true) → (M x).sat fun r => r = val x)
  (hf : Tryz.prog.funcs[f]? = some fn := by kernel_rfl) (hb : fn.body = some (codeOf fn) := by kernel_rfl) (hn : okName fn = true := by kernel_rfl) : PureOk Tryz.prog f (F.K val pre) :=
 F.pureEq prog_mixed hΓ hf hb hn hl hv hM h
end
structure EArg (X : Type) where
 get : Option Ent → Option (X × List Bool)
 put : X → Option Ent
 ok : ∀ e x cs, get e = some (x, cs) → (∀ p ∈ cs, p = true) → EntEqv e (put x)
def EForm.nil : EForm Unit where
 parse := fun e => match e with | [] => some ((), []) | _ => none
 ents := fun _ => []
 ok := by
  intro e x cs h hc
  cases e with
  | nil => exact .nil
  | cons a l => cases h
def EForm.cons {X Y : Type} (A : EArg X) (F : EForm Y) : EForm (X × Y) where
 parse := fun e =>
  match e with
  | a :: e =>
   match A.get a, F.parse e with
   | some (x, cs), some (y, ds) => some ((x, y), cs ++ ds)
   | _, _ => none
  | [] => none
 ents := fun p => A.put p.1 :: F.ents p.2
 ok := by
  intro l p cs h hc
  cases l with
  | nil => cases h
  | cons a l =>
   simp only at h
   split at h
   ·rename_i x c1 y c2 h1 h2
    simp only [Option.some.injEq, Prod.mk.injEq] at h
    obtain ⟨rfl, rfl⟩ := h
    exact .cons (A.ok a x c1 h1 fun p hp => hc p (by simp [hp])) (F.ok l y c2 h2 fun p hp => hc p (by simp [hp]))
   ·cases h
end Go.Vse
namespace Go.Vse
namespace Tr
def out {α : Type} : Tr α → Option α
 | .ret a => some a
 | .ite c t e => bif c then t.out else e.out
 | .need _ t => t.out
 | .both a _ => a.out
 | .fail _ => none
def one {α : Type} : Tr α → Bool
 | .ret _ => true
 | .ite _ t e => t.one && e.one
 | .need _ t => t.one
 | .both _ _ => false
 | .fail _ => true
theorem det {α : Type} {Q : α → Prop} : ∀ {t : Tr α}, t.one = true → t.sat Q → ∃ r, t.out = some r ∧ Q r ∧ t.sat (· = r)
 | .ret a, _, h => ⟨a, rfl, h, rfl⟩
 | .ite c t e, h1, h => by
   simp only [one, Bool.and_eq_true] at h1
   cases c with
   | true =>
     obtain ⟨r, a, b, k⟩ := det h1.1 (h.1 rfl)
     exact ⟨r, a, b, And.intro (fun _ => k) (fun h => Bool.noConfusion h)⟩
   | false =>
     obtain ⟨r, a, b, k⟩ := det h1.2 (h.2 rfl)
     exact ⟨r, a, b, And.intro (fun h => Bool.noConfusion h) (fun _ => k)⟩
 | .need p t, h1, h => by
   obtain ⟨r, a, b, k⟩ := det (t := t) h1 (h.2 h.1)
   exact ⟨r, a, b, And.intro h.1 (fun _ => k)⟩
 | .both _ _, h1, _ => by cases h1
 | .fail _, _, h => h.elim
end Tr
def runX {X R : Type} (step : X → Tr (X ⊕ R)) : Nat → X → Option R
 | 0, _ => none
 | n + 1, x => match (step x).out with
  | some (.inl y) => runX step n y
  | some (.inr r) => some r
  | none => none
section
variable {X R : Type} {step : X → Tr (X ⊕ R)}
theorem RunsX.det (h1 : ∀ x, (step x).one = true) {Q : R → Prop} : ∀ {n : Nat} {x : X}, RunsX step Q n x → ∃ r, runX step n x = some r ∧ Q r ∧ RunsX step (· = r) n x
 | 0, _, h => h.elim
 | n + 1, x, h => by
   obtain ⟨y, e, hy, hs⟩ := Tr.det (h1 x) h
   unfold runX RunsX
   rw [e]
   cases y with
   | inl x' =>
     obtain ⟨r, a, b, k⟩ := RunsX.det h1 (n := n) (x := x') hy
     exact ⟨r, a, b, Tr.sat_mono (fun z hz => by subst hz; exact k) hs⟩
   | inr r => exact ⟨r, rfl, hy, Tr.sat_mono (fun z hz => by subst hz; rfl) hs⟩
theorem RunsX.mono {Q Q' : R → Prop} (hQ : ∀ r, Q r → Q' r) : ∀ {n : Nat} {x : X}, RunsX step Q n x → RunsX step Q' n x
 | 0, _, h => h.elim
 | n + 1, x, h => by
  unfold RunsX at h ⊢
  refine Tr.sat_mono (fun z hz => ?_) h
  cases z with
  | inl y => exact RunsX.mono hQ hz
  | inr r => exact hQ r hz
theorem RunsX.more {Q : R → Prop} : ∀ {n m : Nat} {x : X}, n ≤ m → RunsX step Q n x → RunsX step Q m x
 | 0, _, _, _, h => h.elim
 | n + 1, 0, _, h, _ => by omega
 | n + 1, m + 1, x, h, hr => by
   unfold RunsX at hr ⊢
   refine Tr.sat_mono (fun z hz => ?_) hr
   cases z with
   | inl y => exact RunsX.more (by omega) hz
   | inr r => exact hz
theorem RunsX.res (h1 : ∀ x, (step x).one = true) {Q : R → Prop} {n m : Nat} {x : X} (hn : n ≤ m) (h : RunsX step Q n x) (r0 : R) : Q ((runX step m x).getD r0) ∧ RunsX step (· = (runX step m x).getD r0) m x := by
 obtain ⟨r, a, b, k⟩ := RunsX.det h1 (RunsX.more hn h)
 rw [a]
 exact ⟨b, k⟩
end
end Go.Vse
set_option maxRecDepth 100000
namespace Go.Vse
open Go.Proofs
def ivR (q : Rat) : List IV := [.v (.bool (decide (q.num < 0))), .v (.string ⟨⟨magB q.num.natAbs⟩⟩), .v (.bool false), .v (.string ⟨⟨denB q.den⟩⟩)]
def lineIV (x : L4) : List IV := ivR x.x0 ++ (ivR x.x1 ++ (ivR x.y0 ++ ivR x.y1))
theorem map_c_inj : ∀ {l m : List IV}, l.map AV.c = m.map AV.c → l = m
 | [], [], _ => rfl
 | [], _ :: _, h => by cases h
 | _ :: _, [], h => by cases h
 | x :: l, y :: m, h => by
   simp only [List.map_cons, List.cons.injEq, AV.c.injEq] at h
   rw [h.1, map_c_inj h.2]
structure Elt (X : Type) where
 n : Nat
 iv : X → List IV
 V : List AV → X
 ok : List AV → Bool
 d : X
 ok_eq : ∀ l, ok l = true → l = (iv (V l)).map AV.c
 V_c : ∀ x, V ((iv x).map AV.c) = x
 ok_c : ∀ x, ok ((iv x).map AV.c) = true
 len : ∀ x, (iv x).length = n
namespace Elt
variable {X : Type} (E : Elt X)
def el (U : List X) : Nat → List IV := fun k => E.iv (U.getD k E.d)
def list (n : Nat) (el : Nat → List IV) : List X := (List.range n).map fun k => E.V ((el k).map AV.c)
def oks (n : Nat) (el : Nat → List IV) : Bool := (List.range n).all fun k => E.ok ((el k).map AV.c)
def sl (U : List X) : AV := .c (.sl U.length E.n (E.el U))
theorem list_len (n : Nat) (el : Nat → List IV) : (E.list n el).length = n := by simp [list]
theorem list_getD (n : Nat) (el : Nat → List IV) (k : Nat) (hk : k < n) : (E.list n el).getD k E.d = E.V ((el k).map AV.c) := by
 simp [list, List.getD_eq_getElem?_getD, hk]
theorem oks_el {n : Nat} {el : Nat → List IV} (h : E.oks n el = true) : ∀ k, k < n → el k = E.el (E.list n el) k := fun k hk => by
 have h1 := List.all_eq_true.1 h k (List.mem_range.2 hk)
 have h2 := E.ok_eq _ h1
 unfold Elt.el
 rw [E.list_getD n el k hk]
 exact map_c_inj h2
theorem list_el (U : List X) : E.list U.length (E.el U) = U := by
 apply List.ext_getElem
 ·simp [list]
 ·intro i h1 h2
  simp [list, Elt.el, E.V_c, List.getD_eq_getElem?_getD, h2]
theorem oks_mk (U : List X) (n : Nat) : E.oks n (E.el U) = true := List.all_eq_true.2 fun k _ => E.ok_c _
theorem list_congr {n : Nat} {el el' : Nat → List IV} (h : ∀ k, k < n → el k = el' k) : E.list n el = E.list n el' := by
 unfold list
 refine List.map_congr_left fun k hk => ?_
 rw [h k (List.mem_range.1 hk)]
theorem oks_congr {n : Nat} {el el' : Nat → List IV} (h : ∀ k, k < n → el k = el' k) : E.oks n el = E.oks n el' := by
 have : ∀ l : List Nat, (∀ k ∈ l, k < n) → (l.all fun k => E.ok ((el k).map AV.c)) = (l.all fun k => E.ok ((el' k).map AV.c)) := by
  intro l hl
  induction l with
  | nil => rfl
  | cons x l ih =>
   simp only [List.all_cons]
   rw [h x (hl x (by simp)), ih fun k hk => hl k (by simp [hk])]
 exact this _ fun k hk => List.mem_range.1 hk
theorem join_el (U : List X) (u : X) (el' : Nat → List IV) (he : el' 0 = E.iv u) : ∀ k, k < U.length + 1 → joinE U.length (E.el U) el' k = E.el (U ++ [u]) k := by
 intro k hk
 unfold joinE Elt.el
 by_cases hlt : k < U.length
 ·rw [if_pos hlt]
  simp [List.getD_eq_getElem?_getD, List.getElem?_append_left hlt]
 ·have : k = U.length := by omega
  subst this
  rw [if_neg hlt, Nat.sub_self, he]
  simp [List.getD_eq_getElem?_getD]
theorem set_el (U : List X) (i : Nat) (hi : i < U.length) (j : Nat) (c : List IV) (u : X) (he : (E.iv (U.getD i E.d)).take j ++ c ++ (E.iv (U.getD i E.d)).drop (j + c.length) = E.iv u) :
  ∀ k, k < U.length → spliceE (E.el U) i j c k = E.el (U.set i u) k := by
 intro k hk
 unfold spliceE
 by_cases hk2 : k = i
 ·subst hk2
  rw [if_pos rfl]
  unfold Elt.el
  rw [he]
  simp [List.getD_eq_getElem?_getD, hk]
 ·rw [if_neg hk2]
  unfold Elt.el
  simp [List.getD_eq_getElem?_getD, List.getElem?_set_ne (Ne.symm hk2)]
theorem set (U : List X) (i : Nat) (hi : i < U.length) (j : Nat) (c : List IV) (u : X) (he : (E.iv (U.getD i E.d)).take j ++ c ++ (E.iv (U.getD i E.d)).drop (j + c.length) = E.iv u) :
  E.list U.length (spliceE (E.el U) i j c) = U.set i u ∧ E.oks U.length (spliceE (E.el U) i j c) = true := by
 have key := E.set_el U i hi j c u he
 have hl : U.length = (U.set i u).length := by simp
 rw [E.list_congr key, E.oks_congr key]
 constructor
 ·conv => lhs; rw [hl]
  exact E.list_el _
 ·exact E.oks_mk _ _
def arg : Arg (List X) where
 get := fun a => match a with | .c (.sl n sz el) => bif Nat.beq sz E.n then some (E.list n el, [E.oks n el]) else none | _ => none
 put := E.sl
 ok := by
  intro a x cs h hc
  split at h
  ·rename_i n sz el
   cases hb : Nat.beq sz E.n with
   | false => rw [hb] at h; cases h
   | true =>
    rw [hb] at h
    simp only [cond_true, Option.some.injEq, Prod.mk.injEq] at h
    obtain ⟨rfl, rfl⟩ := h
    obtain rfl : sz = E.n := by simpa using hb
    unfold sl
    rw [list_len]
    exact Sees.sl (E.oks_el (hc _ (by simp)))
  ·cases h
def ent (t : TypeId) : EArg (List X) where
 get := fun e => match e with | some (.arr n sz el t') => bif Nat.beq sz E.n && Nat.beq t t' then some (E.list n el, [E.oks n el]) else none | _ => none
 put := fun U => some (.arr U.length E.n (E.el U) t)
 ok := by
  intro e U cs h hc
  split at h
  ·rename_i n sz el t'
   cases hb : (Nat.beq sz E.n && Nat.beq t t') with
   | false => rw [hb] at h; cases h
   | true =>
    rw [hb] at h
    simp only [cond_true, Option.some.injEq, Prod.mk.injEq] at h
    obtain ⟨rfl, rfl⟩ := h
    simp only [Bool.and_eq_true] at hb
    obtain rfl : sz = E.n := by simpa using hb.1
    obtain rfl : t = t' := by simpa using hb.2
    rw [list_len]
    exact .arr _ _ _ _ _ (E.oks_el (hc _ (by simp)))
  ·cases h
def argV : Arg X where
 get := fun a => match a with | .agg l => some (E.V l, [E.ok l]) | _ => none
 put := fun x => .agg ((E.iv x).map AV.c)
 ok := by
  intro a x cs h hc
  split at h
  ·rename_i l
   simp only [Option.some.injEq, Prod.mk.injEq] at h
   obtain ⟨rfl, rfl⟩ := h
   rw [← E.ok_eq l (hc _ (by simp))]
   exact Sees.refl _
  ·cases h
def var (t tl : TypeId) : EForm (List X) where
 parse := fun e => match e with | [some (.cells [.msl 1 m sz] t'), some (.arr m' sz' el t2)] => bif Nat.beq t t' && (Nat.beq tl t2 && (Nat.beq sz E.n && Nat.beq sz' E.n)) then some (E.list m el, [decide (m = m'), E.oks m el]) else none | _ => none
 ents := fun U => [some (.cells [.msl 1 U.length E.n] t), some (.arr U.length E.n (E.el U) tl)]
 ok := by
  intro e x cs h hc
  split at h
  ·rename_i m sz t' m' sz' el t2
   cases hb : (Nat.beq t t' && (Nat.beq tl t2 && (Nat.beq sz E.n && Nat.beq sz' E.n))) with
   | false => rw [hb] at h; cases h
   | true =>
    rw [hb] at h
    simp only [cond_true, Option.some.injEq, Prod.mk.injEq] at h
    obtain ⟨rfl, rfl⟩ := h
    simp only [Bool.and_eq_true] at hb
    obtain rfl : t = t' := by simpa using hb.1
    obtain rfl : tl = t2 := by simpa using hb.2.1
    obtain rfl : sz = E.n := by simpa using hb.2.2.1
    obtain rfl : sz' = E.n := by simpa using hb.2.2.2
    obtain rfl : m = m' := dec (hc _ (by simp))
    rw [E.list_len]
    exact .cons (.refl _) (.cons (.arr _ _ _ _ _ (E.oks_el (hc _ (by simp)))) .nil)
  ·cases h
theorem arg_put (U : List X) : E.arg.get (E.sl U) = some (E.list U.length (E.el U), [E.oks U.length (E.el U)]) := by
 show (bif Nat.beq E.n E.n then _ else _) = _
 rw [show Nat.beq E.n E.n = true by simp]
 rfl
end Elt
def eRt : Elt Rat := ⟨4, ivR, ratV, ratOk, 0, fun _ h => ratOk_eq h, ratV_cells, ratOk_cells, fun _ => rfl⟩
structure P2 where
 x : Rat
 y : Rat
theorem P2.ext' {p q : P2} (h : p.x = q.x) (k : p.y = q.y) : p = q := by cases p; cases q; simp_all
instance : DecidableEq P2 := fun p q => if h : p.x = q.x ∧ p.y = q.y then .isTrue (P2.ext' h.1 h.2) else .isFalse fun e => h ⟨by rw [e], by rw [e]⟩
def ptIV (p : P2) : List IV := ivR p.x ++ ivR p.y
def ptCells (p : P2) : List AV := ratCells p.x ++ ratCells p.y
def ptA (p : P2) : AV := .agg (ptCells p)
def ptV (l : List AV) : P2 := ⟨ratV (l.take 4), ratV (l.drop 4)⟩
def ptOk (l : List AV) : Bool := ratOk (l.take 4) && ratOk (l.drop 4)
theorem ptOk_eq {l : List AV} (h : ptOk l = true) : l = ptCells (ptV l) := by
 simp only [ptOk, Bool.and_eq_true] at h
 show l = ratCells (ratV (l.take 4)) ++ ratCells (ratV (l.drop 4))
 rw [← ratOk_eq h.1, ← ratOk_eq h.2, List.take_append_drop]
theorem ptV_cells (p : P2) : ptV (ptCells p) = p := by
 show P2.mk (ratV (ratCells p.x)) (ratV (ratCells p.y)) = p
 rw [ratV_cells, ratV_cells]
theorem ptOk_cells (p : P2) : ptOk (ptCells p) = true := by
 show (ratOk (ratCells p.x) && ratOk (ratCells p.y)) = true
 rw [ratOk_cells, ratOk_cells]; rfl
def eP2 : Elt P2 := ⟨8, ptIV, ptV, ptOk, ⟨0, 0⟩, fun _ h => ptOk_eq h, ptV_cells, ptOk_cells, fun _ => rfl⟩
structure Sg where
 a : P2
 b : P2
def sgIV (s : Sg) : List IV := ptIV s.a ++ ptIV s.b
def sgCells (s : Sg) : List AV := ptCells s.a ++ ptCells s.b
def sgA (s : Sg) : AV := .agg (sgCells s)
def sgV (l : List AV) : Sg := ⟨ptV (l.take 8), ptV (l.drop 8)⟩
def sgOk (l : List AV) : Bool := ptOk (l.take 8) && ptOk (l.drop 8)
theorem sgOk_eq {l : List AV} (h : sgOk l = true) : l = sgCells (sgV l) := by
 simp only [sgOk, Bool.and_eq_true] at h
 show l = ptCells (ptV (l.take 8)) ++ ptCells (ptV (l.drop 8))
 rw [← ptOk_eq h.1, ← ptOk_eq h.2, List.take_append_drop]
theorem sgV_cells (s : Sg) : sgV (sgCells s) = s := by
 show Sg.mk (ptV (ptCells s.a)) (ptV (ptCells s.b)) = s
 rw [ptV_cells, ptV_cells]
theorem sgOk_cells (s : Sg) : sgOk (sgCells s) = true := by
 show (ptOk (ptCells s.a) && ptOk (ptCells s.b)) = true
 rw [ptOk_cells, ptOk_cells]; rfl
def eSg : Elt Sg := ⟨16, sgIV, sgV, sgOk, ⟨⟨0, 0⟩, ⟨0, 0⟩⟩, fun _ h => sgOk_eq h, sgV_cells, sgOk_cells, fun _ => rfl⟩
def l40 : L4 := ⟨0, 0, 0, 0⟩
theorem lineOk_cells (x : L4) : lineOk (lineCells x) = true := by
 show (ratOk (ratCells x.x0) && ratOk (ratCells x.x1) && ratOk (ratCells x.y0) && ratOk (ratCells x.y1)) = true
 rw [ratOk_cells, ratOk_cells, ratOk_cells, ratOk_cells]; rfl
theorem realOk_cells (x : R3) : realOk (realCells x) = true := by
 show (ratOk (ratCells x.p) && ratOk (ratCells x.r) && boolOk [.c (.v (.bool x.neg))]) = true
 rw [ratOk_cells, ratOk_cells]; rfl
def eL4 : Elt L4 := ⟨16, lineIV, lineV, lineOk, l40, fun _ h => lineOk_eq h, lineV_cells, lineOk_cells, fun _ => rfl⟩
end Go.Vse
namespace Go.Vse
def sg (q : Rat) : Int := if q < 0 then -1 else if 0 < q then 1 else 0
theorem sg_cases (q : Rat) : (q < 0 ∧ sg q = -1) ∨ (q = 0 ∧ sg q = 0) ∨ (0 < q ∧ sg q = 1) := by
 unfold sg; grind
def crs3 (a b c : P2) : Rat := (b.x - a.x) * (c.y - a.y) - (b.y - a.y) * (c.x - a.x)
def dot3 (p a b : P2) : Rat := (a.x - p.x) * (b.x - p.x) + (a.y - p.y) * (b.y - p.y)
def cmpP (p q : P2) : Int := if sg (p.x - q.x) ≠ 0 then sg (p.x - q.x) else sg (p.y - q.y)
def onS (p a b : P2) : Bool := decide (sg (crs3 a b p) = 0) && (decide (0 ≤ cmpP a p * cmpP p b) && (!decide (a = b) || decide (p = a)))
def onM (p a b : P2) : Bool := decide (sg (crs3 a b p) = 0) && decide (sg (dot3 p a b) ≤ 0)
theorem mul_pos' {a b : Rat} (h : 0 < a) (k : 0 < b) : 0 < a * b := Rat.mul_pos h k
theorem sg_mul (x y : Rat) : sg (x * y) = sg x * sg y := by
 rcases sg_cases x with ⟨a, e⟩ | ⟨a, e⟩ | ⟨a, e⟩ <;> rcases sg_cases y with ⟨b, f⟩ | ⟨b, f⟩ | ⟨b, f⟩ <;> rw [e, f]
 ·have := mul_pos' (a := -x) (b := -y) (by grind) (by grind); unfold sg; grind
 ·subst b; simp [sg]
 ·have := mul_pos' (a := -x) (b := y) (by grind) b; unfold sg; grind
 ·subst a; simp [sg]
 ·subst a; simp [sg]
 ·subst a; simp [sg]
 ·have := mul_pos' (a := x) (b := -y) a (by grind); unfold sg; grind
 ·subst b; simp [sg]
 ·have := mul_pos' a b; unfold sg; grind
theorem sg_zero {x : Rat} : sg x = 0 ↔ x = 0 := by rcases sg_cases x with ⟨a, e⟩ | ⟨a, e⟩ | ⟨a, e⟩ <;> grind
def lx (u v : Rat) : Int := if sg u ≠ 0 then sg u else sg v
theorem lx_mul (t u v : Rat) : lx (t * u) (t * v) = sg t * lx u v := by
 unfold lx
 rw [sg_mul, sg_mul]
 rcases sg_cases t with ⟨_, e⟩ | ⟨_, e⟩ | ⟨_, e⟩ <;> rw [e] <;> grind
theorem lx_sq {u v : Rat} (h : u ≠ 0 ∨ v ≠ 0) : lx u v * lx u v = 1 := by
 unfold lx
 rcases sg_cases u with ⟨_, e⟩ | ⟨_, e⟩ | ⟨_, e⟩ <;> rcases sg_cases v with ⟨_, f⟩ | ⟨_, f⟩ | ⟨_, f⟩ <;> rw [e, f] <;> grind
theorem sq_pos' {u v : Rat} (h : u ≠ 0 ∨ v ≠ 0) : 0 < u * u + v * v := by
 have hs : ∀ w : Rat, 0 ≤ w * w := fun w => by
  rcases sg_cases w with ⟨a, _⟩ | ⟨a, _⟩ | ⟨a, _⟩
  ·have := mul_pos' (a := -w) (b := -w) (by grind) (by grind); grind
  ·subst a; simp
  ·have := mul_pos' a a; grind
 have hp : ∀ w : Rat, w ≠ 0 → 0 < w * w := fun w hw => by
  rcases sg_cases w with ⟨a, _⟩ | ⟨a, _⟩ | ⟨a, _⟩
  ·have := mul_pos' (a := -w) (b := -w) (by grind) (by grind); grind
  ·exact absurd a hw
  ·exact mul_pos' a a
 rcases h with h | h
 ·have := hp _ h; have := hs v; grind
 ·have := hp _ h; have := hs u; grind
theorem on_eq {p a b : P2} (h : a ≠ b) : onS p a b = onM p a b := by
 unfold onS onM
 rw [decide_eq_false h]
 simp only [Bool.not_false, Bool.true_or, Bool.and_true]
 cases hc : decide (sg (crs3 a b p) = 0) with
 | false => rfl
 | true =>
   have hc := of_decide_eq_true hc
   have hc : crs3 a b p = 0 := by rcases sg_cases (crs3 a b p) with ⟨_, e⟩ | ⟨e, _⟩ | ⟨_, e⟩ <;> grind
   simp only [Bool.true_and]
   refine decide_eq_decide.2 ?_
   obtain ⟨t, h1, h2⟩ : ∃ t : Rat, p.x - a.x = t * (b.x - a.x) ∧ p.y - a.y = t * (b.y - a.y) := by
     unfold crs3 at hc
     by_cases hx : b.x - a.x = 0
     · have hy : b.y - a.y ≠ 0 := fun hy => h (by cases a; cases b; simp only [P2.mk.injEq]; simp only at hx hy; grind)
       exact ⟨(p.y - a.y) / (b.y - a.y), by grind, by grind⟩
     · exact ⟨(p.x - a.x) / (b.x - a.x), by grind, by grind⟩
   have hne : b.x - a.x ≠ 0 ∨ b.y - a.y ≠ 0 := by
     by_cases hx : b.x - a.x = 0
     · exact .inr fun hy => h (by cases a; cases b; simp only [P2.mk.injEq]; simp only at hx hy; grind)
     · exact .inl hx
   have e1 : dot3 p a b = -(t * (1 - t)) * ((b.x - a.x) * (b.x - a.x) + (b.y - a.y) * (b.y - a.y)) := by unfold dot3; grind
   have hN := sq_pos' hne
   have hL := lx_sq hne
   have k1 : cmpP a p = sg (-t) * lx (b.x - a.x) (b.y - a.y) := by rw [← lx_mul]; unfold cmpP lx; rw [show a.x - p.x = -t * (b.x - a.x) by grind, show a.y - p.y = -t * (b.y - a.y) by grind]
   have k2 : cmpP p b = sg (t - 1) * lx (b.x - a.x) (b.y - a.y) := by rw [← lx_mul]; unfold cmpP lx; rw [show p.x - b.x = (t - 1) * (b.x - a.x) by grind, show p.y - b.y = (t - 1) * (b.y - a.y) by grind]
   have k3 : cmpP a p * cmpP p b = sg (t * (1 - t)) := by
     rw [k1, k2, show t * (1 - t) = -t * (t - 1) by grind, sg_mul]
     grind
   rw [k3, e1]
   generalize t * (1 - t) = z
   rw [sg_mul]
   rcases sg_cases ((b.x - a.x) * (b.x - a.x) + (b.y - a.y) * (b.y - a.y)) with ⟨_, e⟩ | ⟨_, e⟩ | ⟨_, e⟩
   · grind
   · grind
   · rw [e]
     rcases sg_cases z with ⟨_, f⟩ | ⟨_, f⟩ | ⟨_, f⟩ <;> rcases sg_cases (-z) with ⟨_, g⟩ | ⟨_, g⟩ | ⟨_, g⟩ <;> rw [f, g] <;> grind
def addE (l : List P2) (p a b : P2) : List P2 := bif onS p a b then (bif l.any (fun q => decide (p = q)) then l else l ++ [p]) else l
def endsM (a b c d : P2) : List P2 := addE (addE (addE (addE [] a c d) b c d) c a b) d a b
def crossB (a b c d : P2) : Bool := !(decide (0 ≤ sg (crs3 a b c) * sg (crs3 a b d)) || decide (0 ≤ sg (crs3 c d a) * sg (crs3 c d b)))
def kindM (a b c d : P2) : Int := match endsM a b c d with | [] => bif crossB a b c d then 2 else 0 | [_] => 1 | _ => 3
def meetB (a b c d : P2) : Bool := (decide (sg (crs3 a b c) * sg (crs3 a b d) < 0) && decide (sg (crs3 c d a) * sg (crs3 c d b) < 0)) || (onM c a b || (onM d a b || (onM a c d || onM b c d)))
theorem addE_nil {l : List P2} {p a b : P2} (h : addE l p a b = []) : l = [] ∧ onS p a b = false := by
 unfold addE at h
 cases ho : onS p a b with
 | false => rw [ho] at h; exact ⟨h, rfl⟩
 | true =>
  rw [ho, cond_true] at h
  cases ha : l.any (fun q => decide (p = q)) with
  | true => rw [ha, cond_true] at h; subst h; cases ha
  | false => rw [ha, cond_false] at h; simp at h
theorem apart_meet {a b c d : P2} (h1 : a ≠ b) (h2 : c ≠ d) (h : kindM a b c d = 0) : meetB a b c d = false := by
 have he : endsM a b c d = [] ∧ crossB a b c d = false := by
  unfold kindM at h
  split at h
  ·rename_i hh
   refine ⟨hh, ?_⟩
   cases hc : crossB a b c d with
   | true => rw [hc] at h; cases h
   | false => rfl
  ·cases h
  ·cases h
 obtain ⟨he, hc⟩ := he
 obtain ⟨he, o4⟩ := addE_nil he
 obtain ⟨he, o3⟩ := addE_nil he
 obtain ⟨he, o2⟩ := addE_nil he
 obtain ⟨_, o1⟩ := addE_nil he
 rw [on_eq h2] at o1 o2
 rw [on_eq h1] at o3 o4
 unfold meetB
 rw [o1, o2, o3, o4]
 simp only [crossB, Bool.not_eq_false', Bool.or_eq_true, decide_eq_true_eq] at hc
 simp only [Bool.or_false, Bool.and_eq_false_iff, decide_eq_false_iff_not]
 omega
theorem addE_sub {l : List P2} {p a b q : P2} (h : q ∈ l) : q ∈ addE l p a b := by
 unfold addE
 cases onS p a b <;> cases l.any (fun q => decide (p = q)) <;> simp [h]
theorem addE_mem {l : List P2} {p a b : P2} (h : onS p a b = true) : p ∈ addE l p a b := by
 unfold addE
 rw [h, cond_true]
 cases ha : l.any (fun q => decide (p = q)) with
 | true =>
  obtain ⟨q, hq, e⟩ := List.any_eq_true.1 ha
  rw [of_decide_eq_true e]
  exact hq
 | false => simp
theorem kind_two {a b c d p q : P2} (hp : p ∈ endsM a b c d) (hq : q ∈ endsM a b c d) (h : p ≠ q) : kindM a b c d = 3 := by
 unfold kindM
 match he : endsM a b c d with
 | [] => rw [he] at hp; cases hp
 | [x] => rw [he] at hp hq; simp at hp hq; exact absurd (hp.trans hq.symm) h
 | x :: y :: l => rfl
theorem on_end (a b : P2) (h : a ≠ b) : onM a a b = true ∧ onM b a b = true := by
 unfold onM
 have e1 : crs3 a b a = 0 := by unfold crs3; grind
 have e2 : crs3 a b b = 0 := by unfold crs3; grind
 have e3 : dot3 a a b = 0 := by unfold dot3; grind
 have e4 : dot3 b a b = 0 := by unfold dot3; grind
 rw [e1, e2, e3, e4]
 exact ⟨by decide, by decide⟩
theorem fold_on {a b c : P2} (hab : a ≠ b) (hbc : b ≠ c) (h0 : crs3 a b c = 0) (hd : 0 < dot3 b a c) : onM a b c = true ∨ onM c a b = true := by
 obtain ⟨t, h1, h2⟩ : ∃ t : Rat, c.x - b.x = t * (a.x - b.x) ∧ c.y - b.y = t * (a.y - b.y) := by
   unfold crs3 at h0
   by_cases hx : a.x - b.x = 0
   · have hy : a.y - b.y ≠ 0 := fun hy => hab (by cases a; cases b; simp only [P2.mk.injEq]; simp only at hx hy; grind)
     exact ⟨(c.y - b.y) / (a.y - b.y), by grind, by grind⟩
   · exact ⟨(c.x - b.x) / (a.x - b.x), by grind, by grind⟩
 have hne : a.x - b.x ≠ 0 ∨ a.y - b.y ≠ 0 := by
   by_cases hx : a.x - b.x = 0
   · exact .inr fun hy => hab (by cases a; cases b; simp only [P2.mk.injEq]; simp only at hx hy; grind)
   · exact .inl hx
 have hN := sq_pos' hne
 have ed : dot3 b a c = t * ((a.x - b.x) * (a.x - b.x) + (a.y - b.y) * (a.y - b.y)) := by unfold dot3; grind
 have e1 : dot3 a b c = (1 - t) * ((a.x - b.x) * (a.x - b.x) + (a.y - b.y) * (a.y - b.y)) := by unfold dot3; grind
 have e2 : dot3 c a b = t * (t - 1) * ((a.x - b.x) * (a.x - b.x) + (a.y - b.y) * (a.y - b.y)) := by unfold dot3; grind
 have c1 : crs3 b c a = 0 := by unfold crs3 at *; grind
 generalize (a.x - b.x) * (a.x - b.x) + (a.y - b.y) * (a.y - b.y) = N at *
 have sN : sg N = 1 := by rcases sg_cases N with ⟨x, e⟩ | ⟨x, e⟩ | ⟨x, e⟩ <;> grind
 have ht : sg t = 1 := by
   have : sg (dot3 b a c) = 1 := by rcases sg_cases (dot3 b a c) with ⟨x, e⟩ | ⟨x, e⟩ | ⟨x, e⟩ <;> grind
   rw [ed, sg_mul, sN] at this
   omega
 unfold onM
 rw [c1, h0, e1, e2, sg_mul, sg_mul, sg_mul, sN, ht]
 rcases sg_cases (1 - t) with ⟨x, e⟩ | ⟨x, e⟩ | ⟨x, e⟩ <;> rcases sg_cases (t - 1) with ⟨y, f⟩ | ⟨y, f⟩ | ⟨y, f⟩ <;> rw [e, f] <;> first | decide | grind
def foldB (a b c : P2) : Bool := decide (sg (crs3 a b c) = 0) && decide (0 < sg (dot3 b a c))
theorem sg_pos {x : Rat} (h : 0 < sg x) : 0 < x := by rcases sg_cases x with ⟨a, e⟩ | ⟨a, e⟩ | ⟨a, e⟩ <;> grind
theorem follow1 {a b c : P2} (hab : a ≠ b) (hbc : b ≠ c) (h : kindM a b b c ≠ 3) : foldB a b c = false := by
 cases hf : foldB a b c with
 | false => rfl
 | true =>
  simp only [foldB, Bool.and_eq_true, decide_eq_true_eq] at hf
  have hac : a ≠ c ∨ a = c := by by_cases e : a = c <;> simp [e]
  have ob : onS b b c = true := by rw [on_eq hbc]; exact (on_end b c hbc).1
  have mb : b ∈ endsM a b b c := addE_sub (addE_sub (addE_mem ob))
  rcases fold_on hab hbc (sg_zero.1 hf.1) (sg_pos hf.2) with k | k
  ·exact absurd (kind_two (addE_sub (addE_sub (addE_sub (addE_mem (by rw [on_eq hbc]; exact k))))) mb hab) h
  ·exact absurd (kind_two (addE_mem (by rw [on_eq hab]; exact k)) mb (Ne.symm hbc)) h
theorem follow2 {a b c : P2} (hab : a ≠ b) (hbc : b ≠ c) (h : kindM b c a b ≠ 3) : foldB a b c = false := by
 cases hf : foldB a b c with
 | false => rfl
 | true =>
  simp only [foldB, Bool.and_eq_true, decide_eq_true_eq] at hf
  have ob : onS b a b = true := by rw [on_eq hab]; exact (on_end a b hab).2
  have mb : b ∈ endsM b c a b := addE_sub (addE_sub (addE_sub (addE_mem ob)))
  rcases fold_on hab hbc (sg_zero.1 hf.1) (sg_pos hf.2) with k | k
  ·exact absurd (kind_two (addE_sub (addE_mem (by rw [on_eq hbc]; exact k))) mb hab) h
  ·exact absurd (kind_two (addE_sub (addE_sub (addE_mem (by rw [on_eq hab]; exact k)))) mb (Ne.symm hbc)) h
end Go.Vse
set_option maxRecDepth 100000
namespace Go.Vse
open Go.Proofs
def allO {α : Type} : List Bool → Option α → Option α
 | [], t => t
 | p :: l, t => bif p then allO l t else none
abbrev KF := List AV → Option (AV × List Bool)
def call {α : Type} (K : KF) (l : List AV) (k : AV → Option α) : Option α :=
 match K l with
 | some (v, cs) => allO cs (k v)
 | none => none
def Con (K : KF) (l : List AV) (v : AV) : Prop := ∃ cs, K l = some (v, cs) ∧ ∀ c ∈ cs, c = true
theorem allO_true {α : Type} : ∀ {l : List Bool} (t : Option α), (∀ c ∈ l, c = true) → allO l t = t
 | [], _, _ => rfl
 | c :: l, t, h => by
  unfold allO
  rw [h c (by simp), cond_true, allO_true t fun d hd => h d (by simp [hd])]
theorem Con.run {K : KF} {l : List AV} {v : AV} (h : Con K l v) {α : Type} (k : AV → Option α) : call K l k = k v := by
 obtain ⟨cs, h1, h2⟩ := h
 unfold call
 rw [h1]
 exact allO_true _ h2
class ArgP {X : Type} (A : Arg X) : Prop where
 p : ∀ x, ∃ cs, A.get (A.put x) = some (x, cs) ∧ ∀ c ∈ cs, c = true
class FormP {X : Type} (F : Form X) : Prop where
 p : ∀ x, ∃ cs, F.parse (F.args x) = some (x, cs) ∧ ∀ c ∈ cs, c = true
instance : FormP Form.nil := ⟨fun _ => ⟨[], rfl, by simp⟩⟩
instance {X Y : Type} {A : Arg X} {F : Form Y} [ArgP A] [FormP F] : FormP (Form.cons A F) := ⟨fun x => by
 obtain ⟨c1, h1, k1⟩ := ArgP.p (A := A) x.1
 obtain ⟨c2, h2, k2⟩ := FormP.p (F := F) x.2
 refine ⟨c1 ++ c2, ?_, fun c hc => ?_⟩
 ·show (match A.get (A.put x.1), F.parse (F.args x.2) with | some (x, cs), some (y, ds) => some ((x, y), cs ++ ds) | _, _ => none) = _
  rw [h1, h2]
 ·rcases List.mem_append.1 hc with h | h
  ·exact k1 c h
  ·exact k2 c h⟩
instance {X : Type} (E : Elt X) : ArgP E.arg := ⟨fun U => ⟨[E.oks U.length (E.el U)], by rw [show E.arg.put U = E.sl U from rfl, E.arg_put, E.list_el], fun c hc => by simp only [List.mem_singleton] at hc; rw [hc]; exact E.oks_mk U _⟩⟩
instance {X : Type} (E : Elt X) : ArgP E.argV := ⟨fun x => ⟨[true], by show some (E.V ((E.iv x).map AV.c), [E.ok ((E.iv x).map AV.c)]) = _; rw [E.V_c, E.ok_c], by simp⟩⟩
instance : ArgP argInt := ⟨fun _ => ⟨[], rfl, by simp⟩⟩
instance : ArgP argBool := ⟨fun _ => ⟨[], rfl, by simp⟩⟩
theorem Form.con {X : Type} {F : Form X} [FormP F] {val : X → AV} {pre : X → List Bool} (x : X) (h : ∀ c ∈ pre x, c = true) : Con (F.K val pre) (F.args x) (val x) := by
 obtain ⟨cs, h1, h2⟩ := FormP.p (F := F) x
 refine ⟨cs ++ pre x, ?_, fun c hc => ?_⟩
 ·unfold Form.K
  rw [h1]
 ·rcases List.mem_append.1 hc with k | k
  ·exact h2 c k
  ·exact h c k
section
variable {X : Type} (F : Form X) {val : X → AV} {pre : X → List Bool} {Γ : FuncId → Option Spec} {L : Nat → Option (St → Tr (Ex × St))} {N : Nat} {f : FuncId} {fn : Func} (M : X → Option AV)
theorem Form.rl (hΓ : ∀ f s, Γ f = some s → SpecOk Tryz.prog f s) (hl : BlocksOk Tryz.prog 0 L (codeOf fn)) (hM : ∀ x, (∀ p ∈ pre x, p = true) → (execFn Tryz.prog Γ L N fn (F.args x)).run = M x) (h : ∀ x, (∀ p ∈ pre x, p = true) → M x = some (val x)) (hv : ∀ x, Vse.noPtr (val x) = true := by intro _; rfl)
   (hf : Tryz.prog.funcs[f]? = some fn := by kernel_rfl) (hb : fn.body = some (codeOf fn) := by kernel_rfl) (hn : okName fn = true := by kernel_rfl) : PureOk Tryz.prog f (F.K val pre) :=
 F.pureOk prog_mixed hΓ hf hb hn hl hv fun x hx => Tr.sat_mono (fun r hr => ⟨by rw [hr]; exact hv x, Sees.of_eq hr⟩) (Tr.run_sat ((hM x hx).trans (h x hx)))
theorem Form.rk (hΓ : ∀ f s, Γ f = some s → SpecOk Tryz.prog f s) (hM : ∀ x, (∀ p ∈ pre x, p = true) → (execFn Tryz.prog Γ noL N fn (F.args x)).run = M x) (h : ∀ x, (∀ p ∈ pre x, p = true) → M x = some (val x)) (hv : ∀ x, Vse.noPtr (val x) = true := by intro _; rfl)
   (hf : Tryz.prog.funcs[f]? = some fn := by kernel_rfl) (hb : fn.body = some (codeOf fn) := by kernel_rfl) (hn : okName fn = true := by kernel_rfl) : PureOk Tryz.prog f (F.K val pre) :=
 F.rl M hΓ (blocksOk_none _ _) hM h hv hf hb hn
end
def gL : List (Nat × KF) → FuncId → Option Spec
 | [], _ => none
 | p :: l, f => bif Nat.beq f p.1 then some (pureSpec p.2) else gL l f
theorem gL_ok : ∀ {l : List (Nat × KF)}, (∀ p ∈ l, PureOk Tryz.prog p.1 p.2) → ∀ f s, gL l f = some s → SpecOk Tryz.prog f s
 | [], _, f, s, h => by cases h
 | p :: l, hl, f, s, h => by
   unfold gL at h
   cases hb : Nat.beq f p.1 with
   | true =>
     rw [hb] at h
     obtain rfl := Nat.eq_of_beq_eq_true hb
     cases h
     exact (hl p (by simp)).spec
   | false => rw [hb] at h; exact gL_ok (fun q hq => hl q (by simp [hq])) f s h
theorem okNil : ∀ p ∈ ([] : List (Nat × KF)), PureOk Tryz.prog p.1 p.2 := fun _ h => by cases h
theorem okCons {n : Nat} {K : KF} {l : List (Nat × KF)} (h : PureOk Tryz.prog n K) (hl : ∀ p ∈ l, PureOk Tryz.prog p.1 p.2) : ∀ p ∈ (n, K) :: l, PureOk Tryz.prog p.1 p.2 := fun p hp => by
 rcases List.mem_cons.1 hp with rfl | hp
 ·exact h
 ·exact hl p hp
theorem addC {x y : Rat} (h : fitA x y = true) : Con K162 [ratA x, ratA y] (ratA (x + y)) := ⟨[true, true, true], by
 show some (ratA (hold (ratV (ratCells x) + ratV (ratCells y))), [ratOk (ratCells x), ratOk (ratCells y), fitA (ratV (ratCells x)) (ratV (ratCells y))]) = _
 rw [ratV_cells, ratV_cells, ratOk_cells, ratOk_cells, h, hold_eq], by simp⟩
theorem mulC {x y : Rat} (h : fitM x y = true) : Con K156 [ratA x, ratA y] (ratA (x * y)) := ⟨[true, true, true], by
 show some (ratA (hold (ratV (ratCells x) * ratV (ratCells y))), [ratOk (ratCells x), ratOk (ratCells y), fitM (ratV (ratCells x)) (ratV (ratCells y))]) = _
 rw [ratV_cells, ratV_cells, ratOk_cells, ratOk_cells, h, hold_eq], by simp⟩
theorem subC {x y : Rat} (h : fitA x (-y) = true) : Con K154 [ratA x, ratA y] (ratA (x - y)) := ⟨[true, true, true], by
 show some (ratA (hold (ratV (ratCells x) - ratV (ratCells y))), [ratOk (ratCells x), ratOk (ratCells y), fitA (ratV (ratCells x)) (-(ratV (ratCells y)))]) = _
 rw [ratV_cells, ratV_cells, ratOk_cells, ratOk_cells, h, hold_eq], by simp⟩
theorem sgn_num (q : Rat) : sgn q.num 0 = sg q := by
 have h1 : q < 0 ↔ q.num < 0 := by have := Rat.lt_iff q 0; simpa using this
 have h2 : 0 < q ↔ 0 < q.num := by have := Rat.lt_iff 0 q; simpa using this
 unfold sgn sg
 by_cases a : q < 0
 · rw [if_pos (h1.1 a), if_pos a]
 · rw [if_neg (fun h => a (h1.2 h)), if_neg a]
   by_cases b : 0 < q
   · rw [if_pos (h2.1 b), if_pos b]
   · rw [if_neg (fun h => b (h2.2 h)), if_neg b]
theorem sgn_cross (p q : Rat) : sgn (p.num * q.den) (q.num * p.den) = sg (p - q) := by
 have h1 : p < q ↔ p.num * q.den < q.num * p.den := Rat.lt_iff p q
 have h2 : q < p ↔ q.num * p.den < p.num * q.den := Rat.lt_iff q p
 have k1 : p - q < 0 ↔ p < q := by clear h1 h2; constructor <;> intro h <;> grind
 have k2 : 0 < p - q ↔ q < p := by clear h1 h2; constructor <;> intro h <;> grind
 unfold sgn sg
 by_cases a : p < q
 ·rw [if_pos (h1.1 a), if_pos (k1.2 a)]
 ·rw [if_neg (fun h => a (h1.2 h)), if_neg (fun h => a (k1.1 h))]
  by_cases b : q < p
  ·rw [if_pos (h2.1 b), if_pos (k2.2 b)]
  ·rw [if_neg (fun h => b (h2.2 h)), if_neg (fun h => b (k2.1 h))]
theorem sgnC (x : Rat) : Con K157 [ratA x] (intA .i64 (sg x)) := ⟨[true], by
 show some (intA .i64 (sgn (ratV (ratCells x)).num 0), [ratOk (ratCells x)]) = _
 rw [ratV_cells, ratOk_cells, sgn_num], by simp⟩
theorem cmpC {x y : Rat} (h : fit4 x y = true) : Con K190 [ratA x, ratA y] (intA .i64 (sg (x - y))) := ⟨[true, true, true], by
 show some (intA .i64 (sgn ((ratV (ratCells x)).num * (ratV (ratCells y)).den) ((ratV (ratCells y)).num * (ratV (ratCells x)).den)), [ratOk (ratCells x), ratOk (ratCells y), fit4 (ratV (ratCells x)) (ratV (ratCells y))]) = _
 rw [ratV_cells, ratV_cells, ratOk_cells, ratOk_cells, h, sgn_cross], by simp⟩
theorem divC {x y : Rat} (h : fitD x y = true) (h0 : y ≠ 0) : Con K153 [ratA x, ratA y] (.tup [ratA (x / y), intA .i64 0]) := ⟨[true, true, true, true], by
 show some (AV.tup [ratA (hold (ratV (ratCells x) / ratV (ratCells y))), intA .i64 0], [ratOk (ratCells x), ratOk (ratCells y), fitD (ratV (ratCells x)) (ratV (ratCells y)), decide (ratV (ratCells y) ≠ 0)]) = _
 rw [ratV_cells, ratV_cells, ratOk_cells, ratOk_cells, h, hold_eq, decide_eq_true h0], by simp⟩
theorem intC {n : Int} (h1 : -9223372036854775808 ≤ n) (h2 : n ≤ 9223372036854775807) : Con K103 [intA .i64 n] (ratA (n : Rat)) := ⟨[true, true], by
 show some (ratA (n : Rat), [decide (-9223372036854775808 ≤ n), decide (n ≤ 9223372036854775807)]) = _
 rw [decide_eq_true h1, decide_eq_true h2], by simp⟩
def asI : AV → Int
 | .c (.v (.int _ n)) => n
 | _ => 0
def asB : AV → Bool
 | .c (.v (.bool b)) => b
 | _ => false
def tup0 : AV → AV
 | .tup (a :: _) => a
 | _ => .any
def tup1 : AV → AV
 | .tup (_ :: a :: _) => a
 | _ => .any
theorem tup0_eq (a : AV) (l : List AV) : tup0 (.tup (a :: l)) = a := rfl
end Go.Vse
set_option maxRecDepth 100000
namespace Go.Vse
open Go.Proofs
section
variable {x y : Rat} {N D N' D' : Nat}
abbrev WW : Nat := 18446744073709551616
theorem fA (hx : Bnd N D x) (hy : Bnd N' D' y) (h : N < WW ∧ D < WW ∧ N' < WW ∧ D' < WW ∧ N * D' + N' * D < WW ∧ D * D' < WW := by decide) : fitA x y = true := fitA_of hx hy h.1 h.2.1 h.2.2.1 h.2.2.2.1 h.2.2.2.2.1 h.2.2.2.2.2
theorem fS (hx : Bnd N D x) (hy : Bnd N' D' y) (h : N < WW ∧ D < WW ∧ N' < WW ∧ D' < WW ∧ N * D' + N' * D < WW ∧ D * D' < WW := by decide) : fitA x (-y) = true := fA hx hy.neg h
theorem fM (hx : Bnd N D x) (hy : Bnd N' D' y) (h : N < WW ∧ D < WW ∧ N' < WW ∧ D' < WW ∧ N * N' < WW ∧ D * D' < WW := by decide) : fitM x y = true := fitM_of hx hy h.1 h.2.1 h.2.2.1 h.2.2.2.1 h.2.2.2.2.1 h.2.2.2.2.2
theorem f4 (hx : Bnd N D x) (hy : Bnd N' D' y) (h : N < WW ∧ D < WW ∧ N' < WW ∧ D' < WW := by decide) : fit4 x y = true := fit4_of hx hy h.1 h.2.1 h.2.2.1 h.2.2.2
theorem fD (hx : Bnd N D x) (hy : Bnd N' D' y) (h : N < WW ∧ D < WW ∧ N' < WW ∧ D' < WW ∧ N * D' < WW ∧ D * N' < WW := by decide) : fitD x y = true := fitD_of hx hy h.1 h.2.1 h.2.2.1 h.2.2.2.1 h.2.2.2.2.1 h.2.2.2.2.2
end
def gN : List (Nat × KF) := [(34, K162), (59, K154), (98, K156), (159, K157), (119, K190), (125, K153), (60, K103)]
theorem gN_ok : ∀ p ∈ gN, PureOk Tryz.prog p.1 p.2 := okCons f162_ok <| okCons f154_ok <| okCons f156_ok <| okCons f157_ok <| okCons f190_ok <| okCons f153_ok <| okCons f103_ok okNil
abbrev noM : FuncId → Bool := fun _ => false
abbrev gI (P : Program) (l : List (Nat × KF)) (d : Nat) : FuncId → Option Spec := inlΓ P (gL l) noM 10 d
theorem gI_ok {l : List (Nat × KF)} {d : Nat} (h : ∀ p ∈ l, PureOk Tryz.prog p.1 p.2) : ∀ f s, gI Tryz.prog l d f = some s → SpecOk Tryz.prog f s := inlΓ_ok prog_mixed (gL_ok h) d
def pb (p : P2) : Bool := bndB 8192 2 p.x && bndB 8192 2 p.y
theorem pb_iff {p : P2} : pb p = true ↔ Bnd 8192 2 p.x ∧ Bnd 8192 2 p.y := by simp only [pb, Bool.and_eq_true, bndB_iff]
abbrev FP3 := Form.cons eP2.argV (Form.cons eP2.argV (Form.cons eP2.argV Form.nil))
abbrev FP2 := Form.cons eP2.argV (Form.cons eP2.argV Form.nil)
def KOr : KF := FP3.K (fun x => intA .i64 (sg (crs3 x.1 x.2.1 x.2.2.1))) fun x => [pb x.1, pb x.2.1, pb x.2.2.1]
theorem Or_ok : PureOk Tryz.prog 120 KOr :=
 Form.rk _ (fun x => call K154 [ratA x.2.1.x, ratA x.1.x] fun v1 => call K154 [ratA x.2.1.y, ratA x.1.y] fun v2 => call K154 [ratA x.2.2.1.x, ratA x.1.x] fun v3 => call K154 [ratA x.2.2.1.y, ratA x.1.y] fun v4 =>
   call K156 [v1, v4] fun v5 => call K156 [v2, v3] fun v6 => call K154 [v5, v6] fun v7 => call K157 [v7] some) (gI_ok (d := 2) gN_ok) (N := 1010) (fn := Tryz.f120) (fun x _ => by obtain ⟨a, b, c, ⟨⟩⟩ := x; kernel_rfl)
   fun x h => by
     obtain ⟨a, b, c, ⟨⟩⟩ := x
     obtain ⟨a1, a2⟩ := pb_iff.1 (h (pb a) (by simp))
     obtain ⟨b1, b2⟩ := pb_iff.1 (h (pb b) (by simp))
     obtain ⟨c1, c2⟩ := pb_iff.1 (h (pb c) (by simp))
     dsimp only
     rw [(subC (fS b1 a1)).run, (subC (fS b2 a2)).run, (subC (fS c1 a1)).run, (subC (fS c2 a2)).run, (mulC (fM (b1.sub a1) (c2.sub a2))).run, (mulC (fM (b2.sub a2) (c1.sub a1))).run, (subC (fS ((b1.sub a1).mul (c2.sub a2)) ((b2.sub a2).mul (c1.sub a1)))).run, (sgnC _).run]
     rfl
def KCm : KF := FP2.K (fun x => intA .i64 (cmpP x.1 x.2.1)) fun x => [pb x.1, pb x.2.1]
theorem Cm_ok : PureOk Tryz.prog 124 KCm :=
 Form.rk _ (fun x => call K190 [ratA x.1.x, ratA x.2.1.x] fun v => bif asI v != 0 then some v else call K190 [ratA x.1.y, ratA x.2.1.y] some) (gI_ok (d := 0) gN_ok) (N := 1010) (fn := Tryz.f124) (fun x _ => by obtain ⟨a, b, ⟨⟩⟩ := x; kernel_rfl)
   fun x h => by
     obtain ⟨a, b, ⟨⟩⟩ := x
     obtain ⟨a1, a2⟩ := pb_iff.1 (h (pb a) (by simp))
     obtain ⟨b1, b2⟩ := pb_iff.1 (h (pb b) (by simp))
     dsimp only
     rw [(cmpC (f4 a1 b1)).run, (cmpC (f4 a2 b2)).run]
     show (bif sg (a.x - b.x) != 0 then _ else _) = some (intA .i64 (if sg (a.x - b.x) ≠ 0 then sg (a.x - b.x) else sg (a.y - b.y)))
     by_cases k : sg (a.x - b.x) = 0
     · rw [k]; rfl
     · rw [if_pos k, bne_iff_ne.2 k]; rfl
end Go.Vse
set_option maxRecDepth 100000
namespace Go.Vse
open Go.Proofs
def eqR (x y : Rat) : Bool := ((decide (x.num < 0) == decide (y.num < 0)) && (magB x.num.natAbs == magB y.num.natAbs)) && ((false == false) && (denB x.den == denB y.den))
theorem eqR_eq (x y : Rat) : eqR x y = decide (x = y) := by
 rw [Bool.eq_iff_iff, decide_eq_true_iff]
 unfold eqR
 simp only [Bool.and_eq_true, beq_iff_eq, decide_eq_decide]
 constructor
 ·rintro ⟨⟨h1, h2⟩, _, h3⟩
  have h2 := magB_inj h2
  have h3 : x.den = y.den := by rw [← denV_denB x.den x.den_nz, ← denV_denB y.den y.den_nz, h3]
  exact Rat.ext (by omega) h3
 ·rintro rfl
  exact ⟨⟨Iff.rfl, rfl⟩, trivial, rfl⟩
def eqPt (p q : P2) : Bool := eqR p.x q.x && eqR p.y q.y
theorem eqPt_eq (p q : P2) : eqPt p q = decide (p = q) := by
 unfold eqPt
 rw [eqR_eq, eqR_eq, Bool.eq_iff_iff]
 simp only [Bool.and_eq_true, decide_eq_true_eq]
 exact ⟨fun h => P2.ext' h.1 h.2, fun h => by rw [h]; exact ⟨rfl, rfl⟩⟩
abbrev gP : List (Nat × KF) := (120, KOr) :: (124, KCm) :: gN
theorem gP_ok : ∀ p ∈ gP, PureOk Tryz.prog p.1 p.2 := okCons Or_ok (okCons Cm_ok gN_ok)
theorem orC {a b c : P2} (ha : pb a = true) (hb : pb b = true) (hc : pb c = true) : Con KOr [ptA a, ptA b, ptA c] (intA .i64 (sg (crs3 a b c))) := Form.con (F := FP3) (a, b, c, ()) (by simp [ha, hb, hc])
theorem cmC {a b : P2} (ha : pb a = true) (hb : pb b = true) : Con KCm [ptA a, ptA b] (intA .i64 (cmpP a b)) := Form.con (F := FP2) (a, b, ()) (by simp [ha, hb])
abbrev FPS := Form.cons eP2.argV (Form.cons eSg.argV Form.nil)
def KOn : KF := FPS.K (fun x => boolA (onS x.1 x.2.1.a x.2.1.b)) fun x => [pb x.1, pb x.2.1.a, pb x.2.1.b]
def tt2 (a b : Bool) : Bool := bif a then bif b then true else true else true
theorem tt2_true (a b : Bool) : tt2 a b = true := by cases a <;> cases b <;> rfl
theorem sg_range (q : Rat) : sg q = -1 ∨ sg q = 0 ∨ sg q = 1 := by rcases sg_cases q with ⟨_, e⟩ | ⟨_, e⟩ | ⟨_, e⟩ <;> omega
theorem cmpP_range (p q : P2) : cmpP p q = -1 ∨ cmpP p q = 0 ∨ cmpP p q = 1 := by unfold cmpP; split <;> exact sg_range _
theorem prod_range {a b : Int} (h : a = -1 ∨ a = 0 ∨ a = 1) (k : b = -1 ∨ b = 0 ∨ b = 1) : IntKind.i64.wrap (a * b) = a * b := by rcases h with rfl | rfl | rfl <;> rcases k with rfl | rfl | rfl <;> rfl
theorem On_ok : PureOk Tryz.prog 118 KOn :=
 Form.rk _ (fun x => call KOr [ptA x.2.1.a, ptA x.2.1.b, ptA x.1] fun o => bif asI o != 0 then some (boolA false) else
   call KCm [ptA x.2.1.a, ptA x.1] fun u => call KCm [ptA x.1, ptA x.2.1.b] fun v =>
     bif tt2 (decide (IntKind.i64.wrap (asI u * asI v) ≥ 0)) (!eqPt x.2.1.a x.2.1.b) then
       some (boolA (bif decide (IntKind.i64.wrap (asI u * asI v) ≥ 0) then bif !eqPt x.2.1.a x.2.1.b then true else eqPt x.1 x.2.1.a else false)) else none)
   (gI_ok (d := 0) gP_ok) (N := 1010) (fn := Tryz.f118) (fun x _ => by obtain ⟨p, ⟨a, b⟩, ⟨⟩⟩ := x; kernel_rfl)
   fun x h => by
     obtain ⟨p, ⟨a, b⟩, ⟨⟩⟩ := x
     have hp := h (pb p) (by simp)
     have ha := h (pb a) (by simp)
     have hb := h (pb b) (by simp)
     dsimp only
     rw [(orC ha hb hp).run, (cmC ha hp).run, (cmC hp hb).run, tt2_true, cond_true]
     show (bif sg (crs3 a b p) != 0 then _ else some (boolA (bif decide (IntKind.i64.wrap (cmpP a p * cmpP p b) ≥ 0) then bif !eqPt a b then true else eqPt p a else false))) = some (boolA (onS p a b))
     rw [prod_range (cmpP_range a p) (cmpP_range p b), eqPt_eq, eqPt_eq]
     unfold onS
     generalize sg (crs3 a b p) = z
     generalize cmpP a p * cmpP p b = y
     by_cases k : z = 0
     · subst k
       show some (boolA _) = some (boolA (true && _))
       rw [Bool.true_and]
       by_cases k2 : 0 ≤ y
       · rw [decide_eq_true (show y ≥ 0 from k2)]
         cases decide (a = b) <;> rfl
       · rw [decide_eq_false (show ¬ y ≥ 0 from k2)]
         rfl
     · rw [bne_iff_ne.2 k, decide_eq_false k]
       rfl
theorem onC {p a b : P2} (hp : pb p = true) (ha : pb a = true) (hb : pb b = true) : Con KOn [ptA p, sgA ⟨a, b⟩] (boolA (onS p a b)) := Form.con (F := FPS) (p, ⟨a, b⟩, ()) (by simp [ha, hb, hp])
end Go.Vse
set_option maxRecDepth 100000
namespace Go.Vse
open Go.Proofs
theorem Bnd.inv {y : Rat} {N D : Nat} (h : Bnd N D y) (h0 : y ≠ 0) : Bnd D N y⁻¹ := by
 have hn : y.num ≠ 0 := fun e => h0 (by rw [← Rat.num_divInt_den y, e, Rat.zero_divInt])
 rw [Rat.inv_def]
 constructor
 ·rw [Rat.num_divInt]
  refine Nat.le_trans (Int.natAbs_ediv_le_natAbs _ _) ?_
  rw [Int.natAbs_mul, Int.natAbs_sign_of_ne_zero hn, Nat.one_mul, Int.natAbs_natCast]
  exact h.2
 ·rw [Rat.den_divInt, if_neg hn]
  exact Nat.le_trans (Nat.div_le_self _ _) h.1
theorem Bnd.div {x y : Rat} {N D N' D' : Nat} (h : Bnd N D x) (h' : Bnd N' D' y) (h0 : y ≠ 0) : Bnd (N * D') (D * N') (x / y) := by
 rw [Rat.div_def]
 exact h.mul (h'.inv h0)
def crsP (a b c d : P2) : P2 :=
 let r := ((c.x - a.x) * (d.y - c.y) - (c.y - a.y) * (d.x - c.x)) / ((b.x - a.x) * (d.y - c.y) - (b.y - a.y) * (d.x - c.x))
 ⟨a.x + (b.x - a.x) * r, a.y + (b.y - a.y) * r⟩
def mtA (k : Int) (s : Sg) : AV := .agg (.c (.v (.int .i64 k)) :: sgCells s)
def mt0 : List AV := .c (.v (.int .i64 0)) :: (litZ ++ (litZ ++ (litZ ++ litZ)))
theorem mt0_eq : AV.agg mt0 = mtA 0 ⟨⟨0, 0⟩, ⟨0, 0⟩⟩ := by
 unfold mtA mt0 sgCells ptCells
 rw [cells0, List.append_assoc]
abbrev FSS := Form.cons eSg.argV (Form.cons eSg.argV Form.nil)
def crsQ (a b c d : P2) : P2 := bif crossB a b c d then crsP a b c d else ⟨0, 0⟩
def KCr : KF := FSS.K (fun x => mtA (bif crossB x.1.a x.1.b x.2.1.a x.2.1.b then 2 else 0) ⟨crsQ x.1.a x.1.b x.2.1.a x.2.1.b, crsQ x.1.a x.1.b x.2.1.a x.2.1.b⟩) fun x => [pb x.1.a, pb x.1.b, pb x.2.1.a, pb x.2.1.b]
theorem crs_ne {a b c d : P2} (h : crossB a b c d = true) : (b.x - a.x) * (d.y - c.y) - (b.y - a.y) * (d.x - c.x) ≠ 0 := by
 intro h0
 have e : crs3 a b c = crs3 a b d := by unfold crs3; grind
 unfold crossB at h
 rw [e] at h
 have : 0 ≤ sg (crs3 a b d) * sg (crs3 a b d) := by rcases sg_range (crs3 a b d) with e | e | e <;> rw [e] <;> decide
 rw [decide_eq_true this] at h
 cases h
theorem Cr_ok : PureOk Tryz.prog 123 KCr :=
 Form.rk _ (fun x =>
   let A := ptA x.1.a; let B := ptA x.1.b; let C := ptA x.2.1.a; let D := ptA x.2.1.b
   let a := x.1.a; let b := x.1.b; let c := x.2.1.a; let d := x.2.1.b
   call KOr [A, B, C] fun o1 => call KOr [A, B, D] fun o2 => bif decide (IntKind.i64.wrap (asI o1 * asI o2) ≥ 0) then some (.agg mt0) else
   call KOr [C, D, A] fun o3 => call KOr [C, D, B] fun o4 => bif decide (IntKind.i64.wrap (asI o3 * asI o4) ≥ 0) then some (.agg mt0) else
   call K154 [ratA b.x, ratA a.x] fun ux => call K154 [ratA b.y, ratA a.y] fun uy => call K154 [ratA d.x, ratA c.x] fun vx => call K154 [ratA d.y, ratA c.y] fun vy =>
   call K154 [ratA c.x, ratA a.x] fun wx => call K154 [ratA c.y, ratA a.y] fun wy =>
   call K156 [wx, vy] fun p => call K156 [wy, vx] fun q => call K154 [p, q] fun m =>
   call K156 [ux, vy] fun p => call K156 [uy, vx] fun q => call K154 [p, q] fun n =>
   call K153 [m, n] fun r =>
   call K154 [ratA b.x, ratA a.x] fun ux => call K154 [ratA b.y, ratA a.y] fun uy => call K156 [ux, tup0 r] fun p => call K156 [uy, tup0 r] fun q =>
   call K162 [ratA a.x, p] fun x => call K162 [ratA a.y, q] fun y => some (.agg (.c (.v (.int .i64 2)) :: (cellsA x ++ cellsA y ++ (cellsA x ++ cellsA y))))) (gI_ok (d := 3) gP_ok) (N := 10) (fn := Tryz.f123) (fun x _ => by obtain ⟨⟨a, b⟩, ⟨c, d⟩, ⟨⟩⟩ := x; kernel_rfl)
   (fun x h => by
     obtain ⟨⟨a, b⟩, ⟨c, d⟩, ⟨⟩⟩ := x
     have ha := h (pb a) (by simp)
     have hb := h (pb b) (by simp)
     have hc := h (pb c) (by simp)
     have hd := h (pb d) (by simp)
     obtain ⟨a1, a2⟩ := pb_iff.1 ha
     obtain ⟨b1, b2⟩ := pb_iff.1 hb
     obtain ⟨c1, c2⟩ := pb_iff.1 hc
     obtain ⟨d1, d2⟩ := pb_iff.1 hd
     dsimp only
     rw [(orC ha hb hc).run, (orC ha hb hd).run, (orC hc hd ha).run, (orC hc hd hb).run, mt0_eq]
     show (bif decide (IntKind.i64.wrap (sg (crs3 a b c) * sg (crs3 a b d)) ≥ 0) then _ else bif decide (IntKind.i64.wrap (sg (crs3 c d a) * sg (crs3 c d b)) ≥ 0) then _ else _) = _
     rw [prod_range (sg_range _) (sg_range _), prod_range (sg_range _) (sg_range _)]
     unfold crsQ
     cases hx : crossB a b c d with
     | false =>
       simp only [cond_false]
       unfold crossB at hx
       simp only [Bool.not_eq_false', Bool.or_eq_true] at hx
       cases h1 : decide (sg (crs3 a b c) * sg (crs3 a b d) ≥ 0) with
       | true => rfl
       | false =>
         rcases hx with hx | hx
         · exact absurd (h1.symm.trans hx) (by decide)
         · rw [show decide (sg (crs3 c d a) * sg (crs3 c d b) ≥ 0) = true from hx]; rfl
     | true =>
       have hn := crs_ne hx
       unfold crossB at hx
       simp only [Bool.not_eq_true', Bool.or_eq_false_iff] at hx
       rw [show decide (sg (crs3 a b c) * sg (crs3 a b d) ≥ 0) = false from hx.1, show decide (sg (crs3 c d a) * sg (crs3 c d b) ≥ 0) = false from hx.2]
       simp only [cond_false, cond_true]
       have X := b1.sub a1
       have Y := b2.sub a2
       have U := d1.sub c1
       have V := d2.sub c2
       have P := c1.sub a1
       have Q := c2.sub a2
       rw [(subC (fS b1 a1)).run, (subC (fS b2 a2)).run, (subC (fS d1 c1)).run, (subC (fS d2 c2)).run, (subC (fS c1 a1)).run, (subC (fS c2 a2)).run,
         (mulC (fM P V)).run, (mulC (fM Q U)).run, (subC (fS (P.mul V) (Q.mul U))).run, (mulC (fM X V)).run, (mulC (fM Y U)).run, (subC (fS (X.mul V) (Y.mul U))).run]
       have G := ((P.mul V).sub (Q.mul U)).mono (N' := 549755813888) (D' := 256) (by decide) (by decide)
       have H := ((X.mul V).sub (Y.mul U)).mono (N' := 549755813888) (D' := 256) (by decide) (by decide)
       have R := G.div H hn
       rw [(divC (fD G H) hn).run]
       dsimp only [tup0_eq]
       rw [(subC (fS b1 a1)).run, (subC (fS b2 a2)).run, (mulC (fM X R)).run, (mulC (fM Y R)).run, (addC (fA a1 (X.mul R))).run, (addC (fA a2 (Y.mul R))).run]
       rfl)
end Go.Vse
