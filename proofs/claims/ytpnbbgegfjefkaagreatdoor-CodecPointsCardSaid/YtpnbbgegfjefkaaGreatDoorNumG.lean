/- Helpers for the proof: no statement of its own. -/
import Derived.Test.YtpnbbgegfjefkaaGreatDoorNumF
set_option linter.unusedVariables false
set_option linter.unusedSimpArgs false
set_option linter.unnecessarySimpa false
set_option linter.deprecated false
set_option maxRecDepth 100000
namespace Go.Vse
open Go.Proofs
def Γ124 : FuncId → Option Spec := fun f => bif Nat.beq f 168 then some (pureSpec K168) else bif Nat.beq f 170 then some (pureSpec K170) else bif Nat.beq f 171 then some (pureSpec K171) else none
def Γ192 : FuncId → Option Spec := fun f => bif Nat.beq f 171 then some (pureSpec K171) else bif Nat.beq f 222 then some (pureSpec K222) else bif Nat.beq f 223 then some (pureSpec K223) else bif Nat.beq f 173 then some (pureSpec K173) else none
def Γ185 : FuncId → Option Spec := fun f => bif Nat.beq f 219 then some (pureSpec K219) else bif Nat.beq f 173 then some (pureSpec K173) else none
def M124 (p : Bool) (q : Bool) (a : ByteArray) (b : ByteArray) : Tr AV :=
 let x1 : List UInt8 := a.data.toList
 let x2 : List UInt8 := b.data.toList
 let x3 : Int := sgn ↑(magN x1) ↑(magN x2)
 .ite (!p == q) (.need (okI p a) (.need (okI q b) (.ret (.c (.v (.int IntKind.i64 (sgn (sgn (iv p a) 0) (sgn (iv q b) 0)))))))) (.need (canon x1) (.need (canon x2) (.ite p (.ret (.c (.v (.int IntKind.i64 (IntKind.i64.wrap (0 - x3)))))) (.ret (.c (.v (.int IntKind.i64 x3)))))))
def M192 (p : Bool) (q : Bool) (a : ByteArray) (b : ByteArray) : Tr AV :=
 let x1 : List UInt8 := a.data.toList
 let x2 : List UInt8 := b.data.toList
 let x3 : List UInt8 := magB (magN x1 + magN x2)
 let x4 : Int := sgn ↑(magN x1) ↑(magN x2)
 let x5 : List UInt8 := magB (magN x1 - magN x2)
 let x6 : List UInt8 := magB (magN x2 - magN x1)
 .ite (p == q) (.need (decide (x1.length ≤ 100000000)) (.need (decide (x2.length ≤ 100000000)) (.ret (AV.agg [.c (.v (.bool (p && !x3 == []))), .c (.v (.string ⟨⟨x3⟩⟩))])))) (.need (canon x1) (.need (canon x2) (.ite (decide (x4 ≥ 0)) (.need (decide (x1.length ≤ 100000000)) (.need (decide (x2.length ≤ 100000000)) (.need (decide (magN x2 ≤ magN x1)) (.ret (AV.agg [.c (.v (.bool (p && !x5 == []))), .c (.v (.string ⟨⟨x5⟩⟩))]))))) (.need (decide (x2.length ≤ 100000000)) (.need (decide (x1.length ≤ 100000000)) (.need (decide (magN x1 ≤ magN x2)) (.ret (AV.agg [.c (.v (.bool (q && !x6 == []))), .c (.v (.string ⟨⟨x6⟩⟩))]))))))))
def M185 (p : Bool) (q : Bool) (a : ByteArray) (b : ByteArray) : Tr AV :=
 let x1 : List UInt8 := a.data.toList
 let x2 : List UInt8 := b.data.toList
 let x3 : List UInt8 := magB (magN x1 * magN x2)
 .need (decide (x1.length ≤ 100000000)) (.need (decide (x2.length ≤ 100000000)) (.ret (AV.agg [.c (.v (.bool (!p == q && !x3 == []))), .c (.v (.string ⟨⟨x3⟩⟩))])))
theorem M124_eq (p q : Bool) (a b : ByteArray) : execFn Tryz.prog Γ124 noL 1010 Tryz.f124 [.agg [.c (.v (.bool p)), .c (.v (.string a))], .agg [.c (.v (.bool q)), .c (.v (.string b))]] = M124 p q a b := by kernel_rfl
theorem M192_eq (p q : Bool) (a b : ByteArray) : execFn Tryz.prog Γ192 noL 1010 Tryz.f192 [.agg [.c (.v (.bool p)), .c (.v (.string a))], .agg [.c (.v (.bool q)), .c (.v (.string b))]] = M192 p q a b := by kernel_rfl
theorem M185_eq (p q : Bool) (a b : ByteArray) : execFn Tryz.prog Γ185 noL 1010 Tryz.f185 [.agg [.c (.v (.bool p)), .c (.v (.string a))], .agg [.c (.v (.bool q)), .c (.v (.string b))]] = M185 p q a b := by kernel_rfl
def K124 : List AV → Option (AV × List Bool)
 | [.agg [.c (.v (.bool p)), .c (.v (.string a))], .agg [.c (.v (.bool q)), .c (.v (.string b))]] => some (intA .i64 (sgn (iv p a) (iv q b)), [okI p a, okI q b])
 | _ => none
def K192 : List AV → Option (AV × List Bool)
 | [.agg [.c (.v (.bool p)), .c (.v (.string a))], .agg [.c (.v (.bool q)), .c (.v (.string b))]] => some (intForm (iv p a + iv q b), [okI p a, okI q b, decide (a.data.toList.length ≤ 100000000), decide (b.data.toList.length ≤ 100000000)])
 | _ => none
def K185 : List AV → Option (AV × List Bool)
 | [.agg [.c (.v (.bool p)), .c (.v (.string a))], .agg [.c (.v (.bool q)), .c (.v (.string b))]] => some (intForm (iv p a * iv q b), [okI p a, okI q b, decide (a.data.toList.length ≤ 100000000), decide (b.data.toList.length ≤ 100000000)])
 | _ => none
theorem Γ124_ok : ∀ f s, Γ124 f = some s → SpecOk Tryz.prog f s := step_ok f168_ok.spec (step_ok f170_ok.spec (one_ok f171_ok.spec))
theorem Γ192_ok : ∀ f s, Γ192 f = some s → SpecOk Tryz.prog f s := step_ok f171_ok.spec (step_ok f222_ok.spec (step_ok f223_ok.spec (one_ok f173_ok.spec)))
theorem Γ185_ok : ∀ f s, Γ185 f = some s → SpecOk Tryz.prog f s := step_ok f219_ok.spec (one_ok f173_ok.spec)
theorem okI_canon {p : Bool} {a : ByteArray} (h : okI p a = true) : canon a.data.toList = true := by simp only [okI, Bool.and_eq_true] at h; exact h.1
theorem okI_neg {a : ByteArray} (h : okI true a = true) : 0 < magN a.data.toList := by
 have hc := okI_canon h
 refine Nat.pos_of_ne_zero fun hz => ?_
 have := (magN_eq_zero hc).1 hz
 simp [okI, this] at h
theorem magB_nil (n : Nat) : (magB n == []) = decide (n = 0) := by
 by_cases h : n = 0
 ·subst h; simp [magB_zero]
 ·rw [decide_eq_false h]
  have : magB n ≠ [] := fun hh => h (magB_inj (hh.trans magB_zero.symm))
  simpa using this
theorem made_form (p : Bool) (n : Nat) : AV.agg [boolA (p && !magB n == []), strA (magB n)] = intForm (bif p then -(n : Int) else (n : Int)) := by
 unfold intForm
 rw [magB_nil]
 cases p with
 | true =>
  simp only [cond_true, Int.natAbs_neg, Int.natAbs_natCast, Bool.true_and]
  by_cases h : n = 0
  ·subst h; rfl
  ·have h2 : -(n : Int) < 0 := by omega
   rw [decide_eq_true h2, decide_eq_false h]; rfl
 | false =>
  simp only [cond_false, Int.natAbs_natCast, Bool.false_and]
  have h2 : ¬ (n : Int) < 0 := by omega
  rw [decide_eq_false h2]; rfl
theorem M124_sat (p q : Bool) (a b : ByteArray) (ha : okI p a = true) (hb : okI q b = true) : (M124 p q a b).sat fun r => r = intA .i64 (sgn (iv p a) (iv q b)) := by
 have na : p = true → 0 < magN a.data.toList := fun h => by subst h; exact okI_neg ha
 have nb : q = true → 0 < magN b.data.toList := fun h => by subst h; exact okI_neg hb
 unfold M124
 refine sat_ite (fun hw => sat_need ha (sat_need hb (sat_ret ?_))) (fun hw => sat_need (okI_canon ha) (sat_need (okI_canon hb) (sat_ite (fun hp => sat_ret ?_) (fun hp => sat_ret ?_))))
 · refine congrArg (intA .i64) ?_
   generalize magN a.data.toList = x at *
   cases p <;> cases q
   · cases hw
   · have := nb rfl
     simp only [iv, cond_true, cond_false, sgn]
     repeat' split
     all_goals omega
   · have := na rfl
     simp only [iv, cond_true, cond_false, sgn]
     repeat' split
     all_goals omega
   · cases hw
 · subst hp
   cases q with
   | false => cases hw
   | true =>
     refine congrArg (intA .i64) ?_
     simp only [iv, cond_true, sgn]
     repeat' split
     all_goals first | rfl | (exact absurd rfl (by omega)) | (exfalso; omega) | (rw [wrap_i64 (by omega)]; omega)
 · subst hp
   cases q with
   | true => cases hw
   | false => rfl
theorem M192_sat (p q : Bool) (a b : ByteArray) (ha : okI p a = true) (hb : okI q b = true) (la : a.data.toList.length ≤ 100000000) (lb : b.data.toList.length ≤ 100000000) : (M192 p q a b).sat fun r => r = intForm (iv p a + iv q b) := by
 unfold M192
 refine sat_ite (fun hw => sat_need (decide_eq_true la) (sat_need (decide_eq_true lb) (sat_ret ?_))) (fun hw => sat_need (okI_canon ha) (sat_need (okI_canon hb) (sat_ite (fun h0 => sat_need (decide_eq_true la) (sat_need (decide_eq_true lb) (sat_need ?_ (sat_ret ?_)))) (fun h0 => sat_need (decide_eq_true lb) (sat_need (decide_eq_true la) (sat_need ?_ (sat_ret ?_)))))))
 ·refine (made_form p _).trans (congrArg intForm ?_)
  obtain rfl : p = q := eq_of_beq hw
  cases p <;> simp only [iv, cond_true, cond_false] <;> omega
 ·have h0 := of_decide_eq_true h0
  refine decide_eq_true ?_
  unfold sgn at h0
  split at h0
  ·omega
  ·omega
 ·have h0 := of_decide_eq_true h0
  have hle : magN b.data.toList ≤ magN a.data.toList := by
   unfold sgn at h0
   split at h0
   ·omega
   ·omega
  refine (made_form p _).trans (congrArg intForm ?_)
  cases p <;> cases q <;> first | (cases hw; done) | (simp only [iv, cond_true, cond_false]; omega)
 ·have h0 := of_decide_eq_false h0
  refine decide_eq_true ?_
  unfold sgn at h0
  split at h0
  ·omega
  ·split at h0 <;> omega
 ·have h0 := of_decide_eq_false h0
  have hle : magN a.data.toList ≤ magN b.data.toList := by
   unfold sgn at h0
   split at h0
   ·omega
   ·split at h0 <;> omega
  refine (made_form q _).trans (congrArg intForm ?_)
  cases p <;> cases q <;> first | (cases hw; done) | (simp only [iv, cond_true, cond_false]; omega)
theorem M185_sat (p q : Bool) (a b : ByteArray) (la : a.data.toList.length ≤ 100000000) (lb : b.data.toList.length ≤ 100000000) : (M185 p q a b).sat fun r => r = intForm (iv p a * iv q b) := by
 unfold M185
 refine sat_need (decide_eq_true la) (sat_need (decide_eq_true lb) (sat_ret ((made_form _ _).trans (congrArg intForm ?_))))
 cases p <;> cases q <;> simp [iv, Int.natCast_mul, Int.neg_mul, Int.mul_neg]
theorem f124_ok : PureOk Tryz.prog 124 K124 := by
 refine pureOk_of_exec prog_mixed Γ124_ok (fn := Tryz.f124) (c := codeOf Tryz.f124) (by kernel_rfl) (by kernel_rfl) (callFunc_enter (fn := Tryz.f124) (c := codeOf Tryz.f124) (by kernel_rfl) (by kernel_rfl) (by kernel_rfl)) (L := noL) (N := 1010) (blocksOk_none _ _) ?_ ?_
 ·intro args v cs h
  unfold K124 at h
  split at h
  ·cases h; rfl
  ·cases h
 ·intro args v cs h hc
  unfold K124 at h
  split at h
  ·rename_i p a q b
   cases h
   have h1 : okI p a = true := hc (okI p a) (by simp)
   have h2 : okI q b = true := hc (okI q b) (by simp)
   have hs := M124_sat p q a b h1 h2
   rw [← M124_eq] at hs
   generalize execFn Tryz.prog Γ124 noL 1010 Tryz.f124 [.agg [.c (.v (.bool p)), .c (.v (.string a))], .agg [.c (.v (.bool q)), .c (.v (.string b))]] = T at hs ⊢
   generalize sgn (iv p a) (iv q b) = z at hs ⊢
   exact Tr.sat_mono (fun r hr => ⟨by subst hr; rfl, Sees.of_eq hr⟩) hs
  ·cases h
theorem f192_ok : PureOk Tryz.prog 192 K192 := by
 refine pureOk_of_exec prog_mixed Γ192_ok (fn := Tryz.f192) (c := codeOf Tryz.f192) (by kernel_rfl) (by kernel_rfl) (callFunc_enter (fn := Tryz.f192) (c := codeOf Tryz.f192) (by kernel_rfl) (by kernel_rfl) (by kernel_rfl)) (L := noL) (N := 1010) (blocksOk_none _ _) ?_ ?_
 ·intro args v cs h
  unfold K192 at h
  split at h
  ·cases h; rfl
  ·cases h
 ·intro args v cs h hc
  unfold K192 at h
  split at h
  ·rename_i p a q b
   cases h
   have h1 : okI p a = true := hc (okI p a) (by simp)
   have h2 : okI q b = true := hc (okI q b) (by simp)
   have h3 : a.data.toList.length ≤ 100000000 := dec (hc (decide (a.data.toList.length ≤ 100000000)) (by simp))
   have h4 : b.data.toList.length ≤ 100000000 := dec (hc (decide (b.data.toList.length ≤ 100000000)) (by simp))
   have hs := M192_sat p q a b h1 h2 h3 h4
   rw [← M192_eq] at hs
   generalize execFn Tryz.prog Γ192 noL 1010 Tryz.f192 [.agg [.c (.v (.bool p)), .c (.v (.string a))], .agg [.c (.v (.bool q)), .c (.v (.string b))]] = T at hs ⊢
   generalize iv p a + iv q b = z at hs ⊢
   exact Tr.sat_mono (fun r hr => ⟨by subst hr; rfl, Sees.of_eq hr⟩) hs
  ·cases h
theorem f185_ok : PureOk Tryz.prog 185 K185 := by
 refine pureOk_of_exec prog_mixed Γ185_ok (fn := Tryz.f185) (c := codeOf Tryz.f185) (by kernel_rfl) (by kernel_rfl) (callFunc_enter (fn := Tryz.f185) (c := codeOf Tryz.f185) (by kernel_rfl) (by kernel_rfl) (by kernel_rfl)) (L := noL) (N := 1010) (blocksOk_none _ _) ?_ ?_
 ·intro args v cs h
  unfold K185 at h
  split at h
  ·cases h; rfl
  ·cases h
 ·intro args v cs h hc
  unfold K185 at h
  split at h
  ·rename_i p a q b
   cases h
   have h1 : okI p a = true := hc (okI p a) (by simp)
   have h2 : okI q b = true := hc (okI q b) (by simp)
   have h3 : a.data.toList.length ≤ 100000000 := dec (hc (decide (a.data.toList.length ≤ 100000000)) (by simp))
   have h4 : b.data.toList.length ≤ 100000000 := dec (hc (decide (b.data.toList.length ≤ 100000000)) (by simp))
   have hs := M185_sat p q a b h3 h4
   rw [← M185_eq] at hs
   generalize execFn Tryz.prog Γ185 noL 1010 Tryz.f185 [.agg [.c (.v (.bool p)), .c (.v (.string a))], .agg [.c (.v (.bool q)), .c (.v (.string b))]] = T at hs ⊢
   generalize iv p a * iv q b = z at hs ⊢
   exact Tr.sat_mono (fun r hr => ⟨by subst hr; rfl, Sees.of_eq hr⟩) hs
  ·cases h
end Go.Vse
