/- Helpers for the proof: no statement of its own. -/
import Derived.Test.YtaidphfhmbpelaaGreatDoorNumF
set_option linter.unusedVariables false
set_option linter.unusedSimpArgs false
set_option linter.unnecessarySimpa false
set_option linter.deprecated false
set_option maxRecDepth 100000
namespace Go.Vse
open Go.Proofs
def Γ80 : FuncId → Option Spec := fun f => bif Nat.beq f 113 then some (pureSpec K113) else bif Nat.beq f 114 then some (pureSpec K114) else bif Nat.beq f 115 then some (pureSpec K115) else none
def Γ110 : FuncId → Option Spec := fun f => bif Nat.beq f 115 then some (pureSpec K115) else bif Nat.beq f 139 then some (pureSpec K139) else bif Nat.beq f 140 then some (pureSpec K140) else bif Nat.beq f 68 then some (pureSpec K68) else none
def Γ103 : FuncId → Option Spec := fun f => bif Nat.beq f 137 then some (pureSpec K137) else bif Nat.beq f 68 then some (pureSpec K68) else none
def M80 (p : Bool) (q : Bool) (a : ByteArray) (b : ByteArray) : Tr AV :=
 let x1 : List UInt8 := a.data.toList
 let x2 : List UInt8 := b.data.toList
 let x3 : Int := sgn ↑(magN x1) ↑(magN x2)
 .ite (!p == q) (.need (okI p a) (.need (okI q b) (.ret (.c (.v (.int IntKind.i64 (sgn (sgn (iv p a) 0) (sgn (iv q b) 0)))))))) (.need (canon x1) (.need (canon x2) (.ite p (.ret (.c (.v (.int IntKind.i64 (IntKind.i64.wrap (0 - x3)))))) (.ret (.c (.v (.int IntKind.i64 x3)))))))
def M110 (p : Bool) (q : Bool) (a : ByteArray) (b : ByteArray) : Tr AV :=
 let x1 : List UInt8 := a.data.toList
 let x2 : List UInt8 := b.data.toList
 let x3 : List UInt8 := magB (magN x1 + magN x2)
 let x4 : Int := sgn ↑(magN x1) ↑(magN x2)
 let x5 : List UInt8 := magB (magN x1 - magN x2)
 let x6 : List UInt8 := magB (magN x2 - magN x1)
 .ite (p == q) (.need (decide (x1.length ≤ 100000000)) (.need (decide (x2.length ≤ 100000000)) (.ret (AV.agg [.c (.v (.bool (p && !x3 == []))), .c (.v (.string ⟨⟨x3⟩⟩))])))) (.need (canon x1) (.need (canon x2) (.ite (decide (x4 ≥ 0)) (.need (decide (x1.length ≤ 100000000)) (.need (decide (x2.length ≤ 100000000)) (.need (decide (magN x2 ≤ magN x1)) (.ret (AV.agg [.c (.v (.bool (p && !x5 == []))), .c (.v (.string ⟨⟨x5⟩⟩))]))))) (.need (decide (x2.length ≤ 100000000)) (.need (decide (x1.length ≤ 100000000)) (.need (decide (magN x1 ≤ magN x2)) (.ret (AV.agg [.c (.v (.bool (q && !x6 == []))), .c (.v (.string ⟨⟨x6⟩⟩))]))))))))
def M103 (p : Bool) (q : Bool) (a : ByteArray) (b : ByteArray) : Tr AV :=
 let x1 : List UInt8 := a.data.toList
 let x2 : List UInt8 := b.data.toList
 let x3 : List UInt8 := magB (magN x1 * magN x2)
 .need (decide (x1.length ≤ 100000000)) (.need (decide (x2.length ≤ 100000000)) (.ret (AV.agg [.c (.v (.bool (!p == q && !x3 == []))), .c (.v (.string ⟨⟨x3⟩⟩))])))
theorem M80_eq (p q : Bool) (a b : ByteArray) : execFn Tryz.prog Γ80 noL 1010 Tryz.f80 [.agg [.c (.v (.bool p)), .c (.v (.string a))], .agg [.c (.v (.bool q)), .c (.v (.string b))]] = M80 p q a b := by kernel_rfl
theorem M110_eq (p q : Bool) (a b : ByteArray) : execFn Tryz.prog Γ110 noL 1010 Tryz.f110 [.agg [.c (.v (.bool p)), .c (.v (.string a))], .agg [.c (.v (.bool q)), .c (.v (.string b))]] = M110 p q a b := by kernel_rfl
theorem M103_eq (p q : Bool) (a b : ByteArray) : execFn Tryz.prog Γ103 noL 1010 Tryz.f103 [.agg [.c (.v (.bool p)), .c (.v (.string a))], .agg [.c (.v (.bool q)), .c (.v (.string b))]] = M103 p q a b := by kernel_rfl
def K80 : List AV → Option (AV × List Bool)
 | [.agg [.c (.v (.bool p)), .c (.v (.string a))], .agg [.c (.v (.bool q)), .c (.v (.string b))]] => some (intA .i64 (sgn (iv p a) (iv q b)), [okI p a, okI q b])
 | _ => none
def K110 : List AV → Option (AV × List Bool)
 | [.agg [.c (.v (.bool p)), .c (.v (.string a))], .agg [.c (.v (.bool q)), .c (.v (.string b))]] => some (intForm (iv p a + iv q b), [okI p a, okI q b, decide (a.data.toList.length ≤ 100000000), decide (b.data.toList.length ≤ 100000000)])
 | _ => none
def K103 : List AV → Option (AV × List Bool)
 | [.agg [.c (.v (.bool p)), .c (.v (.string a))], .agg [.c (.v (.bool q)), .c (.v (.string b))]] => some (intForm (iv p a * iv q b), [okI p a, okI q b, decide (a.data.toList.length ≤ 100000000), decide (b.data.toList.length ≤ 100000000)])
 | _ => none
theorem Γ80_ok : ∀ f s, Γ80 f = some s → SpecOk Tryz.prog f s := step_ok f113_ok.spec (step_ok f114_ok.spec (one_ok f115_ok.spec))
theorem Γ110_ok : ∀ f s, Γ110 f = some s → SpecOk Tryz.prog f s := step_ok f115_ok.spec (step_ok f139_ok.spec (step_ok f140_ok.spec (one_ok f68_ok.spec)))
theorem Γ103_ok : ∀ f s, Γ103 f = some s → SpecOk Tryz.prog f s := step_ok f137_ok.spec (one_ok f68_ok.spec)
theorem okI_canon {p : Bool} {a : ByteArray} (h : okI p a = true) : canon a.data.toList = true := by simp only [okI, Bool.and_eq_true] at h; exact h.1
theorem okI_neg {a : ByteArray} (h : okI true a = true) : 0 < magN a.data.toList := by
 have hc := okI_canon h
 refine Nat.pos_of_ne_zero fun hz => ?_
 have := (magN_eq_zero hc).1 hz
 simp [okI, this] at h
theorem magB_nil (n : Nat) : (magB n == []) = decide (n = 0) := by
 by_cases h : n = 0
 ·subst h; simp [magB_zero]
 ·rw [decide_eq_false h]
  have : magB n ≠ [] := fun hh => h (magB_inj (hh.trans magB_zero.symm))
  simpa using this
theorem made_form (p : Bool) (n : Nat) : AV.agg [boolA (p && !magB n == []), strA (magB n)] = intForm (bif p then -(n : Int) else (n : Int)) := by
 unfold intForm
 rw [magB_nil]
 cases p with
 | true =>
  simp only [cond_true, Int.natAbs_neg, Int.natAbs_natCast, Bool.true_and]
  by_cases h : n = 0
  ·subst h; rfl
  ·have h2 : -(n : Int) < 0 := by omega
   rw [decide_eq_true h2, decide_eq_false h]; rfl
 | false =>
  simp only [cond_false, Int.natAbs_natCast, Bool.false_and]
  have h2 : ¬ (n : Int) < 0 := by omega
  rw [decide_eq_false h2]; rfl
theorem M80_sat (p q : Bool) (a b : ByteArray) (ha : okI p a = true) (hb : okI q b = true) : (M80 p q a b).sat fun r => r = intA .i64 (sgn (iv p a) (iv q b)) := by
 have na : p = true → 0 < magN a.data.toList := fun h => by subst h; exact okI_neg ha
 have nb : q = true → 0 < magN b.data.toList := fun h => by subst h; exact okI_neg hb
 unfold M80
 refine sat_ite (fun hw => sat_need ha (sat_need hb (sat_ret ?_))) (fun hw => sat_need (okI_canon ha) (sat_need (okI_canon hb) (sat_ite (fun hp => sat_ret ?_) (fun hp => sat_ret ?_))))
 · refine congrArg (intA .i64) ?_
   generalize magN a.data.toList = x at *
   cases p <;> cases q
   · cases hw
   · have := nb rfl
     simp only [iv, cond_true, cond_false, sgn]
     repeat' split
     all_goals omega
   · have := na rfl
     simp only [iv, cond_true, cond_false, sgn]
     repeat' split
     all_goals omega
   · cases hw
 · subst hp
   cases q with
   | false => cases hw
   | true =>
     refine congrArg (intA .i64) ?_
     simp only [iv, cond_true, sgn]
     repeat' split
     all_goals first | rfl | (exact absurd rfl (by omega)) | (exfalso; omega) | (rw [wrap_i64 (by omega)]; omega)
 · subst hp
   cases q with
   | true => cases hw
   | false => rfl
theorem M110_sat (p q : Bool) (a b : ByteArray) (ha : okI p a = true) (hb : okI q b = true) (la : a.data.toList.length ≤ 100000000) (lb : b.data.toList.length ≤ 100000000) : (M110 p q a b).sat fun r => r = intForm (iv p a + iv q b) := by
 unfold M110
 refine sat_ite (fun hw => sat_need (decide_eq_true la) (sat_need (decide_eq_true lb) (sat_ret ?_))) (fun hw => sat_need (okI_canon ha) (sat_need (okI_canon hb) (sat_ite (fun h0 => sat_need (decide_eq_true la) (sat_need (decide_eq_true lb) (sat_need ?_ (sat_ret ?_)))) (fun h0 => sat_need (decide_eq_true lb) (sat_need (decide_eq_true la) (sat_need ?_ (sat_ret ?_)))))))
 ·refine (made_form p _).trans (congrArg intForm ?_)
  obtain rfl : p = q := eq_of_beq hw
  cases p <;> simp only [iv, cond_true, cond_false] <;> omega
 ·have h0 := of_decide_eq_true h0
  refine decide_eq_true ?_
  unfold sgn at h0
  split at h0
  ·omega
  ·omega
 ·have h0 := of_decide_eq_true h0
  have hle : magN b.data.toList ≤ magN a.data.toList := by
   unfold sgn at h0
   split at h0
   ·omega
   ·omega
  refine (made_form p _).trans (congrArg intForm ?_)
  cases p <;> cases q <;> first | (cases hw; done) | (simp only [iv, cond_true, cond_false]; omega)
 ·have h0 := of_decide_eq_false h0
  refine decide_eq_true ?_
  unfold sgn at h0
  split at h0
  ·omega
  ·split at h0 <;> omega
 ·have h0 := of_decide_eq_false h0
  have hle : magN a.data.toList ≤ magN b.data.toList := by
   unfold sgn at h0
   split at h0
   ·omega
   ·split at h0 <;> omega
  refine (made_form q _).trans (congrArg intForm ?_)
  cases p <;> cases q <;> first | (cases hw; done) | (simp only [iv, cond_true, cond_false]; omega)
theorem M103_sat (p q : Bool) (a b : ByteArray) (la : a.data.toList.length ≤ 100000000) (lb : b.data.toList.length ≤ 100000000) : (M103 p q a b).sat fun r => r = intForm (iv p a * iv q b) := by
 unfold M103
 refine sat_need (decide_eq_true la) (sat_need (decide_eq_true lb) (sat_ret ((made_form _ _).trans (congrArg intForm ?_))))
 cases p <;> cases q <;> simp [iv, Int.natCast_mul, Int.neg_mul, Int.mul_neg]
theorem f80_ok : PureOk Tryz.prog 80 K80 := by
 refine pureOk_of_exec prog_mixed Γ80_ok (fn := Tryz.f80) (c := codeOf Tryz.f80) (by kernel_rfl) (by kernel_rfl) (callFunc_enter (fn := Tryz.f80) (c := codeOf Tryz.f80) (by kernel_rfl) (by kernel_rfl) (by kernel_rfl)) (L := noL) (N := 1010) (blocksOk_none _ _) ?_ ?_
 ·intro args v cs h
  unfold K80 at h
  split at h
  ·cases h; rfl
  ·cases h
 ·intro args v cs h hc
  unfold K80 at h
  split at h
  ·rename_i p a q b
   cases h
   have h1 : okI p a = true := hc (okI p a) (by simp)
   have h2 : okI q b = true := hc (okI q b) (by simp)
   have hs := M80_sat p q a b h1 h2
   rw [← M80_eq] at hs
   generalize execFn Tryz.prog Γ80 noL 1010 Tryz.f80 [.agg [.c (.v (.bool p)), .c (.v (.string a))], .agg [.c (.v (.bool q)), .c (.v (.string b))]] = T at hs ⊢
   generalize sgn (iv p a) (iv q b) = z at hs ⊢
   exact Tr.sat_mono (fun r hr => ⟨by subst hr; rfl, Sees.of_eq hr⟩) hs
  ·cases h
theorem f110_ok : PureOk Tryz.prog 110 K110 := by
 refine pureOk_of_exec prog_mixed Γ110_ok (fn := Tryz.f110) (c := codeOf Tryz.f110) (by kernel_rfl) (by kernel_rfl) (callFunc_enter (fn := Tryz.f110) (c := codeOf Tryz.f110) (by kernel_rfl) (by kernel_rfl) (by kernel_rfl)) (L := noL) (N := 1010) (blocksOk_none _ _) ?_ ?_
 ·intro args v cs h
  unfold K110 at h
  split at h
  ·cases h; rfl
  ·cases h
 ·intro args v cs h hc
  unfold K110 at h
  split at h
  ·rename_i p a q b
   cases h
   have h1 : okI p a = true := hc (okI p a) (by simp)
   have h2 : okI q b = true := hc (okI q b) (by simp)
   have h3 : a.data.toList.length ≤ 100000000 := dec (hc (decide (a.data.toList.length ≤ 100000000)) (by simp))
   have h4 : b.data.toList.length ≤ 100000000 := dec (hc (decide (b.data.toList.length ≤ 100000000)) (by simp))
   have hs := M110_sat p q a b h1 h2 h3 h4
   rw [← M110_eq] at hs
   generalize execFn Tryz.prog Γ110 noL 1010 Tryz.f110 [.agg [.c (.v (.bool p)), .c (.v (.string a))], .agg [.c (.v (.bool q)), .c (.v (.string b))]] = T at hs ⊢
   generalize iv p a + iv q b = z at hs ⊢
   exact Tr.sat_mono (fun r hr => ⟨by subst hr; rfl, Sees.of_eq hr⟩) hs
  ·cases h
theorem f103_ok : PureOk Tryz.prog 103 K103 := by
 refine pureOk_of_exec prog_mixed Γ103_ok (fn := Tryz.f103) (c := codeOf Tryz.f103) (by kernel_rfl) (by kernel_rfl) (callFunc_enter (fn := Tryz.f103) (c := codeOf Tryz.f103) (by kernel_rfl) (by kernel_rfl) (by kernel_rfl)) (L := noL) (N := 1010) (blocksOk_none _ _) ?_ ?_
 ·intro args v cs h
  unfold K103 at h
  split at h
  ·cases h; rfl
  ·cases h
 ·intro args v cs h hc
  unfold K103 at h
  split at h
  ·rename_i p a q b
   cases h
   have h1 : okI p a = true := hc (okI p a) (by simp)
   have h2 : okI q b = true := hc (okI q b) (by simp)
   have h3 : a.data.toList.length ≤ 100000000 := dec (hc (decide (a.data.toList.length ≤ 100000000)) (by simp))
   have h4 : b.data.toList.length ≤ 100000000 := dec (hc (decide (b.data.toList.length ≤ 100000000)) (by simp))
   have hs := M103_sat p q a b h3 h4
   rw [← M103_eq] at hs
   generalize execFn Tryz.prog Γ103 noL 1010 Tryz.f103 [.agg [.c (.v (.bool p)), .c (.v (.string a))], .agg [.c (.v (.bool q)), .c (.v (.string b))]] = T at hs ⊢
   generalize iv p a * iv q b = z at hs ⊢
   exact Tr.sat_mono (fun r hr => ⟨by subst hr; rfl, Sees.of_eq hr⟩) hs
  ·cases h
end Go.Vse
