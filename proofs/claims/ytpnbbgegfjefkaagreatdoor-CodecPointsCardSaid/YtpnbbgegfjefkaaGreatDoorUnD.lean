/- Helpers for the proof: no statement of its own. -/
import Derived.Test.YtpnbbgegfjefkaaGreatDoorUnC
set_option linter.unusedVariables false
set_option linter.unusedSimpArgs false
set_option linter.unnecessarySimpa false
set_option linter.deprecated false
set_option maxRecDepth 100000
namespace Go.Vse
open Go.Proofs
theorem tm_rev (n : Int) : List.reverse [IV.v (Value.bool false), IV.v (Value.string { data := { toList := [] } }), IV.v (Value.bool false), IV.v (Value.string { data := { toList := [] } }), IV.v (Value.bool false), IV.v (Value.string { data := { toList := denB 1 } }), IV.v (Value.bool false), IV.v (Value.string { data := { toList := magB n.natAbs } }), IV.v (Value.bool (decide (n < 0)))] = tmIV n := rfl
theorem b_rev (b : Bool) : List.reverse [IV.v (Value.bool b)] = [IV.v (Value.bool b)] := rfl
theorem sp_ob (O : List Un) (i : Nat) (hi : i < O.length) (b : Bool) : unsOf O.length (spliceE (unEl O) i (0 + 0 + 19) [IV.v (Value.bool b)]) = O.set i { O.getD i u0 with ob := b } := (uns_set O i hi _ _ _ rfl).1
theorem sp_ob' (O : List Un) (i : Nat) (hi : i < O.length) (b : Bool) : unsOk O.length (spliceE (unEl O) i (0 + 0 + 19) [IV.v (Value.bool b)]) = true := (uns_set O i hi _ _ { O.getD i u0 with ob := b } rfl).2
theorem spl2 (U : List Un) (i : Nat) (j j' : Nat) (c c' : List IV) (u : Un) (he : ((unIV (U.getD i u0)).take j ++ c ++ (unIV (U.getD i u0)).drop (j + c.length)).take j' ++ c' ++ ((unIV (U.getD i u0)).take j ++ c ++ (unIV (U.getD i u0)).drop (j + c.length)).drop (j' + c'.length) = unIV u) (k : Nat) (hk : k < U.length) :
  spliceE (spliceE (unEl U) i j c) i j' c' k = unEl (U.set i u) k := by
 unfold spliceE
 by_cases hk2 : k = i
 ·subst hk2
  simp only [if_true]
  unfold unEl
  rw [he]
  simp [List.getD_eq_getElem?_getD, hk]
 ·simp only [hk2, if_false]
  unfold unEl
  simp [List.getD_eq_getElem?_getD, List.getElem?_set_ne (Ne.symm hk2)]
theorem sp_bo (O : List Un) (i : Nat) (hi : i < O.length) (t : Int) (b : Bool) : unsOf O.length (spliceE (spliceE (unEl O) i (0 + 0 + 9) (tmIV t)) i (0 + 0 + 19) [IV.v (Value.bool b)]) = O.set i { O.getD i u0 with b := t, ob := b } := by
 rw [unsOf_congr (spl2 O i _ _ _ _ { O.getD i u0 with b := t, ob := b } rfl)]
 have := unsOf_el (O.set i { O.getD i u0 with b := t, ob := b })
 rw [List.length_set] at this
 exact this
theorem sp_bo' (O : List Un) (i : Nat) (hi : i < O.length) (t : Int) (b : Bool) : unsOk O.length (spliceE (spliceE (unEl O) i (0 + 0 + 9) (tmIV t)) i (0 + 0 + 19) [IV.v (Value.bool b)]) = true := by
 rw [unsOk_congr (spl2 O i _ _ _ _ { O.getD i u0 with b := t, ob := b } rfl)]
 have := unsOk_units (O.set i { O.getD i u0 with b := t, ob := b })
 rw [List.length_set] at this
 exact this
theorem s1e (U A O : List Un) (i : Nat) (hi : i < A.length) (hA : A.length ≤ 2000) (hO : O.length ≤ 1000) (h0 : O.length = 0) (f : L4) (hf : lbB f = true) (t : Int) (hx : A.getD i u0 = ⟨t, t, false, false, f⟩) (ht : tmB t = true) (b : Int) (hi1 : i + 1 < A.length) (hn : A.getD (i + 1) u0 = ⟨t, b, true, true, f⟩) (hff : eqL f f = true)  (Q : T49b ⊕ (Nat × Unit) × List Un → Prop) (hq : Q (.inl (((), U, O.length, A, A, (A.length : Nat), ((i + 1 : Nat) : Int), ()), O))) :
  (step49b U O.length A A (A.length : Nat) (i : Nat) O).sat Q := by
 have hw1 : IntKind.i64.wrap ((i : Int) + 1) = ((i + 1 : Nat) : Int) := by rw [wrap_i64 (by omega)]; omega
 have c1 : decide ((0 : Int) ≤ (i : Int) ∧ (i : Int) < (A.length : Int)) = true := decide_eq_true (by omega)
 have c2 : decide ((i : Int) < (A.length : Int)) = true := decide_eq_true (by omega)
 have d1 : decide (O.length + 1 ≤ 9223372036854775807) = true := decide_eq_true (by omega)
 have d2 : decide ((O.length + 1) * 408 ≤ 140737488355328) = true := decide_eq_true (by omega)
 have d3 : decide (O.length ≤ 1000) = true := decide_eq_true hO
 have e1 : decide (((O.length : Nat) : Int) > 0) = false := decide_eq_false (by omega)
 have n1 : decide (((i + 1 : Nat) : Int) < ((A.length : Nat) : Int)) = true := decide_eq_true (by omega)
 have n2 : decide ((0 : Int) ≤ ((i + 1 : Nat) : Int) ∧ ((i + 1 : Nat) : Int) < ((A.length : Nat) : Int)) = true := decide_eq_true (by omega)
 simp only [step49b, hw1, c1, c2, Int.toNat_natCast, hx, hn]
 simp only [↓un_fold, ↓iv_fold, ↓ln_fold, ↓tm_fold, un_eta, iv_eta, take_un1, take_un2, take_iv1, take_iv2, tmV_cells, tmOk_cells, unV_cells, unOk_cells, ivV_lit, ivOk_lit, lineV_cells, lineOk_cells, unsOf_el, unsOk_units, sat_true, rev_fold, take_univ, unV_iv, unOk_iv, unsOf_join, unsOk_join, Bool.and_true, eq_self, decide_true, Nat.le_refl, tm_test, ↓tm_rev, b_rev, ratV_lit, ratOk_lit, hw1, c1, c2, d1, d2, d3, Bool.and_true, Bool.true_and, Bool.and_false, Bool.false_and, cond_true, cond_false, Bool.not_true, Bool.not_false, e1, n1, n2, hf, ht, hff]
 repeat first
  | refine sat_need rfl ?_
  | refine sat_ite (fun h => Bool.noConfusion h) (fun _ => ?_)
  | refine sat_ite (fun _ => ?_) (fun h => Bool.noConfusion h)
 refine sat_ret ?_
 exact hq
theorem s1f (U A O : List Un) (i : Nat) (hi : i < A.length) (hA : A.length ≤ 2000) (hO : O.length ≤ 1000) (h0 : 0 < O.length) (f : L4) (hf : lbB f = true) (t : Int) (hx : A.getD i u0 = ⟨t, t, false, false, f⟩) (ht : tmB t = true) (b : Int) (hi1 : i + 1 < A.length) (hn : A.getD (i + 1) u0 = ⟨t, b, true, true, f⟩) (hff : eqL f f = true) (hb : decide ((O.getD (O.length - 1) u0).b = t) = false)  (Q : T49b ⊕ (Nat × Unit) × List Un → Prop) (hq : Q (.inl (((), U, O.length, A, A, (A.length : Nat), ((i + 1 : Nat) : Int), ()), O))) :
  (step49b U O.length A A (A.length : Nat) (i : Nat) O).sat Q := by
 have hw1 : IntKind.i64.wrap ((i : Int) + 1) = ((i + 1 : Nat) : Int) := by rw [wrap_i64 (by omega)]; omega
 have c1 : decide ((0 : Int) ≤ (i : Int) ∧ (i : Int) < (A.length : Int)) = true := decide_eq_true (by omega)
 have c2 : decide ((i : Int) < (A.length : Int)) = true := decide_eq_true (by omega)
 have d1 : decide (O.length + 1 ≤ 9223372036854775807) = true := decide_eq_true (by omega)
 have d2 : decide ((O.length + 1) * 408 ≤ 140737488355328) = true := decide_eq_true (by omega)
 have d3 : decide (O.length ≤ 1000) = true := decide_eq_true hO
 have hl : O.length - 1 < O.length := by omega
 have hw : IntKind.i64.wrap ((O.length : Int) - 1) = ((O.length - 1 : Nat) : Int) := by rw [wrap_i64 (by omega)]; omega
 have e1 : decide (((O.length : Nat) : Int) > 0) = true := decide_eq_true (by omega)
 have e2 : decide ((0 : Int) ≤ ((O.length - 1 : Nat) : Int) ∧ ((O.length - 1 : Nat) : Int) < ((O.length : Nat) : Int)) = true := decide_eq_true (by omega)
 have e3 : decide (O.length - 1 < O.length) = true := decide_eq_true hl
 have n1 : decide (((i + 1 : Nat) : Int) < ((A.length : Nat) : Int)) = true := decide_eq_true (by omega)
 have n2 : decide ((0 : Int) ≤ ((i + 1 : Nat) : Int) ∧ ((i + 1 : Nat) : Int) < ((A.length : Nat) : Int)) = true := decide_eq_true (by omega)
 simp only [step49b, hw1, c1, c2, Int.toNat_natCast, hx, hn]
 simp only [↓un_fold, ↓iv_fold, ↓ln_fold, ↓tm_fold, un_eta, iv_eta, take_un1, take_un2, take_iv1, take_iv2, tmV_cells, tmOk_cells, unV_cells, unOk_cells, ivV_lit, ivOk_lit, lineV_cells, lineOk_cells, unsOf_el, unsOk_units, sat_true, rev_fold, take_univ, unV_iv, unOk_iv, unsOf_join, unsOk_join, Bool.and_true, eq_self, decide_true, Nat.le_refl, tm_test, ↓tm_rev, b_rev, ratV_lit, ratOk_lit, hw1, c1, c2, d1, d2, d3, Bool.and_true, Bool.true_and, Bool.and_false, Bool.false_and, cond_true, cond_false, Bool.not_true, Bool.not_false, hw, Int.toNat_natCast, e1, e2, e3, hb, n1, n2, hf, ht, hff]
 repeat first
  | refine sat_need rfl ?_
  | refine sat_ite (fun h => Bool.noConfusion h) (fun _ => ?_)
  | refine sat_ite (fun _ => ?_) (fun h => Bool.noConfusion h)
 refine sat_ret ?_
 exact hq
theorem s2e (U A O : List Un) (i : Nat) (hi : i < A.length) (hA : A.length ≤ 2000) (hO : O.length ≤ 1000) (h0 : O.length = 0) (f : L4) (hf : lbB f = true) (a b : Int) (hx : A.getD i u0 = ⟨a, b, true, true, f⟩) (hab : decide (a = b) = false) (g : L4) (hi0 : 0 < i) (hp : A.getD (i - 1) u0 = ⟨a, a, false, false, g⟩) (hh : heldB O a = false) (Q : T49b ⊕ (Nat × Unit) × List Un → Prop) (hq : Q (.inl (((), U, O.length + 1, A, A, (A.length : Nat), ((i + 1 : Nat) : Int), ()), O ++ [⟨a, b, false, true, f⟩]))) :
  (step49b U O.length A A (A.length : Nat) (i : Nat) O).sat Q := by
 have hw1 : IntKind.i64.wrap ((i : Int) + 1) = ((i + 1 : Nat) : Int) := by rw [wrap_i64 (by omega)]; omega
 have c1 : decide ((0 : Int) ≤ (i : Int) ∧ (i : Int) < (A.length : Int)) = true := decide_eq_true (by omega)
 have c2 : decide ((i : Int) < (A.length : Int)) = true := decide_eq_true (by omega)
 have d1 : decide (O.length + 1 ≤ 9223372036854775807) = true := decide_eq_true (by omega)
 have d2 : decide ((O.length + 1) * 408 ≤ 140737488355328) = true := decide_eq_true (by omega)
 have d3 : decide (O.length ≤ 1000) = true := decide_eq_true hO
 have e1 : decide (((O.length : Nat) : Int) > 0) = false := decide_eq_false (by omega)
 have hwp : IntKind.i64.wrap ((i : Int) - 1) = ((i - 1 : Nat) : Int) := by rw [wrap_i64 (by omega)]; omega
 have p1 : decide ((i : Int) > 0) = true := decide_eq_true (by omega)
 have p2 : decide ((0 : Int) ≤ ((i - 1 : Nat) : Int) ∧ ((i - 1 : Nat) : Int) < ((A.length : Nat) : Int)) = true := decide_eq_true (by omega)
 simp only [step49b, hw1, c1, c2, Int.toNat_natCast, hx, hwp, hp]
 simp only [↓un_fold, ↓iv_fold, ↓ln_fold, ↓tm_fold, un_eta, iv_eta, take_un1, take_un2, take_iv1, take_iv2, tmV_cells, tmOk_cells, unV_cells, unOk_cells, ivV_lit, ivOk_lit, lineV_cells, lineOk_cells, unsOf_el, unsOk_units, sat_true, rev_fold, take_univ, unV_iv, unOk_iv, unsOf_join, unsOk_join, Bool.and_true, eq_self, decide_true, Nat.le_refl, tm_test, ↓tm_rev, b_rev, ratV_lit, ratOk_lit, hw1, c1, c2, d1, d2, d3, Bool.and_true, Bool.true_and, Bool.and_false, Bool.false_and, cond_true, cond_false, Bool.not_true, Bool.not_false, e1, p1, p2, hab, hh, hwp, hp]
 repeat first
  | refine sat_need rfl ?_
  | refine sat_ite (fun h => Bool.noConfusion h) (fun _ => ?_)
  | refine sat_ite (fun _ => ?_) (fun h => Bool.noConfusion h)
 refine sat_ret ?_
 exact hq
theorem s2f (U A O : List Un) (i : Nat) (hi : i < A.length) (hA : A.length ≤ 2000) (hO : O.length ≤ 1000) (h0 : 0 < O.length) (f : L4) (hf : lbB f = true) (a b : Int) (hx : A.getD i u0 = ⟨a, b, true, true, f⟩) (hab : decide (a = b) = false) (g : L4) (hi0 : 0 < i) (hp : A.getD (i - 1) u0 = ⟨a, a, false, false, g⟩) (hb : decide ((O.getD (O.length - 1) u0).b = a) = false) (hh : heldB O a = false) (Q : T49b ⊕ (Nat × Unit) × List Un → Prop) (hq : Q (.inl (((), U, O.length + 1, A, A, (A.length : Nat), ((i + 1 : Nat) : Int), ()), O ++ [⟨a, b, false, true, f⟩]))) :
  (step49b U O.length A A (A.length : Nat) (i : Nat) O).sat Q := by
 have hw1 : IntKind.i64.wrap ((i : Int) + 1) = ((i + 1 : Nat) : Int) := by rw [wrap_i64 (by omega)]; omega
 have c1 : decide ((0 : Int) ≤ (i : Int) ∧ (i : Int) < (A.length : Int)) = true := decide_eq_true (by omega)
 have c2 : decide ((i : Int) < (A.length : Int)) = true := decide_eq_true (by omega)
 have d1 : decide (O.length + 1 ≤ 9223372036854775807) = true := decide_eq_true (by omega)
 have d2 : decide ((O.length + 1) * 408 ≤ 140737488355328) = true := decide_eq_true (by omega)
 have d3 : decide (O.length ≤ 1000) = true := decide_eq_true hO
 have hl : O.length - 1 < O.length := by omega
 have hw : IntKind.i64.wrap ((O.length : Int) - 1) = ((O.length - 1 : Nat) : Int) := by rw [wrap_i64 (by omega)]; omega
 have e1 : decide (((O.length : Nat) : Int) > 0) = true := decide_eq_true (by omega)
 have e2 : decide ((0 : Int) ≤ ((O.length - 1 : Nat) : Int) ∧ ((O.length - 1 : Nat) : Int) < ((O.length : Nat) : Int)) = true := decide_eq_true (by omega)
 have e3 : decide (O.length - 1 < O.length) = true := decide_eq_true hl
 have hwp : IntKind.i64.wrap ((i : Int) - 1) = ((i - 1 : Nat) : Int) := by rw [wrap_i64 (by omega)]; omega
 have p1 : decide ((i : Int) > 0) = true := decide_eq_true (by omega)
 have p2 : decide ((0 : Int) ≤ ((i - 1 : Nat) : Int) ∧ ((i - 1 : Nat) : Int) < ((A.length : Nat) : Int)) = true := decide_eq_true (by omega)
 simp only [step49b, hw1, c1, c2, Int.toNat_natCast, hx, hwp, hp]
 simp only [↓un_fold, ↓iv_fold, ↓ln_fold, ↓tm_fold, un_eta, iv_eta, take_un1, take_un2, take_iv1, take_iv2, tmV_cells, tmOk_cells, unV_cells, unOk_cells, ivV_lit, ivOk_lit, lineV_cells, lineOk_cells, unsOf_el, unsOk_units, sat_true, rev_fold, take_univ, unV_iv, unOk_iv, unsOf_join, unsOk_join, Bool.and_true, eq_self, decide_true, Nat.le_refl, tm_test, ↓tm_rev, b_rev, ratV_lit, ratOk_lit, hw1, c1, c2, d1, d2, d3, Bool.and_true, Bool.true_and, Bool.and_false, Bool.false_and, cond_true, cond_false, Bool.not_true, Bool.not_false, hw, Int.toNat_natCast, e1, e2, e3, hb, p1, p2, hab, hh, hwp, hp]
 repeat first
  | refine sat_need rfl ?_
  | refine sat_ite (fun h => Bool.noConfusion h) (fun _ => ?_)
  | refine sat_ite (fun _ => ?_) (fun h => Bool.noConfusion h)
 refine sat_ret ?_
 exact hq
theorem s3 (U A O : List Un) (i : Nat) (hi : i < A.length) (hA : A.length ≤ 2000) (hO : O.length ≤ 1000) (h0 : 0 < O.length) (f : L4) (hf : lbB f = true) (t : Int) (hx : A.getD i u0 = ⟨t, t, false, false, f⟩) (ht : tmB t = true) (hb : decide ((O.getD (O.length - 1) u0).b = t) = true) (hai : decide ((O.getD (O.length - 1) u0).a = (O.getD (O.length - 1) u0).b) = false) (hLf : eqL (O.getD (O.length - 1) u0).f f = true) (hLb : lbB (O.getD (O.length - 1) u0).f = true) (Q : T49b ⊕ (Nat × Unit) × List Un → Prop) (hq : Q (.inl (((), U, O.length, A, A, (A.length : Nat), ((i + 1 : Nat) : Int), ()), O.set (O.length - 1) { O.getD (O.length - 1) u0 with ob := false }))) :
  (step49b U O.length A A (A.length : Nat) (i : Nat) O).sat Q := by
 have hw1 : IntKind.i64.wrap ((i : Int) + 1) = ((i + 1 : Nat) : Int) := by rw [wrap_i64 (by omega)]; omega
 have c1 : decide ((0 : Int) ≤ (i : Int) ∧ (i : Int) < (A.length : Int)) = true := decide_eq_true (by omega)
 have c2 : decide ((i : Int) < (A.length : Int)) = true := decide_eq_true (by omega)
 have d1 : decide (O.length + 1 ≤ 9223372036854775807) = true := decide_eq_true (by omega)
 have d2 : decide ((O.length + 1) * 408 ≤ 140737488355328) = true := decide_eq_true (by omega)
 have d3 : decide (O.length ≤ 1000) = true := decide_eq_true hO
 have hl : O.length - 1 < O.length := by omega
 have hw : IntKind.i64.wrap ((O.length : Int) - 1) = ((O.length - 1 : Nat) : Int) := by rw [wrap_i64 (by omega)]; omega
 have e1 : decide (((O.length : Nat) : Int) > 0) = true := decide_eq_true (by omega)
 have e2 : decide ((0 : Int) ≤ ((O.length - 1 : Nat) : Int) ∧ ((O.length - 1 : Nat) : Int) < ((O.length : Nat) : Int)) = true := decide_eq_true (by omega)
 have e3 : decide (O.length - 1 < O.length) = true := decide_eq_true hl
 simp only [step49b, hw1, c1, c2, Int.toNat_natCast, hx]
 simp only [↓un_fold, ↓iv_fold, ↓ln_fold, ↓tm_fold, un_eta, iv_eta, take_un1, take_un2, take_iv1, take_iv2, tmV_cells, tmOk_cells, unV_cells, unOk_cells, ivV_lit, ivOk_lit, lineV_cells, lineOk_cells, unsOf_el, unsOk_units, sat_true, rev_fold, take_univ, unV_iv, unOk_iv, unsOf_join, unsOk_join, Bool.and_true, eq_self, decide_true, Nat.le_refl, tm_test, ↓tm_rev, b_rev, ratV_lit, ratOk_lit, hw1, c1, c2, d1, d2, d3, Bool.and_true, Bool.true_and, Bool.and_false, Bool.false_and, cond_true, cond_false, Bool.not_true, Bool.not_false, hw, Int.toNat_natCast, e1, e2, e3, hb, hai, ht, hLf, hLb, sp_ob O (O.length - 1) hl, sp_ob' O (O.length - 1) hl]
 repeat first
  | refine sat_need rfl ?_
  | refine sat_ite (fun h => Bool.noConfusion h) (fun _ => ?_)
  | refine sat_ite (fun _ => ?_) (fun h => Bool.noConfusion h)
 refine sat_ret ?_
 exact hq
theorem s4 (U A O : List Un) (i : Nat) (hi : i < A.length) (hA : A.length ≤ 2000) (hO : O.length ≤ 1000) (h0 : 0 < O.length) (f : L4) (hf : lbB f = true) (a b : Int) (hx : A.getD i u0 = ⟨a, b, true, true, f⟩) (hab : decide (a = b) = false) (hb : decide ((O.getD (O.length - 1) u0).b = a) = true) (hai : decide ((O.getD (O.length - 1) u0).a = (O.getD (O.length - 1) u0).b) = false) (hob : (O.getD (O.length - 1) u0).ob = false) (hLf : eqL (O.getD (O.length - 1) u0).f f = true) (Q : T49b ⊕ (Nat × Unit) × List Un → Prop) (hq : Q (.inl (((), U, O.length, A, A, (A.length : Nat), ((i + 1 : Nat) : Int), ()), O.set (O.length - 1) { O.getD (O.length - 1) u0 with b := b, ob := true }))) :
  (step49b U O.length A A (A.length : Nat) (i : Nat) O).sat Q := by
 have hw1 : IntKind.i64.wrap ((i : Int) + 1) = ((i + 1 : Nat) : Int) := by rw [wrap_i64 (by omega)]; omega
 have c1 : decide ((0 : Int) ≤ (i : Int) ∧ (i : Int) < (A.length : Int)) = true := decide_eq_true (by omega)
 have c2 : decide ((i : Int) < (A.length : Int)) = true := decide_eq_true (by omega)
 have d1 : decide (O.length + 1 ≤ 9223372036854775807) = true := decide_eq_true (by omega)
 have d2 : decide ((O.length + 1) * 408 ≤ 140737488355328) = true := decide_eq_true (by omega)
 have d3 : decide (O.length ≤ 1000) = true := decide_eq_true hO
 have hl : O.length - 1 < O.length := by omega
 have hw : IntKind.i64.wrap ((O.length : Int) - 1) = ((O.length - 1 : Nat) : Int) := by rw [wrap_i64 (by omega)]; omega
 have e1 : decide (((O.length : Nat) : Int) > 0) = true := decide_eq_true (by omega)
 have e2 : decide ((0 : Int) ≤ ((O.length - 1 : Nat) : Int) ∧ ((O.length - 1 : Nat) : Int) < ((O.length : Nat) : Int)) = true := decide_eq_true (by omega)
 have e3 : decide (O.length - 1 < O.length) = true := decide_eq_true hl
 simp only [step49b, hw1, c1, c2, Int.toNat_natCast, hx]
 simp only [↓un_fold, ↓iv_fold, ↓ln_fold, ↓tm_fold, un_eta, iv_eta, take_un1, take_un2, take_iv1, take_iv2, tmV_cells, tmOk_cells, unV_cells, unOk_cells, ivV_lit, ivOk_lit, lineV_cells, lineOk_cells, unsOf_el, unsOk_units, sat_true, rev_fold, take_univ, unV_iv, unOk_iv, unsOf_join, unsOk_join, Bool.and_true, eq_self, decide_true, Nat.le_refl, tm_test, ↓tm_rev, b_rev, ratV_lit, ratOk_lit, hw1, c1, c2, d1, d2, d3, Bool.and_true, Bool.true_and, Bool.and_false, Bool.false_and, cond_true, cond_false, Bool.not_true, Bool.not_false, hw, Int.toNat_natCast, e1, e2, e3, hb, hai, hab, hob, hLf, sp_bo O (O.length - 1) hl, sp_bo' O (O.length - 1) hl]
 repeat first
  | refine sat_need rfl ?_
  | refine sat_ite (fun h => Bool.noConfusion h) (fun _ => ?_)
  | refine sat_ite (fun _ => ?_) (fun h => Bool.noConfusion h)
 refine sat_ret ?_
 exact hq
theorem s5 (U A O : List Un) (i : Nat) (hi : i < A.length) (hA : A.length ≤ 2000) (hO : O.length ≤ 1000) (h0 : 0 < O.length) (f : L4) (hf : lbB f = true) (a b : Int) (hx : A.getD i u0 = ⟨a, b, true, true, f⟩) (hab : decide (a = b) = false) (g : L4) (hi0 : 0 < i) (hp : A.getD (i - 1) u0 = ⟨a, a, false, false, g⟩) (hb : decide ((O.getD (O.length - 1) u0).b = a) = true) (hai : decide ((O.getD (O.length - 1) u0).a = (O.getD (O.length - 1) u0).b) = false) (hob : (O.getD (O.length - 1) u0).ob = false) (hLf : eqL (O.getD (O.length - 1) u0).f f = false) (hh : heldB O a = true) (Q : T49b ⊕ (Nat × Unit) × List Un → Prop) (hq : Q (.inl (((), U, O.length + 1, A, A, (A.length : Nat), ((i + 1 : Nat) : Int), ()), O ++ [⟨a, b, true, true, f⟩]))) :
  (step49b U O.length A A (A.length : Nat) (i : Nat) O).sat Q := by
 have hw1 : IntKind.i64.wrap ((i : Int) + 1) = ((i + 1 : Nat) : Int) := by rw [wrap_i64 (by omega)]; omega
 have c1 : decide ((0 : Int) ≤ (i : Int) ∧ (i : Int) < (A.length : Int)) = true := decide_eq_true (by omega)
 have c2 : decide ((i : Int) < (A.length : Int)) = true := decide_eq_true (by omega)
 have d1 : decide (O.length + 1 ≤ 9223372036854775807) = true := decide_eq_true (by omega)
 have d2 : decide ((O.length + 1) * 408 ≤ 140737488355328) = true := decide_eq_true (by omega)
 have d3 : decide (O.length ≤ 1000) = true := decide_eq_true hO
 have hl : O.length - 1 < O.length := by omega
 have hw : IntKind.i64.wrap ((O.length : Int) - 1) = ((O.length - 1 : Nat) : Int) := by rw [wrap_i64 (by omega)]; omega
 have e1 : decide (((O.length : Nat) : Int) > 0) = true := decide_eq_true (by omega)
 have e2 : decide ((0 : Int) ≤ ((O.length - 1 : Nat) : Int) ∧ ((O.length - 1 : Nat) : Int) < ((O.length : Nat) : Int)) = true := decide_eq_true (by omega)
 have e3 : decide (O.length - 1 < O.length) = true := decide_eq_true hl
 have hwp : IntKind.i64.wrap ((i : Int) - 1) = ((i - 1 : Nat) : Int) := by rw [wrap_i64 (by omega)]; omega
 have p1 : decide ((i : Int) > 0) = true := decide_eq_true (by omega)
 have p2 : decide ((0 : Int) ≤ ((i - 1 : Nat) : Int) ∧ ((i - 1 : Nat) : Int) < ((A.length : Nat) : Int)) = true := decide_eq_true (by omega)
 simp only [step49b, hw1, c1, c2, Int.toNat_natCast, hx, hwp, hp]
 simp only [↓un_fold, ↓iv_fold, ↓ln_fold, ↓tm_fold, un_eta, iv_eta, take_un1, take_un2, take_iv1, take_iv2, tmV_cells, tmOk_cells, unV_cells, unOk_cells, ivV_lit, ivOk_lit, lineV_cells, lineOk_cells, unsOf_el, unsOk_units, sat_true, rev_fold, take_univ, unV_iv, unOk_iv, unsOf_join, unsOk_join, Bool.and_true, eq_self, decide_true, Nat.le_refl, tm_test, ↓tm_rev, b_rev, ratV_lit, ratOk_lit, hw1, c1, c2, d1, d2, d3, Bool.and_true, Bool.true_and, Bool.and_false, Bool.false_and, cond_true, cond_false, Bool.not_true, Bool.not_false, hw, Int.toNat_natCast, e1, e2, e3, hb, hai, hab, hob, hLf, p1, p2, hh, hwp, hp]
 repeat first
  | refine sat_need rfl ?_
  | refine sat_ite (fun h => Bool.noConfusion h) (fun _ => ?_)
  | refine sat_ite (fun _ => ?_) (fun h => Bool.noConfusion h)
 refine sat_ret ?_
 exact hq
theorem s6e (U A O : List Un) (i : Nat) (hi : i < A.length) (hA : A.length ≤ 2000) (hO : O.length ≤ 1000) (h0 : O.length = 0) (f : L4) (hf : lbB f = true) (t : Int) (hx : A.getD i u0 = ⟨t, t, false, false, f⟩) (ht : tmB t = true) (hl1 : i + 1 = A.length) (h1 : decide (f.x1 = 0) = true) (h2 : decide (f.y1 = 0) = true)  (Q : T49b ⊕ (Nat × Unit) × List Un → Prop) (hq : Q (.inl (((), U, O.length + 1, A, A, (A.length : Nat), ((i + 1 : Nat) : Int), ()), O ++ [⟨t, t, false, false, f⟩]))) :
  (step49b U O.length A A (A.length : Nat) (i : Nat) O).sat Q := by
 have hw1 : IntKind.i64.wrap ((i : Int) + 1) = ((i + 1 : Nat) : Int) := by rw [wrap_i64 (by omega)]; omega
 have c1 : decide ((0 : Int) ≤ (i : Int) ∧ (i : Int) < (A.length : Int)) = true := decide_eq_true (by omega)
 have c2 : decide ((i : Int) < (A.length : Int)) = true := decide_eq_true (by omega)
 have d1 : decide (O.length + 1 ≤ 9223372036854775807) = true := decide_eq_true (by omega)
 have d2 : decide ((O.length + 1) * 408 ≤ 140737488355328) = true := decide_eq_true (by omega)
 have d3 : decide (O.length ≤ 1000) = true := decide_eq_true hO
 have e1 : decide (((O.length : Nat) : Int) > 0) = false := decide_eq_false (by omega)
 have n1 : decide (((i + 1 : Nat) : Int) < ((A.length : Nat) : Int)) = false := decide_eq_false (by omega)
 simp only [step49b, hw1, c1, c2, Int.toNat_natCast, hx]
 simp only [↓un_fold, ↓iv_fold, ↓ln_fold, ↓tm_fold, un_eta, iv_eta, take_un1, take_un2, take_iv1, take_iv2, tmV_cells, tmOk_cells, unV_cells, unOk_cells, ivV_lit, ivOk_lit, lineV_cells, lineOk_cells, unsOf_el, unsOk_units, sat_true, rev_fold, take_univ, unV_iv, unOk_iv, unsOf_join, unsOk_join, Bool.and_true, eq_self, decide_true, Nat.le_refl, tm_test, ↓tm_rev, b_rev, ratV_lit, ratOk_lit, hw1, c1, c2, d1, d2, d3, Bool.and_true, Bool.true_and, Bool.and_false, Bool.false_and, cond_true, cond_false, Bool.not_true, Bool.not_false, e1, n1, hf, ht, h1, h2]
 repeat first
  | refine sat_need rfl ?_
  | refine sat_ite (fun h => Bool.noConfusion h) (fun _ => ?_)
  | refine sat_ite (fun _ => ?_) (fun h => Bool.noConfusion h)
 refine sat_ret ?_
 exact hq
theorem s6f (U A O : List Un) (i : Nat) (hi : i < A.length) (hA : A.length ≤ 2000) (hO : O.length ≤ 1000) (h0 : 0 < O.length) (f : L4) (hf : lbB f = true) (t : Int) (hx : A.getD i u0 = ⟨t, t, false, false, f⟩) (ht : tmB t = true) (hl1 : i + 1 = A.length) (h1 : decide (f.x1 = 0) = true) (h2 : decide (f.y1 = 0) = true) (hb : decide ((O.getD (O.length - 1) u0).b = t) = false)  (Q : T49b ⊕ (Nat × Unit) × List Un → Prop) (hq : Q (.inl (((), U, O.length + 1, A, A, (A.length : Nat), ((i + 1 : Nat) : Int), ()), O ++ [⟨t, t, false, false, f⟩]))) :
  (step49b U O.length A A (A.length : Nat) (i : Nat) O).sat Q := by
 have hw1 : IntKind.i64.wrap ((i : Int) + 1) = ((i + 1 : Nat) : Int) := by rw [wrap_i64 (by omega)]; omega
 have c1 : decide ((0 : Int) ≤ (i : Int) ∧ (i : Int) < (A.length : Int)) = true := decide_eq_true (by omega)
 have c2 : decide ((i : Int) < (A.length : Int)) = true := decide_eq_true (by omega)
 have d1 : decide (O.length + 1 ≤ 9223372036854775807) = true := decide_eq_true (by omega)
 have d2 : decide ((O.length + 1) * 408 ≤ 140737488355328) = true := decide_eq_true (by omega)
 have d3 : decide (O.length ≤ 1000) = true := decide_eq_true hO
 have hl : O.length - 1 < O.length := by omega
 have hw : IntKind.i64.wrap ((O.length : Int) - 1) = ((O.length - 1 : Nat) : Int) := by rw [wrap_i64 (by omega)]; omega
 have e1 : decide (((O.length : Nat) : Int) > 0) = true := decide_eq_true (by omega)
 have e2 : decide ((0 : Int) ≤ ((O.length - 1 : Nat) : Int) ∧ ((O.length - 1 : Nat) : Int) < ((O.length : Nat) : Int)) = true := decide_eq_true (by omega)
 have e3 : decide (O.length - 1 < O.length) = true := decide_eq_true hl
 have n1 : decide (((i + 1 : Nat) : Int) < ((A.length : Nat) : Int)) = false := decide_eq_false (by omega)
 simp only [step49b, hw1, c1, c2, Int.toNat_natCast, hx]
 simp only [↓un_fold, ↓iv_fold, ↓ln_fold, ↓tm_fold, un_eta, iv_eta, take_un1, take_un2, take_iv1, take_iv2, tmV_cells, tmOk_cells, unV_cells, unOk_cells, ivV_lit, ivOk_lit, lineV_cells, lineOk_cells, unsOf_el, unsOk_units, sat_true, rev_fold, take_univ, unV_iv, unOk_iv, unsOf_join, unsOk_join, Bool.and_true, eq_self, decide_true, Nat.le_refl, tm_test, ↓tm_rev, b_rev, ratV_lit, ratOk_lit, hw1, c1, c2, d1, d2, d3, Bool.and_true, Bool.true_and, Bool.and_false, Bool.false_and, cond_true, cond_false, Bool.not_true, Bool.not_false, hw, Int.toNat_natCast, e1, e2, e3, hb, n1, hf, ht, h1, h2]
 repeat first
  | refine sat_need rfl ?_
  | refine sat_ite (fun h => Bool.noConfusion h) (fun _ => ?_)
  | refine sat_ite (fun _ => ?_) (fun h => Bool.noConfusion h)
 refine sat_ret ?_
 exact hq
theorem s0 (U A O : List Un) (Q : T49b ⊕ (Nat × Unit) × List Un → Prop) (hq : Q (.inr ((O.length, ()), O))) : (step49b U O.length A A (A.length : Nat) (A.length : Nat) O).sat Q := by
 have c2 : decide (((A.length : Nat) : Int) < (A.length : Int)) = false := decide_eq_false (by omega)
 simp only [step49b, c2, unsOk_units, unsOf_el]
 repeat first
  | refine sat_need rfl ?_
  | refine sat_ite (fun h => Bool.noConfusion h) (fun _ => ?_)
  | refine sat_ite (fun _ => ?_) (fun h => Bool.noConfusion h)
 exact sat_ret hq
end Go.Vse
set_option maxRecDepth 100000
namespace Go.Vse
open Go.Proofs
theorem last_getD (O : List Un) (p : Un) : (O ++ [p]).getD ((O ++ [p]).length - 1) u0 = p := by
 simp [List.getD_eq_getElem?_getD]
theorem last_set (O : List Un) (p q : Un) : (O ++ [p]).set ((O ++ [p]).length - 1) q = O ++ [q] := by
 rw [List.length_append, List.length_singleton, Nat.add_sub_cancel, List.set_append_right _ _ (Nat.le_refl _), Nat.sub_self]
 rfl
theorem mid_getD (P R : List Un) (x : Un) : (P ++ x :: R).getD P.length u0 = x := by
 simp [List.getD_eq_getElem?_getD]
theorem mid_getD1 (P R : List Un) (x y : Un) : (P ++ x :: y :: R).getD (P.length + 1) u0 = y := by
 simp [List.getD_eq_getElem?_getD, List.getElem?_append_right]
theorem prev_getD (P R : List Un) (x : Un) : ((P ++ [x]) ++ R).getD ((P ++ [x]).length - 1) u0 = x := by
 simp [List.getD_eq_getElem?_getD]
theorem held_last (O : List Un) (p : Un) (t : Int) : heldB (O ++ [p]) t = (decide (p.b = t) && !p.ob) := by
 unfold heldB
 rw [last_getD, decide_eq_true (show 0 < (O ++ [p]).length by simp), Bool.true_and]
theorem one_lb {u : Un} (h : oneU u = true) : lbB u.f = true ∧ tmB u.a = true ∧ tmB u.b = true := by
 have hb := oneU_all h
 simp only [oneU, Bool.and_eq_true] at h
 obtain ⟨h1, h2, h3, h4, h5, h6, h7, h8⟩ := h
 refine ⟨?_, ?_, ?_⟩
 ·simp only [lbB, h4, h5, h6, h7, Bool.and_self]
 ·simp only [tmB, Bool.and_eq_true, decide_eq_true_eq]; omega
 ·simp only [tmB, Bool.and_eq_true, decide_eq_true_eq]; omega
theorem eqL_refl (f : L4) : eqL f f = true := eqL_iff.2 rfl
abbrev stp : T49b → Tr (T49b ⊕ (Nat × Unit) × List Un) := fun x => step49b x.1.2.1 x.1.2.2.1 x.1.2.2.2.1 x.1.2.2.2.2.1 x.1.2.2.2.2.2.1 x.1.2.2.2.2.2.2.1 x.2
abbrev stt (U A O : List Un) (i : Nat) : T49b := (((), U, O.length, A, A, (A.length : Nat), (i : Nat), ()), O)
theorem st_app (U A O : List Un) (i : Nat) (x : Un) : ((((), U, O.length + 1, A, A, (A.length : Nat), (i : Nat), ()), O ++ [x]) : T49b) = stt U A (O ++ [x]) i := by
 show _ = ((((), U, (O ++ [x]).length, A, A, (A.length : Nat), (i : Nat), ()), O ++ [x]) : T49b)
 rw [List.length_append, List.length_singleton]
theorem st_set (U A O : List Un) (i : Nat) (p q : Un) : ((((), U, (O ++ [p]).length, A, A, (A.length : Nat), (i : Nat), ()), (O ++ [p]).set ((O ++ [p]).length - 1) q) : T49b) = stt U A (O ++ [q]) i := by
 show _ = ((((), U, (O ++ [q]).length, A, A, (A.length : Nat), (i : Nat), ()), O ++ [q]) : T49b)
 rw [last_set]
 simp only [List.length_append, List.length_singleton]
theorem un_eq3 (v : Un) (h : v.ob = false) : (⟨v.a, v.b, v.oa, false, v.f⟩ : Un) = v := by
 obtain ⟨a, b, c, d, e⟩ := v
 simp only at h
 subst h
 rfl
theorem un_eqb (p : Un) (t : Int) (h : p.ob = false) : ({ p with b := t, ob := false } : Un) = { p with b := t } := by
 obtain ⟨a, b, c, d, e⟩ := p
 simp only at h
 subst h
 rfl
theorem close (U A P R O : List Un) (q : Un) (f : L4) (hA : A.length ≤ 2000) (hO : O.length + 1 ≤ 1000) (he : A = P ++ ⟨q.b, q.b, false, false, f⟩ :: R) (hf : lbB f = true) (ht : tmB q.b = true) (hab : q.a < q.b) (hqf : q.f = f)
  (Q : T49b ⊕ (Nat × Unit) × List Un → Prop) (hq : Q (.inl (stt U A (O ++ [{ q with ob := false }]) (P.length + 1)))) : (stp (stt U A (O ++ [q]) P.length)).sat Q := by
 have hi : P.length < A.length := by rw [he]; simp
 refine s3 U A (O ++ [q]) P.length hi hA (by simp; omega) (by simp) f hf q.b (by rw [he, mid_getD]) ht ?_ ?_ ?_ ?_ Q ?_
 ·rw [last_getD]; exact decide_eq_true rfl
 ·rw [last_getD]; exact decide_eq_false (by omega)
 ·rw [last_getD, hqf]; exact eqL_refl f
 ·rw [last_getD, hqf]; exact hf
 ·rw [last_getD, st_set]
  exact hq
theorem atoms_touch {v : Un} (h : oneU v = true) (ho : v.oa = true) : atomsOf v = [⟨v.a, v.b, true, true, v.f⟩, ⟨v.b, v.b, false, false, v.f⟩] := by
 have h1 := oneU_long h ho
 have h2 := (oneU_all h).2.2.2
 have h3 : decide (v.a = v.b) = false := decide_eq_false (by omega)
 unfold atomsOf
 rw [ho, h2, h3]
 rfl
theorem atoms_long {v : Un} (h : oneU v = true) (ho : v.oa = false) (hl : v.a < v.b) : atomsOf v = [⟨v.a, v.a, false, false, v.f⟩, ⟨v.a, v.b, true, true, v.f⟩, ⟨v.b, v.b, false, false, v.f⟩] := by
 have h2 := (oneU_all h).2.2.2
 have h3 : decide (v.a = v.b) = false := decide_eq_false (by omega)
 unfold atomsOf
 rw [ho, h2, h3]
 rfl
theorem atoms_lone {v : Un} (h : oneU v = true) (hl : ¬ v.a < v.b) : atomsOf v = [⟨v.a, v.a, false, false, v.f⟩] := by
 obtain ⟨h1, h2, _, _⟩ := oneU_inst h hl
 unfold atomsOf
 rw [h2, decide_eq_true h1]
 rfl
theorem app_assoc1 (P R : List Un) (x : Un) : P ++ x :: R = (P ++ [x]) ++ R := by simp
theorem runsG (U A : List Un) (hA : A.length ≤ 2000) (Q : (Nat × Unit) × List Un → Prop) : ∀ (rest P O : List Un) (p g : Un), A = P ++ [g] ++ atomsU rest → rawU (p :: rest) = true → (p.a < p.b → ∃ f, g = ⟨p.b, p.b, false, false, f⟩) →
   O.length + 1 + rest.length ≤ 1000 → Q (((O ++ joinU p rest).length, ()), O ++ joinU p rest) → RunsX stp Q ((atomsU rest).length + 1) (stt U A (O ++ [p]) (P ++ [g]).length)
 | [], P, O, p, g, he, hr, hg, hO, hq => by
   have hl : (P ++ [g]).length = A.length := by rw [he]; simp [atomsU]
   show (stp (stt U A (O ++ [p]) (P ++ [g]).length)).sat _
   rw [hl]
   exact s0 U A (O ++ [p]) _ hq
 | v :: l, P, O, p, g, he, hr, hg, hO, hq => by
   have hp := rawU_head hr
   have hlk := rawU_link hr
   have ht := rawU_tail hr
   have hv := rawU_head ht
   obtain ⟨vf, va, vb⟩ := one_lb hv
   obtain ⟨pf, pa, pb⟩ := one_lb hp
   have hpl := linkU_long hlk
   have pob := (oneU_all hp).2.2.2
   have vob := (oneU_all hv).2.2.2
   simp only [List.length_cons] at hO
   have hOl : (O ++ [p]).length ≤ 1000 := by simp only [List.length_append, List.length_singleton]; omega
   have hO1 : 0 < (O ++ [p]).length := by simp
   have hat : atomsU (v :: l) = atomsOf v ++ atomsU l := by simp [atomsU]
   rw [hat] at he ⊢
   cases ho : v.oa with
   | true =>
     have hvl := oneU_long hv ho
     obtain ⟨htb, _⟩ := linkU_touch hlk ho
     rw [atoms_touch hv ho] at he ⊢
     have he2 : A = (P ++ [g]) ++ ⟨v.a, v.b, true, true, v.f⟩ :: ⟨v.b, v.b, false, false, v.f⟩ :: atomsU l := he
     have hi : (P ++ [g]).length < A.length := by rw [he2]; simp
     have hx : A.getD (P ++ [g]).length u0 = ⟨v.a, v.b, true, true, v.f⟩ := by rw [he2, mid_getD]
     have he3 : A = ((P ++ [g]) ++ [⟨v.a, v.b, true, true, v.f⟩]) ++ ⟨v.b, v.b, false, false, v.f⟩ :: atomsU l := by rw [he2, app_assoc1]
     have he4 : A = (((P ++ [g]) ++ [⟨v.a, v.b, true, true, v.f⟩]) ++ [⟨v.b, v.b, false, false, v.f⟩]) ++ atomsU l := by rw [he3, app_assoc1]
     have hlen : ((P ++ [g]) ++ [(⟨v.a, v.b, true, true, v.f⟩ : Un)]).length = (P ++ [g]).length + 1 := by simp
     have hlen2 : (((P ++ [g]) ++ [(⟨v.a, v.b, true, true, v.f⟩ : Un)]) ++ [(⟨v.b, v.b, false, false, v.f⟩ : Un)]).length = (P ++ [g]).length + 1 + 1 := by simp
     have hb : decide (((O ++ [p]).getD ((O ++ [p]).length - 1) u0).b = v.a) = true := by rw [last_getD]; exact decide_eq_true htb
     have hai : decide (((O ++ [p]).getD ((O ++ [p]).length - 1) u0).a = ((O ++ [p]).getD ((O ++ [p]).length - 1) u0).b) = false := by rw [last_getD]; exact decide_eq_false (by omega)
     have hob : ((O ++ [p]).getD ((O ++ [p]).length - 1) u0).ob = false := by rw [last_getD]; exact pob
     cases hE : eqL p.f v.f with
     | true =>
       have hj : joinB p v = true := by unfold joinB; rw [ho, hE]; rfl
       have hfe : p.f = v.f := eqL_iff.1 hE
       rw [joinU, hj] at hq
       simp only [cond_true] at hq
       refine s4 U A (O ++ [p]) (P ++ [g]).length hi hA hOl hO1 v.f vf v.a v.b hx (decide_eq_false (by omega)) hb hai hob (by rw [last_getD]; exact hE) _ ?_
       rw [last_getD, st_set]
       have key := close U A ((P ++ [g]) ++ [⟨v.a, v.b, true, true, v.f⟩]) (atomsU l) O { p with b := v.b, ob := true } v.f hA (by omega) he3 vf vb (by show p.a < v.b; omega) hfe
         (fun | .inl x' => RunsX stp Q ((atomsU l).length + 1) x' | .inr r => Q r)
       rw [hlen] at key
       refine key ?_
       show RunsX stp Q ((atomsU l).length + 1) (stt U A (O ++ [{ p with b := v.b, ob := false }]) ((P ++ [g]).length + 1 + 1))
       rw [un_eqb p v.b pob]
       have ih := runsG U A hA Q l ((P ++ [g]) ++ [⟨v.a, v.b, true, true, v.f⟩]) O { p with b := v.b } ⟨v.b, v.b, false, false, v.f⟩ he4 (raw_grow hr ho) (fun _ => ⟨v.f, rfl⟩) (by omega) hq
       rw [hlen2] at ih
       exact ih
     | false =>
       have hj : joinB p v = false := by unfold joinB; rw [ho, hE]; rfl
       rw [joinU, hj] at hq
       simp only [cond_false] at hq
       obtain ⟨gf, hgf⟩ := hg hpl
       refine s5 U A (O ++ [p]) (P ++ [g]).length hi hA hOl hO1 v.f vf v.a v.b hx (decide_eq_false (by omega)) gf (by simp) (by rw [he2, prev_getD, hgf, htb]) hb hai hob (by rw [last_getD]; exact hE) (by rw [held_last, pob, decide_eq_true htb]; rfl) _ ?_
       rw [st_app]
       have key := close U A ((P ++ [g]) ++ [⟨v.a, v.b, true, true, v.f⟩]) (atomsU l) (O ++ [p]) ⟨v.a, v.b, true, true, v.f⟩ v.f hA (by simp; omega) he3 vf vb hvl rfl
         (fun | .inl x' => RunsX stp Q ((atomsU l).length + 1) x' | .inr r => Q r)
       rw [hlen] at key
       refine key ?_
       show RunsX stp Q ((atomsU l).length + 1) (stt U A (O ++ [p] ++ [⟨v.a, v.b, true, false, v.f⟩]) ((P ++ [g]).length + 1 + 1))
       have hve : (⟨v.a, v.b, true, false, v.f⟩ : Un) = v := by rw [← ho]; exact un_eq3 v vob
       rw [hve]
       have ih := runsG U A hA Q l ((P ++ [g]) ++ [⟨v.a, v.b, true, true, v.f⟩]) (O ++ [p]) v ⟨v.b, v.b, false, false, v.f⟩ he4 ht (fun _ => ⟨v.f, rfl⟩) (by simp; omega) (by simpa using hq)
       rw [hlen2] at ih
       exact ih
   | false =>
     have hgap := linkU_gap hlk ho
     have hj : joinB p v = false := by unfold joinB; rw [ho]; rfl
     rw [joinU, hj] at hq
     simp only [cond_false] at hq
     have hb : decide (((O ++ [p]).getD ((O ++ [p]).length - 1) u0).b = v.a) = false := by rw [last_getD]; exact decide_eq_false (by omega)
     have hve : (⟨v.a, v.b, false, false, v.f⟩ : Un) = v := by
       have := un_eq3 v vob
       rw [ho] at this
       exact this
     by_cases hvl : v.a < v.b
     · rw [atoms_long hv ho hvl] at he ⊢
       have he2 : A = (P ++ [g]) ++ ⟨v.a, v.a, false, false, v.f⟩ :: ⟨v.a, v.b, true, true, v.f⟩ :: ⟨v.b, v.b, false, false, v.f⟩ :: atomsU l := he
       have he3 : A = ((P ++ [g]) ++ [⟨v.a, v.a, false, false, v.f⟩]) ++ ⟨v.a, v.b, true, true, v.f⟩ :: ⟨v.b, v.b, false, false, v.f⟩ :: atomsU l := by rw [he2, app_assoc1]
       have he4 : A = (((P ++ [g]) ++ [⟨v.a, v.a, false, false, v.f⟩]) ++ [⟨v.a, v.b, true, true, v.f⟩]) ++ ⟨v.b, v.b, false, false, v.f⟩ :: atomsU l := by rw [he3, app_assoc1]
       have he5 : A = ((((P ++ [g]) ++ [⟨v.a, v.a, false, false, v.f⟩]) ++ [⟨v.a, v.b, true, true, v.f⟩]) ++ [⟨v.b, v.b, false, false, v.f⟩]) ++ atomsU l := by rw [he4, app_assoc1]
       have hl1 : ((P ++ [g]) ++ [(⟨v.a, v.a, false, false, v.f⟩ : Un)]).length = (P ++ [g]).length + 1 := by simp
       have hl2 : (((P ++ [g]) ++ [(⟨v.a, v.a, false, false, v.f⟩ : Un)]) ++ [(⟨v.a, v.b, true, true, v.f⟩ : Un)]).length = (P ++ [g]).length + 1 + 1 := by simp
       have hl3 : ((((P ++ [g]) ++ [(⟨v.a, v.a, false, false, v.f⟩ : Un)]) ++ [(⟨v.a, v.b, true, true, v.f⟩ : Un)]) ++ [(⟨v.b, v.b, false, false, v.f⟩ : Un)]).length = (P ++ [g]).length + 1 + 1 + 1 := by simp
       have hx : A.getD (P ++ [g]).length u0 = ⟨v.a, v.a, false, false, v.f⟩ := by rw [he2, mid_getD]
       have hn : A.getD ((P ++ [g]).length + 1) u0 = ⟨v.a, v.b, true, true, v.f⟩ := by rw [he2, mid_getD1]
       have hi1 : (P ++ [g]).length + 1 < A.length := by rw [he2]; simp only [List.length_append, List.length_cons]; omega
       refine s1f U A (O ++ [p]) (P ++ [g]).length (by omega) hA hOl hO1 v.f vf v.a hx va v.b hi1 hn (eqL_refl _) hb _ ?_
       have k2 := s2f U A (O ++ [p]) ((P ++ [g]).length + 1) hi1 hA hOl hO1 v.f vf v.a v.b hn (decide_eq_false (by omega)) v.f (by omega) (by rw [Nat.add_sub_cancel]; exact hx) hb (by rw [held_last, decide_eq_false (show ¬ p.b = v.a by omega)]; rfl)
         (fun | .inl x' => RunsX stp Q ((atomsU l).length + 1 + 1) x' | .inr r => Q r)
       refine k2 ?_
       rw [st_app]
       have key := close U A (((P ++ [g]) ++ [⟨v.a, v.a, false, false, v.f⟩]) ++ [⟨v.a, v.b, true, true, v.f⟩]) (atomsU l) (O ++ [p]) ⟨v.a, v.b, false, true, v.f⟩ v.f hA (by simp; omega) he4 vf vb hvl rfl
         (fun | .inl x' => RunsX stp Q ((atomsU l).length + 1) x' | .inr r => Q r)
       rw [hl2] at key
       refine key ?_
       show RunsX stp Q ((atomsU l).length + 1) (stt U A (O ++ [p] ++ [⟨v.a, v.b, false, false, v.f⟩]) ((P ++ [g]).length + 1 + 1 + 1))
       rw [hve]
       have ih := runsG U A hA Q l (((P ++ [g]) ++ [⟨v.a, v.a, false, false, v.f⟩]) ++ [⟨v.a, v.b, true, true, v.f⟩]) (O ++ [p]) v ⟨v.b, v.b, false, false, v.f⟩ he5 ht (fun _ => ⟨v.f, rfl⟩) (by simp; omega) (by simpa using hq)
       rw [hl3] at ih
       exact ih
     · have hl0 : l = [] := by
         cases l with
         | nil => rfl
         | cons w l => exact absurd (linkU_long (rawU_link ht)) hvl
       subst hl0
       obtain ⟨i1, i2, i3, i4⟩ := oneU_inst hv hvl
       rw [atoms_lone hv hvl] at he ⊢
       have he2 : A = (P ++ [g]) ++ ⟨v.a, v.a, false, false, v.f⟩ :: [] := by simpa [atomsU] using he
       have hx : A.getD (P ++ [g]).length u0 = ⟨v.a, v.a, false, false, v.f⟩ := by rw [he2, mid_getD]
       have hla : (P ++ [g]).length + 1 = A.length := by rw [he2]; simp
       refine s6f U A (O ++ [p]) (P ++ [g]).length (by omega) hA hOl hO1 v.f vf v.a hx va hla (decide_eq_true i3) (decide_eq_true i4) hb _ ?_
       rw [st_app]
       have hv2 : (⟨v.a, v.a, false, false, v.f⟩ : Un) = v := by
         have : (⟨v.a, v.a, false, false, v.f⟩ : Un) = ⟨v.a, v.b, false, false, v.f⟩ := by rw [← i1]
         rw [this]; exact hve
       rw [hv2, hla]
       show (stp (stt U A (O ++ [p] ++ [v]) A.length)).sat _
       refine s0 U A (O ++ [p] ++ [v]) _ ?_
       have hjn : joinU v [] = [v] := rfl
       rw [hjn] at hq
       have ha : O ++ [p] ++ [v] = O ++ (p :: [v]) := by simp
       rw [ha]
       exact hq
end Go.Vse
set_option maxRecDepth 100000
namespace Go.Vse
open Go.Proofs
theorem runs49b (U : List Un) (h : rawOk U = true) (hl : U.length ≤ 300) : ∃ n, RunsX stp (· = (((mergeU U).length, ()), mergeU U)) n (stt U (atomsU U) [] 0) := by
 cases U with
 | nil => exact ⟨1, s0 [] [] [] _ rfl⟩
 | cons v l =>
   unfold rawOk at h
   simp only [Bool.and_eq_true, Bool.not_eq_true'] at h
   obtain ⟨ht, ho⟩ := h
   have hv := rawU_head ht
   obtain ⟨vf, va, vb⟩ := one_lb hv
   have vob := (oneU_all hv).2.2.2
   have hat : atomsU (v :: l) = atomsOf v ++ atomsU l := by simp [atomsU]
   have hla : (atomsU (v :: l)).length ≤ 2000 := by
     have : ∀ X : List Un, (atomsU X).length ≤ 3 * X.length := by
       intro X
       induction X with
       | nil => simp [atomsU]
       | cons x X ih =>
         have := atomsOf_len x
         have e : atomsU (x :: X) = atomsOf x ++ atomsU X := by simp [atomsU]
         rw [e, List.length_append, List.length_cons]
         omega
     have := this (v :: l)
     omega
   simp only [List.length_cons] at hl
   generalize hA : atomsU (v :: l) = A at *
   have hve : (⟨v.a, v.b, false, false, v.f⟩ : Un) = v := by
     have := un_eq3 v vob
     rw [ho] at this
     exact this
   show ∃ n, RunsX stp (· = (((joinU v l).length, ()), joinU v l)) n _
   by_cases hvl : v.a < v.b
   · rw [atoms_long hv ho hvl] at hat
     have he2 : A = [] ++ ⟨v.a, v.a, false, false, v.f⟩ :: ⟨v.a, v.b, true, true, v.f⟩ :: ⟨v.b, v.b, false, false, v.f⟩ :: atomsU l := hat
     have he4 : A = [⟨v.a, v.a, false, false, v.f⟩, ⟨v.a, v.b, true, true, v.f⟩] ++ ⟨v.b, v.b, false, false, v.f⟩ :: atomsU l := he2
     have he5 : A = [⟨v.a, v.a, false, false, v.f⟩, ⟨v.a, v.b, true, true, v.f⟩] ++ [⟨v.b, v.b, false, false, v.f⟩] ++ atomsU l := he2
     have hx : A.getD 0 u0 = ⟨v.a, v.a, false, false, v.f⟩ := by rw [he2]; rfl
     have hn : A.getD (0 + 1) u0 = ⟨v.a, v.b, true, true, v.f⟩ := by rw [he2]; rfl
     have hi1 : 0 + 1 < A.length := by rw [he2]; simp
     refine ⟨(atomsU l).length + 1 + 1 + 1 + 1, ?_⟩
     refine s1e (v :: l) A [] 0 (by omega) hla (by simp) rfl v.f vf v.a hx va v.b hi1 hn (eqL_refl _) _ ?_
     refine s2e (v :: l) A [] 1 hi1 hla (by simp) rfl v.f vf v.a v.b hn (decide_eq_false (by omega)) v.f (by omega) hx rfl
       (fun | .inl x' => RunsX stp _ ((atomsU l).length + 1 + 1) x' | .inr r => r = (((joinU v l).length, ()), joinU v l)) ?_
     refine close (v :: l) A [⟨v.a, v.a, false, false, v.f⟩, ⟨v.a, v.b, true, true, v.f⟩] (atomsU l) [] ⟨v.a, v.b, false, true, v.f⟩ v.f hla (by simp) he4 vf vb hvl rfl
       (fun | .inl x' => RunsX stp _ ((atomsU l).length + 1) x' | .inr r => r = (((joinU v l).length, ()), joinU v l)) ?_
     show RunsX stp _ ((atomsU l).length + 1) (stt (v :: l) A ([] ++ [⟨v.a, v.b, false, false, v.f⟩]) 3)
     rw [hve]
     exact runsG (v :: l) A hla _ l [⟨v.a, v.a, false, false, v.f⟩, ⟨v.a, v.b, true, true, v.f⟩] [] v ⟨v.b, v.b, false, false, v.f⟩ he5 ht (fun _ => ⟨v.f, rfl⟩) (by simp; omega) rfl
   · have hl0 : l = [] := by
       cases l with
       | nil => rfl
       | cons w l => exact absurd (linkU_long (rawU_link ht)) hvl
     subst hl0
     obtain ⟨i1, i2, i3, i4⟩ := oneU_inst hv hvl
     rw [atoms_lone hv hvl] at hat
     have he2 : A = [⟨v.a, v.a, false, false, v.f⟩] := hat
     have hx : A.getD 0 u0 = ⟨v.a, v.a, false, false, v.f⟩ := by rw [he2]; rfl
     have hla1 : 0 + 1 = A.length := by rw [he2]; rfl
     refine ⟨2, ?_⟩
     refine s6e [v] A [] 0 (by omega) hla (by simp) rfl v.f vf v.a hx va hla1 (decide_eq_true i3) (decide_eq_true i4) _ ?_
     have hv2 : (⟨v.a, v.a, false, false, v.f⟩ : Un) = v := by
       have : (⟨v.a, v.a, false, false, v.f⟩ : Un) = ⟨v.a, v.b, false, false, v.f⟩ := by rw [← i1]
       rw [this]; exact hve
     show RunsX stp _ 1 (((), [v], ([] : List Un).length + 1, A, A, (A.length : Nat), ((0 + 1 : Nat) : Int), ()), [] ++ [⟨v.a, v.a, false, false, v.f⟩])
     rw [hv2, st_app, hla1]
     exact s0 [v] A [v] _ rfl
theorem step49a_in (U : List Un) (i : Nat) (h1 : apB U = true) (h2 : allSm U = true) (hl : i < U.length) (hn : U.length ≤ 1000) (Q : T49a ⊕ Unit × List Un × Unit → Prop) (hq : Q (.inl ((), U, (U.length : Nat), ((i + 1 : Nat) : Int), ()))) : (step49a U (U.length : Nat) (i : Nat)).sat Q := by
 have hw1 : IntKind.i64.wrap ((i : Int) + 1) = ((i + 1 : Nat) : Int) := by rw [wrap_i64 (by omega)]; omega
 have c1 : decide ((0 : Int) ≤ (i : Int) ∧ (i : Int) < (U.length : Int)) = true := decide_eq_true (by omega)
 have c2 : decide ((i : Int) < (U.length : Int)) = true := decide_eq_true (by omega)
 have s1 := range_all h2 hl
 rw [Bool.and_eq_true] at s1
 by_cases hi : 0 < i
 ·have hw : IntKind.i64.wrap ((i : Int) - 1) = ((i - 1 : Nat) : Int) := by rw [wrap_i64 (by omega)]; omega
  have e1 : decide ((i : Int) > 0) = true := decide_eq_true (by omega)
  have c3 : decide ((0 : Int) ≤ ((i - 1 : Nat) : Int) ∧ ((i - 1 : Nat) : Int) < (U.length : Int)) = true := decide_eq_true (by omega)
  have s2 := range_all h2 (show i - 1 < U.length by omega)
  rw [Bool.and_eq_true] at s2
  have s3 := range_all h1 (show i - 1 < U.length - 1 by omega)
  simp only [show i - 1 + 1 = i by omega, Un.iv] at s3
  simp only [step49a, ↓un_fold, ↓iv_fold, ↓ln_fold, ↓tm_fold, un_eta, iv_eta, take_un1, take_un2, take_iv1, take_iv2, tmV_cells, tmOk_cells, unV_cells, unOk_cells, ivV_lit, ivOk_lit, lineV_cells, lineOk_cells, unsOf_el, unsOk_units, sat_true, hw, hw1, c1, c2, c3, e1, Int.toNat_natCast, s1.1, s1.2, s2.1, s2.2, s3, Bool.and_self, cond_true, Bool.not_true]
  repeat first
   | refine sat_need rfl ?_
   | refine sat_ite (fun h => Bool.noConfusion h) (fun _ => ?_)
   | refine sat_ite (fun _ => ?_) (fun h => Bool.noConfusion h)
  exact sat_ret hq
 ·have e1 : decide ((i : Int) > 0) = false := decide_eq_false (by omega)
  simp only [step49a, ↓un_fold, ↓iv_fold, ↓ln_fold, ↓tm_fold, un_eta, iv_eta, take_un1, take_un2, take_iv1, take_iv2, tmV_cells, tmOk_cells, unV_cells, unOk_cells, ivV_lit, ivOk_lit, lineV_cells, lineOk_cells, unsOf_el, unsOk_units, sat_true, hw1, c1, c2, e1, cond_false]
  repeat first
   | refine sat_need rfl ?_
   | refine sat_ite (fun h => Bool.noConfusion h) (fun _ => ?_)
   | refine sat_ite (fun _ => ?_) (fun h => Bool.noConfusion h)
  exact sat_ret hq
theorem runs49a (U : List Un) (h1 : apB U = true) (h2 : allSm U = true) (hn : U.length ≤ 1000) (Q : Unit × List Un × Unit → Prop) (hq : Q ((), U, ())) : ∀ (k i : Nat), i + k = U.length → RunsX (fun x : T49a => step49a x.2.1 x.2.2.1 x.2.2.2.1) Q (k + 1) ((), U, (U.length : Nat), (i : Nat), ())
 | 0, i, he => by
  obtain rfl : i = U.length := by omega
  show (step49a U (U.length : Nat) (U.length : Nat)).sat _
  have c2 : decide (((U.length : Nat) : Int) < (U.length : Int)) = false := decide_eq_false (by omega)
  simp only [step49a, ↓un_fold, ↓iv_fold, ↓ln_fold, ↓tm_fold, un_eta, iv_eta, take_un1, take_un2, take_iv1, take_iv2, tmV_cells, tmOk_cells, unV_cells, unOk_cells, ivV_lit, ivOk_lit, lineV_cells, lineOk_cells, unsOf_el, unsOk_units, sat_true, c2]
  repeat first
   | refine sat_need rfl ?_
   | refine sat_ite (fun h => Bool.noConfusion h) (fun _ => ?_)
   | refine sat_ite (fun _ => ?_) (fun h => Bool.noConfusion h)
  exact sat_ret hq
 | k + 1, i, he => step49a_in U i h1 h2 (by omega) hn _ (runs49a U h1 h2 hn Q hq k (i + 1) (by omega))
theorem f49_loops : BlocksOk Tryz.prog 0 L49 (codeOf Tryz.f49) := by
 refine blocksOk_of (d := fun id => Nat.beq id 0 || Nat.beq id 2) (fun id => by unfold L49; cases Nat.beq id 0 <;> cases Nat.beq id 2 <;> rfl) _ ?_
 have hb : blocksOf (fun id => Nat.beq id 0 || Nat.beq id 2) (codeOf Tryz.f49) = [(0, .loop (loopOf 0 (codeOf Tryz.f49))), (2, .loop (loopOf 2 (codeOf Tryz.f49)))] := by kernel_rfl
 rw [hb]
 intro p hp g hg
 simp only [List.mem_cons, List.not_mem_nil, or_false] at hp
 rcases hp with rfl | rfl
 · have hh : L49 0 = some (lp49a.g 0) := rfl
   rw [hh] at hg
   obtain rfl : g = lp49a.g 0 := (Option.some.inj hg).symm
   refine LoopSt.ok2 (N := 1010) prog_mixed Γn_ok (L := noL) (blocksOk_none 0 _) lp49a_good (fun x => step49a_eq x) ?_
   rintro ⟨⟨⟩, U, n, i, ⟨⟩⟩ hx
   have hx : pre49a ((), U, n, i, ()) = true := hx
   simp only [pre49a, Bool.and_eq_true, decide_eq_true_eq] at hx
   have h1 : n = (U.length : Nat) := hx.2.2.1
   have h2 : 0 ≤ i := hx.2.2.2.1
   have h3 : i ≤ (U.length : Nat) := hx.2.2.2.2.1
   have h4 : U.length ≤ 1000 := hx.2.2.2.2.2
   have h5 : apB U = true := hx.1
   have h6 : allSm U = true := hx.2.1
   clear hx
   subst h1
   obtain ⟨i, rfl⟩ : ∃ m : Nat, i = m := ⟨i.toNat, by omega⟩
   exact ⟨_, runs49a U h5 h6 h4 (· = ((), U, ())) rfl (U.length - i) i (by omega)⟩
 · have hh : L49 2 = some (lp49b.g 0) := rfl
   rw [hh] at hg
   obtain rfl : g = lp49b.g 0 := (Option.some.inj hg).symm
   refine LoopSt.ok2 (N := 1010) prog_mixed Γn_ok (L := noL) (blocksOk_none 0 _) lp49b_good (fun x => step49b_eq x) ?_
   rintro ⟨⟨⟨⟩, U, m, A, B, n, i, ⟨⟩⟩, O⟩ hx
   have hx : pre49b (((), U, m, A, B, n, i, ()), O) = true := hx
   simp only [pre49b, Bool.and_eq_true, decide_eq_true_eq, eqUs_iff] at hx
   have h1 : rawOk U = true := hx.1
   have h2 : m = 0 := hx.2.1
   have h3 : O.length = 0 := hx.2.2.1
   have h4 : A = atomsU U := hx.2.2.2.1
   have h5 : B = atomsU U := hx.2.2.2.2.1
   have h6 : n = ((atomsU U).length : Nat) := hx.2.2.2.2.2.1
   have h7 : i = 0 := hx.2.2.2.2.2.2.1
   have h8 : U.length ≤ 300 := hx.2.2.2.2.2.2.2
   clear hx
   have h9 : O = [] := List.eq_nil_of_length_eq_zero h3
   subst h2 h4 h5 h6 h7 h9
   exact runs49b U h1 h8
theorem raw_get : ∀ {U : List Un}, rawU U = true → (∀ k, k < U.length → oneU (U.getD k u0) = true) ∧ ∀ k, k + 1 < U.length → linkU (U.getD k u0) (U.getD (k + 1) u0) = true
 | [], _ => ⟨fun k hk => by simp at hk, fun k hk => by simp at hk⟩
 | u :: l, h => by
   obtain ⟨i1, i2⟩ := raw_get (rawU_tail h)
   refine ⟨fun k hk => ?_, fun k hk => ?_⟩
   · cases k with
     | zero => exact rawU_head h
     | succ k => exact i1 k (by simpa using hk)
   · cases k with
     | zero =>
       cases l with
       | nil => simp at hk
       | cons v l => exact rawU_link h
     | succ k => exact i2 k (by simpa using hk)
theorem rawOk_raw {U : List Un} (h : rawOk U = true) : rawU U = true := by
 unfold rawOk at h
 rw [Bool.and_eq_true] at h
 exact h.1
theorem raw_srt {U : List Un} (h : rawOk U = true) : srtB U = true ∧ allSm U = true ∧ apB U = true := by
 obtain ⟨h1, h2⟩ := raw_get (rawOk_raw h)
 refine ⟨List.all_eq_true.2 fun k hk => ?_, List.all_eq_true.2 fun k hk => ?_, List.all_eq_true.2 fun k hk => ?_⟩
 ·have hk := List.mem_range.1 hk
  have hl := h2 k (by omega)
  have := linkU_long hl
  have := linkU_le hl
  exact decide_eq_true (by omega)
 ·have hk := List.mem_range.1 hk
  obtain ⟨_, a, b⟩ := one_lb (h1 k hk)
  rw [tmB_sm a, tmB_sm b]; rfl
 ·have hk := List.mem_range.1 hk
  have hl := h2 k (by omega)
  unfold apartB
  cases ho : (U.getD (k + 1) u0).oa with
  | true =>
   have := (linkU_touch hl ho).1
   show (_ || (decide ((U.getD k u0).b = (U.getD (k + 1) u0).a) && ((U.getD k u0).ob || (U.getD (k + 1) u0).oa))) = true
   rw [ho, decide_eq_true this]
   simp
  | false =>
   have := linkU_gap hl ho
   show (decide ((U.getD k u0).b < (U.getD (k + 1) u0).a) || _) = true
   rw [decide_eq_true this]; rfl
theorem M49_sat (U : List Un) (h : rawOk U = true) (h3 : 1 ≤ U.length) (h4 : U.length ≤ 19) : (M49 U).sat fun r => r = .tup [usA (mergeU U), intA .i64 0] := by
 obtain ⟨h1, h2, h5⟩ := raw_srt h
 have c3 : decide (1 ≤ U.length) = true := decide_eq_true h3
 have c4 : decide (U.length ≤ 19) = true := decide_eq_true h4
 have c5 : decide (U.length ≤ 333) = true := decide_eq_true (by omega)
 have p1 : pre49a ((), U, (U.length : Nat), 0, ()) = true := by
  simp only [pre49a, h2, h5, decide_true, Bool.true_and, Bool.and_eq_true, decide_eq_true_eq]
  omega
 have e0 : unsOf 0 (fun _ => ([] : List IV)) = [] := rfl
 have p2 : pre49b (((), U, 0, atomsU U, atomsU U, ((atomsU U).length : Nat), 0, ()), []) = true := by
  simp only [pre49b, h, decide_true, Bool.true_and, eqUs_iff.2 rfl, Bool.and_true, List.length_nil, decide_eq_true_eq]
  omega
 simp only [M49, ↓un_fold, ↓iv_fold, ↓ln_fold, ↓tm_fold, un_eta, iv_eta, take_un1, take_un2, take_iv1, take_iv2, tmV_cells, tmOk_cells, unV_cells, unOk_cells, ivV_lit, ivOk_lit, lineV_cells, lineOk_cells, unsOf_el, unsOk_units, sat_true, h1, h2, c3, c4, c5, p1, e0, p2, Nat.le_refl, decide_true]
 repeat first
  | refine sat_need rfl ?_
  | refine sat_ite (fun h => Bool.noConfusion h) (fun _ => ?_)
  | refine sat_ite (fun _ => ?_) (fun h => Bool.noConfusion h)
 exact sat_ret rfl
def K49 : List AV → Option (AV × List Bool) := (F2 (argIface 85) argUs).K (fun x => .tup [usA (mergeU x.2.1), intA .i64 0]) fun x => [rawOk x.2.1, decide (1 ≤ x.2.1.length), decide (x.2.1.length ≤ 19)]
theorem f49_ok : PureOk Tryz.prog 49 K49 :=
 (F2 (argIface 85) argUs).pureEq (N := 1010) (L := L49) prog_mixed Γn_ok (fn := Tryz.f49) (c := codeOf Tryz.f49) (by kernel_rfl) (by kernel_rfl) (by kernel_rfl) f49_loops (fun _ => rfl) (M := fun x => M49 x.2.1) (fun x => M49_eq x.2.1)
  fun x h => M49_sat x.2.1 (h _ (by simp)) (dec (h (decide (1 ≤ x.2.1.length)) (by simp))) (dec (h (decide (x.2.1.length ≤ 19)) (by simp)))
end Go.Vse
