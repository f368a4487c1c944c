/- Helpers for the proof: no statement of its own. -/
import Derived.Test.YtlemjmcedllofaaGreatDoorBatA
set_option linter.unusedVariables false
set_option linter.unusedSimpArgs false
set_option linter.unnecessarySimpa false
set_option linter.deprecated false
set_option maxRecDepth 100000
namespace Go.Vse
open Go.Proofs

/-! ### a form is read back, in plain Lean -/
theorem rd_form (s : ByteArray) (a b : List UInt8) (n : Int) (h : rangeB n = true) (hs : s.data.toList = a ++ leb (zig n) ++ b) :
    rdG s (a.length : Nat) = true ∧ rdV s (a.length : Nat) = n ∧ rdP s (a.length : Nat) = ((a ++ leb (zig n)).length : Nat) := by
  have hr' : -9223372036854775808 ≤ n ∧ n ≤ 9223372036854775807 := rangeB_spec h
  have hz := zig_lt hr'
  have hr := rdN_leb 9 (zig n) 0 0 a b (by omega) (by omega) (by omega)
  have hall : rdAll s (a.length : Nat) = (some n, a.length + (leb (zig n)).length, 0) := by
    unfold rdAll
    rw [hs, Int.toNat_natCast]
    unfold leb
    rw [hr]
    simp [unzig_zig]
    omega
  refine ⟨?_, ?_, ?_⟩
  · unfold rdG; rw [hall]; rfl
  · unfold rdV; rw [hall]; rfl
  · unfold rdP; rw [hall]; simp
theorem is01_flag (k : Bool) : is01 (flag k) = true := by cases k <;> rfl
theorem flag_one (k : Bool) : (flag k == 1) = k := by cases k <;> rfl
theorem rangeB_flag (k : Bool) : rangeB (flag k) = true := by cases k <;> rfl

theorem rd_rep (s : ByteArray) (a b : List UInt8) (r : Rep) (h : r.ok = true) (hs : s.data.toList = a ++ r.bytes ++ b) :
    goodN s (a.length : Nat) 8 = true ∧ is01 (rdV s (posN s (a.length : Nat) 7)) = true ∧ rdRep s (a.length : Nat) = r ∧ posN s (a.length : Nat) 8 = ((a ++ r.bytes).length : Nat) := by
  simp only [Rep.ok, Bool.and_eq_true] at h
  obtain ⟨⟨⟨⟨⟨⟨ra, rb⟩, rc⟩, rd⟩, re⟩, rf⟩, rg⟩ := h
  obtain ⟨g0, v0, q0⟩ := rd_form s a (leb (zig r.b) ++ leb (zig r.c) ++ leb (zig r.d) ++ leb (zig r.e) ++ leb (zig r.f) ++ leb (zig r.g) ++ leb (zig (flag r.k)) ++ b) r.a ra (by rw [hs]; simp only [Rep.bytes, List.append_assoc])
  obtain ⟨g1, v1, q1⟩ := rd_form s (a ++ leb (zig r.a)) (leb (zig r.c) ++ leb (zig r.d) ++ leb (zig r.e) ++ leb (zig r.f) ++ leb (zig r.g) ++ leb (zig (flag r.k)) ++ b) r.b rb (by rw [hs]; simp only [Rep.bytes, List.append_assoc])
  obtain ⟨g2, v2, q2⟩ := rd_form s (a ++ leb (zig r.a) ++ leb (zig r.b)) (leb (zig r.d) ++ leb (zig r.e) ++ leb (zig r.f) ++ leb (zig r.g) ++ leb (zig (flag r.k)) ++ b) r.c rc (by rw [hs]; simp only [Rep.bytes, List.append_assoc])
  obtain ⟨g3, v3, q3⟩ := rd_form s (a ++ leb (zig r.a) ++ leb (zig r.b) ++ leb (zig r.c)) (leb (zig r.e) ++ leb (zig r.f) ++ leb (zig r.g) ++ leb (zig (flag r.k)) ++ b) r.d rd (by rw [hs]; simp only [Rep.bytes, List.append_assoc])
  obtain ⟨g4, v4, q4⟩ := rd_form s (a ++ leb (zig r.a) ++ leb (zig r.b) ++ leb (zig r.c) ++ leb (zig r.d)) (leb (zig r.f) ++ leb (zig r.g) ++ leb (zig (flag r.k)) ++ b) r.e re (by rw [hs]; simp only [Rep.bytes, List.append_assoc])
  obtain ⟨g5, v5, q5⟩ := rd_form s (a ++ leb (zig r.a) ++ leb (zig r.b) ++ leb (zig r.c) ++ leb (zig r.d) ++ leb (zig r.e)) (leb (zig r.g) ++ leb (zig (flag r.k)) ++ b) r.f rf (by rw [hs]; simp only [Rep.bytes, List.append_assoc])
  obtain ⟨g6, v6, q6⟩ := rd_form s (a ++ leb (zig r.a) ++ leb (zig r.b) ++ leb (zig r.c) ++ leb (zig r.d) ++ leb (zig r.e) ++ leb (zig r.f)) (leb (zig (flag r.k)) ++ b) r.g rg (by rw [hs]; simp only [Rep.bytes, List.append_assoc])
  obtain ⟨g7, v7, q7⟩ := rd_form s (a ++ leb (zig r.a) ++ leb (zig r.b) ++ leb (zig r.c) ++ leb (zig r.d) ++ leb (zig r.e) ++ leb (zig r.f) ++ leb (zig r.g)) b (flag r.k) (rangeB_flag _) (by rw [hs]; simp only [Rep.bytes, List.append_assoc])
  have p0 : posN s (a.length : Nat) 0 = (a.length : Nat) := rfl
  have p1 : posN s (a.length : Nat) 1 = _ := q0
  have p2 : posN s (a.length : Nat) 2 = _ := (congrArg (rdP s) p1).trans q1
  have p3 : posN s (a.length : Nat) 3 = _ := (congrArg (rdP s) p2).trans q2
  have p4 : posN s (a.length : Nat) 4 = _ := (congrArg (rdP s) p3).trans q3
  have p5 : posN s (a.length : Nat) 5 = _ := (congrArg (rdP s) p4).trans q4
  have p6 : posN s (a.length : Nat) 6 = _ := (congrArg (rdP s) p5).trans q5
  have p7 : posN s (a.length : Nat) 7 = _ := (congrArg (rdP s) p6).trans q6
  have p8 : posN s (a.length : Nat) 8 = _ := (congrArg (rdP s) p7).trans q7
  refine ⟨?_, ?_, ?_, ?_⟩
  · simp only [goodN, List.range_succ, List.range_zero, List.nil_append, List.cons_append, List.all_cons, List.all_nil, Bool.and_true, Bool.and_eq_true, decide_eq_true_eq, p0, p1, p2, p3, p4, p5, p6, p7, g0, g1, g2, g3, g4, g5, g6, g7, true_and]
    omega
  · rw [p7, v7]; exact is01_flag _
  · simp only [rdRep, p0, p1, p2, p3, p4, p5, p6, p7, v0, v1, v2, v3, v4, v5, v6, v7, flag_one]
  · rw [p8]; simp only [Rep.bytes, List.append_assoc]
theorem rd_exc (s : ByteArray) (a b : List UInt8) (r : Exc) (h : r.ok = true) (hs : s.data.toList = a ++ r.bytes ++ b) :
    goodN s (a.length : Nat) 5 = true ∧ rdExc s (a.length : Nat) = r ∧ posN s (a.length : Nat) 5 = ((a ++ r.bytes).length : Nat) := by
  simp only [Exc.ok, Bool.and_eq_true] at h
  obtain ⟨⟨⟨⟨ra, rb⟩, rc⟩, rd⟩, re⟩ := h
  obtain ⟨g0, v0, q0⟩ := rd_form s a (leb (zig r.b) ++ leb (zig r.c) ++ leb (zig r.d) ++ leb (zig r.e) ++ b) r.a ra (by rw [hs]; simp only [Exc.bytes, List.append_assoc])
  obtain ⟨g1, v1, q1⟩ := rd_form s (a ++ leb (zig r.a)) (leb (zig r.c) ++ leb (zig r.d) ++ leb (zig r.e) ++ b) r.b rb (by rw [hs]; simp only [Exc.bytes, List.append_assoc])
  obtain ⟨g2, v2, q2⟩ := rd_form s (a ++ leb (zig r.a) ++ leb (zig r.b)) (leb (zig r.d) ++ leb (zig r.e) ++ b) r.c rc (by rw [hs]; simp only [Exc.bytes, List.append_assoc])
  obtain ⟨g3, v3, q3⟩ := rd_form s (a ++ leb (zig r.a) ++ leb (zig r.b) ++ leb (zig r.c)) (leb (zig r.e) ++ b) r.d rd (by rw [hs]; simp only [Exc.bytes, List.append_assoc])
  obtain ⟨g4, v4, q4⟩ := rd_form s (a ++ leb (zig r.a) ++ leb (zig r.b) ++ leb (zig r.c) ++ leb (zig r.d)) b r.e re (by rw [hs]; simp only [Exc.bytes, List.append_assoc])
  have p0 : posN s (a.length : Nat) 0 = (a.length : Nat) := rfl
  have p1 : posN s (a.length : Nat) 1 = _ := q0
  have p2 : posN s (a.length : Nat) 2 = _ := (congrArg (rdP s) p1).trans q1
  have p3 : posN s (a.length : Nat) 3 = _ := (congrArg (rdP s) p2).trans q2
  have p4 : posN s (a.length : Nat) 4 = _ := (congrArg (rdP s) p3).trans q3
  have p5 : posN s (a.length : Nat) 5 = _ := (congrArg (rdP s) p4).trans q4
  refine ⟨?_, ?_, ?_⟩
  · simp only [goodN, List.range_succ, List.range_zero, List.nil_append, List.cons_append, List.all_cons, List.all_nil, Bool.and_true, Bool.and_eq_true, decide_eq_true_eq, p0, p1, p2, p3, p4, g0, g1, g2, g3, g4, true_and]
    omega
  · simp only [rdExc, p0, p1, p2, p3, p4, v0, v1, v2, v3, v4]
  · rw [p5]; simp only [Exc.bytes, List.append_assoc]
theorem rd_reps (s : ByteArray) (b : List UInt8) : ∀ (rs : List Rep) (a : List UInt8), repsOk rs = true → s.data.toList = a ++ repsB rs ++ b →
    goodReps s (a.length : Nat) rs.length = true ∧ rdReps s (a.length : Nat) rs.length = rs ∧ posReps s (a.length : Nat) rs.length = ((a ++ repsB rs).length : Nat)
  | [], a, _, hs => by simp [goodReps, rdReps, posReps, repsB]
  | r :: rs, a, hok, hs => by
    simp only [repsOk, List.all_cons, Bool.and_eq_true] at hok
    have hcons : repsB (r :: rs) = r.bytes ++ repsB rs := by simp [repsB]
    rw [hcons] at hs ⊢
    obtain ⟨g, k, v, q⟩ := rd_rep s a (repsB rs ++ b) r hok.1 (by rw [hs]; simp only [List.append_assoc])
    obtain ⟨h1, h2, h3⟩ := rd_reps s b rs (a ++ r.bytes) hok.2 (by rw [hs]; simp only [List.append_assoc])
    simp only [List.length_cons, goodReps, rdReps, posReps, q, v, g, k, h1, h2, h3, Bool.and_self]
    simp only [List.append_assoc]
    trivial
theorem rd_excs (s : ByteArray) (b : List UInt8) : ∀ (rs : List Exc) (a : List UInt8), excsOk rs = true → s.data.toList = a ++ excsB rs ++ b →
    goodExcs s (a.length : Nat) rs.length = true ∧ rdExcs s (a.length : Nat) rs.length = rs ∧ posExcs s (a.length : Nat) rs.length = ((a ++ excsB rs).length : Nat)
  | [], a, _, hs => by simp [goodExcs, rdExcs, posExcs, excsB]
  | r :: rs, a, hok, hs => by
    simp only [excsOk, List.all_cons, Bool.and_eq_true] at hok
    have hcons : excsB (r :: rs) = r.bytes ++ excsB rs := by simp [excsB]
    rw [hcons] at hs ⊢
    obtain ⟨g, v, q⟩ := rd_exc s a (excsB rs ++ b) r hok.1 (by rw [hs]; simp only [List.append_assoc])
    obtain ⟨h1, h2, h3⟩ := rd_excs s b rs (a ++ r.bytes) hok.2 (by rw [hs]; simp only [List.append_assoc])
    simp only [List.length_cons, goodExcs, rdExcs, posExcs, q, v, g, h1, h2, h3, Bool.and_self]
    simp only [List.append_assoc]
    trivial
/-- WHAT IS READ FROM A BATCH's FORM IS THE BATCH -/
theorem rd_batch (rs : List Rep) (es : List Exc) (hr : repsOk rs = true) (he : excsOk es = true) (hn : rs.length ≤ 1000) (hm : es.length ≤ 1000) (s : ByteArray) (hs : s.data.toList = batB rs es) :
    (∀ p ∈ conds11 s, p) ∧ (rdV s 0).toNat = rs.length ∧ rs11 s = rs ∧ (rdV s (p2 s)).toNat = es.length ∧ es11 s = es := by
  have hs' : s.data.toList = leb (zig (rs.length : Int)) ++ repsB rs ++ leb (zig (es.length : Int)) ++ excsB es := hs
  obtain ⟨g0, v0, q0⟩ := rd_form s [] (repsB rs ++ leb (zig (es.length : Int)) ++ excsB es) (rs.length : Int) (rangeB_nat hn) (by rw [hs']; simp only [List.nil_append, List.append_assoc])
  have z : (([] : List UInt8).length : Int) = 0 := rfl
  rw [show ((([] : List UInt8).length : Nat) : Int) = 0 from rfl] at g0 v0 q0
  rw [List.nil_append] at q0
  obtain ⟨h1, h2, h3⟩ := rd_reps s (leb (zig (es.length : Int)) ++ excsB es) rs (leb (zig (rs.length : Int))) hr (by rw [hs']; simp only [List.append_assoc])
  rw [← q0] at h1 h2 h3
  obtain ⟨g1, v1, q1⟩ := rd_form s (leb (zig (rs.length : Int)) ++ repsB rs) (excsB es) (es.length : Int) (rangeB_nat hm) (by rw [hs'])
  rw [← h3] at g1 v1 q1
  obtain ⟨h4, h5, h6⟩ := rd_excs s [] es (leb (zig (rs.length : Int)) ++ repsB rs ++ leb (zig (es.length : Int))) he (by rw [hs', List.append_nil])
  rw [← q1] at h4 h5 h6
  have n0 : (rdV s 0).toNat = rs.length := by rw [v0]; omega
  have e2 : p2 s = posReps s (rdP s 0) rs.length := by unfold p2; rw [n0]
  rw [← e2] at g1 v1 q1 h3 h4 h5 h6
  have n1 : (rdV s (p2 s)).toNat = es.length := by rw [v1]; omega
  have l1 := repsB_len rs
  have l2 := excsB_len es
  have l3 := leb_len10 (zig (rs.length : Int))
  have l4 := leb_len10 (zig (es.length : Int))
  have hl : s.data.toList.length = (leb (zig (rs.length : Int))).length + (repsB rs).length + (leb (zig (es.length : Int))).length + (excsB es).length := by rw [hs']; simp only [List.length_append]
  simp only [List.length_append] at h3 q1 h6
  have e3 : p3 s = ((s.data.toList.length : Nat) : Int) := by
    unfold p3
    rw [n1, h6, hl]
  refine ⟨?_, n0, ?_, n1, ?_⟩
  · simp only [conds11, List.mem_cons, List.not_mem_nil, or_false, forall_eq_or_imp, forall_eq, g0, g1, e3, n0, n1, h1, h4, short, decide_eq_true_eq]
    rw [v0, v1, q0, q1, h3, hl]
    refine ⟨by omega, trivial, by omega, by omega, by omega, by omega, trivial, by omega, trivial, by omega, by omega, by omega, by omega, trivial, trivial⟩
  · unfold rs11; rw [n0, h2]
  · unfold es11; rw [n1, h5]
end Go.Vse

set_option maxRecDepth 100000
namespace Go.Vse
open Go.Proofs

/-! ### the law's own form of a batch -/
structure BSt where
  rs : List Rep
  es : List Exc
  l : List UInt8
  i : Int
def bent (rs : List Rep) (es : List Exc) : Option Ent := some (.cells [.c (.sl rs.length 8 (repEl rs)), .c (.sl es.length 5 (excEl es))] 32)
def headB (x : BSt) : List AV × List (Option Ent) := ([.ptr 0 0, strA x.l, intA .i64 x.i], [bent x.rs x.es])
def takeB : List AV × List (Option Ent) → Option (BSt × List Bool)
  | ([.ptr 0 0, .c (.v (.string s)), .c (.v (.int .i64 i))], [some (.cells [.c (.sl n 8 el), .c (.sl m 5 ee)] 32)]) =>
    some (⟨repsOf n el, excsOf m ee, s.data.toList, i⟩, [isReps n el, isExcs m ee])
  | _ => none
def lpB (live : List Nat) (w : Way BSt) : LoopSt BSt BSt where
  nIn := { nt := 97, live := live }
  nOut := { nt := 97, live := live }
  head := headB
  take := takeB
  out := fun r => (.normal, headB r)
  takeR := fun q => match q with | (.normal, q) => takeB q | _ => none
  res := w.res
  pre := w.pre
def wB : Way BSt := ⟨fun x => x, fun _ => true⟩
theorem takeB_ok (q : List AV × List (Option Ent)) (x : BSt) (cs : List Bool) (h : takeB q = some (x, cs)) (hc : ∀ p ∈ cs, p) : SeesL q.1 (headB x).1 ∧ EntsEqv q.2 (headB x).2 := by
  unfold takeB at h
  split at h
  · rename_i s i n el m ee
    simp only [Option.some.injEq, Prod.mk.injEq] at h
    obtain ⟨rfl, rfl⟩ := h
    have h1 : isReps n el = true := hc (isReps n el) (by simp)
    have h2 : isExcs m ee = true := hc (isExcs m ee) (by simp)
    have e1 := (isReps_el h1).1
    have e2 := (isExcs_el h2).1
    refine ⟨SeesL.refl _, ?_⟩
    simp only [headB, bent, repsOf_len, excsOf_len]
    exact .cons (.cells _ _ _ (.cons (Sees.sl e1) (.cons (Sees.sl e2) .nil))) .nil
  · cases h
theorem lpB_good (live : List Nat) (w : Way BSt) : (lpB live w).Good2 where
  take := takeB_ok
  takeR := by
    intro e q r cs h hc
    cases e with
    | normal => obtain ⟨h1, h2⟩ := takeB_ok q r cs h hc; exact ⟨rfl, h1, h2⟩
    | exit j => cases h
    | ret => cases h
  split := fun r Q h => h
def Γ12 : FuncId → Option Spec := fun f => bif Nat.beq f 8 then some (pureSpec numK) else bif Nat.beq f 28 then some (pureSpec K28) else none
theorem Γ12_ok : ∀ f s, Γ12 f = some s → SpecOk Tryz.prog f s := step_ok f8_ok.spec (one_ok f28_ok.spec)
end Go.Vse

set_option maxRecDepth 100000
namespace Go.Vse
open Go.Proofs
def stepB0 (rs : List Rep) (es : List Exc) (l : List UInt8) (i : Int) : Tr (BSt ⊕ BSt) :=
let x1 : Int := ↑rs.length
let x2 : Int := (rs.getD i.toNat default).a
let x3 : ByteArray := { data := { toList := l } }
let x4 : List UInt8 := leb (zig x2)
let x5 : ByteArray := { data := { toList := x4 } }
let x6 : Nat := x3.size + x5.size
let x7 : Int := (rs.getD i.toNat default).b
let x8 : ByteArray := x3 ++ x5
let x9 : List UInt8 := leb (zig x7)
let x10 : ByteArray := { data := { toList := x9 } }
let x11 : Nat := x8.size + x10.size
let x12 : Int := (rs.getD i.toNat default).c
let x13 : ByteArray := x8 ++ x10
let x14 : List UInt8 := leb (zig x12)
let x15 : ByteArray := { data := { toList := x14 } }
let x16 : Nat := x13.size + x15.size
let x17 : Int := (rs.getD i.toNat default).d
let x18 : ByteArray := x13 ++ x15
let x19 : List UInt8 := leb (zig x17)
let x20 : ByteArray := { data := { toList := x19 } }
let x21 : Nat := x18.size + x20.size
let x22 : Int := (rs.getD i.toNat default).e
let x23 : ByteArray := x18 ++ x20
let x24 : List UInt8 := leb (zig x22)
let x25 : ByteArray := { data := { toList := x24 } }
let x26 : Nat := x23.size + x25.size
let x27 : Int := (rs.getD i.toNat default).f
let x28 : ByteArray := x23 ++ x25
let x29 : List UInt8 := leb (zig x27)
let x30 : ByteArray := { data := { toList := x29 } }
let x31 : Nat := x28.size + x30.size
let x32 : Int := (rs.getD i.toNat default).g
let x33 : ByteArray := x28 ++ x30
let x34 : List UInt8 := leb (zig x32)
let x35 : ByteArray := { data := { toList := x34 } }
let x36 : Nat := x33.size + x35.size
let x37 : List UInt8 := leb (zig (flag (rs.getD i.toNat default).k))
let x38 : Nat := (x33 ++ x35).size + ({ data := { toList := x37 } } : ByteArray).size
let x39 : List Rep := repsOf rs.length (repEl rs)
let x40 : List Exc := excsOf es.length (excEl es)
Tr.ite (decide (i < x1))
  (Tr.need (decide (0 ≤ i ∧ i < x1))
    (Tr.need (decide (-9223372036854775808 ≤ x2) && decide (x2 ≤ 9223372036854775807))
      (Tr.need (decide (x6 ≤ 9223372036854775807))
        (Tr.need (decide (-9223372036854775808 ≤ x7) && decide (x7 ≤ 9223372036854775807))
          (Tr.need (decide (x11 ≤ 9223372036854775807))
            (Tr.need (decide (-9223372036854775808 ≤ x12) && decide (x12 ≤ 9223372036854775807))
              (Tr.need (decide (x16 ≤ 9223372036854775807))
                (Tr.need (decide (-9223372036854775808 ≤ x17) && decide (x17 ≤ 9223372036854775807))
                  (Tr.need (decide (x21 ≤ 9223372036854775807))
                    (Tr.need (decide (-9223372036854775808 ≤ x22) && decide (x22 ≤ 9223372036854775807))
                      (Tr.need (decide (x26 ≤ 9223372036854775807))
                        (Tr.need (decide (-9223372036854775808 ≤ x27) && decide (x27 ≤ 9223372036854775807))
                          (Tr.need (decide (x31 ≤ 9223372036854775807))
                            (Tr.need (decide (-9223372036854775808 ≤ x32) && decide (x32 ≤ 9223372036854775807))
                              (Tr.need (decide (x36 ≤ 9223372036854775807))
                                (Tr.need (decide (x38 ≤ 9223372036854775807))
                                  (Tr.need (isReps rs.length (repEl rs))
                                    (Tr.need (isExcs es.length (excEl es))
                                      (Tr.ret
                                        (Sum.inl
                                          { rs := x39, es := x40, l := l ++ x4 ++ x9 ++ x14 ++ x19 ++ x24 ++ x29 ++ x34 ++ x37,
                                            i := IntKind.i64.wrap (i + 1) }))))))))))))))))))))
  (Tr.need (isReps rs.length (repEl rs)) (Tr.need (isExcs es.length (excEl es)) (Tr.ret (Sum.inr { rs := x39, es := x40, l := l, i := i }))))
def stepB2 (rs : List Rep) (es : List Exc) (l : List UInt8) (i : Int) : Tr (BSt ⊕ BSt) :=
let x1 : Int := ↑es.length
let x2 : Int := (es.getD i.toNat default).a
let x3 : ByteArray := { data := { toList := l } }
let x4 : List UInt8 := leb (zig x2)
let x5 : ByteArray := { data := { toList := x4 } }
let x6 : Nat := x3.size + x5.size
let x7 : Int := (es.getD i.toNat default).b
let x8 : ByteArray := x3 ++ x5
let x9 : List UInt8 := leb (zig x7)
let x10 : ByteArray := { data := { toList := x9 } }
let x11 : Nat := x8.size + x10.size
let x12 : Int := (es.getD i.toNat default).c
let x13 : ByteArray := x8 ++ x10
let x14 : List UInt8 := leb (zig x12)
let x15 : ByteArray := { data := { toList := x14 } }
let x16 : Nat := x13.size + x15.size
let x17 : Int := (es.getD i.toNat default).d
let x18 : ByteArray := x13 ++ x15
let x19 : List UInt8 := leb (zig x17)
let x20 : ByteArray := { data := { toList := x19 } }
let x21 : Nat := x18.size + x20.size
let x22 : Int := (es.getD i.toNat default).e
let x23 : List UInt8 := leb (zig x22)
let x24 : Nat := (x18 ++ x20).size + ({ data := { toList := x23 } } : ByteArray).size
let x25 : List Rep := repsOf rs.length (repEl rs)
let x26 : List Exc := excsOf es.length (excEl es)
Tr.ite (decide (i < x1))
  (Tr.need (decide (0 ≤ i ∧ i < x1))
    (Tr.need (decide (-9223372036854775808 ≤ x2) && decide (x2 ≤ 9223372036854775807))
      (Tr.need (decide (x6 ≤ 9223372036854775807))
        (Tr.need (decide (-9223372036854775808 ≤ x7) && decide (x7 ≤ 9223372036854775807))
          (Tr.need (decide (x11 ≤ 9223372036854775807))
            (Tr.need (decide (-9223372036854775808 ≤ x12) && decide (x12 ≤ 9223372036854775807))
              (Tr.need (decide (x16 ≤ 9223372036854775807))
                (Tr.need (decide (-9223372036854775808 ≤ x17) && decide (x17 ≤ 9223372036854775807))
                  (Tr.need (decide (x21 ≤ 9223372036854775807))
                    (Tr.need (decide (-9223372036854775808 ≤ x22) && decide (x22 ≤ 9223372036854775807))
                      (Tr.need (decide (x24 ≤ 9223372036854775807))
                        (Tr.need (isReps rs.length (repEl rs))
                          (Tr.need (isExcs es.length (excEl es))
                            (Tr.ret (Sum.inl { rs := x25, es := x26, l := l ++ x4 ++ x9 ++ x14 ++ x19 ++ x23, i := IntKind.i64.wrap (i + 1) })))))))))))))))
  (Tr.need (isReps rs.length (repEl rs)) (Tr.need (isExcs es.length (excEl es)) (Tr.ret (Sum.inr { rs := x25, es := x26, l := l, i := i }))))

theorem stepB0_eq (w : Way BSt) (x : BSt) : (exec Tryz.prog Γ12 noL 1010 (loopOf 0 (codeOf Tryz.f12)) (mkSt (lpB [1, 3, 4] w).nIn ((lpB [1, 3, 4] w).head x))).bind ((lpB [1, 3, 4] w).fin 0 0) = stepB0 x.rs x.es x.l x.i := by
  obtain ⟨rs, es, l, i⟩ := x
  kernel_rfl
theorem stepB2_eq (w : Way BSt) (x : BSt) : (exec Tryz.prog Γ12 noL 1010 (loopOf 2 (codeOf Tryz.f12)) (mkSt (lpB [1, 3, 6] w).nIn ((lpB [1, 3, 6] w).head x))).bind ((lpB [1, 3, 6] w).fin 0 2) = stepB2 x.rs x.es x.l x.i := by
  obtain ⟨rs, es, l, i⟩ := x
  kernel_rfl
theorem bsz (l : List UInt8) : (⟨⟨l⟩⟩ : ByteArray).size = l.length := rfl
def preB (x : BSt) (n : Nat) : Bool := decide (0 ≤ x.i) && decide (x.i ≤ (n : Nat)) && repsOk x.rs && excsOk x.es && decide (x.rs.length ≤ 1000) && decide (x.es.length ≤ 1000) && decide (x.l.length + 88 * (n - x.i.toNat) ≤ 1000000000)
def wayB0 : Way BSt := ⟨fun x => ⟨x.rs, x.es, x.l ++ repsB (x.rs.drop x.i.toNat), (x.rs.length : Nat)⟩, fun x => preB x x.rs.length⟩
def wayB2 : Way BSt := ⟨fun x => ⟨x.rs, x.es, x.l ++ excsB (x.es.drop x.i.toNat), (x.es.length : Nat)⟩, fun x => preB x x.es.length⟩
theorem rangeB_dec {n : Int} (h : rangeB n = true) : (decide (-9223372036854775808 ≤ n) && decide (n ≤ 9223372036854775807)) = true := h
theorem stepB0_in (rs : List Rep) (es : List Exc) (hr : repsOk rs = true) (he : excsOk es = true) (i : Nat) (l : List UInt8) (hi : i < rs.length) (hn : rs.length ≤ 1000) (hl : l.length ≤ 1000000000) {R : BSt ⊕ BSt → Prop}
    (hin : R (.inl ⟨rs, es, l ++ (rs.getD i default).bytes, ((i + 1 : Nat) : Int)⟩)) : (stepB0 rs es l (i : Nat)).sat R := by
  have hw : IntKind.i64.wrap ((i : Int) + 1) = ((i + 1 : Nat) : Int) := by rw [wrap_i64 (by omega)]; omega
  have hok := getD_ok hr hi
  unfold stepB0
  rw [Int.toNat_natCast]
  generalize rs.getD i default = r at hok hin ⊢
  have h1 := leb_len10 (zig r.a); have h2 := leb_len10 (zig r.b); have h3 := leb_len10 (zig r.c); have h4 := leb_len10 (zig r.d)
  have h5 := leb_len10 (zig r.e); have h6 := leb_len10 (zig r.f); have h7 := leb_len10 (zig r.g); have h8 := leb_len10 (zig (flag r.k))
  simp only [Rep.ok, Bool.and_eq_true] at hok
  obtain ⟨⟨⟨⟨⟨⟨ra, rb⟩, rc⟩, rd⟩, re⟩, rf⟩, rg⟩ := hok
  dsimp only
  refine sat_ite (fun _ => ?_) (fun h => absurd (show (i : Int) < (rs.length : Nat) by omega) (of_decide_eq_false h))
  refine sat_need (decide_eq_true (by omega)) ?_
  repeat
    first
      | refine sat_need (rangeB_dec (by assumption)) ?_
      | refine sat_need (by apply decide_eq_true; simp only [ByteArray.size_append, bsz]; omega) ?_
      | refine sat_need (isReps_mk hr) ?_
      | refine sat_need (isExcs_mk he) ?_
  refine sat_ret ?_
  rw [repsOf_el, excsOf_el, hw]
  simpa only [Rep.bytes, List.append_assoc] using hin
theorem stepB2_in (rs : List Rep) (es : List Exc) (hr : repsOk rs = true) (he : excsOk es = true) (i : Nat) (l : List UInt8) (hi : i < es.length) (hn : es.length ≤ 1000) (hl : l.length ≤ 1000000000) {R : BSt ⊕ BSt → Prop}
    (hin : R (.inl ⟨rs, es, l ++ (es.getD i default).bytes, ((i + 1 : Nat) : Int)⟩)) : (stepB2 rs es l (i : Nat)).sat R := by
  have hw : IntKind.i64.wrap ((i : Int) + 1) = ((i + 1 : Nat) : Int) := by rw [wrap_i64 (by omega)]; omega
  have hok := getD_okE he hi
  unfold stepB2
  rw [Int.toNat_natCast]
  generalize es.getD i default = r at hok hin ⊢
  have h1 := leb_len10 (zig r.a); have h2 := leb_len10 (zig r.b); have h3 := leb_len10 (zig r.c); have h4 := leb_len10 (zig r.d)
  have h5 := leb_len10 (zig r.e)
  simp only [Exc.ok, Bool.and_eq_true] at hok
  obtain ⟨⟨⟨⟨ra, rb⟩, rc⟩, rd⟩, re⟩ := hok
  dsimp only
  refine sat_ite (fun _ => ?_) (fun h => absurd (show (i : Int) < (es.length : Nat) by omega) (of_decide_eq_false h))
  refine sat_need (decide_eq_true (by omega)) ?_
  repeat
    first
      | refine sat_need (rangeB_dec (by assumption)) ?_
      | refine sat_need (by apply decide_eq_true; simp only [ByteArray.size_append, bsz]; omega) ?_
      | refine sat_need (isReps_mk hr) ?_
      | refine sat_need (isExcs_mk he) ?_
  refine sat_ret ?_
  rw [repsOf_el, excsOf_el, hw]
  simpa only [Exc.bytes, List.append_assoc] using hin
theorem runsB0 (rs : List Rep) (es : List Exc) (hr : repsOk rs = true) (he : excsOk es = true) (hn : rs.length ≤ 1000) (Q : BSt → Prop) : ∀ (k i : Nat) (l : List UInt8), i + k = rs.length → l.length + 88 * k ≤ 1000000000 →
    Q ⟨rs, es, l ++ repsB (rs.drop i), (rs.length : Nat)⟩ → RunsX (fun x : BSt => stepB0 x.rs x.es x.l x.i) Q (k + 1) ⟨rs, es, l, (i : Nat)⟩
  | 0, i, l, hi, hl, hq => by
    obtain rfl : i = rs.length := by omega
    unfold RunsX
    change Tr.sat _ (stepB0 rs es l ((rs.length : Nat) : Int))
    unfold stepB0
    refine sat_ite (fun h => absurd (of_decide_eq_true h) (Int.lt_irrefl _)) (fun _ => sat_need (isReps_mk hr) (sat_need (isExcs_mk he) (sat_ret ?_)))
    rw [repsOf_el, excsOf_el]
    simpa [repsB] using hq
  | k + 1, i, l, hi, hl, hq => by
    have hlt : i < rs.length := by omega
    have hb := repB_len (rs.getD i default)
    have ih := runsB0 rs es hr he hn Q k (i + 1) (l ++ (rs.getD i default).bytes) (by omega) (by rw [List.length_append]; omega) (by rw [List.append_assoc, ← drop_repsB hlt]; exact hq)
    exact stepB0_in rs es hr he i l hlt hn (by omega) ih
theorem runsB2 (rs : List Rep) (es : List Exc) (hr : repsOk rs = true) (he : excsOk es = true) (hn : es.length ≤ 1000) (Q : BSt → Prop) : ∀ (k i : Nat) (l : List UInt8), i + k = es.length → l.length + 88 * k ≤ 1000000000 →
    Q ⟨rs, es, l ++ excsB (es.drop i), (es.length : Nat)⟩ → RunsX (fun x : BSt => stepB2 x.rs x.es x.l x.i) Q (k + 1) ⟨rs, es, l, (i : Nat)⟩
  | 0, i, l, hi, hl, hq => by
    obtain rfl : i = es.length := by omega
    unfold RunsX
    change Tr.sat _ (stepB2 rs es l ((es.length : Nat) : Int))
    unfold stepB2
    refine sat_ite (fun h => absurd (of_decide_eq_true h) (Int.lt_irrefl _)) (fun _ => sat_need (isReps_mk hr) (sat_need (isExcs_mk he) (sat_ret ?_)))
    rw [repsOf_el, excsOf_el]
    simpa [excsB] using hq
  | k + 1, i, l, hi, hl, hq => by
    have hlt : i < es.length := by omega
    have hb := excB_len (es.getD i default)
    have ih := runsB2 rs es hr he hn Q k (i + 1) (l ++ (es.getD i default).bytes) (by omega) (by rw [List.length_append]; omega) (by rw [List.append_assoc, ← drop_excsB hlt]; exact hq)
    exact stepB2_in rs es hr he i l hlt hn (by omega) ih

def L12 : Nat → Option (St → Tr (Ex × St)) := fun id => bif Nat.beq id 0 then some ((lpB [1, 3, 4] wayB0).g 0) else bif Nat.beq id 2 then some ((lpB [1, 3, 6] wayB2).g 0) else none
theorem f12_loops : BlocksOk Tryz.prog 0 L12 (codeOf Tryz.f12) := by
  refine blocksOk_of (d := fun id => Nat.beq id 0 || Nat.beq id 2) (fun id => by unfold L12; cases Nat.beq id 0 <;> cases Nat.beq id 2 <;> rfl) _ ?_
  have hb : blocksOf (fun id => Nat.beq id 0 || Nat.beq id 2) (codeOf Tryz.f12) = [(0, .loop (loopOf 0 (codeOf Tryz.f12))), (2, .loop (loopOf 2 (codeOf Tryz.f12)))] := by kernel_rfl
  rw [hb]
  intro p hp g hg
  simp only [List.mem_cons, List.not_mem_nil, or_false] at hp
  rcases hp with rfl | rfl
  · have hh : L12 0 = some ((lpB [1, 3, 4] wayB0).g 0) := rfl
    rw [hh] at hg
    obtain rfl : g = (lpB [1, 3, 4] wayB0).g 0 := (Option.some.inj hg).symm
    refine LoopSt.ok2 (N := 1010) prog_mixed Γ12_ok (L := noL) (blocksOk_none 0 _) (lpB_good _ _) (stepB0_eq wayB0) ?_
    rintro ⟨rs, es, l, i⟩ hx
    have hx : preB ⟨rs, es, l, i⟩ rs.length = true := hx
    simp only [preB, Bool.and_eq_true, decide_eq_true_eq] at hx
    obtain ⟨⟨⟨⟨⟨⟨h1, h2⟩, h3⟩, h4⟩, h5⟩, h6⟩, h7⟩ := hx
    obtain ⟨i, rfl⟩ : ∃ n : Nat, i = n := ⟨i.toNat, by omega⟩
    rw [Int.toNat_natCast] at h7
    exact ⟨_, runsB0 rs es h3 h4 h5 (· = wayB0.res ⟨rs, es, l, i⟩) (rs.length - i) i l (by omega) h7 (by simp [wayB0])⟩
  · have hh : L12 2 = some ((lpB [1, 3, 6] wayB2).g 0) := rfl
    rw [hh] at hg
    obtain rfl : g = (lpB [1, 3, 6] wayB2).g 0 := (Option.some.inj hg).symm
    refine LoopSt.ok2 (N := 1010) prog_mixed Γ12_ok (L := noL) (blocksOk_none 0 _) (lpB_good _ _) (stepB2_eq wayB2) ?_
    rintro ⟨rs, es, l, i⟩ hx
    have hx : preB ⟨rs, es, l, i⟩ es.length = true := hx
    simp only [preB, Bool.and_eq_true, decide_eq_true_eq] at hx
    obtain ⟨⟨⟨⟨⟨⟨h1, h2⟩, h3⟩, h4⟩, h5⟩, h6⟩, h7⟩ := hx
    obtain ⟨i, rfl⟩ : ∃ n : Nat, i = n := ⟨i.toNat, by omega⟩
    rw [Int.toNat_natCast] at h7
    exact ⟨_, runsB2 rs es h3 h4 h6 (· = wayB2.res ⟨rs, es, l, i⟩) (es.length - i) i l (by omega) h7 (by simp [wayB2])⟩
def barg (rs : List Rep) (es : List Exc) : AV := .agg [.c (.sl rs.length 8 (repEl rs)), .c (.sl es.length 5 (excEl es))]
end Go.Vse

set_option maxRecDepth 100000
namespace Go.Vse
open Go.Proofs
def M12 (rs : List Rep) (es : List Exc) : Tr AV :=
let x1 : Int := ↑rs.length
let x2 : List Rep := repsOf rs.length (repEl rs)
let x3 : List Exc := excsOf es.length (excEl es)
let x4 : List UInt8 := leb (zig x1)
let x5 : Nat := x2.length
let x6 : Nat := x3.length
let x7 : Int := ↑x6
let x8 : List UInt8 := x4 ++ repsB (List.drop (Int.toNat 0) x2)
let x9 : List UInt8 := leb (zig x7)
let x10 : Nat := ({ data := { toList := x8 } } : ByteArray).size + ({ data := { toList := x9 } } : ByteArray).size
let x11 : List Exc := excsOf x6 (excEl x3)
let x12 : List UInt8 := x8 ++ x9
Tr.need (decide (-9223372036854775808 ≤ x1) && decide (x1 ≤ 9223372036854775807))
  (Tr.need (isReps rs.length (repEl rs))
    (Tr.need (isExcs es.length (excEl es))
      (Tr.need (preB { rs := x2, es := x3, l := x4, i := 0 } x5)
        (Tr.need (decide (-9223372036854775808 ≤ x7) && decide (x7 ≤ 9223372036854775807))
          (Tr.need (decide (x10 ≤ 9223372036854775807))
            (Tr.need (isReps x5 (repEl x2))
              (Tr.need (isExcs x6 (excEl x3))
                (Tr.need (preB { rs := repsOf x5 (repEl x2), es := x11, l := x12, i := 0 } x11.length)
                  (Tr.ret (AV.c (IV.v (Value.string { data := { toList := x12 ++ excsB (List.drop (Int.toNat 0) x11) } }))))))))))))

theorem M12_eq (rs : List Rep) (es : List Exc) : execFn Tryz.prog Γ12 L12 1010 Tryz.f12 [barg rs es] = M12 rs es := by kernel_rfl
theorem M12_sat (rs : List Rep) (es : List Exc) (hr : repsOk rs = true) (he : excsOk es = true) (hn : rs.length ≤ 1000) (hm : es.length ≤ 1000) : (M12 rs es).sat fun r => r = strA (batB rs es) := by
  have l1 := leb_len10 (zig (rs.length : Int)); have l2 := leb_len10 (zig (es.length : Int))
  have l3 := repsB_len rs; have l4 := excsB_len es
  unfold M12
  simp only [repsOf_el, excsOf_el, drop0]
  refine sat_need (rangeB_dec (rangeB_nat hn)) (sat_need (isReps_mk hr) (sat_need (isExcs_mk he) (sat_need ?_ (sat_need (rangeB_dec (rangeB_nat hm)) (sat_need ?_ (sat_need (isReps_mk hr) (sat_need (isExcs_mk he) (sat_need ?_ (sat_ret ?_)))))))))
  · simp only [preB, hr, he, Bool.and_true, Bool.and_eq_true, decide_eq_true_eq]
    have : Int.toNat 0 = 0 := rfl
    omega
  · apply decide_eq_true; simp only [bsz, List.length_append]; omega
  · simp only [preB, hr, he, Bool.and_true, Bool.and_eq_true, decide_eq_true_eq, List.length_append]
    have : Int.toNat 0 = 0 := rfl
    omega
  · simp only [batB, strA]
def K12 : List AV → Option (AV × List Bool) := K10
theorem f12_ok : PureOk Tryz.prog 12 K12 := by
  refine pureOk_of_exec_c (L := L12) prog_mixed Γ12_ok (fn := Tryz.f12) (c := codeOf Tryz.f12) (by kernel_rfl) (by kernel_rfl) (callFunc_enter (fn := Tryz.f12) (c := codeOf Tryz.f12) (by kernel_rfl) (by kernel_rfl) (by kernel_rfl)) (N := 1010) f12_loops ?_ ?_
  · intro args v cs h
    unfold K12 K10 at h
    split at h
    · cases h; rfl
    · cases h
  · intro args v cs h hc
    unfold K12 K10 at h
    split at h
    · rename_i n el m ee
      cases h
      have h1 : isReps n el = true := hc (isReps n el) (by simp)
      have h2 : isExcs m ee = true := hc (isExcs m ee) (by simp)
      have h3 : n ≤ 1000 := dec (hc (decide (n ≤ 1000)) (by simp))
      have h4 : m ≤ 1000 := dec (hc (decide (m ≤ 1000)) (by simp))
      obtain ⟨e1, e2⟩ := isReps_el h1
      obtain ⟨e3, e4⟩ := isExcs_el h2
      have hlen := repsOf_len n el
      have hlen2 := excsOf_len m ee
      generalize repsOf n el = rs at e1 e2 hlen ⊢
      generalize excsOf m ee = es at e3 e4 hlen2 ⊢
      subst hlen
      subst hlen2
      refine ⟨[barg rs es], .cons (Sees.agg (.cons (Sees.sl e1) (.cons (Sees.sl e3) .nil))) .nil, ?_⟩
      have hs := M12_sat rs es e2 e4 h3 h4
      rw [← M12_eq] at hs
      generalize execFn Tryz.prog Γ12 L12 1010 Tryz.f12 [barg rs es] = T at hs ⊢
      generalize batB rs es = l at hs ⊢
      exact Tr.sat_mono (fun r hr => ⟨by subst hr; rfl, Sees.of_eq hr⟩) hs
    · cases h

/-! ### the law -/
structure CSt where
  rs : List Rep
  es : List Exc
  rs' : List Rep
  es' : List Exc
  i : Int
deriving instance DecidableEq for Rep, Exc
def headC (x : CSt) : List AV × List (Option Ent) := ([.ptr 0 0, .ptr 1 0, intA .i64 x.i], [bent x.rs x.es, bent x.rs' x.es'])
def takeC : List AV × List (Option Ent) → Option (CSt × List Bool)
  | ([.ptr 0 0, .ptr 1 0, .c (.v (.int .i64 i))], [some (.cells [.c (.sl n 8 el), .c (.sl m 5 ee)] 32), some (.cells [.c (.sl n' 8 el'), .c (.sl m' 5 ee')] 32)]) =>
    some (⟨repsOf n el, excsOf m ee, repsOf n' el', excsOf m' ee', i⟩, [isReps n el, isExcs m ee, isReps n' el', isExcs m' ee'])
  | _ => none
def lpC (live : List Nat) (w : Way CSt) : LoopSt CSt CSt where
  nIn := { nt := 92, live := live }
  nOut := { nt := 92, live := live }
  head := headC
  take := takeC
  out := fun r => (.normal, headC r)
  takeR := fun q => match q with | (.normal, q) => takeC q | _ => none
  res := w.res
  pre := w.pre
def wC : Way CSt := ⟨fun x => x, fun _ => true⟩
theorem takeC_ok (q : List AV × List (Option Ent)) (x : CSt) (cs : List Bool) (h : takeC q = some (x, cs)) (hc : ∀ p ∈ cs, p) : SeesL q.1 (headC x).1 ∧ EntsEqv q.2 (headC x).2 := by
  unfold takeC at h
  split at h
  · rename_i i n el m ee n' el' m' ee'
    simp only [Option.some.injEq, Prod.mk.injEq] at h
    obtain ⟨rfl, rfl⟩ := h
    have e1 := (isReps_el (hc (isReps n el) (by simp))).1
    have e2 := (isExcs_el (hc (isExcs m ee) (by simp))).1
    have e3 := (isReps_el (hc (isReps n' el') (by simp))).1
    have e4 := (isExcs_el (hc (isExcs m' ee') (by simp))).1
    refine ⟨SeesL.refl _, ?_⟩
    simp only [headC, bent, repsOf_len, excsOf_len]
    exact .cons (.cells _ _ _ (.cons (Sees.sl e1) (.cons (Sees.sl e2) .nil))) (.cons (.cells _ _ _ (.cons (Sees.sl e3) (.cons (Sees.sl e4) .nil))) .nil)
  · cases h
theorem lpC_good (live : List Nat) (w : Way CSt) : (lpC live w).Good2 where
  take := takeC_ok
  takeR := by
    intro e q r cs h hc
    cases e with
    | normal => obtain ⟨h1, h2⟩ := takeC_ok q r cs h hc; exact ⟨rfl, h1, h2⟩
    | exit j => cases h
    | ret => cases h
  split := fun r Q h => h
end Go.Vse

set_option maxRecDepth 100000
namespace Go.Vse
open Go.Proofs
def stepC0 (rs : List Rep) (es : List Exc) (rs' : List Rep) (es' : List Exc) (i : Int) : Tr (CSt ⊕ CSt) :=
let x1 : Int := ↑rs.length
let x2 : Int := ↑rs'.length
let x3 : List Rep := repsOf rs.length (repEl rs)
let x4 : List Exc := excsOf es.length (excEl es)
let x5 : List Rep := repsOf rs'.length (repEl rs')
let x6 : List Exc := excsOf es'.length (excEl es')
Tr.ite (decide (i < x1))
  (Tr.need (decide (0 ≤ i ∧ i < x2))
    (Tr.need (decide (0 ≤ i ∧ i < x1))
      (Tr.ite
        (!andAll
            [(rs'.getD i.toNat default).k == (rs.getD i.toNat default).k, (rs'.getD i.toNat default).g == (rs.getD i.toNat default).g,
                (rs'.getD i.toNat default).f == (rs.getD i.toNat default).f, (rs'.getD i.toNat default).e == (rs.getD i.toNat default).e,
                (rs'.getD i.toNat default).d == (rs.getD i.toNat default).d, (rs'.getD i.toNat default).c == (rs.getD i.toNat default).c,
                (rs'.getD i.toNat default).b == (rs.getD i.toNat default).b, (rs'.getD i.toNat default).a == (rs.getD i.toNat default).a].reverse)
        (Tr.fail "out")
        (Tr.need (isReps rs.length (repEl rs))
          (Tr.need (isExcs es.length (excEl es))
            (Tr.need (isReps rs'.length (repEl rs'))
              (Tr.need (isExcs es'.length (excEl es')) (Tr.ret (Sum.inl { rs := x3, es := x4, rs' := x5, es' := x6, i := IntKind.i64.wrap (i + 1) })))))))))
  (Tr.need (isReps rs.length (repEl rs))
    (Tr.need (isExcs es.length (excEl es))
      (Tr.need (isReps rs'.length (repEl rs'))
        (Tr.need (isExcs es'.length (excEl es')) (Tr.ret (Sum.inr { rs := x3, es := x4, rs' := x5, es' := x6, i := i }))))))
def stepC2 (rs : List Rep) (es : List Exc) (rs' : List Rep) (es' : List Exc) (i : Int) : Tr (CSt ⊕ CSt) :=
let x1 : Int := ↑es.length
let x2 : Int := ↑es'.length
let x3 : List Rep := repsOf rs.length (repEl rs)
let x4 : List Exc := excsOf es.length (excEl es)
let x5 : List Rep := repsOf rs'.length (repEl rs')
let x6 : List Exc := excsOf es'.length (excEl es')
Tr.ite (decide (i < x1))
  (Tr.need (decide (0 ≤ i ∧ i < x2))
    (Tr.need (decide (0 ≤ i ∧ i < x1))
      (Tr.ite
        (!andAll
            [(es'.getD i.toNat default).e == (es.getD i.toNat default).e, (es'.getD i.toNat default).d == (es.getD i.toNat default).d,
                (es'.getD i.toNat default).c == (es.getD i.toNat default).c, (es'.getD i.toNat default).b == (es.getD i.toNat default).b,
                (es'.getD i.toNat default).a == (es.getD i.toNat default).a].reverse)
        (Tr.fail "out")
        (Tr.need (isReps rs.length (repEl rs))
          (Tr.need (isExcs es.length (excEl es))
            (Tr.need (isReps rs'.length (repEl rs'))
              (Tr.need (isExcs es'.length (excEl es')) (Tr.ret (Sum.inl { rs := x3, es := x4, rs' := x5, es' := x6, i := IntKind.i64.wrap (i + 1) })))))))))
  (Tr.need (isReps rs.length (repEl rs))
    (Tr.need (isExcs es.length (excEl es))
      (Tr.need (isReps rs'.length (repEl rs'))
        (Tr.need (isExcs es'.length (excEl es')) (Tr.ret (Sum.inr { rs := x3, es := x4, rs' := x5, es' := x6, i := i }))))))

theorem stepC0_eq (w : Way CSt) (x : CSt) : (exec Tryz.prog (fun _ => none) noL 1010 (loopOf 0 (codeOf Tryz.f5)) (mkSt (lpC [1, 4, 6] w).nIn ((lpC [1, 4, 6] w).head x))).bind ((lpC [1, 4, 6] w).fin 0 0) = stepC0 x.rs x.es x.rs' x.es' x.i := by
  obtain ⟨rs, es, rs', es', i⟩ := x
  kernel_rfl
theorem stepC2_eq (w : Way CSt) (x : CSt) : (exec Tryz.prog (fun _ => none) noL 1010 (loopOf 2 (codeOf Tryz.f5)) (mkSt (lpC [1, 4, 7] w).nIn ((lpC [1, 4, 7] w).head x))).bind ((lpC [1, 4, 7] w).fin 0 2) = stepC2 x.rs x.es x.rs' x.es' x.i := by
  obtain ⟨rs, es, rs', es', i⟩ := x
  kernel_rfl
def preC (x : CSt) (n : Nat) : Bool := decide (x.rs' = x.rs) && decide (x.es' = x.es) && decide (0 ≤ x.i) && decide (x.i ≤ (n : Nat)) && repsOk x.rs && excsOk x.es && decide (n ≤ 1000)
def wayC0 : Way CSt := ⟨fun x => { x with i := (x.rs.length : Nat) }, fun x => preC x x.rs.length⟩
def wayC2 : Way CSt := ⟨fun x => { x with i := (x.es.length : Nat) }, fun x => preC x x.es.length⟩
theorem stepC0_in (rs : List Rep) (es : List Exc) (hr : repsOk rs = true) (he : excsOk es = true) (i : Nat) (hi : i < rs.length) (hn : rs.length ≤ 1000) {R : CSt ⊕ CSt → Prop} (hin : R (.inl ⟨rs, es, rs, es, ((i + 1 : Nat) : Int)⟩)) : (stepC0 rs es rs es (i : Nat)).sat R := by
  have hw : IntKind.i64.wrap ((i : Int) + 1) = ((i + 1 : Nat) : Int) := by rw [wrap_i64 (by omega)]; omega
  unfold stepC0
  simp only [beq_self_eq_true, repsOf_el, excsOf_el, hw]
  exact sat_ite (fun _ => sat_need (decide_eq_true (by omega)) (sat_need (decide_eq_true (by omega)) (sat_ite (fun h => Bool.noConfusion h) (fun _ => sat_need (isReps_mk hr) (sat_need (isExcs_mk he) (sat_need (isReps_mk hr) (sat_need (isExcs_mk he) (sat_ret hin))))))))
    (fun h => absurd (show (i : Int) < (rs.length : Nat) by omega) (of_decide_eq_false h))
theorem runsC0 (rs : List Rep) (es : List Exc) (hr : repsOk rs = true) (he : excsOk es = true) (hn : rs.length ≤ 1000) (Q : CSt → Prop) (hq : Q ⟨rs, es, rs, es, (rs.length : Nat)⟩) : ∀ (k i : Nat), i + k = rs.length →
    RunsX (fun x : CSt => stepC0 x.rs x.es x.rs' x.es' x.i) Q (k + 1) ⟨rs, es, rs, es, (i : Nat)⟩
  | 0, i, hi => by
    obtain rfl : i = rs.length := by omega
    unfold RunsX
    change Tr.sat _ (stepC0 rs es rs es ((rs.length : Nat) : Int))
    unfold stepC0
    refine sat_ite (fun h => absurd (of_decide_eq_true h) (Int.lt_irrefl _)) (fun _ => sat_need (isReps_mk hr) (sat_need (isExcs_mk he) (sat_need (isReps_mk hr) (sat_need (isExcs_mk he) (sat_ret ?_)))))
    rw [repsOf_el, excsOf_el]
    exact hq
  | k + 1, i, hi => stepC0_in rs es hr he i (by omega) hn (runsC0 rs es hr he hn Q hq k (i + 1) (by omega))
theorem stepC2_in (rs : List Rep) (es : List Exc) (hr : repsOk rs = true) (he : excsOk es = true) (i : Nat) (hi : i < es.length) (hn : es.length ≤ 1000) {R : CSt ⊕ CSt → Prop} (hin : R (.inl ⟨rs, es, rs, es, ((i + 1 : Nat) : Int)⟩)) : (stepC2 rs es rs es (i : Nat)).sat R := by
  have hw : IntKind.i64.wrap ((i : Int) + 1) = ((i + 1 : Nat) : Int) := by rw [wrap_i64 (by omega)]; omega
  unfold stepC2
  simp only [beq_self_eq_true, repsOf_el, excsOf_el, hw]
  exact sat_ite (fun _ => sat_need (decide_eq_true (by omega)) (sat_need (decide_eq_true (by omega)) (sat_ite (fun h => Bool.noConfusion h) (fun _ => sat_need (isReps_mk hr) (sat_need (isExcs_mk he) (sat_need (isReps_mk hr) (sat_need (isExcs_mk he) (sat_ret hin))))))))
    (fun h => absurd (show (i : Int) < (es.length : Nat) by omega) (of_decide_eq_false h))
theorem runsC2 (rs : List Rep) (es : List Exc) (hr : repsOk rs = true) (he : excsOk es = true) (hn : es.length ≤ 1000) (Q : CSt → Prop) (hq : Q ⟨rs, es, rs, es, (es.length : Nat)⟩) : ∀ (k i : Nat), i + k = es.length →
    RunsX (fun x : CSt => stepC2 x.rs x.es x.rs' x.es' x.i) Q (k + 1) ⟨rs, es, rs, es, (i : Nat)⟩
  | 0, i, hi => by
    obtain rfl : i = es.length := by omega
    unfold RunsX
    change Tr.sat _ (stepC2 rs es rs es ((es.length : Nat) : Int))
    unfold stepC2
    refine sat_ite (fun h => absurd (of_decide_eq_true h) (Int.lt_irrefl _)) (fun _ => sat_need (isReps_mk hr) (sat_need (isExcs_mk he) (sat_need (isReps_mk hr) (sat_need (isExcs_mk he) (sat_ret ?_)))))
    rw [repsOf_el, excsOf_el]
    exact hq
  | k + 1, i, hi => stepC2_in rs es hr he i (by omega) hn (runsC2 rs es hr he hn Q hq k (i + 1) (by omega))

def L5 : Nat → Option (St → Tr (Ex × St)) := fun id => bif Nat.beq id 0 then some ((lpC [1, 4, 6] wayC0).g 0) else bif Nat.beq id 2 then some ((lpC [1, 4, 7] wayC2).g 0) else none
theorem f5_loops : BlocksOk Tryz.prog 0 L5 (codeOf Tryz.f5) := by
  refine blocksOk_of (d := fun id => Nat.beq id 0 || Nat.beq id 2) (fun id => by unfold L5; cases Nat.beq id 0 <;> cases Nat.beq id 2 <;> rfl) _ ?_
  have hb : blocksOf (fun id => Nat.beq id 0 || Nat.beq id 2) (codeOf Tryz.f5) = [(0, .loop (loopOf 0 (codeOf Tryz.f5))), (2, .loop (loopOf 2 (codeOf Tryz.f5)))] := by kernel_rfl
  rw [hb]
  intro p hp g hg
  simp only [List.mem_cons, List.not_mem_nil, or_false] at hp
  rcases hp with rfl | rfl
  · have hh : L5 0 = some ((lpC [1, 4, 6] wayC0).g 0) := rfl
    rw [hh] at hg
    obtain rfl : g = (lpC [1, 4, 6] wayC0).g 0 := (Option.some.inj hg).symm
    refine LoopSt.ok2 (N := 1010) prog_mixed noΓ_ok (L := noL) (blocksOk_none 0 _) (lpC_good _ _) (stepC0_eq wayC0) ?_
    rintro ⟨rs, es, rs', es', i⟩ hx
    have hx : preC ⟨rs, es, rs', es', i⟩ rs.length = true := hx
    simp only [preC, Bool.and_eq_true, decide_eq_true_eq] at hx
    obtain ⟨⟨⟨⟨⟨⟨rfl, rfl⟩, h1⟩, h2⟩, h3⟩, h4⟩, h5⟩ := hx
    obtain ⟨i, rfl⟩ : ∃ n : Nat, i = n := ⟨i.toNat, by omega⟩
    exact ⟨_, runsC0 rs' es' h3 h4 h5 (· = wayC0.res ⟨rs', es', rs', es', i⟩) rfl (rs'.length - i) i (by omega)⟩
  · have hh : L5 2 = some ((lpC [1, 4, 7] wayC2).g 0) := rfl
    rw [hh] at hg
    obtain rfl : g = (lpC [1, 4, 7] wayC2).g 0 := (Option.some.inj hg).symm
    refine LoopSt.ok2 (N := 1010) prog_mixed noΓ_ok (L := noL) (blocksOk_none 0 _) (lpC_good _ _) (stepC2_eq wayC2) ?_
    rintro ⟨rs, es, rs', es', i⟩ hx
    have hx : preC ⟨rs, es, rs', es', i⟩ es.length = true := hx
    simp only [preC, Bool.and_eq_true, decide_eq_true_eq] at hx
    obtain ⟨⟨⟨⟨⟨⟨rfl, rfl⟩, h1⟩, h2⟩, h3⟩, h4⟩, h5⟩ := hx
    obtain ⟨i, rfl⟩ : ∃ n : Nat, i = n := ⟨i.toNat, by omega⟩
    exact ⟨_, runsC2 rs' es' h3 h4 h5 (· = wayC2.res ⟨rs', es', rs', es', i⟩) rfl (es'.length - i) i (by omega)⟩
def Γ5 : FuncId → Option Spec := fun f => bif Nat.beq f 7 then some (pureSpec knownK) else bif Nat.beq f 10 then some (pureSpec K10) else bif Nat.beq f 11 then some (pureSpec K11) else bif Nat.beq f 12 then some (pureSpec K12) else none
theorem Γ5_ok : ∀ f s, Γ5 f = some s → SpecOk Tryz.prog f s := step_ok known_ok.spec (step_ok f10_ok.spec (step_ok f11_ok.spec (one_ok f12_ok.spec)))
end Go.Vse

set_option maxRecDepth 100000
namespace Go.Vse
open Go.Proofs
def M5 (rs : List Rep) (es : List Exc) : Tr AV :=
let x1 : List Rep := repsOf rs.length (repEl rs)
let x2 : List Exc := excsOf es.length (excEl es)
let x3 : List UInt8 := batB x1 x2
let x4 : ByteArray := { data := { toList := x3 } }
let x5 : Int := rdV x4 0
let x6 : Int := ↑x3.length
let x7 : Int := rdP x4 0
let x8 : Int := x6 - x7
let x9 : Nat := x5.toNat
let x10 : Int := p2 x4
let x11 : Int := rdV x4 x10
let x12 : Int := rdP x4 x10
let x13 : Int := x6 - x12
let x14 : Nat := x11.toNat
let x15 : Int := p3 x4
let x16 : List Rep := repsOf x9 (repEl (rs11 x4))
let x17 : List Exc := excsOf x14 (excEl (es11 x4))
let x18 : Nat := x1.length
let x19 : Nat := x2.length
let x20 : Nat := x16.length
let x21 : Nat := x17.length
let x22 : List Exc := excsOf x19 (excEl x2)
let x23 : Int := ↑es.length
let x24 : Int := ↑rs.length
Tr.ite false
  (Tr.ite true
    (Tr.ite true (Tr.ret (AV.c (IV.v (Value.bool true))))
      (Tr.need (isReps rs.length (repEl rs))
        (Tr.need (isExcs es.length (excEl es))
          (Tr.need (decide (rs.length ≤ 1000))
            (Tr.need (decide (es.length ≤ 1000))
              (Tr.need (short x4)
                (Tr.need (rdG x4 0)
                  (Tr.need (decide (0 ≤ x5))
                    (Tr.need (decide (x5 ≤ x8))
                      (Tr.need (decide (x7 ≤ x6))
                        (Tr.need (decide (x5 ≤ 1000))
                          (Tr.need (goodReps x4 x7 x9)
                            (Tr.need (decide (0 ≤ x10))
                              (Tr.need (rdG x4 x10)
                                (Tr.need (decide (0 ≤ x11))
                                  (Tr.need (decide (x11 ≤ x13))
                                    (Tr.need (decide (x12 ≤ x6))
                                      (Tr.need (decide (x11 ≤ 1000))
                                        (Tr.need (goodExcs x4 x12 x14)
                                          (Tr.need (decide (x15 = x6))
                                            (Tr.need (isReps rs.length (repEl rs))
                                              (Tr.need (isExcs es.length (excEl es))
                                                (Tr.need (decide (rs.length ≤ 1000))
                                                  (Tr.need (decide (es.length ≤ 1000))
                                                    (Tr.ite (!x3 == x3)
                                                      (Tr.ite true
                                                        (Tr.ite true
                                                          (Tr.ite true (Tr.ret (AV.c (IV.v (Value.bool false))))
                                                            (Tr.need (isReps rs.length (repEl rs))
                                                              (Tr.need (isExcs es.length (excEl es))
                                                                (Tr.need (isReps x9 (repEl (rs11 x4)))
                                                                  (Tr.need (isExcs x14 (excEl (es11 x4)))
                                                                    (Tr.need (preC { rs := x1, es := x2, rs' := x16, es' := x17, i := 0 } x18)
                                                                      (Tr.need (isReps x18 (repEl x1))
                                                                        (Tr.need (isExcs x19 (excEl x2))
                                                                          (Tr.need (isReps x20 (repEl x16))
                                                                            (Tr.need (isExcs x21 (excEl x17))
                                                                              (Tr.need
                                                                                (preC
                                                                                  { rs := repsOf x18 (repEl x1), es := x22, rs' := repsOf x20 (repEl x16),
                                                                                    es' := excsOf x21 (excEl x17), i := 0 }
                                                                                  x22.length)
                                                                                (Tr.ret (AV.c (IV.v (Value.bool true)))))))))))))))
                                                          (Tr.ite (bif false then true else ↑x14 != x23) (Tr.ret (AV.c (IV.v (Value.bool false))))
                                                            (Tr.need (isReps rs.length (repEl rs))
                                                              (Tr.need (isExcs es.length (excEl es))
                                                                (Tr.need (isReps x9 (repEl (rs11 x4)))
                                                                  (Tr.need (isExcs x14 (excEl (es11 x4)))
                                                                    (Tr.need (preC { rs := x1, es := x2, rs' := x16, es' := x17, i := 0 } x18)
                                                                      (Tr.need (isReps x18 (repEl x1))
                                                                        (Tr.need (isExcs x19 (excEl x2))
                                                                          (Tr.need (isReps x20 (repEl x16))
                                                                            (Tr.need (isExcs x21 (excEl x17))
                                                                              (Tr.need
                                                                                (preC
                                                                                  { rs := repsOf x18 (repEl x1), es := x22, rs' := repsOf x20 (repEl x16),
                                                                                    es' := excsOf x21 (excEl x17), i := 0 }
                                                                                  x22.length)
                                                                                (Tr.ret (AV.c (IV.v (Value.bool true))))))))))))))))
                                                        (Tr.ite (bif false then true else ↑x9 != x24)
                                                          (Tr.ite true (Tr.ret (AV.c (IV.v (Value.bool false))))
                                                            (Tr.need (isReps rs.length (repEl rs))
                                                              (Tr.need (isExcs es.length (excEl es))
                                                                (Tr.need (isReps x9 (repEl (rs11 x4)))
                                                                  (Tr.need (isExcs x14 (excEl (es11 x4)))
                                                                    (Tr.need (preC { rs := x1, es := x2, rs' := x16, es' := x17, i := 0 } x18)
                                                                      (Tr.need (isReps x18 (repEl x1))
                                                                        (Tr.need (isExcs x19 (excEl x2))
                                                                          (Tr.need (isReps x20 (repEl x16))
                                                                            (Tr.need (isExcs x21 (excEl x17))
                                                                              (Tr.need
                                                                                (preC
                                                                                  { rs := repsOf x18 (repEl x1), es := x22, rs' := repsOf x20 (repEl x16),
                                                                                    es' := excsOf x21 (excEl x17), i := 0 }
                                                                                  x22.length)
                                                                                (Tr.ret (AV.c (IV.v (Value.bool true)))))))))))))))
                                                          (Tr.ite (bif false then true else ↑x14 != x23) (Tr.ret (AV.c (IV.v (Value.bool false))))
                                                            (Tr.need (isReps rs.length (repEl rs))
                                                              (Tr.need (isExcs es.length (excEl es))
                                                                (Tr.need (isReps x9 (repEl (rs11 x4)))
                                                                  (Tr.need (isExcs x14 (excEl (es11 x4)))
                                                                    (Tr.need (preC { rs := x1, es := x2, rs' := x16, es' := x17, i := 0 } x18)
                                                                      (Tr.need (isReps x18 (repEl x1))
                                                                        (Tr.need (isExcs x19 (excEl x2))
                                                                          (Tr.need (isReps x20 (repEl x16))
                                                                            (Tr.need (isExcs x21 (excEl x17))
                                                                              (Tr.need
                                                                                (preC
                                                                                  { rs := repsOf x18 (repEl x1), es := x22, rs' := repsOf x20 (repEl x16),
                                                                                    es' := excsOf x21 (excEl x17), i := 0 }
                                                                                  x22.length)
                                                                                (Tr.ret (AV.c (IV.v (Value.bool true)))))))))))))))))
                                                      (Tr.ite false
                                                        (Tr.ite true
                                                          (Tr.ite true (Tr.ret (AV.c (IV.v (Value.bool false))))
                                                            (Tr.need (isReps rs.length (repEl rs))
                                                              (Tr.need (isExcs es.length (excEl es))
                                                                (Tr.need (isReps x9 (repEl (rs11 x4)))
                                                                  (Tr.need (isExcs x14 (excEl (es11 x4)))
                                                                    (Tr.need (preC { rs := x1, es := x2, rs' := x16, es' := x17, i := 0 } x18)
                                                                      (Tr.need (isReps x18 (repEl x1))
                                                                        (Tr.need (isExcs x19 (excEl x2))
                                                                          (Tr.need (isReps x20 (repEl x16))
                                                                            (Tr.need (isExcs x21 (excEl x17))
                                                                              (Tr.need
                                                                                (preC
                                                                                  { rs := repsOf x18 (repEl x1), es := x22, rs' := repsOf x20 (repEl x16),
                                                                                    es' := excsOf x21 (excEl x17), i := 0 }
                                                                                  x22.length)
                                                                                (Tr.ret (AV.c (IV.v (Value.bool true)))))))))))))))
                                                          (Tr.ite (bif false then true else ↑x14 != x23) (Tr.ret (AV.c (IV.v (Value.bool false))))
                                                            (Tr.need (isReps rs.length (repEl rs))
                                                              (Tr.need (isExcs es.length (excEl es))
                                                                (Tr.need (isReps x9 (repEl (rs11 x4)))
                                                                  (Tr.need (isExcs x14 (excEl (es11 x4)))
                                                                    (Tr.need (preC { rs := x1, es := x2, rs' := x16, es' := x17, i := 0 } x18)
                                                                      (Tr.need (isReps x18 (repEl x1))
                                                                        (Tr.need (isExcs x19 (excEl x2))
                                                                          (Tr.need (isReps x20 (repEl x16))
                                                                            (Tr.need (isExcs x21 (excEl x17))
                                                                              (Tr.need
                                                                                (preC
                                                                                  { rs := repsOf x18 (repEl x1), es := x22, rs' := repsOf x20 (repEl x16),
                                                                                    es' := excsOf x21 (excEl x17), i := 0 }
                                                                                  x22.length)
                                                                                (Tr.ret (AV.c (IV.v (Value.bool true))))))))))))))))
                                                        (Tr.ite (bif false then true else ↑x9 != x24)
                                                          (Tr.ite true (Tr.ret (AV.c (IV.v (Value.bool false))))
                                                            (Tr.need (isReps rs.length (repEl rs))
                                                              (Tr.need (isExcs es.length (excEl es))
                                                                (Tr.need (isReps x9 (repEl (rs11 x4)))
                                                                  (Tr.need (isExcs x14 (excEl (es11 x4)))
                                                                    (Tr.need (preC { rs := x1, es := x2, rs' := x16, es' := x17, i := 0 } x18)
                                                                      (Tr.need (isReps x18 (repEl x1))
                                                                        (Tr.need (isExcs x19 (excEl x2))
                                                                          (Tr.need (isReps x20 (repEl x16))
                                                                            (Tr.need (isExcs x21 (excEl x17))
                                                                              (Tr.need
                                                                                (preC
                                                                                  { rs := repsOf x18 (repEl x1), es := x22, rs' := repsOf x20 (repEl x16),
                                                                                    es' := excsOf x21 (excEl x17), i := 0 }
                                                                                  x22.length)
                                                                                (Tr.ret (AV.c (IV.v (Value.bool true)))))))))))))))
                                                          (Tr.ite (bif false then true else ↑x14 != x23) (Tr.ret (AV.c (IV.v (Value.bool false))))
                                                            (Tr.need (isReps rs.length (repEl rs))
                                                              (Tr.need (isExcs es.length (excEl es))
                                                                (Tr.need (isReps x9 (repEl (rs11 x4)))
                                                                  (Tr.need (isExcs x14 (excEl (es11 x4)))
                                                                    (Tr.need (preC { rs := x1, es := x2, rs' := x16, es' := x17, i := 0 } x18)
                                                                      (Tr.need (isReps x18 (repEl x1))
                                                                        (Tr.need (isExcs x19 (excEl x2))
                                                                          (Tr.need (isReps x20 (repEl x16))
                                                                            (Tr.need (isExcs x21 (excEl x17))
                                                                              (Tr.need
                                                                                (preC
                                                                                  { rs := repsOf x18 (repEl x1), es := x22, rs' := repsOf x20 (repEl x16),
                                                                                    es' := excsOf x21 (excEl x17), i := 0 }
                                                                                  x22.length)
                                                                                (Tr.ret (AV.c (IV.v (Value.bool true))))))))))))))))))))))))))))))))))))))))))
    (Tr.ite (bif false then true else decide (x23 > 20)) (Tr.ret (AV.c (IV.v (Value.bool true))))
      (Tr.need (isReps rs.length (repEl rs))
        (Tr.need (isExcs es.length (excEl es))
          (Tr.need (decide (rs.length ≤ 1000))
            (Tr.need (decide (es.length ≤ 1000))
              (Tr.need (short x4)
                (Tr.need (rdG x4 0)
                  (Tr.need (decide (0 ≤ x5))
                    (Tr.need (decide (x5 ≤ x8))
                      (Tr.need (decide (x7 ≤ x6))
                        (Tr.need (decide (x5 ≤ 1000))
                          (Tr.need (goodReps x4 x7 x9)
                            (Tr.need (decide (0 ≤ x10))
                              (Tr.need (rdG x4 x10)
                                (Tr.need (decide (0 ≤ x11))
                                  (Tr.need (decide (x11 ≤ x13))
                                    (Tr.need (decide (x12 ≤ x6))
                                      (Tr.need (decide (x11 ≤ 1000))
                                        (Tr.need (goodExcs x4 x12 x14)
                                          (Tr.need (decide (x15 = x6))
                                            (Tr.need (isReps rs.length (repEl rs))
                                              (Tr.need (isExcs es.length (excEl es))
                                                (Tr.need (decide (rs.length ≤ 1000))
                                                  (Tr.need (decide (es.length ≤ 1000))
                                                    (Tr.ite (!x3 == x3)
                                                      (Tr.ite true
                                                        (Tr.ite true
                                                          (Tr.ite true (Tr.ret (AV.c (IV.v (Value.bool false))))
                                                            (Tr.need (isReps rs.length (repEl rs))
                                                              (Tr.need (isExcs es.length (excEl es))
                                                                (Tr.need (isReps x9 (repEl (rs11 x4)))
                                                                  (Tr.need (isExcs x14 (excEl (es11 x4)))
                                                                    (Tr.need (preC { rs := x1, es := x2, rs' := x16, es' := x17, i := 0 } x18)
                                                                      (Tr.need (isReps x18 (repEl x1))
                                                                        (Tr.need (isExcs x19 (excEl x2))
                                                                          (Tr.need (isReps x20 (repEl x16))
                                                                            (Tr.need (isExcs x21 (excEl x17))
                                                                              (Tr.need
                                                                                (preC
                                                                                  { rs := repsOf x18 (repEl x1), es := x22, rs' := repsOf x20 (repEl x16),
                                                                                    es' := excsOf x21 (excEl x17), i := 0 }
                                                                                  x22.length)
                                                                                (Tr.ret (AV.c (IV.v (Value.bool true)))))))))))))))
                                                          (Tr.ite (bif false then true else ↑x14 != x23) (Tr.ret (AV.c (IV.v (Value.bool false))))
                                                            (Tr.need (isReps rs.length (repEl rs))
                                                              (Tr.need (isExcs es.length (excEl es))
                                                                (Tr.need (isReps x9 (repEl (rs11 x4)))
                                                                  (Tr.need (isExcs x14 (excEl (es11 x4)))
                                                                    (Tr.need (preC { rs := x1, es := x2, rs' := x16, es' := x17, i := 0 } x18)
                                                                      (Tr.need (isReps x18 (repEl x1))
                                                                        (Tr.need (isExcs x19 (excEl x2))
                                                                          (Tr.need (isReps x20 (repEl x16))
                                                                            (Tr.need (isExcs x21 (excEl x17))
                                                                              (Tr.need
                                                                                (preC
                                                                                  { rs := repsOf x18 (repEl x1), es := x22, rs' := repsOf x20 (repEl x16),
                                                                                    es' := excsOf x21 (excEl x17), i := 0 }
                                                                                  x22.length)
                                                                                (Tr.ret (AV.c (IV.v (Value.bool true))))))))))))))))
                                                        (Tr.ite (bif false then true else ↑x9 != x24)
                                                          (Tr.ite true (Tr.ret (AV.c (IV.v (Value.bool false))))
                                                            (Tr.need (isReps rs.length (repEl rs))
                                                              (Tr.need (isExcs es.length (excEl es))
                                                                (Tr.need (isReps x9 (repEl (rs11 x4)))
                                                                  (Tr.need (isExcs x14 (excEl (es11 x4)))
                                                                    (Tr.need (preC { rs := x1, es := x2, rs' := x16, es' := x17, i := 0 } x18)
                                                                      (Tr.need (isReps x18 (repEl x1))
                                                                        (Tr.need (isExcs x19 (excEl x2))
                                                                          (Tr.need (isReps x20 (repEl x16))
                                                                            (Tr.need (isExcs x21 (excEl x17))
                                                                              (Tr.need
                                                                                (preC
                                                                                  { rs := repsOf x18 (repEl x1), es := x22, rs' := repsOf x20 (repEl x16),
                                                                                    es' := excsOf x21 (excEl x17), i := 0 }
                                                                                  x22.length)
                                                                                (Tr.ret (AV.c (IV.v (Value.bool true)))))))))))))))
                                                          (Tr.ite (bif false then true else ↑x14 != x23) (Tr.ret (AV.c (IV.v (Value.bool false))))
                                                            (Tr.need (isReps rs.length (repEl rs))
                                                              (Tr.need (isExcs es.length (excEl es))
                                                                (Tr.need (isReps x9 (repEl (rs11 x4)))
                                                                  (Tr.need (isExcs x14 (excEl (es11 x4)))
                                                                    (Tr.need (preC { rs := x1, es := x2, rs' := x16, es' := x17, i := 0 } x18)
                                                                      (Tr.need (isReps x18 (repEl x1))
                                                                        (Tr.need (isExcs x19 (excEl x2))
                                                                          (Tr.need (isReps x20 (repEl x16))
                                                                            (Tr.need (isExcs x21 (excEl x17))
                                                                              (Tr.need
                                                                                (preC
                                                                                  { rs := repsOf x18 (repEl x1), es := x22, rs' := repsOf x20 (repEl x16),
                                                                                    es' := excsOf x21 (excEl x17), i := 0 }
                                                                                  x22.length)
                                                                                (Tr.ret (AV.c (IV.v (Value.bool true)))))))))))))))))
                                                      (Tr.ite false
                                                        (Tr.ite true
                                                          (Tr.ite true (Tr.ret (AV.c (IV.v (Value.bool false))))
                                                            (Tr.need (isReps rs.length (repEl rs))
                                                              (Tr.need (isExcs es.length (excEl es))
                                                                (Tr.need (isReps x9 (repEl (rs11 x4)))
                                                                  (Tr.need (isExcs x14 (excEl (es11 x4)))
                                                                    (Tr.need (preC { rs := x1, es := x2, rs' := x16, es' := x17, i := 0 } x18)
                                                                      (Tr.need (isReps x18 (repEl x1))
                                                                        (Tr.need (isExcs x19 (excEl x2))
                                                                          (Tr.need (isReps x20 (repEl x16))
                                                                            (Tr.need (isExcs x21 (excEl x17))
                                                                              (Tr.need
                                                                                (preC
                                                                                  { rs := repsOf x18 (repEl x1), es := x22, rs' := repsOf x20 (repEl x16),
                                                                                    es' := excsOf x21 (excEl x17), i := 0 }
                                                                                  x22.length)
                                                                                (Tr.ret (AV.c (IV.v (Value.bool true)))))))))))))))
                                                          (Tr.ite (bif false then true else ↑x14 != x23) (Tr.ret (AV.c (IV.v (Value.bool false))))
                                                            (Tr.need (isReps rs.length (repEl rs))
                                                              (Tr.need (isExcs es.length (excEl es))
                                                                (Tr.need (isReps x9 (repEl (rs11 x4)))
                                                                  (Tr.need (isExcs x14 (excEl (es11 x4)))
                                                                    (Tr.need (preC { rs := x1, es := x2, rs' := x16, es' := x17, i := 0 } x18)
                                                                      (Tr.need (isReps x18 (repEl x1))
                                                                        (Tr.need (isExcs x19 (excEl x2))
                                                                          (Tr.need (isReps x20 (repEl x16))
                                                                            (Tr.need (isExcs x21 (excEl x17))
                                                                              (Tr.need
                                                                                (preC
                                                                                  { rs := repsOf x18 (repEl x1), es := x22, rs' := repsOf x20 (repEl x16),
                                                                                    es' := excsOf x21 (excEl x17), i := 0 }
                                                                                  x22.length)
                                                                                (Tr.ret (AV.c (IV.v (Value.bool true))))))))))))))))
                                                        (Tr.ite (bif false then true else ↑x9 != x24)
                                                          (Tr.ite true (Tr.ret (AV.c (IV.v (Value.bool false))))
                                                            (Tr.need (isReps rs.length (repEl rs))
                                                              (Tr.need (isExcs es.length (excEl es))
                                                                (Tr.need (isReps x9 (repEl (rs11 x4)))
                                                                  (Tr.need (isExcs x14 (excEl (es11 x4)))
                                                                    (Tr.need (preC { rs := x1, es := x2, rs' := x16, es' := x17, i := 0 } x18)
                                                                      (Tr.need (isReps x18 (repEl x1))
                                                                        (Tr.need (isExcs x19 (excEl x2))
                                                                          (Tr.need (isReps x20 (repEl x16))
                                                                            (Tr.need (isExcs x21 (excEl x17))
                                                                              (Tr.need
                                                                                (preC
                                                                                  { rs := repsOf x18 (repEl x1), es := x22, rs' := repsOf x20 (repEl x16),
                                                                                    es' := excsOf x21 (excEl x17), i := 0 }
                                                                                  x22.length)
                                                                                (Tr.ret (AV.c (IV.v (Value.bool true)))))))))))))))
                                                          (Tr.ite (bif false then true else ↑x14 != x23) (Tr.ret (AV.c (IV.v (Value.bool false))))
                                                            (Tr.need (isReps rs.length (repEl rs))
                                                              (Tr.need (isExcs es.length (excEl es))
                                                                (Tr.need (isReps x9 (repEl (rs11 x4)))
                                                                  (Tr.need (isExcs x14 (excEl (es11 x4)))
                                                                    (Tr.need (preC { rs := x1, es := x2, rs' := x16, es' := x17, i := 0 } x18)
                                                                      (Tr.need (isReps x18 (repEl x1))
                                                                        (Tr.need (isExcs x19 (excEl x2))
                                                                          (Tr.need (isReps x20 (repEl x16))
                                                                            (Tr.need (isExcs x21 (excEl x17))
                                                                              (Tr.need
                                                                                (preC
                                                                                  { rs := repsOf x18 (repEl x1), es := x22, rs' := repsOf x20 (repEl x16),
                                                                                    es' := excsOf x21 (excEl x17), i := 0 }
                                                                                  x22.length)
                                                                                (Tr.ret (AV.c (IV.v (Value.bool true)))))))))))))))))))))))))))))))))))))))))))
  (Tr.ite (bif false then true else decide (x24 > 20))
    (Tr.ite true (Tr.ret (AV.c (IV.v (Value.bool true))))
      (Tr.need (isReps rs.length (repEl rs))
        (Tr.need (isExcs es.length (excEl es))
          (Tr.need (decide (rs.length ≤ 1000))
            (Tr.need (decide (es.length ≤ 1000))
              (Tr.need (short x4)
                (Tr.need (rdG x4 0)
                  (Tr.need (decide (0 ≤ x5))
                    (Tr.need (decide (x5 ≤ x8))
                      (Tr.need (decide (x7 ≤ x6))
                        (Tr.need (decide (x5 ≤ 1000))
                          (Tr.need (goodReps x4 x7 x9)
                            (Tr.need (decide (0 ≤ x10))
                              (Tr.need (rdG x4 x10)
                                (Tr.need (decide (0 ≤ x11))
                                  (Tr.need (decide (x11 ≤ x13))
                                    (Tr.need (decide (x12 ≤ x6))
                                      (Tr.need (decide (x11 ≤ 1000))
                                        (Tr.need (goodExcs x4 x12 x14)
                                          (Tr.need (decide (x15 = x6))
                                            (Tr.need (isReps rs.length (repEl rs))
                                              (Tr.need (isExcs es.length (excEl es))
                                                (Tr.need (decide (rs.length ≤ 1000))
                                                  (Tr.need (decide (es.length ≤ 1000))
                                                    (Tr.ite (!x3 == x3)
                                                      (Tr.ite true
                                                        (Tr.ite true
                                                          (Tr.ite true (Tr.ret (AV.c (IV.v (Value.bool false))))
                                                            (Tr.need (isReps rs.length (repEl rs))
                                                              (Tr.need (isExcs es.length (excEl es))
                                                                (Tr.need (isReps x9 (repEl (rs11 x4)))
                                                                  (Tr.need (isExcs x14 (excEl (es11 x4)))
                                                                    (Tr.need (preC { rs := x1, es := x2, rs' := x16, es' := x17, i := 0 } x18)
                                                                      (Tr.need (isReps x18 (repEl x1))
                                                                        (Tr.need (isExcs x19 (excEl x2))
                                                                          (Tr.need (isReps x20 (repEl x16))
                                                                            (Tr.need (isExcs x21 (excEl x17))
                                                                              (Tr.need
                                                                                (preC
                                                                                  { rs := repsOf x18 (repEl x1), es := x22, rs' := repsOf x20 (repEl x16),
                                                                                    es' := excsOf x21 (excEl x17), i := 0 }
                                                                                  x22.length)
                                                                                (Tr.ret (AV.c (IV.v (Value.bool true)))))))))))))))
                                                          (Tr.ite (bif false then true else ↑x14 != x23) (Tr.ret (AV.c (IV.v (Value.bool false))))
                                                            (Tr.need (isReps rs.length (repEl rs))
                                                              (Tr.need (isExcs es.length (excEl es))
                                                                (Tr.need (isReps x9 (repEl (rs11 x4)))
                                                                  (Tr.need (isExcs x14 (excEl (es11 x4)))
                                                                    (Tr.need (preC { rs := x1, es := x2, rs' := x16, es' := x17, i := 0 } x18)
                                                                      (Tr.need (isReps x18 (repEl x1))
                                                                        (Tr.need (isExcs x19 (excEl x2))
                                                                          (Tr.need (isReps x20 (repEl x16))
                                                                            (Tr.need (isExcs x21 (excEl x17))
                                                                              (Tr.need
                                                                                (preC
                                                                                  { rs := repsOf x18 (repEl x1), es := x22, rs' := repsOf x20 (repEl x16),
                                                                                    es' := excsOf x21 (excEl x17), i := 0 }
                                                                                  x22.length)
                                                                                (Tr.ret (AV.c (IV.v (Value.bool true))))))))))))))))
                                                        (Tr.ite (bif false then true else ↑x9 != x24)
                                                          (Tr.ite true (Tr.ret (AV.c (IV.v (Value.bool false))))
                                                            (Tr.need (isReps rs.length (repEl rs))
                                                              (Tr.need (isExcs es.length (excEl es))
                                                                (Tr.need (isReps x9 (repEl (rs11 x4)))
                                                                  (Tr.need (isExcs x14 (excEl (es11 x4)))
                                                                    (Tr.need (preC { rs := x1, es := x2, rs' := x16, es' := x17, i := 0 } x18)
                                                                      (Tr.need (isReps x18 (repEl x1))
                                                                        (Tr.need (isExcs x19 (excEl x2))
                                                                          (Tr.need (isReps x20 (repEl x16))
                                                                            (Tr.need (isExcs x21 (excEl x17))
                                                                              (Tr.need
                                                                                (preC
                                                                                  { rs := repsOf x18 (repEl x1), es := x22, rs' := repsOf x20 (repEl x16),
                                                                                    es' := excsOf x21 (excEl x17), i := 0 }
                                                                                  x22.length)
                                                                                (Tr.ret (AV.c (IV.v (Value.bool true)))))))))))))))
                                                          (Tr.ite (bif false then true else ↑x14 != x23) (Tr.ret (AV.c (IV.v (Value.bool false))))
                                                            (Tr.need (isReps rs.length (repEl rs))
                                                              (Tr.need (isExcs es.length (excEl es))
                                                                (Tr.need (isReps x9 (repEl (rs11 x4)))
                                                                  (Tr.need (isExcs x14 (excEl (es11 x4)))
                                                                    (Tr.need (preC { rs := x1, es := x2, rs' := x16, es' := x17, i := 0 } x18)
                                                                      (Tr.need (isReps x18 (repEl x1))
                                                                        (Tr.need (isExcs x19 (excEl x2))
                                                                          (Tr.need (isReps x20 (repEl x16))
                                                                            (Tr.need (isExcs x21 (excEl x17))
                                                                              (Tr.need
                                                                                (preC
                                                                                  { rs := repsOf x18 (repEl x1), es := x22, rs' := repsOf x20 (repEl x16),
                                                                                    es' := excsOf x21 (excEl x17), i := 0 }
                                                                                  x22.length)
                                                                                (Tr.ret (AV.c (IV.v (Value.bool true)))))))))))))))))
                                                      (Tr.ite false
                                                        (Tr.ite true
                                                          (Tr.ite true (Tr.ret (AV.c (IV.v (Value.bool false))))
                                                            (Tr.need (isReps rs.length (repEl rs))
                                                              (Tr.need (isExcs es.length (excEl es))
                                                                (Tr.need (isReps x9 (repEl (rs11 x4)))
                                                                  (Tr.need (isExcs x14 (excEl (es11 x4)))
                                                                    (Tr.need (preC { rs := x1, es := x2, rs' := x16, es' := x17, i := 0 } x18)
                                                                      (Tr.need (isReps x18 (repEl x1))
                                                                        (Tr.need (isExcs x19 (excEl x2))
                                                                          (Tr.need (isReps x20 (repEl x16))
                                                                            (Tr.need (isExcs x21 (excEl x17))
                                                                              (Tr.need
                                                                                (preC
                                                                                  { rs := repsOf x18 (repEl x1), es := x22, rs' := repsOf x20 (repEl x16),
                                                                                    es' := excsOf x21 (excEl x17), i := 0 }
                                                                                  x22.length)
                                                                                (Tr.ret (AV.c (IV.v (Value.bool true)))))))))))))))
                                                          (Tr.ite (bif false then true else ↑x14 != x23) (Tr.ret (AV.c (IV.v (Value.bool false))))
                                                            (Tr.need (isReps rs.length (repEl rs))
                                                              (Tr.need (isExcs es.length (excEl es))
                                                                (Tr.need (isReps x9 (repEl (rs11 x4)))
                                                                  (Tr.need (isExcs x14 (excEl (es11 x4)))
                                                                    (Tr.need (preC { rs := x1, es := x2, rs' := x16, es' := x17, i := 0 } x18)
                                                                      (Tr.need (isReps x18 (repEl x1))
                                                                        (Tr.need (isExcs x19 (excEl x2))
                                                                          (Tr.need (isReps x20 (repEl x16))
                                                                            (Tr.need (isExcs x21 (excEl x17))
                                                                              (Tr.need
                                                                                (preC
                                                                                  { rs := repsOf x18 (repEl x1), es := x22, rs' := repsOf x20 (repEl x16),
                                                                                    es' := excsOf x21 (excEl x17), i := 0 }
                                                                                  x22.length)
                                                                                (Tr.ret (AV.c (IV.v (Value.bool true))))))))))))))))
                                                        (Tr.ite (bif false then true else ↑x9 != x24)
                                                          (Tr.ite true (Tr.ret (AV.c (IV.v (Value.bool false))))
                                                            (Tr.need (isReps rs.length (repEl rs))
                                                              (Tr.need (isExcs es.length (excEl es))
                                                                (Tr.need (isReps x9 (repEl (rs11 x4)))
                                                                  (Tr.need (isExcs x14 (excEl (es11 x4)))
                                                                    (Tr.need (preC { rs := x1, es := x2, rs' := x16, es' := x17, i := 0 } x18)
                                                                      (Tr.need (isReps x18 (repEl x1))
                                                                        (Tr.need (isExcs x19 (excEl x2))
                                                                          (Tr.need (isReps x20 (repEl x16))
                                                                            (Tr.need (isExcs x21 (excEl x17))
                                                                              (Tr.need
                                                                                (preC
                                                                                  { rs := repsOf x18 (repEl x1), es := x22, rs' := repsOf x20 (repEl x16),
                                                                                    es' := excsOf x21 (excEl x17), i := 0 }
                                                                                  x22.length)
                                                                                (Tr.ret (AV.c (IV.v (Value.bool true)))))))))))))))
                                                          (Tr.ite (bif false then true else ↑x14 != x23) (Tr.ret (AV.c (IV.v (Value.bool false))))
                                                            (Tr.need (isReps rs.length (repEl rs))
                                                              (Tr.need (isExcs es.length (excEl es))
                                                                (Tr.need (isReps x9 (repEl (rs11 x4)))
                                                                  (Tr.need (isExcs x14 (excEl (es11 x4)))
                                                                    (Tr.need (preC { rs := x1, es := x2, rs' := x16, es' := x17, i := 0 } x18)
                                                                      (Tr.need (isReps x18 (repEl x1))
                                                                        (Tr.need (isExcs x19 (excEl x2))
                                                                          (Tr.need (isReps x20 (repEl x16))
                                                                            (Tr.need (isExcs x21 (excEl x17))
                                                                              (Tr.need
                                                                                (preC
                                                                                  { rs := repsOf x18 (repEl x1), es := x22, rs' := repsOf x20 (repEl x16),
                                                                                    es' := excsOf x21 (excEl x17), i := 0 }
                                                                                  x22.length)
                                                                                (Tr.ret (AV.c (IV.v (Value.bool true))))))))))))))))))))))))))))))))))))))))))
    (Tr.ite (bif false then true else decide (x23 > 20)) (Tr.ret (AV.c (IV.v (Value.bool true))))
      (Tr.need (isReps rs.length (repEl rs))
        (Tr.need (isExcs es.length (excEl es))
          (Tr.need (decide (rs.length ≤ 1000))
            (Tr.need (decide (es.length ≤ 1000))
              (Tr.need (short x4)
                (Tr.need (rdG x4 0)
                  (Tr.need (decide (0 ≤ x5))
                    (Tr.need (decide (x5 ≤ x8))
                      (Tr.need (decide (x7 ≤ x6))
                        (Tr.need (decide (x5 ≤ 1000))
                          (Tr.need (goodReps x4 x7 x9)
                            (Tr.need (decide (0 ≤ x10))
                              (Tr.need (rdG x4 x10)
                                (Tr.need (decide (0 ≤ x11))
                                  (Tr.need (decide (x11 ≤ x13))
                                    (Tr.need (decide (x12 ≤ x6))
                                      (Tr.need (decide (x11 ≤ 1000))
                                        (Tr.need (goodExcs x4 x12 x14)
                                          (Tr.need (decide (x15 = x6))
                                            (Tr.need (isReps rs.length (repEl rs))
                                              (Tr.need (isExcs es.length (excEl es))
                                                (Tr.need (decide (rs.length ≤ 1000))
                                                  (Tr.need (decide (es.length ≤ 1000))
                                                    (Tr.ite (!x3 == x3)
                                                      (Tr.ite true
                                                        (Tr.ite true
                                                          (Tr.ite true (Tr.ret (AV.c (IV.v (Value.bool false))))
                                                            (Tr.need (isReps rs.length (repEl rs))
                                                              (Tr.need (isExcs es.length (excEl es))
                                                                (Tr.need (isReps x9 (repEl (rs11 x4)))
                                                                  (Tr.need (isExcs x14 (excEl (es11 x4)))
                                                                    (Tr.need (preC { rs := x1, es := x2, rs' := x16, es' := x17, i := 0 } x18)
                                                                      (Tr.need (isReps x18 (repEl x1))
                                                                        (Tr.need (isExcs x19 (excEl x2))
                                                                          (Tr.need (isReps x20 (repEl x16))
                                                                            (Tr.need (isExcs x21 (excEl x17))
                                                                              (Tr.need
                                                                                (preC
                                                                                  { rs := repsOf x18 (repEl x1), es := x22, rs' := repsOf x20 (repEl x16),
                                                                                    es' := excsOf x21 (excEl x17), i := 0 }
                                                                                  x22.length)
                                                                                (Tr.ret (AV.c (IV.v (Value.bool true)))))))))))))))
                                                          (Tr.ite (bif false then true else ↑x14 != x23) (Tr.ret (AV.c (IV.v (Value.bool false))))
                                                            (Tr.need (isReps rs.length (repEl rs))
                                                              (Tr.need (isExcs es.length (excEl es))
                                                                (Tr.need (isReps x9 (repEl (rs11 x4)))
                                                                  (Tr.need (isExcs x14 (excEl (es11 x4)))
                                                                    (Tr.need (preC { rs := x1, es := x2, rs' := x16, es' := x17, i := 0 } x18)
                                                                      (Tr.need (isReps x18 (repEl x1))
                                                                        (Tr.need (isExcs x19 (excEl x2))
                                                                          (Tr.need (isReps x20 (repEl x16))
                                                                            (Tr.need (isExcs x21 (excEl x17))
                                                                              (Tr.need
                                                                                (preC
                                                                                  { rs := repsOf x18 (repEl x1), es := x22, rs' := repsOf x20 (repEl x16),
                                                                                    es' := excsOf x21 (excEl x17), i := 0 }
                                                                                  x22.length)
                                                                                (Tr.ret (AV.c (IV.v (Value.bool true))))))))))))))))
                                                        (Tr.ite (bif false then true else ↑x9 != x24)
                                                          (Tr.ite true (Tr.ret (AV.c (IV.v (Value.bool false))))
                                                            (Tr.need (isReps rs.length (repEl rs))
                                                              (Tr.need (isExcs es.length (excEl es))
                                                                (Tr.need (isReps x9 (repEl (rs11 x4)))
                                                                  (Tr.need (isExcs x14 (excEl (es11 x4)))
                                                                    (Tr.need (preC { rs := x1, es := x2, rs' := x16, es' := x17, i := 0 } x18)
                                                                      (Tr.need (isReps x18 (repEl x1))
                                                                        (Tr.need (isExcs x19 (excEl x2))
                                                                          (Tr.need (isReps x20 (repEl x16))
                                                                            (Tr.need (isExcs x21 (excEl x17))
                                                                              (Tr.need
                                                                                (preC
                                                                                  { rs := repsOf x18 (repEl x1), es := x22, rs' := repsOf x20 (repEl x16),
                                                                                    es' := excsOf x21 (excEl x17), i := 0 }
                                                                                  x22.length)
                                                                                (Tr.ret (AV.c (IV.v (Value.bool true)))))))))))))))
                                                          (Tr.ite (bif false then true else ↑x14 != x23) (Tr.ret (AV.c (IV.v (Value.bool false))))
                                                            (Tr.need (isReps rs.length (repEl rs))
                                                              (Tr.need (isExcs es.length (excEl es))
                                                                (Tr.need (isReps x9 (repEl (rs11 x4)))
                                                                  (Tr.need (isExcs x14 (excEl (es11 x4)))
                                                                    (Tr.need (preC { rs := x1, es := x2, rs' := x16, es' := x17, i := 0 } x18)
                                                                      (Tr.need (isReps x18 (repEl x1))
                                                                        (Tr.need (isExcs x19 (excEl x2))
                                                                          (Tr.need (isReps x20 (repEl x16))
                                                                            (Tr.need (isExcs x21 (excEl x17))
                                                                              (Tr.need
                                                                                (preC
                                                                                  { rs := repsOf x18 (repEl x1), es := x22, rs' := repsOf x20 (repEl x16),
                                                                                    es' := excsOf x21 (excEl x17), i := 0 }
                                                                                  x22.length)
                                                                                (Tr.ret (AV.c (IV.v (Value.bool true)))))))))))))))))
                                                      (Tr.ite false
                                                        (Tr.ite true
                                                          (Tr.ite true (Tr.ret (AV.c (IV.v (Value.bool false))))
                                                            (Tr.need (isReps rs.length (repEl rs))
                                                              (Tr.need (isExcs es.length (excEl es))
                                                                (Tr.need (isReps x9 (repEl (rs11 x4)))
                                                                  (Tr.need (isExcs x14 (excEl (es11 x4)))
                                                                    (Tr.need (preC { rs := x1, es := x2, rs' := x16, es' := x17, i := 0 } x18)
                                                                      (Tr.need (isReps x18 (repEl x1))
                                                                        (Tr.need (isExcs x19 (excEl x2))
                                                                          (Tr.need (isReps x20 (repEl x16))
                                                                            (Tr.need (isExcs x21 (excEl x17))
                                                                              (Tr.need
                                                                                (preC
                                                                                  { rs := repsOf x18 (repEl x1), es := x22, rs' := repsOf x20 (repEl x16),
                                                                                    es' := excsOf x21 (excEl x17), i := 0 }
                                                                                  x22.length)
                                                                                (Tr.ret (AV.c (IV.v (Value.bool true)))))))))))))))
                                                          (Tr.ite (bif false then true else ↑x14 != x23) (Tr.ret (AV.c (IV.v (Value.bool false))))
                                                            (Tr.need (isReps rs.length (repEl rs))
                                                              (Tr.need (isExcs es.length (excEl es))
                                                                (Tr.need (isReps x9 (repEl (rs11 x4)))
                                                                  (Tr.need (isExcs x14 (excEl (es11 x4)))
                                                                    (Tr.need (preC { rs := x1, es := x2, rs' := x16, es' := x17, i := 0 } x18)
                                                                      (Tr.need (isReps x18 (repEl x1))
                                                                        (Tr.need (isExcs x19 (excEl x2))
                                                                          (Tr.need (isReps x20 (repEl x16))
                                                                            (Tr.need (isExcs x21 (excEl x17))
                                                                              (Tr.need
                                                                                (preC
                                                                                  { rs := repsOf x18 (repEl x1), es := x22, rs' := repsOf x20 (repEl x16),
                                                                                    es' := excsOf x21 (excEl x17), i := 0 }
                                                                                  x22.length)
                                                                                (Tr.ret (AV.c (IV.v (Value.bool true))))))))))))))))
                                                        (Tr.ite (bif false then true else ↑x9 != x24)
                                                          (Tr.ite true (Tr.ret (AV.c (IV.v (Value.bool false))))
                                                            (Tr.need (isReps rs.length (repEl rs))
                                                              (Tr.need (isExcs es.length (excEl es))
                                                                (Tr.need (isReps x9 (repEl (rs11 x4)))
                                                                  (Tr.need (isExcs x14 (excEl (es11 x4)))
                                                                    (Tr.need (preC { rs := x1, es := x2, rs' := x16, es' := x17, i := 0 } x18)
                                                                      (Tr.need (isReps x18 (repEl x1))
                                                                        (Tr.need (isExcs x19 (excEl x2))
                                                                          (Tr.need (isReps x20 (repEl x16))
                                                                            (Tr.need (isExcs x21 (excEl x17))
                                                                              (Tr.need
                                                                                (preC
                                                                                  { rs := repsOf x18 (repEl x1), es := x22, rs' := repsOf x20 (repEl x16),
                                                                                    es' := excsOf x21 (excEl x17), i := 0 }
                                                                                  x22.length)
                                                                                (Tr.ret (AV.c (IV.v (Value.bool true)))))))))))))))
                                                          (Tr.ite (bif false then true else ↑x14 != x23) (Tr.ret (AV.c (IV.v (Value.bool false))))
                                                            (Tr.need (isReps rs.length (repEl rs))
                                                              (Tr.need (isExcs es.length (excEl es))
                                                                (Tr.need (isReps x9 (repEl (rs11 x4)))
                                                                  (Tr.need (isExcs x14 (excEl (es11 x4)))
                                                                    (Tr.need (preC { rs := x1, es := x2, rs' := x16, es' := x17, i := 0 } x18)
                                                                      (Tr.need (isReps x18 (repEl x1))
                                                                        (Tr.need (isExcs x19 (excEl x2))
                                                                          (Tr.need (isReps x20 (repEl x16))
                                                                            (Tr.need (isExcs x21 (excEl x17))
                                                                              (Tr.need
                                                                                (preC
                                                                                  { rs := repsOf x18 (repEl x1), es := x22, rs' := repsOf x20 (repEl x16),
                                                                                    es' := excsOf x21 (excEl x17), i := 0 }
                                                                                  x22.length)
                                                                                (Tr.ret (AV.c (IV.v (Value.bool true)))))))))))))))))))))))))))))))))))))))))))

theorem M5_eq (rs : List Rep) (es : List Exc) : execFn Tryz.prog Γ5 L5 1010 Tryz.f5 [barg rs es] = M5 rs es := by kernel_rfl
theorem preC_mk (rs : List Rep) (es : List Exc) (n : Nat) (hr : repsOk rs = true) (he : excsOk es = true) (hn : n ≤ 1000) : preC ⟨rs, es, rs, es, 0⟩ n = true := by
  simp [preC, hr, he]; omega
theorem gtr_false {n : Nat} (h : n ≤ 20) : decide ((n : Int) > 20) = false := decide_eq_false (by omega)
end Go.Vse

set_option maxRecDepth 100000
namespace Go.Vse
open Go.Proofs
theorem M5_sat (rs : List Rep) (es : List Exc) (hr : repsOk rs = true) (he : excsOk es = true) : (M5 rs es).sat fun r => r = boolA true := by
  by_cases hn : rs.length ≤ 20
  · by_cases hm : es.length ≤ 20
    · obtain ⟨hc, n0, e0, n1, e1⟩ := rd_batch rs es hr he (by omega) (by omega) ⟨⟨batB rs es⟩⟩ rfl
      simp only [conds11, List.mem_cons, List.not_mem_nil, or_false, forall_eq_or_imp, forall_eq, n0, n1] at hc
      obtain ⟨c1, c2, c3, c4, c5, c6, c7, c8, c9, c10, c11, c12, c13, c14, c15⟩ := hc
      have g1 := gtr_false hn
      have g2 := gtr_false hm
      have hn' : decide (rs.length ≤ 1000) = true := decide_eq_true (by omega)
      have hm' : decide (es.length ≤ 1000) = true := decide_eq_true (by omega)
      have p1 := preC_mk rs es rs.length hr he (by omega)
      have p2 := preC_mk rs es es.length hr he (by omega)
      have m1 := isReps_mk hr
      have m2 := isExcs_mk he
      unfold M5
      simp only [repsOf_el, excsOf_el, n0, e0, n1, e1, g1, g2, m1, m2, p1, p2, hn', hm', c1, c2, c3, c4, c5, c6, c7, c8, c9, c10, c11, c12, c13, c14, c15, cond_false, cond_true, beq_self_eq_true, bne_self_eq_false, Bool.not_true]
      repeat
        first
          | refine sat_need (Eq.refl true) ?_
          | refine sat_ite (fun h => Bool.noConfusion h) (fun _ => ?_)
          | refine sat_ite (fun _ => ?_) (fun h => Bool.noConfusion h)
      exact sat_ret rfl
    · have g1 := gtr_false hn
      have g2 : decide ((es.length : Int) > 20) = true := decide_eq_true (by omega)
      unfold M5
      simp only [g1, g2, cond_false, cond_true]
      repeat
        first
          | exact sat_ret rfl
          | refine sat_ite (fun h => Bool.noConfusion h) (fun _ => ?_)
          | refine sat_ite (fun _ => ?_) (fun h => Bool.noConfusion h)
  · have g1 : decide ((rs.length : Int) > 20) = true := decide_eq_true (by omega)
    unfold M5
    simp only [g1, cond_false, cond_true]
    repeat
      first
        | exact sat_ret rfl
        | refine sat_ite (fun h => Bool.noConfusion h) (fun _ => ?_)
        | refine sat_ite (fun _ => ?_) (fun h => Bool.noConfusion h)
end Go.Vse

set_option maxRecDepth 100000
namespace Go.Vse
open Go.Proofs
theorem f5_calls (rs : List Rep) (es : List Exc) (hr : repsOk rs = true) (he : excsOk es = true) (w : World) (v : Value) (hv : ARel (fun _ => False) (fun _ => none) w (barg rs es) v) :
    Calls Tryz.prog 5 #[v] w fun e w' => e = .returned (.bool true) ∧ RowKit.Below w.heap.size w w' := by
  have hrel : Rels (fun _ => False) (fun _ => none) w [barg rs es] [v] := .cons hv .nil
  refine (calls_of_exec (L := L5) (N := 1010) (args := [barg rs es]) (Q := fun r => r = boolA true) prog_mixed Γ5_ok (f := 5) (fn := Tryz.f5) (c := codeOf Tryz.f5) (by kernel_rfl) (by kernel_rfl) f5_loops ?_ (A := fun _ => False) (w := w) (vs := [v]) (fun _ h => h.elim) hrel).mono ?_
  · rw [M5_eq]
    have h0 := M5_sat rs es hr he
    generalize M5 rs es = T at h0 ⊢
    exact Tr.sat_mono (fun r hr => by subst hr; exact ⟨rfl, rfl⟩) h0
  · rintro e w' ⟨r, u, rfl, _, rfl, hrel, hb⟩
    exact ⟨by rw [hrel.plain], hb⟩

/-! ### rows of reports and exchanges in a world -/
def intOf : Value → Int
  | .int _ n => n
  | _ => 0
def boolOf : Value → Bool
  | .bool b => b
  | _ => false
theorem intOf_cell {W : World} {a : Addr} {n : Int} (h : W.cell? a = some (.int .i64 n)) : intOf (cellD W a) = n := by rw [cellD_eq h]; rfl
theorem boolOf_cell {W : World} {a : Addr} {b : Bool} (h : W.cell? a = some (.bool b)) : boolOf (cellD W a) = b := by rw [cellD_eq h]; rfl
def repAt (W : World) (b off : Nat) (i : Nat) : Rep :=
  ⟨intOf (cellD W ⟨b, off + (i * 8 + 0), none⟩), intOf (cellD W ⟨b, off + (i * 8 + 1), none⟩), intOf (cellD W ⟨b, off + (i * 8 + 2), none⟩), intOf (cellD W ⟨b, off + (i * 8 + 3), none⟩), intOf (cellD W ⟨b, off + (i * 8 + 4), none⟩), intOf (cellD W ⟨b, off + (i * 8 + 5), none⟩), intOf (cellD W ⟨b, off + (i * 8 + 6), none⟩), boolOf (cellD W ⟨b, off + (i * 8 + 7), none⟩)⟩
def excAt (W : World) (b off : Nat) (i : Nat) : Exc :=
  ⟨intOf (cellD W ⟨b, off + (i * 5 + 0), none⟩), intOf (cellD W ⟨b, off + (i * 5 + 1), none⟩), intOf (cellD W ⟨b, off + (i * 5 + 2), none⟩), intOf (cellD W ⟨b, off + (i * 5 + 3), none⟩), intOf (cellD W ⟨b, off + (i * 5 + 4), none⟩)⟩
theorem reps_of_cells {W : World} {b off len cap : Nat} (hb : b < W.heap.size) (hc : len ≤ cap)
    (h : ∀ i, i < len → (∀ j, j < 7 → ∃ n, W.cell? ⟨b, off + (i * 8 + j), none⟩ = some (.int .i64 n) ∧ rangeB n = true) ∧ ∃ k, W.cell? ⟨b, off + (i * 8 + 7), none⟩ = some (.bool k)) :
    ∃ rs : List Rep, rs.length = len ∧ repsOk rs = true ∧ IRel (fun _ => False) W (.sl rs.length 8 (repEl rs)) (.slice (some ⟨b, off, none⟩) len cap) := by
  have hlen : ((List.range len).map (repAt W b off)).length = len := by simp
  have hel : ∀ k, k < len → repEl ((List.range len).map (repAt W b off)) k = (repAt W b off k).iv := by
    intro k hk
    unfold repEl
    congr 1
    simp [List.getD_eq_getElem?_getD, hk]
  refine ⟨(List.range len).map (repAt W b off), hlen, List.all_eq_true.2 fun r hr => ?_, ?_⟩
  · obtain ⟨i, hi, rfl⟩ := List.mem_map.1 hr
    obtain ⟨h1, _⟩ := h i (List.mem_range.1 hi)
    have g : ∀ j, j < 7 → rangeB (intOf (cellD W ⟨b, off + (i * 8 + j), none⟩)) = true := fun j hj => by
      obtain ⟨n, hn, hrn⟩ := h1 j hj
      rw [intOf_cell hn]; exact hrn
    simp only [Rep.ok, repAt, g 0 (by omega), g 1 (by omega), g 2 (by omega), g 3 (by omega), g 4 (by omega), g 5 (by omega), g 6 (by omega), Bool.and_self]
  · rw [hlen]
    refine .sl len 8 _ b off cap (fun h => h) hb hc (fun k hk => by rw [hel k hk]; rfl) (fun k j hk hj => ?_) (fun k j hk hj => ?_)
    · obtain ⟨h1, k7, h2⟩ := h k hk
      by_cases h7 : j < 7
      · obtain ⟨n, hn, _⟩ := h1 j h7
        exact ⟨by rw [hn]; rfl, by rw [cellD_eq hn]; rfl⟩
      · obtain rfl : j = 7 := by omega
        exact ⟨by rw [h2]; rfl, by rw [cellD_eq h2]; rfl⟩
    · obtain ⟨h1, k7, h2⟩ := h k hk
      rw [hel k hk]
      have key : ∀ j, j < 7 → IRel (fun _ => False) W (.v (.int .i64 (intOf (cellD W ⟨b, off + (k * 8 + j), none⟩)))) (cellD W ⟨b, off + (k * 8 + j), none⟩) := fun j hj => by
        obtain ⟨n, hn, _⟩ := h1 j hj
        rw [cellD_eq hn]
        exact .v _
      rcases (show j = 0 ∨ j = 1 ∨ j = 2 ∨ j = 3 ∨ j = 4 ∨ j = 5 ∨ j = 6 ∨ j = 7 by omega) with rfl | rfl | rfl | rfl | rfl | rfl | rfl | rfl
      · exact key 0 (by omega)
      · exact key 1 (by omega)
      · exact key 2 (by omega)
      · exact key 3 (by omega)
      · exact key 4 (by omega)
      · exact key 5 (by omega)
      · exact key 6 (by omega)
      · show IRel (fun _ => False) W (.v (.bool (boolOf (cellD W ⟨b, off + (k * 8 + 7), none⟩)))) (cellD W ⟨b, off + (k * 8 + 7), none⟩)
        rw [cellD_eq h2]
        exact .v _
theorem excs_of_cells {W : World} {b off len cap : Nat} (hb : b < W.heap.size) (hc : len ≤ cap)
    (h : ∀ i, i < len → ∀ j, j < 5 → ∃ n, W.cell? ⟨b, off + (i * 5 + j), none⟩ = some (.int .i64 n) ∧ rangeB n = true) :
    ∃ rs : List Exc, rs.length = len ∧ excsOk rs = true ∧ IRel (fun _ => False) W (.sl rs.length 5 (excEl rs)) (.slice (some ⟨b, off, none⟩) len cap) := by
  have hlen : ((List.range len).map (excAt W b off)).length = len := by simp
  have hel : ∀ k, k < len → excEl ((List.range len).map (excAt W b off)) k = (excAt W b off k).iv := by
    intro k hk
    unfold excEl
    congr 1
    simp [List.getD_eq_getElem?_getD, hk]
  refine ⟨(List.range len).map (excAt W b off), hlen, List.all_eq_true.2 fun r hr => ?_, ?_⟩
  · obtain ⟨i, hi, rfl⟩ := List.mem_map.1 hr
    have h1 := h i (List.mem_range.1 hi)
    have g : ∀ j, j < 5 → rangeB (intOf (cellD W ⟨b, off + (i * 5 + j), none⟩)) = true := fun j hj => by
      obtain ⟨n, hn, hrn⟩ := h1 j hj
      rw [intOf_cell hn]; exact hrn
    simp only [Exc.ok, excAt, g 0 (by omega), g 1 (by omega), g 2 (by omega), g 3 (by omega), g 4 (by omega), Bool.and_self]
  · rw [hlen]
    refine .sl len 5 _ b off cap (fun h => h) hb hc (fun k hk => by rw [hel k hk]; rfl) (fun k j hk hj => ?_) (fun k j hk hj => ?_)
    · obtain ⟨n, hn, _⟩ := h k hk j hj
      exact ⟨by rw [hn]; rfl, by rw [cellD_eq hn]; rfl⟩
    · rw [hel k hk]
      have key : ∀ j, j < 5 → IRel (fun _ => False) W (.v (.int .i64 (intOf (cellD W ⟨b, off + (k * 5 + j), none⟩)))) (cellD W ⟨b, off + (k * 5 + j), none⟩) := fun j hj => by
        obtain ⟨n, hn, _⟩ := h k hk j hj
        rw [cellD_eq hn]
        exact .v _
      rcases (show j = 0 ∨ j = 1 ∨ j = 2 ∨ j = 3 ∨ j = 4 by omega) with rfl | rfl | rfl | rfl | rfl
      · exact key 0 (by omega)
      · exact key 1 (by omega)
      · exact key 2 (by omega)
      · exact key 3 (by omega)
      · exact key 4 (by omega)
theorem barg_rel {W : World} {rs : List Rep} {es : List Exc} {v0 v1 : Value} (h0 : IRel (fun _ => False) W (.sl rs.length 8 (repEl rs)) v0) (h1 : IRel (fun _ => False) W (.sl es.length 5 (excEl es)) v1) :
    ARel (fun _ => False) (fun _ => none) W (barg rs es) (.agg #[v0, v1]) :=
  .agg _ _ rfl fun j hj => by
    rcases (show j = 0 ∨ j = 1 by simp at hj; omega) with rfl | rfl
    · exact .c _ _ h0
    · exact .c _ _ h1
end Go.Vse
